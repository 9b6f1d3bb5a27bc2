/- Texts of this claim, joined by a program: Eng, Mem, Ops, OpsM, OpsN, Fn, Held, OpsG, Own, OpsL, Ty, LP, LSpan, Shelf, LKw, LRefKw, LText. -/
import Derived.WalkKit
import Derived.Orders
import Derived.Maps.AppendAt
import Derived.Deep.Draws
import Derived.Laws.CopyRow
import Derived.Laws.Cells
import Derived.Laws.BytesArg
import Derived.Laws.OwnMore
import Derived.Lib.AppendStr
import Derived.OrdersHeld
import Derived.Lib.TrailingZeros
import Derived.Lib.ConvBytes
import Derived.Lib.Builder
import Derived.Laws.Externs
import Derived.Laws.RangeString
import Derived.Test.YtnoioimphcmeiaaGreatDoorProg
import Derived.KernelRfl
import Derived.Shelf.Strings.Builder1
import Derived.Shelf.Small.Strs
import Derived.Shelf.Strconv.Itoa0
import Derived.Shelf.Strconv.Itoa1
import Derived.Shelf.LaysM
import Derived.Shelf.Strconv.Itoa2
import Derived.Shelf.Strconv.Itoa3
import Derived.Shelf.Strconv.Clone
import Derived.Shelf.Strconv.RangeError
import Derived.Shelf.LaysC
import Derived.Shelf.Strconv.ToErrorRange
import Derived.Shelf.Strings.Search1
import Derived.Shelf.Strings.Search2
import Derived.Shelf.Strings.Search3
import Derived.Shelf.Strings.Shaped
import Derived.Shelf.Strings.Prefix
import Derived.Shelf.Bits.Mul64
import Derived.Ground.Names2Prog
import Derived.Shelf.Slices.Clone
import Derived.Ground.SlgnProg
import Derived.Shelf.SlicesE.Clone
set_option linter.unusedVariables false
set_option linter.unusedSimpArgs false
namespace Go.Proofs.YtnoioimphcmeiaaGreatDoor
open Go.RowKit

/-- What is known of a frame: slots and what they hold, the newest first. -/
abbrev Fr := List (Nat × Value)

def Ya : Fr → Nat → Option Value
  | [], _ => none
  | (k, v) :: r, s => bif Nat.beq k s then some v else Ya r s

def ev (f : Fr) : Operand → Option Value
  | .tmp t => Ya f t
  | .const v => some v
  | .global g => some (.pointer (some ⟨g, 0, none⟩))
  | .func k => some (.func (.func k) #[] #[])

theorem nbeq_ne {a b : Nat} (h : a ≠ b) : Nat.beq a b = false := by
  cases hb : Nat.beq a b
  · rfl
  · exact absurd (Nat.eq_of_beq_eq_true hb) h

structure Of (n : Nat) (f : Fr) (a : Act) : Prop where
  size : a.tmps.size = n
  val : ∀ s v, Ya f s = some v → a.tmps[s]? = some v

theorem Of.ev {n : Nat} {f : Fr} {a : Act} {x : Operand} {v : Value} (h : Of n f a) (hx : ev f x = some v) : a.eval x = v := by
  cases x with
  | tmp t =>
    have := h.val t v hx
    simp only [Act.eval, Array.getD_eq_getD_getElem?, this, Option.getD_some]
  | const u => simpa [Go.Proofs.YtnoioimphcmeiaaGreatDoor.ev, Act.eval] using hx
  | global g => simpa [Go.Proofs.YtnoioimphcmeiaaGreatDoor.ev, Act.eval] using hx
  | func k => simpa [Go.Proofs.YtnoioimphcmeiaaGreatDoor.ev, Act.eval] using hx

theorem Of.put {n : Nat} {f : Fr} {a : Act} {d : Nat} {v : Value} (h : Of n f a) (hd : Nat.blt d n = true) : Of n ((d, v) :: f) (a.put (some d) v) := by
  have hlt : d < n := by simpa using hd
  refine ⟨by simp [Act.put, h.size], fun s u hs => ?_⟩
  simp only [Act.put, Array.getElem?_setIfInBounds, h.size]
  by_cases hds : d = s
  · subst hds
    have : some v = some u := by simpa [Ya] using hs
    simp [hlt, this]
  · have : Ya f s = some u := by
      have hb : Nat.beq d s = false := nbeq_ne hds
      simpa [Ya, hb] using hs
    rw [if_neg hds]
    exact h.val s u this

theorem Of.put_none {n : Nat} {f : Fr} {a : Act} {v : Value} (h : Of n f a) : Of n f (a.put none v) := h

/-- The same frame, told by fewer words. -/
def Sub (f' f : Fr) : Prop := ∀ s v, Ya f' s = some v → Ya f s = some v
theorem Sub.nil (f : Fr) : Sub [] f := fun _ _ h => by simp [Ya] at h
theorem Sub.cons {f' f : Fr} {s : Nat} {v : Value} (h : Ya f s = some v) (hs : Sub f' f) : Sub ((s, v) :: f') f := fun t u ht => by
  by_cases hst : s = t
  · subst hst
    have : v = u := by simpa [Ya] using ht
    rw [h, this]
  · have hb : Nat.beq s t = false := nbeq_ne hst
    exact hs t u (by simpa [Ya, hb] using ht)
theorem Of.sub {n : Nat} {f f' : Fr} {a : Act} (h : Of n f a) (hs : Sub f' f) : Of n f' a := ⟨h.size, fun s v hv => h.val s v (hs s v hv)⟩

abbrev Post := Exit → Fr → List Deferred → World → Prop
abbrev Nxt := Fr → List Deferred → World → Prop

def QA (n : Nat) (Q : Post) : Exit → Act → World → Prop := fun e a w => ∃ f, Of n f a ∧ Q e f a.defers w

def wpF (P : Program) (n : Nat) (c : Code) (Q : Post) (f : Fr) (ds : List Deferred) (w : World) : Prop :=
  ∀ a, Of n f a → a.defers = ds → c.wp P (QA n Q) a w

def wpL (P : Program) (n : Nat) (ops : Array Oper) (Q : Post) (l : List Oper) (f : Fr) (ds : List Deferred) (w : World) : Prop :=
  ∀ a, Of n f a → a.defers = ds → wpList P ops (QA n Q) l a w

/-- One operation, whatever stands behind it. -/
def opF (P : Program) (n : Nat) (o : Oper) (N : Nxt) (Q : Post) (f : Fr) (ds : List Deferred) (w : World) : Prop :=
  ∀ a, Of n f a → a.defers = ds → ∀ K : Act → World → Prop, (∀ f' a' w', Of n f' a' → N f' a'.defers w' → K a' w') → o.wp P a w K (QA n Q)

def thenF (K : Nxt) (Q : Post) : Post
  | .normal, f, ds, w => K f ds w
  | e, f, ds, w => Q e f ds w

def blkF (id : Nat) (Q : Post) : Post
  | .exit id', f, ds, w => bif Nat.beq id' id then Q .normal f ds w else Q (.exit id') f ds w
  | e, f, ds, w => Q e f ds w

section
variable {P : Program} {n : Nat} {Q : Post} {f : Fr} {ds : List Deferred} {w : World}

/- the exits -/
theorem zc {K : Nxt} (h : K f ds w) : thenF K Q .normal f ds w := h
theorem zL {K : Nxt} {id : Nat} (h : Q (.exit id) f ds w) : thenF K Q (.exit id) f ds w := h
theorem zm {K : Nxt} (h : Q .ret f ds w) : thenF K Q .ret f ds w := h
theorem then_p {K : Nxt} {c : List PanicEntry} (h : Q (.panic c) f ds w) : thenF K Q (.panic c) f ds w := h
theorem yj {id : Nat} (h : Q .normal f ds w) : blkF id Q .normal f ds w := h
theorem zP {id : Nat} (h : Q .ret f ds w) : blkF id Q .ret f ds w := h
theorem blk_p {id : Nat} {c : List PanicEntry} (h : Q (.panic c) f ds w) : blkF id Q (.panic c) f ds w := h
theorem yK {id : Nat} (h : Q .normal f ds w) : blkF id Q (.exit id) f ds w := by
  simp only [blkF]
  rw [show Nat.beq id id = true by simp]
  exact h
theorem blk_o {id id' : Nat} (hb : Nat.beq id' id = false) (h : Q (.exit id') f ds w) : blkF id Q (.exit id') f ds w := by
  simp only [blkF, hb]
  exact h

/- code -/
theorem zf {x y : Code} (h : wpF P n x (thenF (wpF P n y Q) Q) f ds w) : wpF P n (.seq x y) Q f ds w := fun a ha hd =>
  wp_seq (wp_mono (h a ha hd) fun e a' w' ⟨f', hf', hq⟩ => by
    cases e with
    | normal => exact hq a' hf' rfl
    | _ => exact ⟨f', hf', hq⟩)

theorem zx {id : Nat} {c : Code} (h : wpF P n c (blkF id Q) f ds w) : wpF P n (.block id c) Q f ds w := fun a ha hd =>
  wp_block (wp_mono (h a ha hd) fun e a' w' ⟨f', hf', hq⟩ => by
    cases e with
    | exit id' =>
      simp only [Exit.inBlock]
      by_cases hid : id' = id
      · subst hid
        simp only [if_true]
        simp only [blkF] at hq
        rw [show Nat.beq id' id' = true by simp] at hq
        exact ⟨f', hf', hq⟩
      · rw [if_neg hid]
        simp only [blkF] at hq
        rw [nbeq_ne hid] at hq
        exact ⟨f', hf', hq⟩
    | _ => exact ⟨f', hf', hq⟩)

theorem zo (h : Q .normal f ds w) : wpF P n .skip Q f ds w := fun a ha hd => wp_skip ⟨f, ha, hd ▸ h⟩
theorem zy (h : Q .ret f ds w) : wpF P n .ret Q f ds w := fun a ha hd => wp_ret ⟨f, ha, hd ▸ h⟩
theorem yn {id : Nat} (h : Q (.exit id) f ds w) : wpF P n (.exit id) Q f ds w := fun a ha hd => wp_exit ⟨f, ha, hd ▸ h⟩
theorem C_label {l : Nat} (h : Q .normal f ds w) : wpF P n (.label l) Q f ds w := fun a ha hd => wp_label ⟨f, ha, hd ▸ h⟩

theorem zr {c : Operand} {x y : Code} (hc : ev f c = some (.bool true)) (h : wpF P n x Q f ds w) : wpF P n (.cond c x y) Q f ds w :=
  fun a ha hd => wp_cond_true (ha.ev hc) (h a ha hd)
theorem zk {c : Operand} {x y : Code} (hc : ev f c = some (.bool false)) (h : wpF P n y Q f ds w) : wpF P n (.cond c x y) Q f ds w :=
  fun a ha hd => wp_cond_false (ha.ev hc) (h a ha hd)
theorem C_if {c : Operand} {x y : Code} {b : Bool} (hc : ev f c = some (.bool b)) (ht : b = true → wpF P n x Q f ds w) (hf : b = false → wpF P n y Q f ds w) : wpF P n (.cond c x y) Q f ds w := by
  cases b
  · exact zk hc (hf rfl)
  · exact zr hc (ht rfl)
theorem C_ifp {c : Operand} {x y : Code} {b : Bool} (hc : ev f c = some (.bool b)) {p : Prop} {dp : Decidable p} (hp : b = @decide p dp) (ht : p → wpF P n x Q f ds w) (hf : ¬ p → wpF P n y Q f ds w) : wpF P n (.cond c x y) Q f ds w :=
  C_if hc (fun h => ht (of_decide_eq_true (hp ▸ h))) (fun h => hf (of_decide_eq_false (hp ▸ h)))

theorem zb {id : Nat} {l : List Oper} (h : wpL P n l.toArray Q l f ds w) : wpF P n (.region id l.toArray false) Q f ds w :=
  fun a ha hd => wp_region_lit (h a ha hd)

theorem Zb {c : Code} {f' : Fr} (hs : Sub f' f) (h : wpF P n c Q f' ds w) : wpF P n c Q f ds w := fun a ha hd => h a (ha.sub hs) hd

/-- A loop: 'fr' tells the frame at a round's head by what the letters are, 'I' what holds of them, 'μ' goes down. -/
theorem yF {γ : Type} {c : Code} (fr : γ → Fr) (I : γ → World → Prop) (μ : γ → Nat) (g₀ : γ) (hs : Sub (fr g₀) f) (h₀ : I g₀ w)
    (round : ∀ g w, I g w → wpF P n c (thenF (fun f' ds' w' => ds' = ds ∧ ∃ g', Sub (fr g') f' ∧ I g' w' ∧ μ g' < μ g) Q) (fr g) ds w) : wpF P n (.loop c) Q f ds w := by
  intro a ha hd
  intro b k cs
  have key : ∀ m (g : γ) a w, μ g = m → Of n (fr g) a → a.defers = ds → I g w →
      ∃ e a' w', QA n Q e a' w' ∧ Arrives P (lone (b.at a (.code c :: .inLoop c :: k)) cs w) b k cs e a' w' := by
    intro m
    induction m using Nat.strongRecOn with
    | _ m ih =>
      intro g a w hm hof hds hI
      obtain ⟨e, a₁, w₁, ⟨f₁, hof₁, hq⟩, harr⟩ := round g w hI a hof hds b (.inLoop c :: k) cs
      cases e with
      | normal =>
        obtain ⟨hd₁, g', hs', hI', hlt⟩ := hq
        obtain ⟨e₂, a₂, w₂, hq₂, harr₂⟩ := ih (μ g') (hm ▸ hlt) g' a₁ w₁ rfl (hof₁.sub hs') hd₁ hI'
        exact ⟨e₂, a₂, w₂, hq₂, .of_steps (Steps.trans harr (.one step_inLoop)) harr₂⟩
      | exit id => exact ⟨_, a₁, w₁, ⟨f₁, hof₁, hq⟩, .pass (x := .inLoop c) rfl (fun _ _ => .inl (by simp)) harr⟩
      | goto l => exact ⟨_, a₁, w₁, ⟨f₁, hof₁, hq⟩, .pass (x := .inLoop c) rfl (fun _ _ => .inl (by simp)) harr⟩
      | ret => exact ⟨_, a₁, w₁, ⟨f₁, hof₁, hq⟩, .pass (x := .inLoop c) rfl (fun _ _ => .inl (by simp)) harr⟩
      | panic ch => exact ⟨_, a₁, w₁, ⟨f₁, hof₁, hq⟩, .pass (x := .inLoop c) rfl (fun _ _ => .inl (by simp)) harr⟩
      | outgrown => exact ⟨_, a₁, w₁, ⟨f₁, hof₁, hq⟩, .pass (x := .inLoop c) rfl (fun _ _ => .inl (by simp)) harr⟩
  obtain ⟨e, a', w', hq, harr⟩ := key _ g₀ a w rfl (ha.sub hs) hd h₀
  exact ⟨e, a', w', hq, .of_steps (.one step_loop) harr⟩

/-- A round's end. -/
theorem round_end {γ : Type} {fr : γ → Fr} {I : γ → World → Prop} {μ : γ → Nat} {g : γ} {f' : Fr} {w' : World} (g' : γ) (hs : Sub (fr g') f') (hI : I g' w') (hm : μ g' < μ g) :
    thenF (fun f' ds' w' => ds' = ds ∧ ∃ g', Sub (fr g') f' ∧ I g' w' ∧ μ g' < μ g) Q .normal f' ds w' := ⟨rfl, g', hs, hI, hm⟩

/-- A cut: what stands behind a piece of code is proved once. -/
theorem C_cut {c : Code} {K : Nxt} (J : Nxt) (h : wpF P n c (thenF J Q) f ds w) (hJ : ∀ f ds w, J f ds w → K f ds w) : wpF P n c (thenF K Q) f ds w := fun a ha hd =>
  wp_mono (h a ha hd) fun e a' w' ⟨f', hf', hq⟩ => ⟨f', hf', by
    cases e with
    | normal => exact hJ _ _ _ hq
    | _ => exact hq⟩

/-- A piece of code by the letters that it leaves. -/
theorem ZG {γ : Type} {c : Code} {K : Nxt} (fr : γ → Fr) (I : γ → World → Prop) (h : wpF P n c (thenF (fun f' ds' w' => ds' = ds ∧ ∃ g, Sub (fr g) f' ∧ I g w') Q) f ds w)
    (hK : ∀ g w, I g w → ∀ f', Sub (fr g) f' → K f' ds w) : wpF P n c (thenF K Q) f ds w :=
  C_cut _ h fun f' ds' w' ⟨hd, g, hs, hI⟩ => by subst hd; exact hK g w' hI f' hs
theorem cut_end {γ : Type} {fr : γ → Fr} {I : γ → World → Prop} {f' : Fr} {w' : World} (g : γ) (hs : Sub (fr g) f') (hI : I g w') :
    thenF (fun f' ds' w' => ds' = ds ∧ ∃ g, Sub (fr g) f' ∧ I g w') Q .normal f' ds w' := ⟨rfl, g, hs, hI⟩

/- lists of operations -/
theorem zg {ops : Array Oper} (h : Q .normal f ds w) : wpL P n ops Q [] f ds w := fun _ ha hd => wpList_nil ⟨f, ha, hd ▸ h⟩

theorem L {ops : Array Oper} {o : Oper} {rest : List Oper} (h : opF P n o (wpL P n ops Q rest) Q f ds w) (hg : o.guard = none := by rfl) : wpL P n ops Q (o :: rest) f ds w := fun a ha hd =>
  wpList_plain hg fun K hK => h a ha hd K fun _ a' w' hof hN => hK a' w' (hN a' hof rfl)

/-- A guarded operation that runs. -/
theorem zh {ops : Array Oper} {o : Oper} {rest : List Oper} {j dj : Nat} {b : Bool} (h : opF P n o (wpL P n ops Q rest) Q f ds w) (hv : Ya f dj = some (.bool b)) (hg : o.guard = some (j, b) := by rfl) (hj : (ops[j]?).bind (·.dst) = some dj := by rfl) : wpL P n ops Q (o :: rest) f ds w := fun a ha hd =>
  wpList_step fun K hK => by
    have hw : Region.wanted o (yielded ops a.tmps) = true := by
      have := ha.val dj _ hv
      simp [Region.wanted, hg, yielded, hj, this]
    rw [if_pos hw]
    exact h a ha hd K fun _ a' w' hof hN => hK a' w' (hN a' hof rfl)

/-- A guarded operation that does not run. -/
theorem zl {ops : Array Oper} {o : Oper} {rest : List Oper} {j dj d : Nat} {b b' : Bool} (hv : Ya f dj = some (.bool b')) (h : wpL P n ops Q rest ((d, undef) :: f) ds w) (hg : o.guard = some (j, b) := by rfl) (hne : (b' == b) = false := by rfl) (hd : o.dst = some d := by rfl) (hn : Nat.blt d n = true := by rfl) (hj : (ops[j]?).bind (·.dst) = some dj := by rfl) : wpL P n ops Q (o :: rest) f ds w := fun a ha hds =>
  wpList_step fun K hK => by
    have hw : Region.wanted o (yielded ops a.tmps) = false := by
      have := ha.val dj _ hv
      simp only [Region.wanted, hg, yielded, hj, this, Option.bind_some]
      cases b <;> cases b' <;> simp_all
    rw [if_neg (by rw [hw]; simp), hd]
    exact hK _ _ (h _ (ha.put hn) hds)

/-- A guarded operation whose test did not run. -/
theorem ZE {ops : Array Oper} {o : Oper} {rest : List Oper} {j dj d : Nat} {b : Bool} (hv : Ya f dj = some undef) (h : wpL P n ops Q rest ((d, undef) :: f) ds w) (hg : o.guard = some (j, b) := by rfl) (hd : o.dst = some d := by rfl) (hn : Nat.blt d n = true := by rfl) (hj : (ops[j]?).bind (·.dst) = some dj := by rfl) : wpL P n ops Q (o :: rest) f ds w := fun a ha hds =>
  wpList_step fun K hK => by
    have hw : Region.wanted o (yielded ops a.tmps) = false := by
      have := ha.val dj _ hv
      simp [Region.wanted, hg, yielded, hj, this, undef]
    rw [if_neg (by rw [hw]; simp), hd]
    exact hK _ _ (h _ (ha.put hn) hds)

/- a region that draws its order -/
def wpA (P : Program) (n : Nat) (ops : Array Oper) (Q : Post) (fuel : Nat) (listed : Array Bool) (f : Fr) (ds : List Deferred) (w : World) : Prop :=
  ∀ a, Of n f a → a.defers = ds → wpAny P .any ops (QA n Q) fuel listed a w

theorem ZT {id : Nat} {ops : Array Oper} (m : Nat) (hm : P.follows .mixedOrders = true) (hsz : ops.size = m) (h : wpA P n ops Q m (Array.replicate m false) f ds w.drew) : wpF P n (.region id ops true) Q f ds w :=
  fun a ha hd => wp_region_any hm (by rw [hsz]; exact h a ha hd)

theorem yH {ops : Array Oper} {fuel : Nat} {listed : Array Bool} (hr : Region.ready .any ops listed = []) (h : Q .normal f ds w) : wpA P n ops Q fuel listed f ds w :=
  fun a ha hd => wpAny_done hr ⟨f, ha, hd ▸ h⟩ fuel

/-- What may come up now is taken: each a way of its own. -/
theorem A_all {ops : Array Oper} {fuel : Nat} {listed : Array Bool} {rs : List Nat} (hr : Region.ready .any ops listed = rs) (hne : rs ≠ [])
    (h : ∀ i ∈ rs, ∀ a, Of n f a → a.defers = ds → wpOp P ops (QA n Q) i (wpAny P .any ops (QA n Q) fuel (listed.setIfInBounds i true)) a w) : wpA P n ops Q (fuel + 1) listed f ds w :=
  fun a ha hd => wpAny_all hr hne fun i hi => h i hi a ha hd

/-- The one that may come up now runs. -/
theorem zS {ops : Array Oper} {fuel i : Nat} {listed : Array Bool} {o : Oper} (ho : ops[i]? = some o) (h : opF P n o (wpA P n ops Q fuel (listed.setIfInBounds i true)) Q f ds w) (hg : o.guard = none := by rfl) :
    ∀ a, Of n f a → a.defers = ds → wpOp P ops (QA n Q) i (wpAny P .any ops (QA n Q) fuel (listed.setIfInBounds i true)) a w := fun a ha hd =>
  wpOp_step ho fun K hK => by
    rw [if_pos (by simp [Region.wanted, hg])]
    exact h a ha hd K fun _ a' w' hof hN => hK a' w' (hN a' hof rfl)

theorem A_yes {ops : Array Oper} {fuel i j dj : Nat} {b : Bool} {listed : Array Bool} {o : Oper} (ho : ops[i]? = some o) (hv : Ya f dj = some (.bool b)) (h : opF P n o (wpA P n ops Q fuel (listed.setIfInBounds i true)) Q f ds w) (hg : o.guard = some (j, b) := by rfl) (hj : (ops[j]?).bind (·.dst) = some dj := by rfl) :
    ∀ a, Of n f a → a.defers = ds → wpOp P ops (QA n Q) i (wpAny P .any ops (QA n Q) fuel (listed.setIfInBounds i true)) a w := fun a ha hd =>
  wpOp_step ho fun K hK => by
    have hw : Region.wanted o (yielded ops a.tmps) = true := by
      have := ha.val dj _ hv
      simp [Region.wanted, hg, yielded, hj, this]
    rw [if_pos hw]
    exact h a ha hd K fun _ a' w' hof hN => hK a' w' (hN a' hof rfl)

theorem A_no {ops : Array Oper} {fuel i j dj d : Nat} {b b' : Bool} {listed : Array Bool} {o : Oper} (ho : ops[i]? = some o) (hv : Ya f dj = some (.bool b')) (h : wpA P n ops Q fuel (listed.setIfInBounds i true) ((d, undef) :: f) ds w) (hg : o.guard = some (j, b) := by rfl) (hne : (b' == b) = false := by rfl) (hd : o.dst = some d := by rfl) (hn : Nat.blt d n = true := by rfl) (hj : (ops[j]?).bind (·.dst) = some dj := by rfl) :
    ∀ a, Of n f a → a.defers = ds → wpOp P ops (QA n Q) i (wpAny P .any ops (QA n Q) fuel (listed.setIfInBounds i true)) a w := fun a ha hds =>
  wpOp_step ho fun K hK => by
    have hw : Region.wanted o (yielded ops a.tmps) = false := by
      have := ha.val dj _ hv
      simp only [Region.wanted, hg, yielded, hj, this, Option.bind_some]
      cases b <;> cases b' <;> simp_all
    rw [if_neg (by rw [hw]; simp), hd]
    exact hK _ _ (h _ (ha.put hn) hds)

/-- One that yields the same in whatever world may be taken first. -/
theorem A_take {ops : Array Oper} {fuel i d : Nat} {v : Value} {listed : Array Bool} {o : Oper} (ho : ops[i]? = some o) (hd : o.dst = some d) (hn : Nat.blt d n = true) (hs : Region.noSelect ops = true) (hf : Region.free .any ops listed i = true)
    (hr : (Region.ready .any ops listed).contains i = true) (hQ : ∀ c f ds w, Q (.panic c) f ds w → False) (hy : ∀ a, Of n f a → Yields P ops o v a) (h : wpA P n ops Q fuel (listed.setIfInBounds i true) ((d, v) :: f) ds w) :
    wpA P n ops Q (fuel + 1) listed f ds w := fun a ha hds =>
  wpAny_take ho hs hf hr (fun c a w ⟨f, _, hq⟩ => (hQ c f _ w hq).elim) (hy a ha) (by rw [hd]; exact h _ (ha.put hn) hds)

end
end Go.Proofs.YtnoioimphcmeiaaGreatDoor
namespace Go.Proofs.YtnoioimphcmeiaaGreatDoor
open Go.RowKit

/-- What a step leaves as it was: all old blocks but those in S. -/
structure Mv (S : Nat → Prop) (w w' : World) : Prop where
  os : w'.os = w.os
  tape : w'.tape = w.tape
  output : w'.output = w.output
  size : w.heap.size ≤ w'.heap.size
  block : ∀ k, k < w.heap.size → ¬ S k → w'.heap[k]? = w.heap[k]?

/-- No block. -/
def No : Nat → Prop := fun _ => False
/-- One block. -/
def At (b : Nat) : Nat → Prop := fun k => k = b
/-- The block that a slice owns. -/
def Zx (v : Value) : Nat → Prop := fun k => v.ownBlock = some k
def Or2 (S T : Nat → Prop) : Nat → Prop := fun k => S k ∨ T k

theorem Mv.refl {S : Nat → Prop} (w : World) : Mv S w w := ⟨rfl, rfl, rfl, Nat.le_refl _, fun _ _ _ => rfl⟩
theorem Mv.trans {S S' : Nat → Prop} {a b c : World} (h : Mv S a b) (k : Mv S' b c) (hs : ∀ x, x < a.heap.size → S' x → S x) : Mv S a c :=
  ⟨k.os.trans h.os, k.tape.trans h.tape, k.output.trans h.output, Nat.le_trans h.size k.size, fun i hi hn => (k.block i (Nat.lt_of_lt_of_le hi h.size) (fun hs' => hn (hs i hi hs'))).trans (h.block i hi hn)⟩
theorem Mv.mono {S S' : Nat → Prop} {a b : World} (h : Mv S a b) (hs : ∀ x, x < a.heap.size → S x → S' x) : Mv S' a b :=
  ⟨h.os, h.tape, h.output, h.size, fun i hi hn => h.block i hi (fun hx => hn (hs i hi hx))⟩
theorem Mv.no {S : Nat → Prop} {a b c : World} (h : Mv S a b) (k : Mv No b c) : Mv S a c := h.trans k fun _ _ hf => hf.elim
theorem Mv.ofNo {S : Nat → Prop} {a b : World} (h : Mv No a b) : Mv S a b := h.mono fun _ _ hf => hf.elim
theorem Mv.new {S : Nat → Prop} {a b c : World} {g : Nat} (h : Mv S a b) (k : Mv (At g) b c) (hg : a.heap.size ≤ g) : Mv S a c :=
  h.trans k fun x hx he => by have : x = g := he; omega
theorem Mv.drew {S : Nat → Prop} {a b : World} (h : Mv S a b) : Mv S a b.drew := ⟨h.os, h.tape, h.output, h.size, h.block⟩
theorem Mv.drewN {S : Nat → Prop} {a b : World} (h : Mv S a b) (n : Nat) : Mv S a (b.drewN n) := ⟨h.os, h.tape, h.output, h.size, h.block⟩
theorem Mv.below {a b : World} (h : Mv No a b) : Below a.heap.size a b := ⟨h.os, h.tape, h.output, h.size, fun k hk => h.block k hk (fun hf => hf.elim)⟩
theorem Mv.ofBelow {a b : World} (h : Below a.heap.size a b) : Mv No a b := ⟨h.os, h.tape, h.output, h.size, fun k hk _ => h.block k hk⟩
theorem Mv.ofGrown {a b : World} {v : Value} (h : a.grownBy b v.ownBlock) : Mv (Zx v) a b :=
  ⟨h.os, h.tape, h.output, h.size, fun k hk hn => h.block k hk (fun e => hn e.symm)⟩
theorem Mv.alloc (w : World) (o : Obj) : Mv No w (w.alloc o) :=
  ⟨rfl, rfl, rfl, by simp, fun k hk _ => Below.heap_alloc w o k hk⟩
theorem Mv.setCell (w : World) (a : Addr) (v : Value) : Mv (At a.block) w (w.setCell a v) :=
  ⟨rfl, rfl, rfl, by simp [World.setCell], fun k _ hn => Below.heap_setCell w a v k (fun e => hn e)⟩

/-- A block known whole, that may be written. -/
def Blk (w : World) (b : Nat) (cs : List Value) (t : TypeId) : Prop := w.heap[b]? = some (.cells cs.toArray t (0, 0))

theorem Blk.lt {w : World} {b : Nat} {cs : List Value} {t : TypeId} (h : Blk w b cs t) : b < w.heap.size := by
  rcases Nat.lt_or_ge b w.heap.size with hl | hl
  · exact hl
  · rw [Blk, Array.getElem?_eq_none hl] at h; cases h
theorem Blk.mv {w w' : World} {b : Nat} {cs : List Value} {t : TypeId} {S : Nat → Prop} (h : Blk w b cs t) (hm : Mv S w w') (hn : ¬ S b) : Blk w' b cs t := (hm.block b h.lt hn).trans h
theorem Blk.no {w w' : World} {b : Nat} {cs : List Value} {t : TypeId} (h : Blk w b cs t) (hm : Mv No w w') : Blk w' b cs t := h.mv hm fun hf => hf.elim
theorem Blk.ne {w w' : World} {b g : Nat} {cs : List Value} {t : TypeId} (h : Blk w b cs t) (hm : Mv (At g) w w') (hn : b ≠ g) : Blk w' b cs t := h.mv hm hn
theorem Blk.cell {w : World} {b : Nat} {cs : List Value} {t : TypeId} (h : Blk w b cs t) {i : Nat} {v : Value} (hv : cs[i]? = some v) : w.cell? ⟨b, i, none⟩ = some v := by
  unfold Blk at h
  simp [World.cell?, h, hv]
theorem Blk.new (w : World) (cs : List Value) (t : TypeId) : Blk (w.alloc (.cells cs.toArray t)) w.heap.size cs t := by
  show (w.heap.push _)[w.heap.size]? = _
  simp
theorem Blk.set {w : World} {b : Nat} {cs : List Value} {t : TypeId} (h : Blk w b cs t) (i : Nat) (v : Value) : Blk (w.setCell ⟨b, i, none⟩ v) b (cs.set i v) t := by
  unfold Blk at *
  simp only [World.setCell, Array.getElem?_modify, h]
  simp
theorem Blk.frozen {w : World} {b : Nat} {cs : List Value} {t : TypeId} (h : Blk w b cs t) (i : Nat) : w.frozen? ⟨b, i, none⟩ = false := by
  unfold Blk at h
  simp [World.frozen?, h]

/-- From a place on the cells read so. -/
def Row (w : World) (b off : Nat) (cs : List Value) : Prop := ∀ i v, cs[i]? = some v → w.cell? ⟨b, off + i, none⟩ = some v

theorem cell_lt {w : World} {a : Addr} {v : Value} (h : w.cell? a = some v) : a.block < w.heap.size := by
  rcases Nat.lt_or_ge a.block w.heap.size with hl | hl
  · exact hl
  · rw [World.cell?, Array.getElem?_eq_none hl] at h; cases h
theorem Row.nil {w : World} {b off : Nat} : Row w b off [] := fun _ _ h => by simp at h
theorem Row.mv {w w' : World} {b off : Nat} {cs : List Value} {S : Nat → Prop} (h : Row w b off cs) (hm : Mv S w w') (hn : ¬ S b) : Row w' b off cs := fun i v hv => by
  have hc := h i v hv
  rw [World.cell?_of_block (w := w) (hm.block b (cell_lt hc) hn)]
  exact hc
theorem Row.no {w w' : World} {b off : Nat} {cs : List Value} (h : Row w b off cs) (hm : Mv No w w') : Row w' b off cs := h.mv hm fun hf => hf.elim
theorem Blk.row {w : World} {b : Nat} {cs : List Value} {t : TypeId} (h : Blk w b cs t) : Row w b 0 cs := fun i v hv => by rw [Nat.zero_add]; exact h.cell hv
theorem Row.drop {w : World} {b off : Nat} {cs : List Value} (h : Row w b off cs) (k : Nat) : Row w b (off + k) (cs.drop k) := fun i v hv => by
  rw [Nat.add_assoc]; exact h (k + i) v (by simpa using hv)
theorem Row.take {w : World} {b off : Nat} {cs : List Value} (h : Row w b off cs) (k : Nat) : Row w b off (cs.take k) := fun i v hv =>
  h i v (by simp only [List.getElem?_take] at hv; split at hv <;> first | exact hv | cases hv)
theorem Row.at {w : World} {b off : Nat} {cs : List Value} (h : Row w b off cs) (i : Nat) {v : Value} (hv : cs[i]? = some v) : Row w b (off + i) [v] := fun j u hu => by
  cases j with
  | zero => have : v = u := by simpa using hu
            subst this; exact h i v hv
  | succ j => simp at hu

/-- What a slice reads: its cells, from its address on. -/
def SlR (w : World) (A : Option Addr) (cs : List Value) : Prop := cs = [] ∨ ∃ b off, A = some ⟨b, off, none⟩ ∧ Row w b off cs
theorem SlR.mv {w w' : World} {A : Option Addr} {cs : List Value} {S : Nat → Prop} (h : SlR w A cs) (hm : Mv S w w') (hn : ∀ a, A = some a → ¬ S a.block) : SlR w' A cs := by
  rcases h with h | ⟨b, off, rfl, hr⟩
  · exact .inl h
  · exact .inr ⟨b, off, rfl, hr.mv hm (hn _ rfl)⟩
theorem SlR.no {w w' : World} {A : Option Addr} {cs : List Value} (h : SlR w A cs) (hm : Mv No w w') : SlR w' A cs := h.mv hm fun _ _ hf => hf.elim
theorem SlR.form {w : World} {A : Option Addr} {cs : List Value} (h : SlR w A cs) {i : Nat} (hi : i < cs.length) : ∃ b off, A = some ⟨b, off, none⟩ ∧ Row w b off cs := by
  rcases h with rfl | h
  · simp at hi
  · exact h
theorem SlR.take {w : World} {A : Option Addr} {cs : List Value} (h : SlR w A cs) (k : Nat) : SlR w A (cs.take k) := by
  rcases h with rfl | ⟨b, off, rfl, hr⟩
  · exact .inl (by simp)
  · exact .inr ⟨b, off, rfl, hr.take k⟩

/- what a slice of the call's own is -/
theorem ZN {w : World} {base : Nat} {e : TypeId} {size : Nat} {v : Value} {n : Nat} {xs : List Value} (h : w.ownsRow base e size v n xs) {k : Nat} (hk : Zx v k) : base ≤ k ∧ k < w.heap.size := h.lt k hk
theorem yo {w w' : World} {base : Nat} {e : TypeId} {size : Nat} {v : Value} {n : Nat} {xs : List Value} {S : Nat → Prop} (h : w.ownsRow base e size v n xs) (hm : Mv S w w') (hn : ∀ k, Zx v k → ¬ S k) : w'.ownsRow base e size v n xs := by
  obtain ⟨h1, h2⟩ := h
  refine ⟨h1, ?_⟩
  rcases h2 with h2 | ⟨g, cap, cur, rfl, hg, hh, r⟩
  · exact .inl h2
  · have hlt : g < w.heap.size := by
      rcases Nat.lt_or_ge g w.heap.size with hl | hl
      · exact hl
      · rw [Array.getElem?_eq_none hl] at hh; cases hh
    exact .inr ⟨g, cap, cur, rfl, hg, (hm.block g hlt (hn g rfl)).trans hh, r⟩
theorem zE {w w' : World} {base : Nat} {e : TypeId} {size : Nat} {v : Value} {n : Nat} {xs : List Value} (h : w.ownsRow base e size v n xs) (hm : Mv No w w') : w'.ownsRow base e size v n xs := yo h hm fun _ _ hf => hf.elim
/-- It is a slice, and reads so. -/
theorem own_reads {w : World} {base : Nat} {e : TypeId} {size : Nat} {v : Value} {n : Nat} {xs : List Value} (h : w.ownsRow base e size v n xs) :
    ∃ A cap, v = .slice A n cap ∧ SlR w A xs ∧ n ≤ cap ∧ cap ≤ maxLen ∧ (∀ a, A = some a → Zx v a.block) := by
  obtain ⟨h1, h2⟩ := h
  rcases h2 with ⟨rfl, rfl⟩ | ⟨g, cap, cur, rfl, hg, hh, hnc, hcm, hcs, ht⟩
  · exact ⟨none, 0, rfl, .inl (List.eq_nil_of_length_eq_zero (by omega)), Nat.le_refl _, Nat.zero_le _, fun a ha => by cases ha⟩
  · refine ⟨_, cap, rfl, .inr ⟨g, 0, rfl, fun i v hv => ?_⟩, hnc, hcm, fun a ha => by cases ha; rfl⟩
    subst ht
    have hv' : cur.toList[i]? = some v := by
      simp only [List.getElem?_take] at hv; split at hv <;> first | exact hv | cases hv
    simp only [Nat.zero_add, World.cell?, hh]
    simpa using hv'

theorem Mv.own {a b c : World} {base : Nat} {e : TypeId} {size : Nat} {v : Value} {n : Nat} {xs : List Value} (h : Mv No a b) (k : Mv (Zx v) b c) (ho : b.ownsRow base e size v n xs) (hb : a.heap.size ≤ base) : Mv No a c :=
  h.trans k fun x hx hox => absurd (ZN ho hox).1 (by omega)

end Go.Proofs.YtnoioimphcmeiaaGreatDoor
namespace Go.Proofs.YtnoioimphcmeiaaGreatDoor
open Go.RowKit

def evs (f : Fr) : List Operand → Option (List Value)
  | [] => some []
  | x :: r => match ev f x, evs f r with
    | some v, some vs => some (v :: vs)
    | _, _ => none

theorem Of.evs {n : Nat} {f : Fr} {a : Act} (h : Of n f a) : ∀ {l : List Operand} {vs : List Value}, evs f l = some vs → l.map a.eval = vs
  | [], vs, hv => by simpa [Go.Proofs.YtnoioimphcmeiaaGreatDoor.evs] using hv
  | x :: r, vs, hv => by
    simp only [Go.Proofs.YtnoioimphcmeiaaGreatDoor.evs] at hv
    split at hv
    · rename_i v vs' h1 h2
      obtain rfl := Option.some.inj hv
      simp [h.ev h1, Of.evs h h2]
    · cases hv

section
variable {P : Program} {n : Nat} {N : Nxt} {Q : Post} {f : Fr} {ds : List Deferred} {w w' : World}

theorem Yn {o : Oper} {d : Nat} {v : Value} (hrun : ∀ a, Of n f a → (execOp a.eval o).run P w = .ok (.value v) w') (h : N ((d, v) :: f) ds w') (hd : o.dst = some d := by rfl) (hn : Nat.blt d n = true := by rfl) : opF P n o N Q f ds w := fun a ha hds K hK => by
  unfold Oper.wp
  rw [hrun a ha, Oper.upon_value, hd]
  exact hK _ _ _ (ha.put hn) (by subst hds; exact h)

/-- The same value in whatever world. -/
def PureV (P : Program) (n : Nat) (o : Oper) (f : Fr) (v : Value) : Prop := ∀ a, Of n f a → ∀ w, (execOp a.eval o).run P w = .ok (.value v) w

theorem S {o : Oper} {d : Nat} {v : Value} (hp : PureV P n o f v) (h : N ((d, v) :: f) ds w) (hd : o.dst = some d := by rfl) (hn : Nat.blt d n = true := by rfl) : opF P n o N Q f ds w :=
  Yn (fun a ha => hp a ha w) h hd hn

/- in a region that draws its order: what yields the same in whatever world is taken first -/
section
variable {ops : Array Oper} {fuel i d : Nat} {v : Value} {listed : Array Bool} {o : Oper}
theorem zF (ho : ops[i]? = some o) (hp : PureV P n o f v) (h : wpA P n ops Q fuel (listed.setIfInBounds i true) ((d, v) :: f) ds w) (hs : Region.noSelect ops = true) (hf : Region.free .any ops listed i = true) (hr : (Region.ready .any ops listed).contains i = true)
    (hQ : ∀ c f ds w, Q (.panic c) f ds w → False) (hd : o.dst = some d) (hn : Nat.blt d n = true) (hg : o.guard = none) : wpA P n ops Q (fuel + 1) listed f ds w :=
  A_take ho hd hn hs hf hr hQ (fun a ha => .inl ⟨by simp [Region.wanted, hg], hp a ha⟩) h
theorem A_pureY {j dj : Nat} {b : Bool} (ho : ops[i]? = some o) (hp : PureV P n o f v) (hv : Ya f dj = some (.bool b)) (h : wpA P n ops Q fuel (listed.setIfInBounds i true) ((d, v) :: f) ds w) (hs : Region.noSelect ops = true) (hf : Region.free .any ops listed i = true) (hr : (Region.ready .any ops listed).contains i = true)
    (hQ : ∀ c f ds w, Q (.panic c) f ds w → False) (hd : o.dst = some d) (hn : Nat.blt d n = true) (hg : o.guard = some (j, b)) (hj : (ops[j]?).bind (·.dst) = some dj) : wpA P n ops Q (fuel + 1) listed f ds w :=
  A_take ho hd hn hs hf hr hQ (fun a ha => .inl ⟨by
    have := ha.val dj _ hv
    simp [Region.wanted, hg, yielded, hj, this], hp a ha⟩) h
theorem A_pureN {j dj : Nat} {b b' : Bool} (ho : ops[i]? = some o) (hv : Ya f dj = some (.bool b')) (h : wpA P n ops Q fuel (listed.setIfInBounds i true) ((d, undef) :: f) ds w) (hs : Region.noSelect ops = true) (hf : Region.free .any ops listed i = true) (hr : (Region.ready .any ops listed).contains i = true)
    (hQ : ∀ c f ds w, Q (.panic c) f ds w → False) (hd : o.dst = some d) (hn : Nat.blt d n = true) (hg : o.guard = some (j, b)) (hne : (b' == b) = false) (hj : (ops[j]?).bind (·.dst) = some dj) : wpA P n ops Q (fuel + 1) listed f ds w :=
  A_take ho hd hn hs hf hr hQ (fun a ha => .inr ⟨by
    have := ha.val dj _ hv
    simp only [Region.wanted, hg, yielded, hj, this, Option.bind_some]
    cases b <;> cases b' <;> simp_all, rfl⟩) h
theorem A_pureNu {j dj : Nat} {b : Bool} (ho : ops[i]? = some o) (hv : Ya f dj = some undef) (h : wpA P n ops Q fuel (listed.setIfInBounds i true) ((d, undef) :: f) ds w) (hs : Region.noSelect ops = true) (hf : Region.free .any ops listed i = true) (hr : (Region.ready .any ops listed).contains i = true)
    (hQ : ∀ c f ds w, Q (.panic c) f ds w → False) (hd : o.dst = some d) (hn : Nat.blt d n = true) (hg : o.guard = some (j, b)) (hj : (ops[j]?).bind (·.dst) = some dj) : wpA P n ops Q (fuel + 1) listed f ds w :=
  A_take ho hd hn hs hf hr hQ (fun a ha => .inr ⟨by
    have := ha.val dj _ hv
    simp [Region.wanted, hg, yielded, hj, this, undef], rfl⟩) h
theorem zO (h : ∀ a, Of n f a → a.defers = ds → wpOp P ops (QA n Q) i (wpAny P .any ops (QA n Q) fuel (listed.setIfInBounds i true)) a w) (hr : Region.ready .any ops listed = [i]) : wpA P n ops Q (fuel + 1) listed f ds w :=
  A_all hr (by simp) fun j hj => by
    have : j = i := by simpa using hj
    subst this; exact h
theorem ZL {i2 : Nat} (h : ∀ a, Of n f a → a.defers = ds → wpOp P ops (QA n Q) i (wpAny P .any ops (QA n Q) fuel (listed.setIfInBounds i true)) a w) (h2 : ∀ a, Of n f a → a.defers = ds → wpOp P ops (QA n Q) i2 (wpAny P .any ops (QA n Q) fuel (listed.setIfInBounds i2 true)) a w)
    (hr : Region.ready .any ops listed = [i, i2]) : wpA P n ops Q (fuel + 1) listed f ds w :=
  A_all hr (by simp) fun j hj => by
    have : j = i ∨ j = i2 := by simpa using hj
    rcases this with rfl | rfl
    · exact h
    · exact h2
theorem A_three {i2 i3 : Nat} (h : ∀ a, Of n f a → a.defers = ds → wpOp P ops (QA n Q) i (wpAny P .any ops (QA n Q) fuel (listed.setIfInBounds i true)) a w) (h2 : ∀ a, Of n f a → a.defers = ds → wpOp P ops (QA n Q) i2 (wpAny P .any ops (QA n Q) fuel (listed.setIfInBounds i2 true)) a w) (h3 : ∀ a, Of n f a → a.defers = ds → wpOp P ops (QA n Q) i3 (wpAny P .any ops (QA n Q) fuel (listed.setIfInBounds i3 true)) a w)
    (hr : Region.ready .any ops listed = [i, i2, i3]) : wpA P n ops Q (fuel + 1) listed f ds w :=
  A_all hr (by simp) fun j hj => by
    have : j = i ∨ j = i2 ∨ j = i3 := by simpa using hj
    rcases this with rfl | rfl | rfl
    · exact h
    · exact h2
    · exact h3
end

theorem S_skip {o : Oper} (hrun : ∀ a, Of n f a → (execOp a.eval o).run P w = .ok .skip w') (h : N f ds w') (hd : o.dst = none := by rfl) : opF P n o N Q f ds w := fun a ha hds K hK => by
  unfold Oper.wp
  rw [hrun a ha, Oper.upon_skip, hd]
  exact hK _ _ _ ha (by subst hds; exact h)

theorem za {d : Nat} {x : Operand} {ty : TypeId} {pos : String} {af : Array Edge} {g : Option (Nat × Bool)} {v : Value} (hx : ev f x = some v) : PureV P n ⟨some d, .move x, ty, pos, af, g⟩ f (v) :=
  fun a ha w => by simp [execOp, ha.ev hx]
theorem zd {d : Nat} {x : Operand} {ty : TypeId} {pos : String} {af : Array Edge} {g : Option (Nat × Bool)} {v : Value} (hx : ev f x = some v) : PureV P n ⟨some d, .assign x, ty, pos, af, g⟩ f (v) :=
  fun a ha w => by simp [execOp, ha.ev hx]
theorem zt {d : Nat} {c x y : Operand} {ty : TypeId} {pos : String} {af : Array Edge} {g : Option (Nat × Bool)} {v : Value} (hc : ev f c = some (.bool true)) (hx : ev f x = some v) : PureV P n ⟨some d, .pick c x y, ty, pos, af, g⟩ f (v) :=
  fun a ha w => by simp [execOp, ha.ev hx, ha.ev hc, asBool]
theorem zj {d : Nat} {c x y : Operand} {ty : TypeId} {pos : String} {af : Array Edge} {g : Option (Nat × Bool)} {v : Value} (hc : ev f c = some (.bool false)) (hy : ev f y = some v) : PureV P n ⟨some d, .pick c x y, ty, pos, af, g⟩ f (v) :=
  fun a ha w => by simp [execOp, ha.ev hy, ha.ev hc, asBool]
theorem zv {d i : Nat} {x : Operand} {ty : TypeId} {pos : String} {af : Array Edge} {g : Option (Nat × Bool)} {vs : Array Value} {v : Value} (hx : ev f x = some (.tuple vs)) (hv : vs[i]? = some v) : PureV P n ⟨some d, .extract x i, ty, pos, af, g⟩ f (v) :=
  fun a ha w => by simp [execOp, ha.ev hx, Instr.extract, hv]
/- numbers -/
section
variable {d : Nat} {x y : Operand} {t yt ty : TypeId} {pos : String} {af : Array Edge} {g : Option (Nat × Bool)} {k : IntKind} {a b c : Int} {β : Bool}

theorem Zh {op : BinOp} (h : op ≠ .shl ∧ op ≠ .shr) : (do eqGuard op t x y (.int k a) (.int k b); binOp op t (.int k a) (.int k b) : Sem Value).run P w =
    (match op with | .add | .sub | .mul => Op.intArith op k a b | .quo | .rem => Op.intDiv op k a b | .and | .or | .xor | .andNot => Op.intBits op k a b | _ => Op.intCmp op a b : Sem Value).run P w := by
  obtain ⟨h1, h2⟩ := h
  cases op <;> first | exact absurd rfl h1 | exact absurd rfl h2 | simp [eqGuard, binOp]

theorem zT (hx : ev f x = some (.int k a)) (hy : ev f y = some (.int k b)) (hc : k.wrap (a + b) = c) : PureV P n ⟨some d, .binOp .add t x y yt, ty, pos, af, g⟩ f (.int k c) :=
  fun z hz w => by subst hc; simp only [execOp, hz.ev hx, hz.ev hy, Sem.run_bind, Sem.run_map]; have := Zh (P := P) (w := w) (t := t) (x := x) (y := y) (k := k) (a := a) (b := b) (op := .add) (by simp); simp only [Sem.run_bind] at this; rw [this]; simp [Op.intArith]
theorem Zd (hx : ev f x = some (.int k a)) (hy : ev f y = some (.int k b)) (hc : k.wrap (a - b) = c) : PureV P n ⟨some d, .binOp .sub t x y yt, ty, pos, af, g⟩ f (.int k c) :=
  fun z hz w => by subst hc; simp only [execOp, hz.ev hx, hz.ev hy, Sem.run_bind, Sem.run_map]; have := Zh (P := P) (w := w) (t := t) (x := x) (y := y) (k := k) (a := a) (b := b) (op := .sub) (by simp); simp only [Sem.run_bind] at this; rw [this]; simp [Op.intArith]
theorem P_mul (hx : ev f x = some (.int k a)) (hy : ev f y = some (.int k b)) (hc : k.wrap (a * b) = c) : PureV P n ⟨some d, .binOp .mul t x y yt, ty, pos, af, g⟩ f (.int k c) :=
  fun z hz w => by subst hc; simp only [execOp, hz.ev hx, hz.ev hy, Sem.run_bind, Sem.run_map]; have := Zh (P := P) (w := w) (t := t) (x := x) (y := y) (k := k) (a := a) (b := b) (op := .mul) (by simp); simp only [Sem.run_bind] at this; rw [this]; simp [Op.intArith]
theorem P_quo (hx : ev f x = some (.int k a)) (hy : ev f y = some (.int k b)) (hb : b ≠ 0) (hc : k.wrap (a.tdiv b) = c) : PureV P n ⟨some d, .binOp .quo t x y yt, ty, pos, af, g⟩ f (.int k c) :=
  fun z hz w => by subst hc; simp only [execOp, hz.ev hx, hz.ev hy, Sem.run_bind, Sem.run_map]; have := Zh (P := P) (w := w) (t := t) (x := x) (y := y) (k := k) (a := a) (b := b) (op := .quo) (by simp); simp only [Sem.run_bind] at this; rw [this]; simp [Op.intDiv, hb]
theorem P_rem (hx : ev f x = some (.int k a)) (hy : ev f y = some (.int k b)) (hb : b ≠ 0) (hc : a.tmod b = c) : PureV P n ⟨some d, .binOp .rem t x y yt, ty, pos, af, g⟩ f (.int k c) :=
  fun z hz w => by subst hc; simp only [execOp, hz.ev hx, hz.ev hy, Sem.run_bind, Sem.run_map]; have := Zh (P := P) (w := w) (t := t) (x := x) (y := y) (k := k) (a := a) (b := b) (op := .rem) (by simp); simp only [Sem.run_bind] at this; rw [this]; simp [Op.intDiv, hb]
/-- & | ^ &^: as the bits are. -/
def Z2 (op : BinOp) (k : IntKind) (a b : Int) : Int :=
  match op with
  | .and => k.wrap (BitVec.ofInt k.bits a &&& BitVec.ofInt k.bits b).toNat
  | .or => k.wrap (BitVec.ofInt k.bits a ||| BitVec.ofInt k.bits b).toNat
  | .xor => k.wrap (BitVec.ofInt k.bits a ^^^ BitVec.ofInt k.bits b).toNat
  | .andNot => k.wrap (BitVec.ofInt k.bits a &&& ~~~ BitVec.ofInt k.bits b).toNat
  | _ => 0
theorem P_and (hx : ev f x = some (.int k a)) (hy : ev f y = some (.int k b)) (hc : Z2 .and k a b = c) : PureV P n ⟨some d, .binOp .and t x y yt, ty, pos, af, g⟩ f (.int k c) :=
  fun z hz w => by subst hc; simp only [execOp, hz.ev hx, hz.ev hy, Sem.run_bind, Sem.run_map]; have := Zh (P := P) (w := w) (t := t) (x := x) (y := y) (k := k) (a := a) (b := b) (op := .and) (by simp); simp only [Sem.run_bind] at this; rw [this]; simp [Op.intBits, Z2]
theorem P_or (hx : ev f x = some (.int k a)) (hy : ev f y = some (.int k b)) (hc : Z2 .or k a b = c) : PureV P n ⟨some d, .binOp .or t x y yt, ty, pos, af, g⟩ f (.int k c) :=
  fun z hz w => by subst hc; simp only [execOp, hz.ev hx, hz.ev hy, Sem.run_bind, Sem.run_map]; have := Zh (P := P) (w := w) (t := t) (x := x) (y := y) (k := k) (a := a) (b := b) (op := .or) (by simp); simp only [Sem.run_bind] at this; rw [this]; simp [Op.intBits, Z2]
theorem P_xor (hx : ev f x = some (.int k a)) (hy : ev f y = some (.int k b)) (hc : Z2 .xor k a b = c) : PureV P n ⟨some d, .binOp .xor t x y yt, ty, pos, af, g⟩ f (.int k c) :=
  fun z hz w => by subst hc; simp only [execOp, hz.ev hx, hz.ev hy, Sem.run_bind, Sem.run_map]; have := Zh (P := P) (w := w) (t := t) (x := x) (y := y) (k := k) (a := a) (b := b) (op := .xor) (by simp); simp only [Sem.run_bind] at this; rw [this]; simp [Op.intBits, Z2]
theorem P_shl {k' : IntKind} (hx : ev f x = some (.int k a)) (hy : ev f y = some (.int k' b)) (hb : 0 ≤ b) (hc : k.wrap (a * 2 ^ (min b.toNat k.bits)) = c) : PureV P n ⟨some d, .binOp .shl t x y yt, ty, pos, af, g⟩ f (.int k c) :=
  fun z hz w => by subst hc; simp [execOp, hz.ev hx, hz.ev hy, eqGuard, binOp, Op.shift, Int.not_lt.2 hb]
theorem P_shr {k' : IntKind} (hx : ev f x = some (.int k a)) (hy : ev f y = some (.int k' b)) (hb : 0 ≤ b) (hc : a.fdiv (2 ^ (min b.toNat k.bits)) = c) : PureV P n ⟨some d, .binOp .shr t x y yt, ty, pos, af, g⟩ f (.int k c) :=
  fun z hz w => by subst hc; simp [execOp, hz.ev hx, hz.ev hy, eqGuard, binOp, Op.shift, Int.not_lt.2 hb]
theorem zR (hx : ev f x = some (.int k a)) (hy : ev f y = some (.int k b)) (hβ : decide (a = b) = β) : PureV P n ⟨some d, .binOp .eql t x y yt, ty, pos, af, g⟩ f (.bool β) :=
  fun z hz w => by subst hβ; simp only [execOp, hz.ev hx, hz.ev hy, Sem.run_bind, Sem.run_map]; have := Zh (P := P) (w := w) (t := t) (x := x) (y := y) (k := k) (a := a) (b := b) (op := .eql) (by simp); simp only [Sem.run_bind] at this; rw [this]; simp [Op.intCmp]; rfl
theorem Za (hx : ev f x = some (.int k a)) (hy : ev f y = some (.int k b)) (hβ : decide (a ≠ b) = β) : PureV P n ⟨some d, .binOp .neq t x y yt, ty, pos, af, g⟩ f (.bool β) :=
  fun z hz w => by
    subst hβ; simp only [execOp, hz.ev hx, hz.ev hy, Sem.run_bind, Sem.run_map]
    have := Zh (P := P) (w := w) (t := t) (x := x) (y := y) (k := k) (a := a) (b := b) (op := .neq) (by simp)
    simp only [Sem.run_bind] at this; rw [this]
    have e : (a != b) = decide (a ≠ b) := by by_cases hab : a = b <;> simp [hab]
    simp only [Op.intCmp, Sem.run_pure, Result.andThen_ok, e]
theorem zG (hx : ev f x = some (.int k a)) (hy : ev f y = some (.int k b)) (hβ : decide (a < b) = β) : PureV P n ⟨some d, .binOp .lss t x y yt, ty, pos, af, g⟩ f (.bool β) :=
  fun z hz w => by subst hβ; simp only [execOp, hz.ev hx, hz.ev hy, Sem.run_bind, Sem.run_map]; have := Zh (P := P) (w := w) (t := t) (x := x) (y := y) (k := k) (a := a) (b := b) (op := .lss) (by simp); simp only [Sem.run_bind] at this; rw [this]; simp [Op.intCmp]
theorem Yd (hx : ev f x = some (.int k a)) (hy : ev f y = some (.int k b)) (hβ : decide (a ≤ b) = β) : PureV P n ⟨some d, .binOp .leq t x y yt, ty, pos, af, g⟩ f (.bool β) :=
  fun z hz w => by subst hβ; simp only [execOp, hz.ev hx, hz.ev hy, Sem.run_bind, Sem.run_map]; have := Zh (P := P) (w := w) (t := t) (x := x) (y := y) (k := k) (a := a) (b := b) (op := .leq) (by simp); simp only [Sem.run_bind] at this; rw [this]; simp [Op.intCmp]
theorem yp (hx : ev f x = some (.int k a)) (hy : ev f y = some (.int k b)) (hβ : decide (b < a) = β) : PureV P n ⟨some d, .binOp .gtr t x y yt, ty, pos, af, g⟩ f (.bool β) :=
  fun z hz w => by subst hβ; simp only [execOp, hz.ev hx, hz.ev hy, Sem.run_bind, Sem.run_map]; have := Zh (P := P) (w := w) (t := t) (x := x) (y := y) (k := k) (a := a) (b := b) (op := .gtr) (by simp); simp only [Sem.run_bind] at this; rw [this]; simp [Op.intCmp]
theorem y_ (hx : ev f x = some (.int k a)) (hy : ev f y = some (.int k b)) (hβ : decide (b ≤ a) = β) : PureV P n ⟨some d, .binOp .geq t x y yt, ty, pos, af, g⟩ f (.bool β) :=
  fun z hz w => by subst hβ; simp only [execOp, hz.ev hx, hz.ev hy, Sem.run_bind, Sem.run_map]; have := Zh (P := P) (w := w) (t := t) (x := x) (y := y) (k := k) (a := a) (b := b) (op := .geq) (by simp); simp only [Sem.run_bind] at this; rw [this]; simp [Op.intCmp]
theorem yu {β' : Bool} (hx : ev f x = some (.bool β')) (hβ : (!β') = β) : PureV P n ⟨some d, .unOp .not t x, ty, pos, af, g⟩ f (.bool β) :=
  fun z hz w => by subst hβ; simp [execOp, hz.ev hx, Op.unary, Op.intArith]
theorem P_neg (hx : ev f x = some (.int k a)) (hc : k.wrap (-a) = c) : PureV P n ⟨some d, .unOp .neg t x, ty, pos, af, g⟩ f (.int k c) :=
  fun z hz w => by subst hc; simp [execOp, hz.ev hx, Op.unary, Op.intArith]
theorem P_conv {k' : IntKind} {t' : TypeDesc} (hs : P.underlying t = some t') (ht : P.underlying yt = some (.int k')) (hx : ev f x = some (.int k a)) (hc : k'.wrap a = c) : PureV P n ⟨some d, .convert t yt x, ty, pos, af, g⟩ f (.int k' c) :=
  fun z hz w => by subst hc; simp [execOp, hz.ev hx, convert, run_underlying ht, run_underlying hs, Conv.intToInt]
end

/- words on wraps -/
theorem z1 {a c : Int} (h : a = c ∧ -9223372036854775808 ≤ c ∧ c < 9223372036854775808) : IntKind.i64.wrap a = c := by
  obtain ⟨rfl, h1, h2⟩ := h
  simp only [IntKind.wrap, IntKind.bits, IntKind.signed]
  simp
  omega
theorem wU64 {a c : Int} (h : a = c ∧ 0 ≤ c ∧ c < 18446744073709551616) : IntKind.u64.wrap a = c := by
  obtain ⟨rfl, h1, h2⟩ := h
  simp only [IntKind.wrap, IntKind.bits, IntKind.signed]
  simp
  omega
theorem wU8 {a c : Int} (h : a = c ∧ 0 ≤ c ∧ c < 256) : IntKind.u8.wrap a = c := by
  obtain ⟨rfl, h1, h2⟩ := h
  simp only [IntKind.wrap, IntKind.bits, IntKind.signed]
  simp
  omega
theorem wU32 {a c : Int} (h : a = c ∧ 0 ≤ c ∧ c < 4294967296) : IntKind.u32.wrap a = c := by
  obtain ⟨rfl, h1, h2⟩ := h
  simp only [IntKind.wrap, IntKind.bits, IntKind.signed]
  simp
  omega
theorem wI32 {a c : Int} (h : a = c ∧ -2147483648 ≤ c ∧ c < 2147483648) : IntKind.i32.wrap a = c := by
  obtain ⟨rfl, h1, h2⟩ := h
  simp only [IntKind.wrap, IntKind.bits, IntKind.signed]
  simp
  omega

/- words on quotients -/
theorem quoU64 {a b c : Int} {m k : Nat} (ha : a = (m : Int)) (hb : b = (k : Int)) (hc : c = ((m / k : Nat) : Int)) (hm : m < 18446744073709551616) : IntKind.u64.wrap (a.tdiv b) = c := by
  subst ha; subst hb; subst hc
  rw [← Int.ofNat_tdiv]
  have h1 : m / k ≤ m := Nat.div_le_self m k
  generalize m / k = z at *
  exact wU64 ⟨rfl, by omega, by omega⟩
theorem quoI64 {a b c : Int} {m k : Nat} (ha : a = (m : Int)) (hb : b = (k : Int)) (hc : c = ((m / k : Nat) : Int)) (hm : m < 9223372036854775808) : IntKind.i64.wrap (a.tdiv b) = c := by
  subst ha; subst hb; subst hc
  rw [← Int.ofNat_tdiv]
  have h1 : m / k ≤ m := Nat.div_le_self m k
  generalize m / k = z at *
  exact z1 ⟨rfl, by omega, by omega⟩
theorem remN {a b c : Int} {m k : Nat} (ha : a = (m : Int)) (hb : b = (k : Int)) (hc : c = ((m % k : Nat) : Int)) : a.tmod b = c := by
  subst ha; subst hb; subst hc
  exact (Int.ofNat_tmod m k).symm

end
end Go.Proofs.YtnoioimphcmeiaaGreatDoor
namespace Go.Proofs.YtnoioimphcmeiaaGreatDoor
open Go.RowKit

/-- Where a field lies in its struct, if it takes a cell at all. -/
def yC (P : Program) (s : TypeId) (i : Nat) : Option Nat :=
  match P.underlying s with
  | some (.struct fs) => match fs[i]? with
    | some fd => match P.info? fd.type with
      | some inf => bif Nat.beq inf.size 0 then none else some fd.offset
      | none => none
    | none => none
  | _ => none

/-- One cell a value. -/
def Zg (P : Program) (t : TypeId) : Bool :=
  match P.underlying t with
  | some (.struct _) | some (.array _ _) | none => false
  | _ => true
/-- A struct of so many cells. -/
def YB (P : Program) (t : TypeId) (n : Nat) : Bool :=
  match P.underlying t, P.info? t with
  | some (.struct _), some i => Nat.beq i.size n
  | _, _ => false
/-- A function that is entered when called. -/
def zA (P : Program) (k : FuncId) : Bool :=
  match P.funcs[k]? with
  | some fn => !(fn.name == "runtime.NumGoroutine") && fn.body.isSome
  | none => false

/-- A type's zero value, cells, bytes. -/
def Zm (P : Program) (t : TypeId) : Option (Option Value × Nat × Nat) := (P.info? t).map fun i => (i.zero, i.size, i.bytes)

theorem Zz {P : Program} {e : TypeId} {z : Value} {size bytes : Nat} (h : Zm P e = some (some z, size, bytes)) : ∃ i, P.info? e = some i ∧ i.zero = some z ∧ i.size = size ∧ i.bytes = bytes := info_parts h

/-- What a call comes to. -/
def Ret (P : Program) (k : FuncId) (args : List Value) (w : World) (R : Value → World → Prop) : Prop :=
  Calls P k args.toArray w fun e w' => ∃ v, e = .returned v ∧ R v w'

theorem Ret.mono {P : Program} {k : FuncId} {args : List Value} {w : World} {R R' : Value → World → Prop} (h : Ret P k args w R) (hr : ∀ v w', R v w' → R' v w') : Ret P k args w R' :=
  Calls.mono h fun _ _ ⟨v, he, hR⟩ => ⟨v, he, hr _ _ hR⟩

section
variable {P : Program} {n : Nat} {N : Nxt} {Q : Post} {f : Fr} {ds : List Deferred} {w w' : World}
variable {d : Nat} {x y : Operand} {t yt ty : TypeId} {pos : String} {af : Array Edge} {g : Option (Nat × Bool)}

theorem callFunc_run {k : FuncId} {args : Array Value} (h : zA P k = true) : (callFunc k args).run P w = .ok (.enter k args) w := by
  unfold zA at h
  cases hf : P.funcs[k]? with
  | none => simp [hf] at h
  | some fn =>
    simp only [hf, Bool.and_eq_true, Bool.not_eq_true'] at h
    obtain ⟨h1, h2⟩ := h
    have h3 : fn.body.isNone = false := by cases hb : fn.body <;> simp_all
    simp only [callFunc, Sem.run_bind, run_program, Result.andThen_ok, hf, h1, h3]
    rfl

/-- A call of a function known by its number. -/
theorem zq {k : FuncId} {l : List Operand} {ats : Array TypeId} {vs : List Value} {R : Value → World → Prop} (hcb : zA P k = true) (hl : evs f l = some vs) (hc : Ret P k vs w R) (h : ∀ v w', R v w' → N ((d, v) :: f) ds w') (hn : Nat.blt d n = true := by rfl) :
    opF P n ⟨some d, .call { callee := .value (.func k), args := l.toArray, argTypes := ats }, ty, pos, af, g⟩ N Q f ds w := fun a ha hds K hK => by
  unfold Oper.wp
  have hargs := ha.evs hl
  have : (execOp a.eval ⟨some d, .call { callee := .value (.func k), args := l.toArray, argTypes := ats }, ty, pos, af, g⟩).run P w = .ok (.enter k vs.toArray) w := by
    simp [execOp, resolve, Act.eval, Deferred.ofValue, invoke, callFunc_run hcb, hargs]
  rw [this, Oper.upon_enter]
  refine Calls.mono hc ?_
  rintro e w' ⟨v, rfl, hR⟩
  exact hK _ _ _ (ha.put hn) (by subst hds; exact h v w' hR)

/-- A call whose answer nobody wants. -/
theorem S_call0 {k : FuncId} {l : List Operand} {ats : Array TypeId} {vs : List Value} {R : Value → World → Prop} (hcb : zA P k = true) (hl : evs f l = some vs) (hc : Ret P k vs w R) (h : ∀ v w', R v w' → N f ds w') :
    opF P n ⟨none, .call { callee := .value (.func k), args := l.toArray, argTypes := ats }, ty, pos, af, g⟩ N Q f ds w := fun a ha hds K hK => by
  unfold Oper.wp
  have hargs := ha.evs hl
  have : (execOp a.eval ⟨none, .call { callee := .value (.func k), args := l.toArray, argTypes := ats }, ty, pos, af, g⟩).run P w = .ok (.enter k vs.toArray) w := by
    simp [execOp, resolve, Act.eval, Deferred.ofValue, invoke, callFunc_run hcb, hargs]
  rw [this, Oper.upon_enter]
  refine Calls.mono hc ?_
  rintro e w' ⟨v, rfl, hR⟩
  exact hK _ _ _ ha.put_none (by subst hds; exact h v w' hR)

/-- A call of a function value. -/
theorem S_callv {c : Operand} {k : FuncId} {l : List Operand} {ats : Array TypeId} {vs : List Value} {first captured : List Value} {R : Value → World → Prop} (hcb : zA P k = true) (hf : ev f c = some (.func (.func k) first.toArray captured.toArray)) (hl : evs f l = some vs)
    (hc : Ret P k (first ++ vs ++ captured) w R) (h : ∀ v w', R v w' → N ((d, v) :: f) ds w') (hn : Nat.blt d n = true := by rfl) :
    opF P n ⟨some d, .call { callee := .value c, args := l.toArray, argTypes := ats }, ty, pos, af, g⟩ N Q f ds w := fun a ha hds K hK => by
  unfold Oper.wp
  have hargs := ha.evs hl
  have : (execOp a.eval ⟨some d, .call { callee := .value c, args := l.toArray, argTypes := ats }, ty, pos, af, g⟩).run P w = .ok (.enter k (first ++ vs ++ captured).toArray) w := by
    simp [execOp, resolve, ha.ev hf, Deferred.ofValue, invoke, callFunc_run hcb, hargs]
  rw [this, Oper.upon_enter]
  refine Calls.mono hc ?_
  rintro e w' ⟨v, rfl, hR⟩
  exact hK _ _ _ (ha.put hn) (by subst hds; exact h v w' hR)

theorem P_makeFunc {fn : Fn} {l m : List Operand} {vs us : List Value} (hl : evs f l = some vs) (hm : evs f m = some us) : PureV P n ⟨some d, .makeFunc fn l.toArray m.toArray, ty, pos, af, g⟩ f (.func fn vs.toArray us.toArray) :=
  fun a ha w => by simp [execOp, Instr.makeFunc, ha.evs hl, ha.evs hm]
/- pointers -/
theorem Zy {A : Addr} (hx : ev f x = some (.pointer (some A))) : PureV P n ⟨some d, .nilCheck x, ty, pos, af, g⟩ f (.pointer (some A)) :=
  fun a ha w => by simp [execOp, ha.ev hx]
theorem P_nilCheckF {fn : Fn} {a1 a2 : Array Value} (hx : ev f x = some (.func fn a1 a2)) (hfn : ∀ nm, fn ≠ .method nm) : PureV P n ⟨some d, .nilCheck x, ty, pos, af, g⟩ f (.func fn a1 a2) :=
  fun a ha w => by cases fn <;> first | exact absurd rfl (hfn _) | simp [execOp, ha.ev hx]
theorem ze {s : TypeId} {i off b o : Nat} (hfo : yC P s i = some off) (hx : ev f x = some (.pointer (some ⟨b, o, none⟩))) : PureV P n ⟨some d, .fieldAddr s x i, ty, pos, af, g⟩ f (.pointer (some ⟨b, o + off, none⟩)) :=
  fun a ha w => by
    unfold yC at hfo
    split at hfo
    · rename_i fs hu
      split at hfo
      · rename_i fd hfd
        split at hfo
        · rename_i inf hi
          have hs : inf.size ≠ 0 := fun e => by rw [e] at hfo; cases hfo
          have hb : Nat.beq inf.size 0 = false := nbeq_ne hs
          rw [hb] at hfo
          obtain rfl := Option.some.inj hfo
          simp [execOp, ha.ev hx, Instr.fieldAt, run_underlying hu, hfd, Instr.sureAddr, fieldPlace, sizeOf, typeInfo, hi, hs, Addr.add_lit]
        · cases hfo
      · cases hfo
    · cases hfo
theorem y8 (h : Zg P t = true) : (isAgg t).run P w = .ok false w := by
  unfold Zg at h
  cases hu : P.underlying t with
  | none => simp [hu] at h
  | some u =>
    cases u <;> simp_all [isAgg, run_underlying hu]

theorem ZS {m : Nat} (h : YB P t m = true) : (isAgg t).run P w = .ok true w ∧ (sizeOf t).run P w = .ok m w := by
  unfold YB at h
  split at h
  · rename_i u i hu hi
    have : i.size = m := Nat.eq_of_beq_eq_true h
    subst this
    exact ⟨by simp [isAgg, run_underlying hu], by simp [sizeOf, typeInfo, hi]⟩
  · cases h

theorem zi {A : Addr} {v : Value} (hs : Zg P t = true) (hx : ev f x = some (.pointer (some A))) (hc : w.cell? A = some v) (h : N ((d, v) :: f) ds w) (hn : Nat.blt d n = true := by rfl) : opF P n ⟨some d, .load t x, ty, pos, af, g⟩ N Q f ds w :=
  Yn (fun a ha => by simp [execOp, ha.ev hx, Instr.loadAt, Instr.sureAddr, loadVar, y8 hs, run_load, hc]) h rfl hn

theorem zB {b off m : Nat} {cs : List Value} (hs : YB P t m = true) (hx : ev f x = some (.pointer (some ⟨b, off, none⟩))) (hr : Row w b off cs) (hm : cs.length = m) (h : N ((d, .agg cs.toArray) :: f) ds w) (hn : Nat.blt d n = true := by rfl) : opF P n ⟨some d, .load t x, ty, pos, af, g⟩ N Q f ds w :=
  Yn (fun a ha => by
    subst hm
    have hl := run_loadCells_list (P := P) w ⟨b, off, none⟩ cs (fun j v hv => by rw [Addr.add_lit]; exact hr j v hv)
    simp [execOp, ha.ev hx, Instr.loadAt, Instr.sureAddr, loadVar, (ZS (w := w) hs).1, (ZS (w := w) hs).2, hl]) h rfl hn

/-- A store into a block known whole. -/
theorem yv {b i : Nat} {cs : List Value} {bt : TypeId} {v : Value} {z : Option Value} {by_ : Nat} (hs : Zm P t = some (z, 1, by_)) (hx : ev f x = some (.pointer (some ⟨b, i, none⟩))) (hv : ev f y = some v) (h1 : v.oneCell' = true) (hb : Blk w b cs bt) (hi : i < cs.length)
    (h : ∀ w', Blk w' b (cs.set i v) bt → Mv (At b) w w' → N f ds w') : opF P n ⟨none, .store t x y, ty, pos, af, g⟩ N Q f ds w :=
  S_skip (w' := w.setCell ⟨b, i, none⟩ v) (fun a ha => by
    obtain ⟨inf, hinf, hz⟩ := Option.map_eq_some_iff.1 hs
    simp only [Prod.mk.injEq] at hz
    have hcell : w.cell? ⟨b, i, none⟩ = some cs[i] := hb.cell (List.getElem?_eq_getElem hi)
    have hvc : v.cells = #[v] := by cases v <;> first | rfl | simp [Value.oneCell'] at h1
    simp [execOp, ha.ev hx, ha.ev hv, Instr.storeAt, Instr.sureAddr, storeVar, hvc, sizeOf, typeInfo, hinf, hz.2.1, storeCells, run_store P w _ v _ h1, Addr.add_lit, hcell, hb.frozen i]) (h _ (hb.set i v) (Mv.setCell w ⟨b, i, none⟩ v)) rfl

/-- The cells of a block with some of them put anew. -/
def ZA (cs : List Value) (o : Nat) (vs : List Value) : List Value := cs.take o ++ vs ++ cs.drop (o + vs.length)

theorem setRow_mv (w : World) (b : Nat) (cs cs' : List Value) (bt : TypeId) (hb : Blk w b cs bt) : Blk (w.setRow b cs'.toArray) b cs' bt ∧ Mv (At b) w (w.setRow b cs'.toArray) :=
  ⟨setRow_heap w b _ _ bt _ hb, ⟨rfl, rfl, rfl, by simp, fun k _ hk => setRow_other w b k _ hk⟩⟩

theorem zw {b o m : Nat} {cs vs : List Value} {bt : TypeId} {z : Option Value} {by_ : Nat} (hs : Zm P t = some (z, m, by_)) (hx : ev f x = some (.pointer (some ⟨b, o, none⟩))) (hv : ev f y = some (.agg vs.toArray)) (h1 : ∀ v ∈ vs, v.oneCell' = true) (hl : vs.length = m) (hb : Blk w b cs bt) (hi : o + vs.length ≤ cs.length)
    (h : ∀ w', Blk w' b (ZA cs o vs) bt → Mv (At b) w w' → N f ds w') : opF P n ⟨none, .store t x y, ty, pos, af, g⟩ N Q f ds w :=
  S_skip (w' := w.setRow b (ZA cs o vs).toArray) (fun a ha => by
    obtain ⟨inf, hinf, hz⟩ := Option.map_eq_some_iff.1 hs
    simp only [Prod.mk.injEq] at hz
    have hst := run_storeCells_at (P := P) b o bt vs 0 cs.toArray w hb (by simpa using hi) h1
    simp only [Nat.add_zero] at hst
    simp [execOp, ha.ev hx, ha.ev hv, Instr.storeAt, Instr.sureAddr, storeVar, Value.cells, sizeOf, typeInfo, hinf, hz.2.1, hl, hst, ZA]) (h _ (setRow_mv w b cs _ bt hb).1 (setRow_mv w b cs _ bt hb).2) rfl

theorem ye {e : TypeId} {z : Value} {zs : List Value} {m by_ : Nat} (hs : Zm P e = some (some z, m, by_)) (hzs : z.cells.toList = zs) (h : ∀ b w', Blk w' b zs e → Mv No w w' → w.heap.size ≤ b → N ((d, .pointer (some ⟨b, 0, none⟩)) :: f) ds w') (hn : Nat.blt d n = true := by rfl) : opF P n ⟨some d, .alloc e, ty, pos, af, g⟩ N Q f ds w := by
  subst hzs
  exact Yn (w' := w.alloc (.cells z.cells e)) (fun a _ => by
    obtain ⟨i, hi, hz, _, _⟩ := Zz hs
    simp [execOp, Instr.alloc, zeroValue, typeInfo, hi, hz, newVar, newRow]) (h w.heap.size _ (by simpa using Blk.new w z.cells.toList e) (Mv.alloc w _) (Nat.le_refl _)) rfl hn

theorem Zl {e : TypeId} {v : Value} (hx : ev f x = some v) (h : ∀ b w', Blk w' b v.cells.toList e → Mv No w w' → w.heap.size ≤ b → N ((d, .pointer (some ⟨b, 0, none⟩)) :: f) ds w') (hn : Nat.blt d n = true := by rfl) : opF P n ⟨some d, .box e x, ty, pos, af, g⟩ N Q f ds w :=
  Yn (w' := w.alloc (.cells v.cells e)) (fun a ha => by
    simp [execOp, Instr.box, ha.ev hx, newVar, newRow]) (h w.heap.size _ (by simpa using Blk.new w v.cells.toList e) (Mv.alloc w _) (Nat.le_refl _)) rfl hn

end
end Go.Proofs.YtnoioimphcmeiaaGreatDoor
namespace Go.Proofs.YtnoioimphcmeiaaGreatDoor
open Go.RowKit

section
variable {P : Program} {n : Nat} {N : Nxt} {Q : Post} {f : Fr} {ds : List Deferred} {w w' : World}
variable {d : Nat} {x y : Operand} {t yt ty : TypeId} {pos : String} {af : Array Edge} {g : Option (Nat × Bool)}

theorem zH {tt ot : TypeId} {A : Option Addr} {len cap : Nat} (hu : P.underlying tt = some (.slice ot)) (hx : ev f x = some (.slice A len cap)) :
    PureV P n ⟨some d, .call { callee := .builtin .len, args := #[x], argTypes := #[tt] }, ty, pos, af, g⟩ f (.int .i64 len) :=
  fun a ha w => by simp [execOp, resolve, invoke, builtin, ha.ev hx, Builtin.len_, run_underlying hu, goInt]
theorem yi {tt : TypeId} {s : ByteArray} (hu : P.underlying tt = some .string) (hx : ev f x = some (.string s)) :
    PureV P n ⟨some d, .call { callee := .builtin .len, args := #[x], argTypes := #[tt] }, ty, pos, af, g⟩ f (.int .i64 s.size) :=
  fun a ha w => by simp [execOp, resolve, invoke, builtin, ha.ev hx, Builtin.len_, run_underlying hu, goInt]
theorem P_min {tt tt' : TypeId} {k k' : IntKind} {a b c : Int} (hx : ev f x = some (.int k a)) (hy : ev f y = some (.int k' b)) (hc : (if b < a then b else a) = c) :
    PureV P n ⟨some d, .call { callee := .builtin .min, args := #[x, y], argTypes := #[tt, tt'] }, ty, pos, af, g⟩ f (.int k c) :=
  fun z hz w => by subst hc; simp [execOp, resolve, invoke, builtin, hz.ev hx, hz.ev hy, Builtin.min_, Builtin.min2]
/-- Size of an element, in cells. -/
def csz (P : Program) (e : TypeId) (m : Nat) : Prop := (P.info? e).map (·.size) = some m
theorem zD {P : Program} {e : TypeId} {z : Option Value} {m b : Nat} (h : Zm P e = some (z, m, b)) : csz P e m := by
  obtain ⟨i, hi, hz⟩ := Option.map_eq_some_iff.1 h
  simp only [Prod.mk.injEq] at hz
  simp [csz, hi, hz.2.1]
theorem run_csz {e : TypeId} {m : Nat} (h : csz P e m) : (sizeOf e).run P w = .ok m w := by
  obtain ⟨i, hi, rfl⟩ := Option.map_eq_some_iff.1 h
  simp [sizeOf, typeInfo, hi]

theorem zn {e : TypeId} {m b o len cap : Nat} {k : IntKind} {iv : Int} {j p : Nat} (hu : P.underlying t = some (.slice e)) (hs : csz P e m) (hx : ev f x = some (.slice (some ⟨b, o, none⟩) len cap)) (hy : ev f y = some (.int k iv)) (hj : iv = (j : Int)) (hlt : j < len) (hp : o + j * m = p)
    : PureV P n ⟨some d, .indexAddr t x y, ty, pos, af, g⟩ f (.pointer (some ⟨b, p, none⟩)) :=
  fun a ha w => by
    subst hj; subst hp
    have h1 : (0 : Int) ≤ (j : Int) ∧ (j : Int) < (len : Int) := by omega
    simp [execOp, ha.ev hx, ha.ev hy, Instr.indexAt, asIntOf, run_underlying hu, h1, run_csz hs, hlt, Addr.add_lit]
theorem zY {s : ByteArray} {k : IntKind} {iv : Int} {j : Nat} {b : UInt8} (hu : P.underlying t = some .string) (hx : ev f x = some (.string s)) (hy : ev f y = some (.int k iv)) (hj : iv = (j : Int)) (hb : s.data.toList[j]? = some b)
    : PureV P n ⟨some d, .index t x y, ty, pos, af, g⟩ f (.int .u8 (b.toNat : Int)) :=
  fun a ha w => by
    subst hj
    have h1 : s[j]? = some b := by
      have := hb
      simp only [Array.getElem?_toList] at this
      have hlt : j < s.data.size := by
        rcases Nat.lt_or_ge j s.data.size with hl | hl
        · exact hl
        · rw [Array.getElem?_eq_none hl] at this; cases this
      have h2 : j < s.size := hlt
      rw [getElem?_pos s j h2]
      rw [Array.getElem?_eq_getElem hlt] at this
      exact this
    simp [execOp, ha.ev hx, ha.ev hy, Instr.index, asIntOf, run_underlying hu, h1]
theorem ZU {k : IntKind} {iv : Int} {j y : Nat} {code : BoundsCode} (hj : iv = (j : Int)) (h : j ≤ y) : (Instr.sliceBound (.int k iv) y code).run P w = .ok j w := by
  subst hj
  have h1 : (0 : Int) ≤ (j : Int) ∧ (j : Int) ≤ (y : Int) := by omega
  simp [Instr.sliceBound, asIntOf, h1, h]

/-- Bounds that may be there or not. -/
def bnd (f : Fr) (x : Option Operand) (dflt j : Nat) : Prop :=
  match x with
  | none => j = dflt
  | some x => ∃ k iv, ev f x = some (.int k iv) ∧ iv = (j : Int)
theorem yU {f : Fr} {dflt : Nat} : bnd f none dflt dflt := rfl
theorem zV {f : Fr} {x : Operand} {dflt j : Nat} {k : IntKind} {iv : Int} (hx : ev f x = some (.int k iv)) (hj : iv = (j : Int)) : bnd f (some x) dflt j := ⟨k, iv, hx, hj⟩

theorem run_sliceBounds {s : Bool} {a : Act} (ha : Of n f a) {len cap l h : Nat} {lo hi : Option Operand} (hl : bnd f lo 0 l) (hh : bnd f hi len h) (h1 : l ≤ h) (h2 : h ≤ cap) :
    (Instr.sliceBounds s len cap (lo.map a.eval) (hi.map a.eval) none).run P w = .ok (l, h, cap) w := by
  cases lo <;> cases hi <;> simp only [bnd] at hl hh
  · subst hl; subst hh; simp [Instr.sliceBounds]
  · obtain ⟨k, iv, hx, hj⟩ := hh
    subst hl
    simp [Instr.sliceBounds, ha.ev hx, ZU hj h2]
  · obtain ⟨k, iv, hx, hj⟩ := hl
    subst hh
    simp [Instr.sliceBounds, ha.ev hx, ZU hj h1]
  · obtain ⟨k, iv, hx, hj⟩ := hl
    obtain ⟨k', iv', hx', hj'⟩ := hh
    simp [Instr.sliceBounds, ha.ev hx, ha.ev hx', ZU hj h1, ZU hj' h2]

/-- Where 's[l:]' begins. -/
def cutA (A : Option Addr) (l m cap : Nat) : Option Addr := if cap = l then A else A.map (·.add (l * m))

theorem YC {e : TypeId} {m len cap l hh : Nat} {A : Option Addr} {lo hi : Option Operand} (hu : P.underlying t = some (.slice e)) (hs : csz P e m) (hx : ev f x = some (.slice A len cap)) (hl : bnd f lo 0 l) (hhi : bnd f hi len hh) (h1 : l ≤ hh) (h2 : hh ≤ cap)
    : PureV P n ⟨some d, .slice t x lo hi none, ty, pos, af, g⟩ f (.slice (cutA A l m cap) (hh - l) (cap - l)) :=
  fun a ha w => by
    have hb := run_sliceBounds (P := P) (w := w) (s := true) ha hl hhi h1 h2
    simp [execOp, ha.ev hx, Instr.sliceAt, Instr.slice, run_underlying hu, hb, run_csz hs, cutA]
theorem SlR.cut {w : World} {A : Option Addr} {cs : List Value} (h : SlR w A cs) {l m cap : Nat} (hc : cs.length ≤ cap * m) : SlR w (cutA A l m cap) (cs.drop (l * m)) := by
  rcases h with rfl | ⟨b, off, rfl, hr⟩
  · exact .inl (by simp)
  · unfold cutA
    split
    · rename_i e
      subst e
      exact .inl (List.drop_eq_nil_of_le hc)
    · exact .inr ⟨b, off + l * m, by simp [Addr.add_lit], hr.drop _⟩

theorem cutA_block {A : Option Addr} {l m cap : Nat} {a : Addr} (h : cutA A l m cap = some a) : ∃ a', A = some a' ∧ a'.block = a.block := by
  unfold cutA at h
  split at h
  · exact ⟨a, h, rfl⟩
  · obtain ⟨a', ha', he⟩ := Option.map_eq_some_iff.1 h
    refine ⟨a', ha', ?_⟩
    rw [← he, Addr.add]
    split <;> rfl

theorem yQ {s s' : ByteArray} {l hh : Nat} {lo hi : Option Operand} (hu : P.underlying t = some .string) (hx : ev f x = some (.string s)) (hl : bnd f lo 0 l) (hhi : bnd f hi s.size hh) (h1 : l ≤ hh) (h2 : hh ≤ s.size) (hs : s.extract l hh = s') :
    PureV P n ⟨some d, .slice t x lo hi none, ty, pos, af, g⟩ f (.string s') := fun a ha w => by
  subst hs
  have hb := run_sliceBounds (P := P) (w := w) (s := false) ha hl hhi h1 h2
  simp [execOp, ha.ev hx, Instr.sliceAt, Instr.slice, run_underlying hu, hb]

/- append -/
theorem S_append {e : TypeId} {z : Value} {m by_ base : Nat} {v : Value} {len : Nat} {xs : List Value} {A : Option Addr} {k c : Nat} {news : List Value}
    (hu : P.underlying t = some (.slice e)) (hi : Zm P e = some (some z, m, by_)) (hz : z.cells.size = m) (hm : 0 < m) (hx : ev f x = some v) (hown : w.ownsRow base e m v len xs) (hy : ev f y = some (.slice A k c)) (hr : SlR w A news) (hl : news.length = k * m)
    (hone : ∀ u ∈ news, u.oneCell' = true) (hbase : base ≤ w.heap.size) (h63 : len + k ≤ maxLen) (hby : (len + k) * by_ ≤ 140737488355328)
    (h : ∀ v' w', w'.ownsRow base e m v' (len + k) (xs ++ news) → Mv (Zx v) w w' → (∀ b, Zx v' b → Zx v b ∨ w.heap.size ≤ b) → N ((d, v') :: f) ds w') (hn : Nat.blt d n = true := by rfl) :
    opF P n ⟨some d, .call { callee := .builtin .append, args := #[x, y], argTypes := #[t, t] }, ty, pos, af, g⟩ N Q f ds w := by
  obtain ⟨i, hi1, hi2, hi3, hi4⟩ := Zz hi
  have key : ∃ v' w', (Builtin.append_ #[t, t] ty #[v, .slice A k c]).run P w = .ok v' w' ∧ w'.ownsRow base e m v' (len + k) (xs ++ news) ∧ Mv (Zx v) w w' ∧ (∀ b, Zx v' b → Zx v b ∨ w.heap.size ≤ b) := by
    have hk : A = none → k = 0 := fun hA => by
      rcases hr with rfl | ⟨b, off, hA', _⟩
      · have h0 : k * m = 0 := by simpa using hl.symm
        rcases Nat.mul_eq_zero.1 h0 with h0 | h0
        · exact h0
        · omega
      · rw [hA] at hA'; cases hA'
    cases A with
    | none =>
      obtain rfl : k = 0 := hk rfl
      obtain rfl : news = [] := List.eq_nil_of_length_eq_zero (by rw [hl, Nat.zero_mul])
      have := run_append_owned_none (P := P) w base t ty e i m hu hi1 v len xs hown
      refine ⟨v, w, ?_, by simpa using hown, Mv.refl w, fun b hb => .inl hb⟩
      obtain ⟨A', cap', rfl, _⟩ := own_reads hown
      obtain ⟨h1, h2⟩ := hown
      rcases h2 with ⟨hv, h0⟩ | ⟨gg, cap, cur, hv, hg, hh, hnc, _⟩
      · cases hv
        simp [Builtin.append_, run_underlying hu, sizeOf, typeInfo, hi1, Builtin.lenOf, Builtin.firstCells]
      · cases hv
        simp [Builtin.append_, run_underlying hu, sizeOf, typeInfo, hi1, Builtin.lenOf, Builtin.firstCells, hnc, storeCells]
    | some ad =>
      have hnews : ∀ j u, news[j]? = some u → w.cell? (ad.add j) = some u := fun j u hu' => by
        rcases hr with rfl | ⟨b, off, hA, hrow⟩
        · simp at hu'
        · obtain rfl := Option.some.inj hA
          rw [Addr.add_lit]; exact hrow j u hu'
      obtain ⟨v', w', hrun, h2, h3, _, h5⟩ := run_append_own_at (P := P) w base t ty e i z m by_ hu hi1 hi2 hi3 hi4 hz hm v len xs hown ad k c news hl hnews hone h63 hby hbase
      refine ⟨v', w', hrun, h2, Mv.ofGrown h3, fun b hb => ?_⟩
      rcases h5 with h5 | h5
      · exact .inl (by unfold Zx; rw [← h5]; exact hb)
      · right
        unfold Zx at hb
        rw [h5] at hb
        have := Option.some.inj hb
        omega
  obtain ⟨v', w', hrun, h1, h2, h3⟩ := key
  exact Yn (fun a ha => by simp [execOp, resolve, invoke, builtin, ha.ev hx, ha.ev hy, hrun]) (h v' w' h1 h2 h3) rfl hn

/-- A slice of so many things, written out: one part each, in order. -/
theorem ZQ {e : TypeId} {z : Option Value} {m by_ : Nat} (hu : P.underlying t = some (.slice e)) (hi : Zm P e = some (z, m, by_)) (h : ∀ b w', w'.ownsRow w.heap.size e m (.slice (some ⟨b, 0, none⟩) 0 0) 0 [] → Mv No w w' → w.heap.size ≤ b → N ((d, .slice (some ⟨b, 0, none⟩) 0 0) :: f) ds w') (hn : Nat.blt d n = true := by rfl) :
    opF P n ⟨some d, .buildSlice t 0 #[], ty, pos, af, g⟩ N Q f ds w := by
  obtain ⟨i, hi1, hz⟩ := Option.map_eq_some_iff.1 hi
  simp only [Prod.mk.injEq] at hz
  refine Yn (w' := w.alloc (.cells #[] e)) (v := .slice (some ⟨w.heap.size, 0, none⟩) 0 0) (fun a _ => ?_) (h w.heap.size _ ?_ (Mv.alloc w _) (Nat.le_refl _)) rfl hn
  · simp [execOp, Instr.buildSlice, run_underlying hu, sizeOf, typeInfo, hi1, Instr.fill, newRow]
    congr 2
    exact Array.eq_empty_of_size_eq_zero (by simp)
  · refine ⟨by simp, .inr ⟨w.heap.size, 0, #[], rfl, Nat.le_refl _, ?_, Nat.le_refl _, Nat.zero_le _, by simp, by simp⟩⟩
    simpa [Blk] using Blk.new w [] e

theorem S_makeSlice {e : TypeId} {z : Value} {m by_ base : Nat} {k k' : IntKind} {L C : Int} {len : Nat} (hu : P.underlying t = some (.slice e)) (hi : Zm P e = some (some z, m, by_)) (hx : ev f x = some (.int k L)) (hy : ev f y = some (.int k' C)) (hL : L = (len : Int)) (hC : C = (len : Int)) (hb : by_ * len ≤ 281474976710656) (h63 : len ≤ maxLen) (hbase : base ≤ w.heap.size)
    (h : ∀ b w', w'.ownsRow base e m (.slice (some ⟨b, 0, none⟩) len len) len (madeCells z.cells (len * m)).toList → Mv No w w' → w.heap.size ≤ b → N ((d, .slice (some ⟨b, 0, none⟩) len len) :: f) ds w') (hn : Nat.blt d n = true := by rfl) :
    opF P n ⟨some d, .makeSlice t x y, ty, pos, af, g⟩ N Q f ds w := by
  obtain ⟨i, hi1, hi2, hi3, hi4⟩ := Zz hi
  subst hL; subst hC; subst hi4
  obtain ⟨w', hrun, r1, r2⟩ := run_make_full (P := P) w base t e i z m hu hi1 hi2 hi3 k k' len hb h63 hbase
  exact Yn (fun a ha => by simp [execOp, ha.ev hx, ha.ev hy, hrun]) (h w.heap.size w' r1 ⟨r2.os, r2.tape, r2.output, r2.size, fun k hk _ => r2.block k hk (by simp)⟩ (Nat.le_refl _)) rfl hn

/- strings -/
theorem bytes_eq (a b : ByteArray) : (a.toList == b.toList) = decide (a = b) := by
  have : (a.toList = b.toList) ↔ a = b := ⟨fun h => by rw [ByteArray.toList_eq, ByteArray.toList_eq, Array.toList_inj] at h; cases a; cases b; simp only at h; rw [h], fun h => by rw [h]⟩
  by_cases hab : a = b
  · simp [hab]
  · have : ¬ a.toList = b.toList := fun h => hab (this.1 h)
    simp [hab, this]
theorem ZR {a b : ByteArray} {β : Bool} (hx : ev f x = some (.string a)) (hy : ev f y = some (.string b)) (hβ : decide (a = b) = β) : PureV P n ⟨some d, .binOp .eql t x y yt, ty, pos, af, g⟩ f (.bool β) :=
  fun z hz w => by subst hβ; simp [execOp, hz.ev hx, hz.ev hy, eqGuard, binOp, Op.stringOp, bytes_eq]
theorem Z4 {a b : ByteArray} {β : Bool} (hx : ev f x = some (.string a)) (hy : ev f y = some (.string b)) (hβ : decide (a ≠ b) = β) : PureV P n ⟨some d, .binOp .neq t x y yt, ty, pos, af, g⟩ f (.bool β) :=
  fun z hz w => by subst hβ; simp [execOp, hz.ev hx, hz.ev hy, eqGuard, binOp, Op.stringOp, bytes_eq]
theorem P_addT {a b : ByteArray} (hx : ev f x = some (.string a)) (hy : ev f y = some (.string b)) (hs : a.size + b.size ≤ 9223372036854775807) : PureV P n ⟨some d, .binOp .add t x y yt, ty, pos, af, g⟩ f (.string (a ++ b)) :=
  fun z hz w => by
    have h1 : ¬ (((a.size + b.size : Nat) : Int) > IntKind.i64.max) := by
      have : IntKind.i64.max = 9223372036854775807 := by decide
      rw [this]; omega
    simp only [execOp, hz.ev hx, hz.ev hy, eqGuard, binOp, Op.stringOp]
    simp only [if_neg h1]
    simp
theorem run_guardB {op : BinOp} {a b : Bool} : (eqGuard op t x y (.bool a) (.bool b)).run P w = .ok () w := by cases op <;> simp [eqGuard]
theorem run_guardP {op : BinOp} {a b : Option Addr} : (eqGuard op t x y (.pointer a) (.pointer b)).run P w = .ok () w := by cases op <;> simp [eqGuard]
theorem run_equalB (hu : P.underlying t = some .bool) (a b : Bool) : (Op.equal t (.bool a) (.bool b)).run P w = .ok (a == b) w := by
  have key : ∀ d, (Op.equalIn (d + 1) t (.bool a) (.bool b)).run P w = .ok (a == b) w := fun d => by simp [Op.equalIn, run_underlying hu]
  exact key 9999
theorem run_equalP {e : TypeId} (hu : P.underlying t = some (.pointer e)) (a : Option Addr) : (Op.equal t (.pointer a) (.pointer none)).run P w = .ok a.isNone w := by
  have key : ∀ d, (Op.equalIn (d + 1) t (.pointer a) (.pointer none)).run P w = .ok a.isNone w := fun d => by cases a <;> simp [Op.equalIn, run_underlying hu]
  exact key 9999
theorem P_eqB {a b β : Bool} (hu : P.underlying t = some .bool) (hx : ev f x = some (.bool a)) (hy : ev f y = some (.bool b)) (hβ : (a == b) = β) : PureV P n ⟨some d, .binOp .eql t x y yt, ty, pos, af, g⟩ f (.bool β) :=
  fun z hz w => by
    subst hβ
    have hb : binOp .eql t (.bool a) (.bool b) = (do pure (.bool (← Op.equal t (.bool a) (.bool b)))) := rfl
    simp only [execOp, hz.ev hx, hz.ev hy, Sem.run_bind, run_guardB, Result.andThen_ok, hb, run_equalB hu, Sem.run_pure]
theorem P_neB {a b β : Bool} (hu : P.underlying t = some .bool) (hx : ev f x = some (.bool a)) (hy : ev f y = some (.bool b)) (hβ : (!(a == b)) = β) : PureV P n ⟨some d, .binOp .neq t x y yt, ty, pos, af, g⟩ f (.bool β) :=
  fun z hz w => by
    subst hβ
    have hb : binOp .neq t (.bool a) (.bool b) = (do pure (.bool (!(← Op.equal t (.bool a) (.bool b))))) := rfl
    simp only [execOp, hz.ev hx, hz.ev hy, Sem.run_bind, run_guardB, Result.andThen_ok, hb, run_equalB hu, Sem.run_pure]
theorem P_eqNil {A : Option Addr} {e : TypeId} {β : Bool} (hu : P.underlying t = some (.pointer e)) (hx : ev f x = some (.pointer A)) (hy : ev f y = some (.pointer none)) (hβ : A.isNone = β) : PureV P n ⟨some d, .binOp .eql t x y yt, ty, pos, af, g⟩ f (.bool β) :=
  fun z hz w => by
    subst hβ
    have hb : binOp .eql t (.pointer A) (.pointer none) = (do pure (.bool (← Op.equal t (.pointer A) (.pointer none)))) := by cases A <;> rfl
    simp only [execOp, hz.ev hx, hz.ev hy, Sem.run_bind, run_guardP, Result.andThen_ok, hb, run_equalP hu, Sem.run_pure]
theorem P_neNil {A : Option Addr} {e : TypeId} {β : Bool} (hu : P.underlying t = some (.pointer e)) (hx : ev f x = some (.pointer A)) (hy : ev f y = some (.pointer none)) (hβ : A.isSome = β) : PureV P n ⟨some d, .binOp .neq t x y yt, ty, pos, af, g⟩ f (.bool β) :=
  fun z hz w => by
    subst hβ
    have hb : binOp .neq t (.pointer A) (.pointer none) = (do pure (.bool (!(← Op.equal t (.pointer A) (.pointer none))))) := by cases A <;> rfl
    have hs : (!A.isNone) = A.isSome := by cases A <;> rfl
    simp only [execOp, hz.ev hx, hz.ev hy, Sem.run_bind, run_guardP, Result.andThen_ok, hb, run_equalP hu, Sem.run_pure, hs]
end
end Go.Proofs.YtnoioimphcmeiaaGreatDoor
namespace Go.Proofs.YtnoioimphcmeiaaGreatDoor
open Go.RowKit

def frArgs : Nat → List Value → Fr
  | _, [] => []
  | i, v :: r => (i, v) :: frArgs (i + 1) r

theorem frArgs_get : ∀ (i : Nat) (l : List Value) (s : Nat) (v : Value), Ya (frArgs i l) s = some v → i ≤ s ∧ l[s - i]? = some v
  | i, [], s, v, h => by simp [frArgs, Ya] at h
  | i, u :: r, s, v, h => by
    by_cases hs : i = s
    · subst hs
      have : u = v := by simpa [frArgs, Ya] using h
      simp [this]
    · have hb : Nat.beq i s = false := nbeq_ne hs
      have h' : Ya (frArgs (i + 1) r) s = some v := by simpa [frArgs, Ya, hb] using h
      obtain ⟨h1, h2⟩ := frArgs_get (i + 1) r s v h'
      refine ⟨by omega, ?_⟩
      rw [show s - i = (s - (i + 1)) + 1 by omega, List.getElem?_cons_succ]
      exact h2

/-- What the results hold. -/
def resF (P : Program) (f : Fr) (w : World) : List ResultVar → List Value → Prop
  | [], [] => True
  | .tmp t :: r, v :: vs => Ya f t = some v ∧ resF P f w r vs
  | .cell a ty :: r, v :: vs => (∃ A, Ya f a = some (.pointer (some A)) ∧ (loadVar ty A).run P w = .ok v w) ∧ resF P f w r vs
  | _, _ => False

def packF : List Value → Value
  | [v] => v
  | vs => .tuple vs.toArray

def bodyF (P : Program) (n : Nat) (fn : Func) (R : Value → World → Prop) : Post := fun e f ds w =>
  match e with
  | .ret | .normal => ds = [] ∧ ∃ vs, resF P f w fn.results.toList vs ∧ R (packF vs) w
  | _ => False

section
variable {P : Program} {n : Nat} {N : Nxt} {Q : Post} {f : Fr} {ds : List Deferred} {w w' : World}
variable {d : Nat} {x y : Operand} {t yt ty : TypeId} {pos : String} {af : Array Edge} {g : Option (Nat × Bool)}

theorem run_asAddr {A : Addr} : (asAddr (.pointer (some A))).run P w = .ok A w := rfl
theorem run_results_list {a : Act} (ha : Of n f a) : ∀ (l : List ResultVar) (vs : List Value), resF P f w l vs →
    (l.mapM (m := Sem) fun (rv : ResultVar) => match rv with
      | .tmp t => pure (a.tmps.getD t undef)
      | .cell b t => do loadVar t (← asAddr (a.tmps.getD b undef))).run P w = .ok vs w
  | [], [], _ => by simp
  | [], _ :: _, h => h.elim
  | .tmp t :: r, [], h => h.elim
  | .cell _ _ :: r, [], h => h.elim
  | .tmp t :: r, v :: vs, ⟨h1, h2⟩ => by
    have hv : a.tmps.getD t undef = v := ha.ev (x := .tmp t) h1
    have ih := run_results_list ha r vs h2
    simp only [List.mapM_cons, Sem.run_bind, Sem.run_pure, Result.andThen_ok, hv]
    rw [ih]
    simp
  | .cell b ty :: r, v :: vs, ⟨⟨A, h1, h3⟩, h2⟩ => by
    have hv : a.tmps.getD b undef = .pointer (some A) := ha.ev (x := .tmp b) h1
    have ih := run_results_list ha r vs h2
    simp only [List.mapM_cons, Sem.run_bind, Sem.run_pure, Result.andThen_ok, hv, run_asAddr, h3]
    rw [ih]
    simp

theorem run_results {a : Act} {fn : Func} {vs : List Value} (ha : Of n f a) (h : resF P f w fn.results.toList vs) : (results fn a.tmps).run P w = .ok (packF vs) w := by
  have hl := run_results_list (P := P) (w := w) ha fn.results.toList vs h
  unfold results
  rw [Sem.run_bind]
  have e : (fn.results.mapM (m := Sem) fun (rv : ResultVar) => match rv with
      | .tmp t => pure (a.tmps.getD t undef)
      | .cell b t => do loadVar t (← asAddr (a.tmps.getD b undef))).run P w = .ok vs.toArray w := by
    rw [Array.mapM_eq_mapM_toList, Sem.run_map, hl]
    simp
  erw [e]
  simp only [Result.andThen_ok, Sem.run_pure]
  congr 1
  cases vs with
  | nil => simp [packF]
  | cons v r => cases r <;> simp [packF]

theorem zN {k : FuncId} {fn : Func} {c : Code} {args : List Value} {R : Value → World → Prop} (hf : P.funcs[k]? = some fn) (hn : fn.ntmps = n) (hl : Nat.ble args.length n = true) (hb : fn.body = some c) (h : wpF P n c (bodyF P n fn R) (frArgs 0 args) [] w) : Ret P k args w R := by
  have hl' : args.length ≤ n := Nat.le_of_ble_eq_true hl
  refine calls_of_wp hf hb ?_
  have hof : Of n (frArgs 0 args) { tmps := args.toArray ++ Array.replicate (fn.ntmps - args.toArray.size) undef, defers := [] } := by
    refine ⟨by simp [hn]; omega, fun s v hv => ?_⟩
    obtain ⟨_, h2⟩ := frArgs_get 0 args s v hv
    have hlt : s < args.length := by
      rcases Nat.lt_or_ge s args.length with hl | hl
      · exact hl
      · rw [Nat.sub_zero, List.getElem?_eq_none hl] at h2; cases h2
    rw [Array.getElem?_append_left (by simpa using hlt)]
    simpa using h2
  refine wp_mono (h _ hof rfl) ?_
  rintro e a w' ⟨f', hof', hq⟩
  cases e with
  | ret =>
    obtain ⟨hd, vs, hr, hR⟩ := hq
    exact ⟨hd, _, run_results hof' hr, _, rfl, hR⟩
  | normal =>
    obtain ⟨hd, vs, hr, hR⟩ := hq
    exact ⟨hd, _, run_results hof' hr, _, rfl, hR⟩
  | _ => exact hq.elim

theorem zC {fn : Func} {R : Value → World → Prop} {r : Nat} {v : Value} (hr : fn.results = #[.tmp r]) (hv : Ya f r = some v) (h : R v w) : bodyF P n fn R .ret f [] w := ⟨rfl, [v], by rw [hr]; exact ⟨hv, trivial⟩, h⟩
theorem Z7 {fn : Func} {R : Value → World → Prop} {r s : Nat} {v u : Value} (hr : fn.results = #[.tmp r, .tmp s]) (hv : Ya f r = some v) (hu : Ya f s = some u) (h : R (.tuple #[v, u]) w) : bodyF P n fn R .ret f [] w := ⟨rfl, [v, u], by rw [hr]; exact ⟨hv, hu, trivial⟩, h⟩
theorem Yv {fn : Func} {R : Value → World → Prop} {r s q : Nat} {v u z : Value} (hr : fn.results = #[.tmp r, .tmp s, .tmp q]) (hv : Ya f r = some v) (hu : Ya f s = some u) (hz : Ya f q = some z) (h : R (.tuple #[v, u, z]) w) : bodyF P n fn R .ret f [] w := ⟨rfl, [v, u, z], by rw [hr]; exact ⟨hv, hu, hz, trivial⟩, h⟩
theorem F_ret0 {fn : Func} {R : Value → World → Prop} (hr : fn.results = #[]) (h : R (.tuple #[]) w) : bodyF P n fn R .ret f [] w := ⟨rfl, [], by rw [hr]; trivial, h⟩
theorem F_end0 {fn : Func} {R : Value → World → Prop} (hr : fn.results = #[]) (h : R (.tuple #[]) w) : bodyF P n fn R .normal f [] w := ⟨rfl, [], by rw [hr]; trivial, h⟩
/-- Results of whatever kind. -/
theorem yk {fn : Func} {R : Value → World → Prop} {rs : List ResultVar} (vs : List Value) (hr : fn.results = rs.toArray) (hv : resF P f w rs vs) (h : R (packF vs) w) : bodyF P n fn R .ret f [] w := ⟨rfl, vs, by rw [hr]; exact hv, h⟩

theorem zu {b off m : Nat} {cs : List Value} (hs : YB P t m = true) (hr : Row w b off cs) (hm : cs.length = m) : (loadVar t ⟨b, off, none⟩).run P w = .ok (.agg cs.toArray) w := by
  subst hm
  have hl := run_loadCells_list (P := P) w ⟨b, off, none⟩ cs (fun j v hv => by rw [Addr.add_lit]; exact hr j v hv)
  simp [loadVar, (ZS (w := w) hs).1, (ZS (w := w) hs).2, hl]
theorem run_loadVar_scalar {A : Addr} {v : Value} (hs : Zg P t = true) (hc : w.cell? A = some v) : (loadVar t A).run P w = .ok v w := by
  simp [loadVar, y8 hs, run_load, hc]

/-- A byte as a value. -/
def bv (b : UInt8) : Value := .int .u8 (b.toNat : Int)
theorem bv_one (l : List UInt8) : ∀ u ∈ l.map bv, u.oneCell' = true := fun u hu => by
  obtain ⟨b, _, rfl⟩ := List.mem_map.1 hu
  rfl
theorem bv_ofNat {x : Nat} (h : x < 256) : (.int .u8 (x : Int) : Value) = bv (UInt8.ofNat x) := by
  simp only [bv, UInt8.toNat_ofNat']
  rw [Nat.mod_eq_of_lt h]
/-- A text out of bytes. -/
def str (l : List UInt8) : ByteArray := ⟨l.toArray⟩
theorem yR (l : List UInt8) : (str l).size = l.length := by simp [str, ByteArray.size]
theorem ZH {a b : List UInt8} (h : str a = str b) : a = b := by
  have := congrArg (fun s : ByteArray => s.data.toList) h
  simpa [str] using this
theorem str_append (a b : List UInt8) : str a ++ str b = str (a ++ b) := by
  simp only [str]
  apply ByteArray.ext
  simp
theorem str_cut {bs : List UInt8} {i j : Nat} : (str bs).extract i j = str ((bs.take j).drop i) := by
  apply ByteArray.ext
  simp only [str, ByteArray.data_extract]
  apply Array.ext'
  simp [List.extract_eq_take_drop, List.drop_take]
theorem yd {bs : List UInt8} {i : Nat} {c : UInt8} (h : bs[i]? = some c) : (str bs).data.toList[i]? = some c := by simpa [str] using h
theorem str_eta (s : ByteArray) : str s.data.toList = s := by cases s; simp [str]

theorem S_bytesStr {e len cap : Nat} {A : Option Addr} {l : List UInt8} (hu : P.underlying t = some (.slice e)) (he : P.underlying e = some (.int .u8)) (hd : P.underlying yt = some .string) (hx : ev f x = some (.slice A len cap)) (hr : SlR w A (l.map bv)) (hl : l.length = len)
    (h : N ((d, .string (str l)) :: f) ds w) (hn : Nat.blt d n = true := by rfl) : opF P n ⟨some d, .convert t yt x, ty, pos, af, g⟩ N Q f ds w :=
  Yn (fun a ha => by
    have hrun : (convert t yt (.slice A len cap)).run P w = .ok (.string (str l)) w := by
      rcases hr with hr | ⟨b, off, rfl, hrow⟩
      · obtain rfl : l = [] := by simpa using hr
        subst hl
        cases A with
        | none => rw [run_convert_bytes_nil w t e hu he _ _ yt hd]; rfl
        | some ad =>
          rw [run_convert_bytes_string w t yt e _ _ _ hu he hd, run_bytesToString w ad _ cap [] (by simpa using run_loadCells_list (P := P) w ad [] (by simp))]
          rfl
      · have := run_convert_bytes_arg (P := P) w t e hu he b off len cap (l.map fun b => (b.toNat : Int)) (by simpa using hl) (fun i hi => by
          have hv : (l.map bv)[i]? = some (bv l[i]) := by simp [hl ▸ hi]
          rw [hrow i _ hv, bv]
          have hi' : i < l.length := by omega
          simp [List.getD, List.getElem?_eq_getElem hi']) yt hd
        rw [this]
        congr 2
        simp only [strOfNums, List.map_map, str]
        congr 2
        have : ((fun n : Int => UInt8.ofNat n.toNat) ∘ fun b : UInt8 => (b.toNat : Int)) = id := by
          funext b; simp
        rw [this, List.map_id]
    simp [execOp, ha.ev hx, hrun]) h rfl hn

theorem strCells_eq (s : ByteArray) : Lib.strCells s = s.data.toList.map bv := rfl

/-- append(b, s...), s a text. -/
theorem S_appendT {tt ts : TypeId} {e base len : Nat} {v : Value} {xs : List Value} {s : ByteArray} (hu : P.underlying tt = some (.slice e)) (hs : P.underlying ts = some .string) (hi : Zm P e = some (some (.int .u8 0), 1, 1)) (hx : ev f x = some v) (hown : w.ownsRow base e 1 v len xs) (hy : ev f y = some (.string s)) (hbase : base ≤ w.heap.size) (h63 : len + s.size ≤ 140737488355328)
    (h : ∀ v' w', w'.ownsRow base e 1 v' (len + s.size) (xs ++ s.data.toList.map bv) → Mv (Zx v) w w' → N ((d, v') :: f) ds w') (hn : Nat.blt d n = true := by rfl) :
    opF P n ⟨some d, .call { callee := .builtin .append, args := #[x, y], argTypes := #[tt, ts] }, ty, pos, af, g⟩ N Q f ds w := by
  obtain ⟨i, hi1, hi2, hi3, hi4⟩ := Zz hi
  obtain ⟨v', w', hrun, h1, h2, _⟩ := Lib.run_append_own_string (P := P) w base tt ts ty e i hu hs hi1 hi2 hi3 hi4 v len xs hown s (by unfold maxLen; omega) h63 hbase
  rw [strCells_eq] at h1
  exact Yn (fun a ha => by simp [execOp, resolve, invoke, builtin, ha.ev hx, ha.ev hy, hrun]) (h v' w' h1 (Mv.ofGrown h2)) rfl hn

/-- copy onto a slice of one's own, of the same length. -/
theorem S_copyFull {tt ts : TypeId} {e m base b len c : Nat} {A : Option Addr} {xs news : List Value} (hu : P.underlying tt = some (.slice e)) (hs : csz P e m) (hx : ev f x = some (.slice (some ⟨b, 0, none⟩) len len)) (hown : w.ownsRow base e m (.slice (some ⟨b, 0, none⟩) len len) len xs) (hy : ev f y = some (.slice A len c)) (hr : SlR w A news) (hl : news.length = len * m) (hone : ∀ u ∈ news, u.oneCell' = true)
    (h : ∀ w', w'.ownsRow base e m (.slice (some ⟨b, 0, none⟩) len len) len news → Mv (At b) w w' → N ((d, .int .i64 len) :: f) ds w') (hn : Nat.blt d n = true := by rfl) :
    opF P n ⟨some d, .call { callee := .builtin .copy, args := #[x, y], argTypes := #[tt, ts] }, ty, pos, af, g⟩ N Q f ds w := by
  obtain ⟨i, hi, him⟩ := Option.map_eq_some_iff.1 hs
  have hold := hown
  obtain ⟨h1, h2⟩ := hown
  rcases h2 with ⟨hv, _⟩ | ⟨gg, cap, cur, hv, hg, hh, hnc, hcm, hcs, ht⟩
  · cases hv
  · cases hv
    have hload : (Builtin.firstCells m len (.slice A len c)).run P w = .ok news.toArray w := by
      rcases hr with rfl | ⟨b', off, rfl, hrow⟩
      · have h0 : len * m = 0 := by simpa using hl.symm
        cases A with
        | none => simp [Builtin.firstCells]
        | some ad => simpa [Builtin.firstCells, h0] using run_loadCells_list (P := P) w ad [] (by simp)
      · have := run_loadCells_list (P := P) w ⟨b', off, none⟩ news (fun j v hv => by rw [Addr.add_lit]; exact hrow j v hv)
        simpa [Builtin.firstCells, hl] using this
    have hst := run_storeCells_at (P := P) b 0 e news 0 cur w hh (by rw [hl, hcs]; omega) hone
    simp only [Nat.add_zero, List.take_zero, List.nil_append, Nat.zero_add] at hst
    refine Yn (v := .int .i64 len) (w' := w.setRow b (news ++ cur.toList.drop news.length).toArray) (fun a ha => ?_) (h _ ?_ ?_) rfl hn
    · simp [execOp, resolve, invoke, builtin, ha.ev hx, ha.ev hy, Builtin.copy_, run_underlying hu, Builtin.lenOf, sizeOf, typeInfo, hi, him, hload, hst, goInt]
    · refine ⟨hl, .inr ⟨b, len, _, rfl, hg, setRow_heap w b cur _ e _ hh, Nat.le_refl _, hcm, ?_, ?_⟩⟩
      · simp; rw [hl, hcs]; omega
      · rw [← hl]; simp
    · exact ⟨rfl, rfl, rfl, by simp, fun k _ hk => setRow_other w b k _ hk⟩

/-- '[]T{x}', x one cell. -/
theorem Yq {e by_ : Nat} {z v : Value} (hu : P.underlying t = some (.slice e)) (hi : Zm P e = some (some z, 1, by_)) (hz : z.cells.size = 1) (hx : ev f x = some v) (hone : v.oneCell' = true)
    (h : ∀ b w', Blk w' b [v] e → Mv No w w' → w.heap.size ≤ b → N ((d, .slice (some ⟨b, 0, none⟩) 1 1) :: f) ds w') (hn : Nat.blt d n = true := by rfl) : opF P n ⟨some d, .buildSlice t 1 #[(0, x)], ty, pos, af, g⟩ N Q f ds w := by
  obtain ⟨i, hi1, hi2, hi3, hi4⟩ := Zz hi
  have hvc : v.cells = #[v] := by cases v <;> first | rfl | simp [Value.oneCell'] at hone
  refine Yn (w' := w.alloc (.cells #[v] e)) (v := .slice (some ⟨w.heap.size, 0, none⟩) 1 1) (fun a ha => ?_) (h w.heap.size _ (Blk.new w [v] e) (Mv.alloc w _) (Nat.le_refl _)) rfl hn
  have hfill : ∀ c : Value, Instr.fill (fun i => some (i, 1)) #[c] [(0, v)] = some #[v] := fun c => by simp [Instr.fill, hvc]
  have hr : (Array.map (fun x => z.cells[x % z.cells.size]!) (Array.range 1)) = #[z.cells[0]!] := by
    apply Array.ext <;> simp [hz]
  simp [execOp, ha.ev hx, Instr.buildSlice, run_underlying hu, sizeOf, typeInfo, hi1, hi2, hi3, zeroValue, newRow]
  rw [hr, hfill]
  simp

/-- Of a struct type: its zero cells, and where the named fields lie (each one cell). -/
def ZZ (P : Program) (t : TypeId) (ix : List Nat) : Option (List Value × List Nat) :=
  match P.underlying t, P.info? t with
  | some (.struct _), some i => match i.zero with
    | some z => match ix.mapM fun j => (match P.underlying t with | some (.struct fs) => (fs[j]?).bind fun fd => (P.info? fd.type).bind fun inf => if inf.size = 1 then some fd.offset else none | _ => none) with
      | some offs => bif offs.all (fun o => Nat.blt o z.cells.size) && (match P.underlying t with | some (.struct fs) => fs.toList.all (fun fd => (P.info? fd.type).isSome) | _ => false) then some (z.cells.toList, offs) else none
      | none => none
    | none => none
  | _, _ => none

def setAll : List Value → List Nat → List Value → List Value
  | zs, o :: os, v :: vs => setAll (zs.set o v) os vs
  | zs, _, _ => zs

theorem setAll_length : ∀ (zs : List Value) (os : List Nat) (vs : List Value), (setAll zs os vs).length = zs.length
  | _, [], [] => by simp [setAll]
  | _, [], _ :: _ => by simp [setAll]
  | _, _ :: _, [] => by simp [setAll]
  | zs, o :: os, v :: vs => by simp [setAll, setAll_length _ os vs]

theorem one_cells {v : Value} (h : v.oneCell' = true) : v.cells = #[v] := by cases v <;> first | rfl | simp [Value.oneCell'] at h

theorem fill_build (places : Nat → Option (Nat × Nat)) : ∀ (ix : List Nat) (os : List Nat) (vs : List Value) (cells : Array Value), ix.length = vs.length → (∀ v ∈ vs, v.oneCell' = true) → ix.map places = os.map (fun o => some (o, 1)) → (∀ o ∈ os, o < cells.size) →
    Instr.fill places cells (ix.zip vs) = some (setAll cells.toList os vs).toArray
  | [], os, [], cells, _, _, hp, _ => by
    cases os with
    | nil => simp [Instr.fill, setAll]
    | cons o os => simp at hp
  | [], _, _ :: _, _, hl, _, _, _ => by simp at hl
  | _ :: _, _, [], _, hl, _, _, _ => by simp at hl
  | j :: ix, os, v :: vs, cells, hl, h1, hp, ho => by
    cases os with
    | nil => simp at hp
    | cons o os =>
      simp only [List.map_cons, List.cons.injEq] at hp
      have hv := one_cells (h1 v (by simp))
      have hlt := ho o (by simp)
      have ih := fill_build places ix os vs (cells.setIfInBounds o v) (by simpa using hl) (fun u hu => h1 u (by simp [hu])) hp.2 (fun o' ho' => by simpa using ho o' (by simp [ho']))
      simp only [List.zip_cons_cons, Instr.fill, hp.1, hv, List.size_toArray, List.length_singleton]
      rw [if_neg (by simp; omega)]
      have e : (Array.zipIdx #[v]).foldl (fun cs (x : Value × Nat) => cs.setIfInBounds (o + x.2) x.1) cells = cells.setIfInBounds o v := by simp
      simp only [Array.zipIdx] at e ih ⊢
      erw [e, ih]
      simp [setAll]

def Ye {α : Type} : Nat → List α → List (Nat × α)
  | _, [] => []
  | k, x :: r => (k, x) :: Ye (k + 1) r
theorem partsF_map {α β : Type} (g : α → β) : ∀ (k : Nat) (l : List α), (Ye k l).map (fun p => (p.1, g p.2)) = Ye k (l.map g)
  | _, [] => rfl
  | k, x :: r => by simp [Ye, partsF_map g (k + 1) r]
theorem fill_parts : ∀ (vs : List Value) (k : Nat) (cells : Array Value), (∀ v ∈ vs, v.oneCell' = true) → cells.size = k + vs.length →
    Instr.fill (fun i => some (i, 1)) cells (Ye k vs) = some (cells.toList.take k ++ vs).toArray
  | [], k, cells, _, hs => by
    simp only [Ye, Instr.fill, List.append_nil]
    rw [List.take_of_length_le (by simp at hs; simp; omega)]
  | v :: vs, k, cells, h1, hs => by
    have hv := one_cells (h1 v (by simp))
    have hk : k < cells.size := by simp at hs; omega
    have ih := fill_parts vs (k + 1) (cells.setIfInBounds k v) (fun u hu => h1 u (by simp [hu])) (by simp at hs ⊢; omega)
    simp only [Ye, Instr.fill, hv]
    simp only [List.size_toArray, List.length_singleton]
    rw [if_neg (by simp; omega)]
    have e : (Array.zipIdx #[v]).foldl (fun cs (x : Value × Nat) => cs.setIfInBounds (k + x.2) x.1) cells = cells.setIfInBounds k v := by simp
    simp only [Array.zipIdx] at e ih ⊢
    erw [e, ih]
    congr 1
    have e3 : (cells.setIfInBounds k v).toList.take (k + 1) = cells.toList.take k ++ [v] := by
      simp only [Array.toList_setIfInBounds]
      rw [List.take_succ_eq_append_getElem (by simpa using hk), List.take_set_of_le (Nat.le_refl k)]
      simp
    rw [e3]
    simp

/-- '[]T{x0, x1, ..}', each one cell. -/
theorem S_buildSliceN {e by_ m : Nat} {z : Value} {l : List Operand} {vs : List Value} (hu : P.underlying t = some (.slice e)) (hi : Zm P e = some (some z, 1, by_)) (hl : evs f l = some vs) (hone : ∀ v ∈ vs, v.oneCell' = true) (hm : l.length = m) (hpos : 0 < m) (hm24 : m ≤ 16777216)
    (h : ∀ b w', Blk w' b vs e → Mv No w w' → w.heap.size ≤ b → N ((d, .slice (some ⟨b, 0, none⟩) m m) :: f) ds w') (hn : Nat.blt d n = true := by rfl) : opF P n ⟨some d, .buildSlice t m (Ye 0 l).toArray, ty, pos, af, g⟩ N Q f ds w := by
  obtain ⟨i, hi1, hi2, hi3, hi4⟩ := Zz hi
  refine Yn (w' := w.alloc (.cells vs.toArray e)) (v := .slice (some ⟨w.heap.size, 0, none⟩) m m) (fun a ha => ?_) (h w.heap.size _ (Blk.new w vs e) (Mv.alloc w _) (Nat.le_refl _)) rfl hn
  have hvs := ha.evs hl
  have hlen : vs.length = m := by rw [← hvs]; simpa using hm
  have hp : (Ye 0 l).map (fun x => (x.1, a.eval x.2)) = Ye 0 vs := by rw [partsF_map, hvs]
  have hfill := fill_parts vs 0 ((Array.range m).map fun x => z.cells[x % z.cells.size]!) hone (by simp [hlen])
  simp only [List.take_zero, List.nil_append] at hfill
  have h24 : ¬ 16777216 < m := by omega
  have hm0 : m ≠ 0 := by omega
  simp only [execOp, Instr.buildSlice, Sem.run_bind, run_underlying hu, Result.andThen_ok]
  simp [sizeOf, typeInfo, hi1, hi3, h24, hm0, zeroValue, hi2, hp, hfill, newRow]

/-- A struct written out, its named fields one cell each. -/
theorem zW {ix : List Nat} {l : List Operand} {vs zs : List Value} {offs : List Nat} (hbi : ZZ P t ix = some (zs, offs)) (hl : evs f l = some vs) (hone : ∀ v ∈ vs, v.oneCell' = true) (hil : ix.length = l.length) : PureV P n ⟨some d, .build t (ix.zip l).toArray, ty, pos, af, g⟩ f (.agg (setAll zs offs vs).toArray) := fun a ha w => by
  unfold ZZ at hbi
  split at hbi
  · rename_i fs i hu hi
    split at hbi
    · rename_i z hz
      split at hbi
      · rename_i os hos
        cases hcond : (os.all (fun o => Nat.blt o z.cells.size) && (match P.underlying t with | some (.struct fs) => fs.toList.all (fun fd => (P.info? fd.type).isSome) | _ => false)) with
        | true =>
          rw [hcond] at hbi
          simp only [cond_true, Option.some.injEq, Prod.mk.injEq] at hbi
          obtain ⟨rfl, rfl⟩ := hbi
          simp only [hu] at hos hcond
          simp only [Bool.and_eq_true] at hcond
          obtain ⟨hall, hsz⟩ := hcond
          have hvs := ha.evs hl
          have hplaces : (fs.mapM (m := Sem) fun fd => do pure (fd.offset, ← sizeOf fd.type)).run P w = .ok (fs.map fun fd => (fd.offset, ((P.info? fd.type).map (·.size)).getD 0)) w := by
            rw [Array.mapM_eq_mapM_toList, Sem.run_map]
            have : ∀ l : List Field, (l.all fun fd => (P.info? fd.type).isSome) = true → (l.mapM (m := Sem) fun fd => do pure (fd.offset, ← sizeOf fd.type)).run P w = .ok (l.map fun fd => (fd.offset, ((P.info? fd.type).map (·.size)).getD 0)) w := by
              intro l
              induction l with
              | nil => intro _; simp
              | cons fd l ih =>
                intro hl
                simp only [List.all_cons, Bool.and_eq_true] at hl
                obtain ⟨inf, hinf⟩ := Option.isSome_iff_exists.1 hl.1
                have ih' := ih hl.2
                simp only [List.mapM_cons, Sem.run_bind, Sem.run_pure, sizeOf, typeInfo, run_program, Result.andThen_ok, hinf]
                simp only [sizeOf, typeInfo] at ih'
                rw [ih']
                simp [hinf]
            rw [this _ hsz]
            simp
            exact Array.ext' (by simp)
          have hmap : ix.map (fun j => (fs.map fun fd => (fd.offset, ((P.info? fd.type).map (·.size)).getD 0))[j]?) = os.map (fun o => some (o, 1)) := by
            clear hil hall
            induction ix generalizing os with
            | nil => simp at hos; subst hos; rfl
            | cons j ix ih =>
              simp only [List.mapM_cons, Option.bind_eq_bind, Option.bind_eq_some_iff, Option.pure_def, Option.some.injEq] at hos
              obtain ⟨o, ho, os', hos', rfl⟩ := hos
              obtain ⟨fd, hfd, inf, hinf, hif⟩ := ho
              split at hif
              · rename_i h1
                obtain rfl := Option.some.inj hif
                simp only [List.map_cons]
                rw [ih _ hos']
                simp [hfd, hinf, h1]
              · cases hif
          have hfill := fill_build (fun j => (fs.map fun fd => (fd.offset, ((P.info? fd.type).map (·.size)).getD 0))[j]?) ix os vs z.cells (by rw [← hvs]; simpa using hil) hone hmap (fun o ho => by simpa using (List.all_eq_true.1 hall) o ho)
          have hparts : ((ix.zip l).toArray.map fun (x : Nat × Operand) => (x.1, a.eval x.2)).toList = ix.zip vs := by
            rw [← hvs, List.zip_map_right]; simp
          simp only [execOp, Sem.run_bind, Instr.build, zeroValue, typeInfo, run_program, Result.andThen_ok, hi, hz, Sem.run_pure, run_underlying hu]
          rw [hplaces]
          simp only [Result.andThen_ok]
          rw [hparts, hfill]
          simp
        | false => rw [hcond] at hbi; cases hbi
      · cases hbi
    · cases hbi
  · cases hbi

end
end Go.Proofs.YtnoioimphcmeiaaGreatDoor
namespace Go.Proofs.YtnoioimphcmeiaaGreatDoor
open Go.RowKit

theorem yh {p q : Prop} (h : p) (k : p → q) : p ∧ q := ⟨h, k h⟩

section
variable {P : Program} {n : Nat} {Q : Post} {f : Fr} {ds : List Deferred} {w : World} {S : World → Prop}
def wpAH (P : Program) (n : Nat) (ops : Array Oper) (Q : Post) (S : World → Prop) (fuel : Nat) (listed : Array Bool) (f : Fr) (ds : List Deferred) (w : World) : Prop :=
  ∀ a, Of n f a → a.defers = ds → wpAnyH P .any ops (QA n Q) S fuel listed a w

theorem C_drawS {id : Nat} {ops : Array Oper} (S : World → Prop) (m : Nat) (hm : P.follows .mixedOrders = true) (hsz : ops.size = m) (hS : S w.drew) (h : S w.drew → wpAH P n ops Q S m (Array.replicate m false) f ds w.drew) : wpF P n (.region id ops true) Q f ds w :=
  fun a ha hd => wp_region_held (S := S) hm (by rw [hsz]; exact h hS a ha hd)
/-- All that stood when the region began stays. -/
theorem yP {id : Nat} {ops : Array Oper} (m : Nat) (hm : P.follows .mixedOrders = true) (hsz : ops.size = m) (h : Mv No w w.drew → wpAH P n ops Q (fun w' => Mv No w w') m (Array.replicate m false) f ds w.drew) : wpF P n (.region id ops true) Q f ds w :=
  C_drawS (fun w' => Mv No w w') m hm hsz (Mv.refl w).drew h
/-- All but one block. -/
theorem C_drawG {id : Nat} {ops : Array Oper} (g m : Nat) (hm : P.follows .mixedOrders = true) (hsz : ops.size = m) (h : Mv (At g) w w.drew → wpAH P n ops Q (fun w' => Mv (At g) w w') m (Array.replicate m false) f ds w.drew) : wpF P n (.region id ops true) Q f ds w :=
  C_drawS (fun w' => Mv (At g) w w') m hm hsz (Mv.refl w).drew h

theorem yZ {ops : Array Oper} {fuel : Nat} {listed : Array Bool} (hr : Region.ready .any ops listed = []) (h : Q .normal f ds w) : wpAH P n ops Q S fuel listed f ds w :=
  fun a ha hd => wpAnyH_done hr ⟨f, ha, hd ▸ h⟩ fuel

theorem H_all {ops : Array Oper} {fuel : Nat} {listed : Array Bool} {rs : List Nat} (hr : Region.ready .any ops listed = rs) (hne : rs ≠ [])
    (h : ∀ i ∈ rs, ∀ a, Of n f a → a.defers = ds → wpOp P ops (QA n Q) i (fun a' w' => S w' ∧ wpAnyH P .any ops (QA n Q) S fuel (listed.setIfInBounds i true) a' w') a w) : wpAH P n ops Q S (fuel + 1) listed f ds w :=
  fun a ha hd => wpAnyH_all hr hne fun i hi => h i hi a ha hd

section
variable {ops : Array Oper} {fuel i d : Nat} {v : Value} {listed : Array Bool} {o : Oper}
theorem Z8 (ho : ops[i]? = some o) (h : opF P n o (fun f' ds' w' => S w' ∧ wpAH P n ops Q S fuel (listed.setIfInBounds i true) f' ds' w') Q f ds w) (hg : o.guard = none := by rfl) :
    ∀ a, Of n f a → a.defers = ds → wpOp P ops (QA n Q) i (fun a' w' => S w' ∧ wpAnyH P .any ops (QA n Q) S fuel (listed.setIfInBounds i true) a' w') a w := fun a ha hd =>
  wpOp_step ho fun K hK => by
    rw [if_pos (by simp [Region.wanted, hg])]
    exact h a ha hd K fun _ a' w' hof hN => hK a' w' ⟨hN.1, hN.2 a' hof rfl⟩
theorem H_yes {j dj : Nat} {b : Bool} (ho : ops[i]? = some o) (hv : Ya f dj = some (.bool b)) (h : opF P n o (fun f' ds' w' => S w' ∧ wpAH P n ops Q S fuel (listed.setIfInBounds i true) f' ds' w') Q f ds w) (hg : o.guard = some (j, b) := by rfl) (hj : (ops[j]?).bind (·.dst) = some dj := by rfl) :
    ∀ a, Of n f a → a.defers = ds → wpOp P ops (QA n Q) i (fun a' w' => S w' ∧ wpAnyH P .any ops (QA n Q) S fuel (listed.setIfInBounds i true) a' w') a w := fun a ha hd =>
  wpOp_step ho fun K hK => by
    have hw : Region.wanted o (yielded ops a.tmps) = true := by
      have := ha.val dj _ hv
      simp [Region.wanted, hg, yielded, hj, this]
    rw [if_pos hw]
    exact h a ha hd K fun _ a' w' hof hN => hK a' w' ⟨hN.1, hN.2 a' hof rfl⟩

abbrev HA (P : Program) (n : Nat) (ops : Array Oper) (Q : Post) (S : World → Prop) (fuel i : Nat) (listed : Array Bool) (f : Fr) (ds : List Deferred) (w : World) : Prop :=
  ∀ a, Of n f a → a.defers = ds → wpOp P ops (QA n Q) i (fun a' w' => S w' ∧ wpAnyH P .any ops (QA n Q) S fuel (listed.setIfInBounds i true) a' w') a w
theorem Ze (h : HA P n ops Q S fuel i listed f ds w) (hr : Region.ready .any ops listed = [i]) : wpAH P n ops Q S (fuel + 1) listed f ds w :=
  H_all hr (by simp) fun j hj => by
    have : j = i := by simpa using hj
    subst this; exact h
theorem H_two {i2 : Nat} (h : HA P n ops Q S fuel i listed f ds w) (h2 : HA P n ops Q S fuel i2 listed f ds w)
    (hr : Region.ready .any ops listed = [i, i2]) : wpAH P n ops Q S (fuel + 1) listed f ds w :=
  H_all hr (by simp) fun j hj => by
    have : j = i ∨ j = i2 := by simpa using hj
    rcases this with rfl | rfl
    · exact h
    · exact h2
theorem H_three {i2 i3 : Nat} (h : HA P n ops Q S fuel i listed f ds w) (h2 : HA P n ops Q S fuel i2 listed f ds w) (h3 : HA P n ops Q S fuel i3 listed f ds w)
    (hr : Region.ready .any ops listed = [i, i2, i3]) : wpAH P n ops Q S (fuel + 1) listed f ds w :=
  H_all hr (by simp) fun j hj => by
    have : j = i ∨ j = i2 ∨ j = i3 := by simpa using hj
    rcases this with rfl | rfl | rfl
    · exact h
    · exact h2
    · exact h3

/-- What yields the same in whatever world meets the condition. -/
def PureS (P : Program) (n : Nat) (S : World → Prop) (o : Oper) (f : Fr) (v : Value) : Prop := ∀ a, Of n f a → ∀ w, S w → (execOp a.eval o).run P w = .ok (.value v) w
theorem PureV.toS (h : PureV P n o f v) : PureS P n S o f v := fun a ha w _ => h a ha w

theorem H_take (ho : ops[i]? = some o) (hd : o.dst = some d) (hn : Nat.blt d n = true) (hs : Region.noSelect ops = true) (hf : Region.free .any ops listed i = true)
    (hr : (Region.ready .any ops listed).contains i = true) (hQ : ∀ c f ds w, Q (.panic c) f ds w → False) (hy : ∀ a, Of n f a → YieldsIf P ops S o v a) (hS : S w) (h : wpAH P n ops Q S fuel (listed.setIfInBounds i true) ((d, v) :: f) ds w) :
    wpAH P n ops Q S (fuel + 1) listed f ds w := fun a ha hds =>
  wpAnyH_take ho hs hf hr (fun c a w ⟨f, _, hq⟩ => (hQ c f _ w hq).elim) (hy a ha) hS (by rw [hd]; exact h _ (ha.put hn) hds)

theorem zp (ho : ops[i]? = some o) (hp : PureS P n S o f v) (h : wpAH P n ops Q S fuel (listed.setIfInBounds i true) ((d, v) :: f) ds w) (hS : S w) (hs : Region.noSelect ops = true) (hf : Region.free .any ops listed i = true) (hr : (Region.ready .any ops listed).contains i = true)
    (hQ : ∀ c f ds w, Q (.panic c) f ds w → False) (hd : o.dst = some d) (hn : Nat.blt d n = true) (hg : o.guard = none) : wpAH P n ops Q S (fuel + 1) listed f ds w :=
  H_take ho hd hn hs hf hr hQ (fun a ha => .inl ⟨by simp [Region.wanted, hg], hp a ha⟩) hS h
theorem zz {j dj : Nat} {b : Bool} (ho : ops[i]? = some o) (hp : PureS P n S o f v) (hv : Ya f dj = some (.bool b)) (h : wpAH P n ops Q S fuel (listed.setIfInBounds i true) ((d, v) :: f) ds w) (hS : S w) (hs : Region.noSelect ops = true) (hf : Region.free .any ops listed i = true) (hr : (Region.ready .any ops listed).contains i = true)
    (hQ : ∀ c f ds w, Q (.panic c) f ds w → False) (hd : o.dst = some d) (hn : Nat.blt d n = true) (hg : o.guard = some (j, b)) (hj : (ops[j]?).bind (·.dst) = some dj) : wpAH P n ops Q S (fuel + 1) listed f ds w :=
  H_take ho hd hn hs hf hr hQ (fun a ha => .inl ⟨by
    have := ha.val dj _ hv
    simp [Region.wanted, hg, yielded, hj, this], hp a ha⟩) hS h
theorem ym {j dj : Nat} {b b' : Bool} (ho : ops[i]? = some o) (hv : Ya f dj = some (.bool b')) (h : wpAH P n ops Q S fuel (listed.setIfInBounds i true) ((d, undef) :: f) ds w) (hS : S w) (hs : Region.noSelect ops = true) (hf : Region.free .any ops listed i = true) (hr : (Region.ready .any ops listed).contains i = true)
    (hQ : ∀ c f ds w, Q (.panic c) f ds w → False) (hd : o.dst = some d) (hn : Nat.blt d n = true) (hg : o.guard = some (j, b)) (hne : (b' == b) = false) (hj : (ops[j]?).bind (·.dst) = some dj) : wpAH P n ops Q S (fuel + 1) listed f ds w :=
  H_take ho hd hn hs hf hr hQ (fun a ha => .inr ⟨by
    have := ha.val dj _ hv
    simp only [Region.wanted, hg, yielded, hj, this, Option.bind_some]
    cases b <;> cases b' <;> simp_all, rfl⟩) hS h
theorem H_pureNu {j dj : Nat} {b : Bool} (ho : ops[i]? = some o) (hv : Ya f dj = some undef) (h : wpAH P n ops Q S fuel (listed.setIfInBounds i true) ((d, undef) :: f) ds w) (hS : S w) (hs : Region.noSelect ops = true) (hf : Region.free .any ops listed i = true) (hr : (Region.ready .any ops listed).contains i = true)
    (hQ : ∀ c f ds w, Q (.panic c) f ds w → False) (hd : o.dst = some d) (hn : Nat.blt d n = true) (hg : o.guard = some (j, b)) (hj : (ops[j]?).bind (·.dst) = some dj) : wpAH P n ops Q S (fuel + 1) listed f ds w :=
  H_take ho hd hn hs hf hr hQ (fun a ha => .inr ⟨by
    have := ha.val dj _ hv
    simp [Region.wanted, hg, yielded, hj, this, undef], rfl⟩) hS h
end

variable {d : Nat} {x y : Operand} {t yt ty : TypeId} {pos : String} {af : Array Edge} {g : Option (Nat × Bool)}
theorem ya {A : Addr} {v : Value} (hs : Zg P t = true) (hx : ev f x = some (.pointer (some A))) (hc : ∀ w, S w → w.cell? A = some v) : PureS P n S ⟨some d, .load t x, ty, pos, af, g⟩ f v :=
  fun a ha w hw => by simp [execOp, ha.ev hx, Instr.loadAt, Instr.sureAddr, loadVar, y8 hs, run_load, hc w hw]
theorem yE {b off m : Nat} {cs : List Value} (hs : YB P t m = true) (hx : ev f x = some (.pointer (some ⟨b, off, none⟩))) (hr : ∀ w, S w → Row w b off cs) (hm : cs.length = m) : PureS P n S ⟨some d, .load t x, ty, pos, af, g⟩ f (.agg cs.toArray) :=
  fun a ha w hw => by
    subst hm
    have hl := run_loadCells_list (P := P) w ⟨b, off, none⟩ cs (fun j v hv => by rw [Addr.add_lit]; exact hr w hw j v hv)
    simp [execOp, ha.ev hx, Instr.loadAt, Instr.sureAddr, loadVar, (ZS (w := w) hs).1, (ZS (w := w) hs).2, hl]
end
end Go.Proofs.YtnoioimphcmeiaaGreatDoor
namespace Go.Proofs.YtnoioimphcmeiaaGreatDoor
open Go.RowKit

theorem ofInt32 (a : Nat) (h : a < 4294967296) : (BitVec.ofInt IntKind.u32.bits (a : Int)).toNat = a := by
  show (BitVec.ofInt 32 (a : Int)).toNat = a
  rw [BitVec.ofInt_natCast, BitVec.toNat_ofNat]; exact Nat.mod_eq_of_lt (by omega)
theorem wU32' {n : Nat} (h : n < 4294967296) : IntKind.u32.wrap (n : Int) = (n : Int) := wU32 ⟨rfl, by omega, by omega⟩
theorem andU32 {a b : Nat} {c : Int} (ha : a < 4294967296) (hb : b < 4294967296) (hc : c = ((a &&& b : Nat) : Int)) : Z2 .and .u32 (a : Int) (b : Int) = c := by
  subst hc
  simp only [Z2]
  rw [BitVec.toNat_and, ofInt32 a ha, ofInt32 b hb]
  exact wU32' (Nat.lt_of_le_of_lt Nat.and_le_left ha)
theorem orU32 {a b : Nat} {c : Int} (ha : a < 4294967296) (hb : b < 4294967296) (hc : c = ((a ||| b : Nat) : Int)) : Z2 .or .u32 (a : Int) (b : Int) = c := by
  subst hc
  simp only [Z2]
  rw [BitVec.toNat_or, ofInt32 a ha, ofInt32 b hb]
  exact wU32' (Nat.or_lt_two_pow (n := 32) ha hb)
theorem xorU32 {a b : Nat} {c : Int} (ha : a < 4294967296) (hb : b < 4294967296) (hc : c = ((a ^^^ b : Nat) : Int)) : Z2 .xor .u32 (a : Int) (b : Int) = c := by
  subst hc
  simp only [Z2]
  rw [BitVec.toNat_xor, ofInt32 a ha, ofInt32 b hb]
  exact wU32' (Nat.xor_lt_two_pow (n := 32) ha hb)
theorem shrU32 {a s : Nat} {b c : Int} (hb : b = (s : Int)) (hs : s ≤ 32) (hc : c = ((a >>> s : Nat) : Int)) : (a : Int).fdiv (2 ^ (min b.toNat IntKind.u32.bits)) = c := by
  subst hb hc
  have e : min (s : Int).toNat IntKind.u32.bits = s := by
    show min (s : Int).toNat 32 = s
    omega
  rw [e, Nat.shiftRight_eq_div_pow, Int.natCast_ediv, Int.natCast_pow]
  exact Int.fdiv_eq_ediv_of_nonneg _ (by exact_mod_cast Nat.zero_le _)
theorem shlU32 {s : Nat} {b c : Int} (hb : b = (s : Int)) (hs : s < 32) (hc : c = ((2 ^ s : Nat) : Int)) : IntKind.u32.wrap (1 * 2 ^ (min b.toNat IntKind.u32.bits)) = c := by
  subst hb hc
  have e : min (s : Int).toNat IntKind.u32.bits = s := by
    show min (s : Int).toNat 32 = s
    omega
  rw [e, Int.one_mul]
  have : 2 ^ s < 2 ^ 32 := Nat.pow_lt_pow_right (by omega) hs
  have h2 := wU32' (n := 2 ^ s) this
  rw [Int.natCast_pow] at h2 ⊢
  exact h2

theorem negU32 {x : Nat} {c : Int} (h0 : x ≠ 0) (h : x < 4294967296) (hc : c = ((4294967296 - x : Nat) : Int)) : IntKind.u32.wrap (-(x : Int)) = c := by
  subst hc
  simp only [IntKind.wrap, IntKind.bits, IntKind.signed]
  simp
  omega
theorem wrapU32 {x : Nat} {a c : Int} (ha : a = (x : Int)) (hc : c = ((x % 4294967296 : Nat) : Int)) : IntKind.u32.wrap a = c := by
  subst ha hc
  simp only [IntKind.wrap, IntKind.bits, IntKind.signed]
  simp

section
variable {P : Program} {n : Nat} {N : Nxt} {Q : Post} {f : Fr} {ds : List Deferred} {w : World}
variable {d : Nat} {x y : Operand} {t yt ty : TypeId} {pos : String} {af : Array Edge} {g : Option (Nat × Bool)}
theorem P_eqNilF {fn : Fn} {a1 a2 : Array Value} {p1 p2 p3} (hu : P.underlying t = some (.func p1 p2 p3)) (hx : ev f x = some (.func fn a1 a2)) (hy : ev f y = some .nilFunc) : PureV P n ⟨some d, .binOp .eql t x y yt, ty, pos, af, g⟩ f (.bool false) :=
  fun z hz w => by
    have hb : binOp .eql t (.func fn a1 a2) .nilFunc = (do pure (.bool (← Op.equal t (.func fn a1 a2) .nilFunc))) := rfl
    have hg : (eqGuard .eql t x y (.func fn a1 a2) .nilFunc).run P w = .ok () w := by simp [eqGuard]
    have key : ∀ d, (Op.equalIn (d + 1) t (.func fn a1 a2) .nilFunc).run P w = .ok false w := fun d => by simp [Op.equalIn, run_underlying hu]
    have hq : (Op.equal t (.func fn a1 a2) .nilFunc).run P w = .ok false w := key 9999
    simp only [execOp, hz.ev hx, hz.ev hy, Sem.run_bind, hg, Result.andThen_ok, hb, hq, Sem.run_pure]
theorem P_eqNN {p1 p2 p3} (hu : P.underlying t = some (.func p1 p2 p3)) (hx : ev f x = some .nilFunc) (hy : ev f y = some .nilFunc) : PureV P n ⟨some d, .binOp .eql t x y yt, ty, pos, af, g⟩ f (.bool true) :=
  fun z hz w => by
    have hb : binOp .eql t .nilFunc .nilFunc = (do pure (.bool (← Op.equal t .nilFunc .nilFunc))) := rfl
    have hg : (eqGuard .eql t x y .nilFunc .nilFunc).run P w = .ok () w := by simp [eqGuard]
    have key : ∀ d, (Op.equalIn (d + 1) t .nilFunc .nilFunc).run P w = .ok true w := fun d => by simp [Op.equalIn, run_underlying hu]
    have hq : (Op.equal t .nilFunc .nilFunc).run P w = .ok true w := key 9999
    simp only [execOp, hz.ev hx, hz.ev hy, Sem.run_bind, hg, Result.andThen_ok, hb, hq, Sem.run_pure]

theorem P_indexAddrA {e : TypeId} {m b o len : Nat} {k : IntKind} {iv : Int} {j q : Nat} (hu : P.underlying t = some (.array len e)) (hs : csz P e m) (hx : ev f x = some (.pointer (some ⟨b, o, none⟩))) (hy : ev f y = some (.int k iv)) (hj : iv = (j : Int)) (hlt : j < len) (hp : o + j * m = q)
    : PureV P n ⟨some d, .indexAddr t x y, ty, pos, af, g⟩ f (.pointer (some ⟨b, q, none⟩)) :=
  fun a ha w => by
    subst hj; subst hp
    have h1 : (0 : Int) ≤ (j : Int) ∧ (j : Int) < (len : Int) := by omega
    simp [execOp, ha.ev hx, ha.ev hy, Instr.indexAt, asIntOf, run_underlying hu, Instr.sureAddr, run_csz hs, hlt, Addr.add_lit]

/-- A struct of two whole numbers. -/
def PairT (P : Program) (t : TypeId) (k0 k1 : IntKind) : Prop := ∃ f0 f1, P.underlying t = some (.struct #[f0, f1]) ∧ P.underlying f0.type = some (.int k0) ∧ P.underlying f1.type = some (.int k1) ∧ f0.name ≠ "_" ∧ f1.name ≠ "_" ∧ f0.offset = 0 ∧ f1.offset = 1 ∧ Zg P f0.type = true ∧ Zg P f1.type = true ∧ P.stoodInHeld t = false ∧ P.eqGuardType P.depth t = false
theorem run_equalI {k : IntKind} (hu : P.underlying t = some (.int k)) (a b : Int) (d : Nat) : (Op.equalIn (d + 1) t (.int k a) (.int k b)).run P w = .ok (a == b) w := by
  simp [Op.equalIn, run_underlying hu]
theorem run_equalPair {f0 f1 : Field} {k0 k1 : IntKind} {a b c e : Int} (hu : P.underlying t = some (.struct #[f0, f1])) (h0 : P.underlying f0.type = some (.int k0)) (h1 : P.underlying f1.type = some (.int k1)) (n0 : f0.name ≠ "_") (n1 : f1.name ≠ "_") (o0 : f0.offset = 0) (o1 : f1.offset = 1) (s0 : Zg P f0.type = true) (s1 : Zg P f1.type = true) (hs : P.stoodInHeld t = false) (d : Nat) :
    (Op.equalIn (d + 1 + 1) t (.agg #[.int k0 a, .int k1 b]) (.agg #[.int k0 c, .int k1 e])).run P w = .ok (decide (a = c ∧ b = e)) w := by
  rw [Op.equalIn]
  simp only [Sem.run_bind, run_underlying hu, Result.andThen_ok]
  by_cases h1a : a = c
  · by_cases h2a : b = e
    · simp [hs, n0, n1, o0, o1, part, y8 s0, y8 s1, run_equalI h0, run_equalI h1, h1a, h2a]
    · simp [hs, n0, n1, o0, o1, part, y8 s0, y8 s1, run_equalI h0, run_equalI h1, h1a, h2a]
  · simp [hs, n0, n1, o0, o1, part, y8 s0, y8 s1, run_equalI h0, run_equalI h1, h1a]
theorem P_eqPair {k0 k1 : IntKind} {a b c e : Int} {β : Bool} (hp : PairT P t k0 k1) (hx : ev f x = some (.agg #[.int k0 a, .int k1 b])) (hy : ev f y = some (.agg #[.int k0 c, .int k1 e])) (hβ : decide (a = c ∧ b = e) = β) : PureV P n ⟨some d, .binOp .eql t x y yt, ty, pos, af, g⟩ f (.bool β) :=
  fun z hz w => by
    subst hβ
    obtain ⟨f0, f1, hu, h0, h1, n0, n1, o0, o1, s0, s1, hs, hgt⟩ := hp
    have hb : binOp .eql t (.agg #[.int k0 a, .int k1 b]) (.agg #[.int k0 c, .int k1 e]) = (do pure (.bool (← Op.equal t (.agg #[.int k0 a, .int k1 b]) (.agg #[.int k0 c, .int k1 e])))) := rfl
    have hg : (eqGuard .eql t x y (.agg #[.int k0 a, .int k1 b]) (.agg #[.int k0 c, .int k1 e])).run P w = .ok () w := by simp [eqGuard, hgt]
    have hq : (Op.equal t (.agg #[.int k0 a, .int k1 b]) (.agg #[.int k0 c, .int k1 e])).run P w = .ok (decide (a = c ∧ b = e)) w := run_equalPair hu h0 h1 n0 n1 o0 o1 s0 s1 hs 9998
    simp only [execOp, hz.ev hx, hz.ev hy, Sem.run_bind, hg, Result.andThen_ok, hb, hq, Sem.run_pure]

/-- A function value that gives a price for a set, whatever else is made. -/
def PrF (P : Program) (w0 : World) (fv : Value) (pr : Nat → Int) : Prop :=
  ∃ (k : FuncId) (first captured : List Value), fv = .func (.func k) first.toArray captured.toArray ∧ zA P k = true ∧
    ∀ (w : World) (x : Nat), x < 4294967296 → Mv No w0 w → Ret P k (first ++ [.int .u32 (x : Int)] ++ captured) w fun v w' => v = .int .i64 (pr x) ∧ Mv No w w'
theorem PrF.mv {w0 w1 : World} {fv : Value} {pr : Nat → Int} (h : PrF P w0 fv pr) (hm : Mv No w0 w1) : PrF P w1 fv pr := by
  obtain ⟨k, a, b, h1, h2, h3⟩ := h
  exact ⟨k, a, b, h1, h2, fun w x hx hw => h3 w x hx (hm.no hw)⟩
theorem S_callP {fv : Value} {pr : Nat → Int} {c : Operand} {l : List Operand} {ats : Array TypeId} {s : Nat} {w0 : World} (hp : PrF P w0 fv pr) (hf : ev f c = some fv) (hl : evs f l = some [.int .u32 (s : Int)]) (hs : s < 4294967296) (hm : Mv No w0 w) (h : ∀ w', Mv No w w' → N ((d, .int .i64 (pr s)) :: f) ds w') (hn : Nat.blt d n = true := by rfl) :
    opF P n ⟨some d, .call { callee := .value c, args := l.toArray, argTypes := ats }, ty, pos, af, g⟩ N Q f ds w := by
  obtain ⟨k, a, b, rfl, h2, h3⟩ := hp
  exact S_callv h2 hf hl (h3 w s hs hm) (fun v w' ⟨hv, hw⟩ => by subst hv; exact h w' hw) hn
end
end Go.Proofs.YtnoioimphcmeiaaGreatDoor
namespace Go.Proofs.YtnoioimphcmeiaaGreatDoor
open Go.RowKit

theorem own_form {w : World} {base : Nat} {e : TypeId} {size : Nat} {v : Value} {n : Nat} {xs : List Value} (h : w.ownsRow base e size v n xs) (hn : 0 < n) :
    ∃ g cap, v = .slice (some ⟨g, 0, none⟩) n cap ∧ base ≤ g ∧ g < w.heap.size := by
  obtain ⟨h1, h2⟩ := h
  rcases h2 with ⟨rfl, rfl⟩ | ⟨g, cap, cur, rfl, hg, hh, r⟩
  · omega
  · refine ⟨g, cap, rfl, hg, ?_⟩
    rcases Nat.lt_or_ge g w.heap.size with hl | hl
    · exact hl
    · rw [Array.getElem?_eq_none hl] at hh; cases hh

section
variable {P : Program} {n : Nat} {N : Nxt} {Q : Post} {f : Fr} {ds : List Deferred} {w w' : World}
variable {d : Nat} {x y : Operand} {t yt ty : TypeId} {pos : String} {af : Array Edge} {g : Option (Nat × Bool)}
/-- A store into an element, one cell, of a slice of one's own. -/
theorem S_storeOwn {b i len cap base : Nat} {e : TypeId} {xs : List Value} {v : Value} {z : Option Value} {by_ : Nat} (hs : Zm P t = some (z, 1, by_)) (hx : ev f x = some (.pointer (some ⟨b, i, none⟩))) (hv : ev f y = some v) (h1 : v.oneCell' = true) (ho : w.ownsRow base e 1 (.slice (some ⟨b, 0, none⟩) len cap) len xs) (hi : i < len)
    (h : ∀ w', w'.ownsRow base e 1 (.slice (some ⟨b, 0, none⟩) len cap) len (xs.set i v) → Mv (At b) w w' → N f ds w') : opF P n ⟨none, .store t x y, ty, pos, af, g⟩ N Q f ds w :=
  S_skip (w' := w.setCell ⟨b, i, none⟩ v) (fun a ha => by
    obtain ⟨inf, hinf, hz⟩ := Option.map_eq_some_iff.1 hs
    simp only [Prod.mk.injEq] at hz
    have hxl : xs.length = len := by simpa using ho.1
    have hcell : w.cell? ⟨b, i, none⟩ = some xs[i] := by
      rw [ho.cellAt i (by simpa using hi)]; simp
    have hvc := one_cells h1
    simp [execOp, ha.ev hx, ha.ev hv, Instr.storeAt, Instr.sureAddr, storeVar, hvc, sizeOf, typeInfo, hinf, hz.2.1, storeCells, run_store P w _ v _ h1, Addr.add_lit, hcell, ho.frozenAt i]) (h _ (ho.stored i v).1 (Mv.setCell w ⟨b, i, none⟩ v)) rfl
end

section
variable {P : Program} {n : Nat} {N : Nxt} {Q : Post} {f : Fr} {ds : List Deferred} {w : World}
variable {d : Nat} {x y : Operand} {t ty : TypeId} {pos : String} {af : Array Edge} {g : Option (Nat × Bool)}
/-- 'append', the outcome in a slice's form. -/
theorem y9 {e : TypeId} {z : Value} {m by_ base : Nat} {v : Value} {len : Nat} {xs : List Value} {A : Option Addr} {k c : Nat} {news : List Value}
    (hu : P.underlying t = some (.slice e)) (hi : Zm P e = some (some z, m, by_)) (hz : z.cells.size = m) (hm : 0 < m) (hx : ev f x = some v) (hown : w.ownsRow base e m v len xs) (hy : ev f y = some (.slice A k c)) (hr : SlR w A news) (hl : news.length = k * m)
    (hone : ∀ u ∈ news, u.oneCell' = true) (hbase : base ≤ w.heap.size) (h63 : len + k ≤ maxLen) (hby : (len + k) * by_ ≤ 140737488355328)
    (h : ∀ A' c' w', w'.ownsRow base e m (.slice A' (len + k) c') (len + k) (xs ++ news) → Mv (Zx v) w w' → N ((d, .slice A' (len + k) c') :: f) ds w') (hn : Nat.blt d n = true := by rfl) :
    opF P n ⟨some d, .call { callee := .builtin .append, args := #[x, y], argTypes := #[t, t] }, ty, pos, af, g⟩ N Q f ds w :=
  S_append hu hi hz hm hx hown hy hr hl hone hbase h63 hby (fun v' w' ho hm' _ => by
    obtain ⟨A', c', rfl, _⟩ := own_reads ho
    exact h A' c' w' ho hm') hn
end
theorem Zs {w : World} {base base' : Nat} {e : TypeId} {size : Nat} {v : Value} {n : Nat} {xs : List Value} (h : w.ownsRow base e size v n xs) (hb : base' ≤ base) : w.ownsRow base' e size v n xs := by
  obtain ⟨h1, h2⟩ := h
  refine ⟨h1, ?_⟩
  rcases h2 with h2 | ⟨g, cap, cur, h3, hg, r⟩
  · exact .inl h2
  · exact .inr ⟨g, cap, cur, h3, Nat.le_trans hb hg, r⟩
theorem Yl {w : World} {base : Nat} {e : TypeId} {size : Nat} : w.ownsRow base e size (.slice none 0 0) 0 [] := ⟨by simp, .inl ⟨rfl, rfl⟩⟩
end Go.Proofs.YtnoioimphcmeiaaGreatDoor
namespace Go.Proofs.YtnoioimphcmeiaaGreatDoor
open Go.RowKit

/-- A block of bytes that a text was turned to: its first cells are these bytes, and may be written. -/
def Byt (w : World) (b : Nat) (e : TypeId) (l : List UInt8) : Prop := ∃ C : Array Value, w.heap[b]? = some (.cells C e (C.size, C.size + 1)) ∧ l.length ≤ C.size ∧ C.toList.take l.length = l.map bv
theorem Byt.lt {w : World} {b : Nat} {e : TypeId} {l : List UInt8} (h : Byt w b e l) : b < w.heap.size := by
  obtain ⟨C, h1, _⟩ := h
  rcases Nat.lt_or_ge b w.heap.size with hl | hl
  · exact hl
  · rw [Array.getElem?_eq_none hl] at h1; cases h1
theorem Byt.mv {w w' : World} {b : Nat} {e : TypeId} {l : List UInt8} {S : Nat → Prop} (h : Byt w b e l) (hm : Mv S w w') (hn : ¬ S b) : Byt w' b e l := by
  have hlt := h.lt
  obtain ⟨C, h1, h2⟩ := h
  exact ⟨C, (hm.block b hlt hn).trans h1, h2⟩
theorem Byt.no {w w' : World} {b : Nat} {e : TypeId} {l : List UInt8} (h : Byt w b e l) (hm : Mv No w w') : Byt w' b e l := h.mv hm fun hf => hf.elim
theorem Byt.row {w : World} {b : Nat} {e : TypeId} {l : List UInt8} (h : Byt w b e l) : Row w b 0 (l.map bv) := fun i v hv => by
  obtain ⟨C, h1, h2, h3⟩ := h
  rw [← h3] at hv
  have hv' : C.toList[i]? = some v := by
    simp only [List.getElem?_take] at hv
    split at hv <;> first | exact hv | cases hv
  simp only [Nat.zero_add, World.cell?, h1]
  simpa using hv'
theorem Byt.slr {w : World} {b : Nat} {e : TypeId} {l : List UInt8} (h : Byt w b e l) : SlR w (some ⟨b, 0, none⟩) (l.map bv) := .inr ⟨b, 0, rfl, h.row⟩
theorem Byt.cell {w : World} {b : Nat} {e : TypeId} {l : List UInt8} (h : Byt w b e l) {i : Nat} {c : UInt8} (hc : l[i]? = some c) : w.cell? ⟨b, i, none⟩ = some (bv c) := by
  have := h.row i (bv c) (by rw [List.getElem?_map, hc]; rfl)
  rwa [Nat.zero_add] at this

/-- An iterator over a text. -/
def Itr (w : World) (g : Nat) (s : ByteArray) (p : Nat) : Prop := w.heap[g]? = some (.stringIter s p)
theorem Itr.lt {w : World} {g : Nat} {s : ByteArray} {p : Nat} (h : Itr w g s p) : g < w.heap.size := by
  rcases Nat.lt_or_ge g w.heap.size with hl | hl
  · exact hl
  · rw [Itr, Array.getElem?_eq_none hl] at h; cases h
theorem Itr.no {w w' : World} {g : Nat} {s : ByteArray} {p : Nat} (h : Itr w g s p) (hm : Mv No w w') : Itr w' g s p := (hm.block g h.lt (fun hf => hf.elim)).trans h

theorem decode_high (s : ByteArray) (i : Nat) (h : i < s.size) (hb : 128 ≤ (s.data.toList.getD i 0).toNat) : ∃ c k, Utf8.decode s i = (c, k) ∧ 128 ≤ c ∧ c ≤ 1114111 := by
  have e : s.get! (i + 0) = s.data.toList.getD i 0 := by
    have h' : i < s.data.size := h
    show s.data[i]! = _
    rw [getElem!_pos s.data i h', List.getD_eq_getElem?_getD, List.getElem?_eq_getElem (by simpa using h')]
    simp
  have hlt := (s.data.toList.getD i 0).toNat_lt
  refine ⟨(Utf8.decode s i).1, (Utf8.decode s i).2, rfl, ?_⟩
  unfold Utf8.decode
  simp only [e]
  have h0 : ¬ (s.data.toList.getD i 0).toNat < 128 := by omega
  simp only [if_neg h0]
  generalize (s.data.toList.getD i 0).toNat = b0 at *
  generalize (s.get! (i + 1)).toNat = b1
  generalize (s.get! (i + 2)).toNat = b2
  generalize (s.get! (i + 3)).toNat = b3
  simp only [Utf8.runeError]
  split
  · split <;> dsimp only <;> omega
  · split
    · rename_i hc
      simp only [Bool.and_eq_true, beq_iff_eq] at hc
      split <;> dsimp only
      · rename_i hv
        simp only [Bool.and_eq_true, decide_eq_true_eq] at hv
        omega
      · omega
    · split
      · rename_i hc
        simp only [Bool.and_eq_true, beq_iff_eq] at hc
        split <;> dsimp only
        · rename_i hv
          simp only [Bool.and_eq_true, decide_eq_true_eq, Utf8.valid, Bool.or_eq_true] at hv
          omega
        · omega
      · dsimp only; omega

/- two scalars, two structs of three of them -/
inductive ScK | int (k : IntKind) | str | bool
def ScK.desc : ScK → TypeDesc
  | .int k => .int k
  | .str => .string
  | .bool => .bool
def ScK.has : ScK → Value → Prop
  | .int k, v => ∃ a, v = .int k a
  | .str, v => ∃ s, v = .string s
  | .bool, v => ∃ b, v = .bool b
def eqSc : Value → Value → Bool
  | .int _ a, .int _ b => a == b
  | .string a, .string b => a == b
  | .bool a, .bool b => a == b
  | _, _ => false

section
variable {P : Program} {n : Nat} {N : Nxt} {Q : Post} {f : Fr} {ds : List Deferred} {w w' : World}
variable {d : Nat} {x y : Operand} {t yt ty : TypeId} {pos : String} {af : Array Edge} {g : Option (Nat × Bool)}

theorem S_strByt {e : TypeId} {l : List UInt8} {u : TypeDesc} (hs : P.underlying t = some u) (hd : P.underlying yt = some (.slice e)) (he : P.underlying e = some (.int .u8)) (hx : ev f x = some (.string (str l)))
    (h : ∀ b w' c, Byt w' b e l → Mv No w w' → w.heap.size ≤ b → N ((d, .slice (some ⟨b, 0, none⟩) l.length c) :: f) ds w') (hn : Nat.blt d n = true := by rfl) : opF P n ⟨some d, .convert t yt x, ty, pos, af, g⟩ N Q f ds w := by
  have hrun := Lib.run_convert_string_bytes (P := P) w t yt e (str l) hs hd he
  rw [yR] at hrun
  refine Yn (fun a ha => by simp only [execOp, ha.ev hx, Sem.run_bind, hrun]; rfl) (h w.heap.size (Lib.bytesWorld w e (str l)) (grownCap w l.length 0 e) ⟨Lib.bytesCells w e (str l), Lib.bytesWorld_at_new w e _, ?_, ?_⟩ ⟨?_, ?_, ?_, ?_, fun k hk _ => Lib.bytesWorld_at_old w e _ k hk⟩ (Nat.le_refl _)) rfl hn
  · simp [Lib.bytesCells, str]
  · have hml : l.length = (l.map bv).length := by simp
    have : (Lib.bytesCells w e (str l)).toList = l.map bv ++ List.replicate (grownCap w (str l).size 0 e - (str l).size) (.int .u8 0) := by
      simp only [Lib.bytesCells, Array.toList_append, Array.toList_replicate]
      congr 1
      simp [str, bv]
    rw [this]
    conv => lhs; arg 1; rw [hml]
    rw [List.take_left]
  · simp [Lib.bytesWorld, World.freeze, World.alloc, World.drew, -World.alloc_eq, -World.drew_eq]
  · simp [Lib.bytesWorld, World.freeze, World.alloc, World.drew, -World.alloc_eq, -World.drew_eq]
  · simp [Lib.bytesWorld, World.freeze, World.alloc, World.drew, -World.alloc_eq, -World.drew_eq]
  · rw [Lib.bytesWorld_size]; omega

theorem S_storeByt {b i : Nat} {e : TypeId} {l : List UInt8} {c : UInt8} {z : Option Value} {by_ : Nat} (hs : Zm P t = some (z, 1, by_)) (hx : ev f x = some (.pointer (some ⟨b, i, none⟩))) (hv : ev f y = some (bv c)) (hb : Byt w b e l) (hi : i < l.length)
    (h : ∀ w', Byt w' b e (l.set i c) → Mv (At b) w w' → N f ds w') : opF P n ⟨none, .store t x y, ty, pos, af, g⟩ N Q f ds w := by
  obtain ⟨C, h1, h2, h3⟩ := hb
  have hcell : ∃ v0, w.cell? ⟨b, i, none⟩ = some v0 := ⟨C[i], by simp [World.cell?, h1]⟩
  obtain ⟨v0, hcell⟩ := hcell
  have hfr : w.frozen? ⟨b, i, none⟩ = false := by
    simp only [World.frozen?, h1]
    have : ¬ C.size ≤ i := by omega
    simp [this]
  refine S_skip (w' := w.setCell ⟨b, i, none⟩ (bv c)) (fun a ha => ?_) (h _ ⟨C.setIfInBounds i (bv c), ?_, by simpa using h2, ?_⟩ (Mv.setCell w ⟨b, i, none⟩ _)) rfl
  · obtain ⟨inf, hinf, hz⟩ := Option.map_eq_some_iff.1 hs
    simp only [Prod.mk.injEq] at hz
    have h1c : (bv c).oneCell' = true := rfl
    have hvc := one_cells h1c
    simp [execOp, ha.ev hx, ha.ev hv, Instr.storeAt, Instr.sureAddr, storeVar, hvc, sizeOf, typeInfo, hinf, hz.2.1, storeCells, run_store P w _ (bv c) _ h1c, Addr.add_lit, hcell, hfr]
  · simp [World.setCell, Array.getElem?_modify, h1]
  · rw [Array.toList_setIfInBounds, List.length_set, List.take_set, h3, List.map_set]

theorem S_rangeT {s : ByteArray} (hu : P.underlying t = some .string) (hx : ev f x = some (.string s)) (h : ∀ b w', Itr w' b s 0 → Mv No w w' → w.heap.size ≤ b → N ((d, .pointer (some ⟨b, 0, none⟩)) :: f) ds w') (hn : Nat.blt d n = true := by rfl) :
    opF P n ⟨some d, .range t x, ty, pos, af, g⟩ N Q f ds w :=
  Yn (v := .pointer (some ⟨w.heap.size, 0, none⟩)) (w' := w.iter s 0) (fun a ha => by simp only [execOp, ha.ev hx, Sem.run_bind, run_range_string w t s hu]; rfl) (h w.heap.size (w.iter s 0) (World.iter_heap w s 0) (Mv.alloc w _) (Nat.le_refl _)) rfl hn

theorem Mv.setObj (w : World) (b : Nat) (o : Obj) : Mv (At b) w { w with heap := w.heap.setIfInBounds b o } :=
  ⟨rfl, rfl, rfl, by simp, fun k _ hn => by
    have : b ≠ k := fun e => hn e.symm
    simp [Array.getElem?_setIfInBounds, this]⟩

/-- The next sign of a text: a byte below 128 is itself. -/
theorem S_nextLo {s : ByteArray} {b p : Nat} {c : UInt8} (hx : ev f x = some (.pointer (some ⟨b, 0, none⟩))) (hi : Itr w b s p) (hc : s.data.toList[p]? = some c) (ha : c.toNat < 128)
    (h : ∀ w', Itr w' b s (p + 1) → Mv (At b) w w' → N ((d, .tuple #[.bool true, .int .i64 (p : Int), .int .i32 (c.toNat : Int)]) :: f) ds w') (hn : Nat.blt d n = true := by rfl) :
    opF P n ⟨some d, .next x true, ty, pos, af, g⟩ N Q f ds w := by
  have hlt : p < s.size := by simpa using (List.getElem?_eq_some_iff.1 hc).1
  have hcs : s[p]'hlt = c := by
    have := (List.getElem?_eq_some_iff.1 hc).2
    rw [← this]
    rfl
  have hd := decode_ascii s p hlt (by rw [hcs]; exact ha)
  rw [hcs] at hd
  have hb := hi.lt
  unfold Itr at hi
  refine Yn (w' := { w with heap := w.heap.setIfInBounds b (.stringIter s (p + 1)) }) (fun a ha' => ?_) (h _ ?_ (Mv.setObj w b _)) rfl hn
  · simp [execOp, ha'.ev hx, Instr.next, getObj, setObj, Sem.run, hi, hlt, hd, goInt]
  · simp [Itr, hb]
theorem S_nextHi {s : ByteArray} {b p : Nat} {c : UInt8} (hx : ev f x = some (.pointer (some ⟨b, 0, none⟩))) (hi : Itr w b s p) (hc : s.data.toList[p]? = some c) (ha : 128 ≤ c.toNat)
    (h : ∀ w' (r k : Nat), 128 ≤ r → r ≤ 1114111 → Itr w' b s (p + k) → Mv (At b) w w' → N ((d, .tuple #[.bool true, .int .i64 (p : Int), .int .i32 (r : Int)]) :: f) ds w') (hn : Nat.blt d n = true := by rfl) :
    opF P n ⟨some d, .next x true, ty, pos, af, g⟩ N Q f ds w := by
  have hlt : p < s.size := by simpa using (List.getElem?_eq_some_iff.1 hc).1
  obtain ⟨r, k, hd, h1, h2⟩ := decode_high s p hlt (by rw [List.getD_eq_getElem?_getD, hc]; exact ha)
  have hb := hi.lt
  unfold Itr at hi
  refine Yn (w' := { w with heap := w.heap.setIfInBounds b (.stringIter s (p + k)) }) (fun a ha' => ?_) (h _ r k h1 h2 ?_ (Mv.setObj w b _)) rfl hn
  · simp [execOp, ha'.ev hx, Instr.next, getObj, setObj, Sem.run, hi, hlt, hd, goInt]
  · simp [Itr, hb]
theorem S_nextEnd {s : ByteArray} {b p : Nat} (hx : ev f x = some (.pointer (some ⟨b, 0, none⟩))) (hi : Itr w b s p) (hp : s.size ≤ p) (h : N ((d, .tuple #[.bool false]) :: f) ds w) (hn : Nat.blt d n = true := by rfl) :
    opF P n ⟨some d, .next x true, ty, pos, af, g⟩ N Q f ds w := by
  unfold Itr at hi
  have hlt : ¬ p < s.size := by omega
  exact Yn (fun a ha' => by simp [execOp, ha'.ev hx, Instr.next, getObj, Sem.run, hi, hlt]) h rfl hn

/- texts in order -/
theorem P_gtT {a b : ByteArray} {β : Bool} (hx : ev f x = some (.string a)) (hy : ev f y = some (.string b)) (hβ : (!(Op.bytesLess a.toList b.toList || a.toList == b.toList)) = β) : PureV P n ⟨some d, .binOp .gtr t x y yt, ty, pos, af, g⟩ f (.bool β) :=
  fun z hz w => by subst hβ; simp [execOp, hz.ev hx, hz.ev hy, eqGuard, binOp, Op.stringOp]
theorem P_ltT {a b : ByteArray} {β : Bool} (hx : ev f x = some (.string a)) (hy : ev f y = some (.string b)) (hβ : Op.bytesLess a.toList b.toList = β) : PureV P n ⟨some d, .binOp .lss t x y yt, ty, pos, af, g⟩ f (.bool β) :=
  fun z hz w => by subst hβ; simp [execOp, hz.ev hx, hz.ev hy, eqGuard, binOp, Op.stringOp]

/- interfaces against nil -/
theorem run_equalI0 {ms} (hu : P.underlying t = some (.interface ms)) : (Op.equal t .nilIface .nilIface).run P w = .ok true w := by
  have key : ∀ q, (Op.equalIn (q + 1) t .nilIface .nilIface).run P w = .ok true w := fun q => by simp [Op.equalIn, run_underlying hu]
  exact key 9999
theorem run_equalI1 {ms} (hu : P.underlying t = some (.interface ms)) (te : TypeId) (u : Value) : (Op.equal t (.iface te u) .nilIface).run P w = .ok false w := by
  have key : ∀ q, (Op.equalIn (q + 1) t (.iface te u) .nilIface).run P w = .ok false w := fun q => by simp [Op.equalIn, run_underlying hu]
  exact key 9999
theorem P_neI {ms} {β : Bool} {v : Value} (hu : P.underlying t = some (.interface ms)) (hx : ev f x = some v) (hv : (v = .nilIface ∧ β = false) ∨ (∃ te u, v = .iface te u ∧ β = true)) : PureV P n ⟨some d, .binOp .neq t x (.const .nilIface) yt, ty, pos, af, g⟩ f (.bool β) :=
  fun z hz w => by
    rcases hv with ⟨rfl, rfl⟩ | ⟨te, u, rfl, rfl⟩
    · have hb : binOp .neq t .nilIface .nilIface = (do pure (.bool (!(← Op.equal t .nilIface .nilIface)))) := rfl
      have hg : (eqGuard .neq t x (.const .nilIface) .nilIface .nilIface).run P w = .ok () w := by cases x <;> simp [eqGuard]
      have he : Act.eval z (.const .nilIface) = .nilIface := rfl
      simp only [execOp, hz.ev hx, he, Sem.run_bind, hg, Result.andThen_ok, hb, run_equalI0 hu, Sem.run_pure, Bool.not_true]
    · have hb : binOp .neq t (.iface te u) .nilIface = (do pure (.bool (!(← Op.equal t (.iface te u) .nilIface)))) := rfl
      have hg : (eqGuard .neq t x (.const .nilIface) (.iface te u) .nilIface).run P w = .ok () w := by simp [eqGuard]
      have he : Act.eval z (.const .nilIface) = .nilIface := rfl
      simp only [execOp, hz.ev hx, he, Sem.run_bind, hg, Result.andThen_ok, hb, run_equalI1 hu, Sem.run_pure, Bool.not_false]

/- floats in order -/
theorem P_geF {k : FloatKind} {a b : Nat} {β : Bool} (hx : ev f x = some (.float k a)) (hy : ev f y = some (.float k b)) (hβ : (k.format.order a b == some .gt || k.format.order a b == some .eq) = β) : PureV P n ⟨some d, .binOp .geq t x y yt, ty, pos, af, g⟩ f (.bool β) :=
  fun z hz w => by subst hβ; simp [execOp, hz.ev hx, hz.ev hy, eqGuard, binOp, Op.floatCmp]
theorem P_ltF {k : FloatKind} {a b : Nat} {β : Bool} (hx : ev f x = some (.float k a)) (hy : ev f y = some (.float k b)) (hβ : (k.format.order a b == some .lt) = β) : PureV P n ⟨some d, .binOp .lss t x y yt, ty, pos, af, g⟩ f (.bool β) :=
  fun z hz w => by subst hβ; simp [execOp, hz.ev hx, hz.ev hy, eqGuard, binOp, Op.floatCmp]
theorem P_gtF {k : FloatKind} {a b : Nat} {β : Bool} (hx : ev f x = some (.float k a)) (hy : ev f y = some (.float k b)) (hβ : (k.format.order a b == some .gt) = β) : PureV P n ⟨some d, .binOp .gtr t x y yt, ty, pos, af, g⟩ f (.bool β) :=
  fun z hz w => by subst hβ; simp [execOp, hz.ev hx, hz.ev hy, eqGuard, binOp, Op.floatCmp]
theorem P_eqF {k : FloatKind} {a b : Nat} {β : Bool} (hx : ev f x = some (.float k a)) (hy : ev f y = some (.float k b)) (hβ : (k.format.order a b == some .eq) = β) : PureV P n ⟨some d, .binOp .eql t x y yt, ty, pos, af, g⟩ f (.bool β) :=
  fun z hz w => by subst hβ; simp [execOp, hz.ev hx, hz.ev hy, eqGuard, binOp, Op.floatCmp]

/-- A call of a function without a body: by its entry. -/
theorem P_ext {k : FuncId} {fn : Func} {l : List Operand} {ats : Array TypeId} {vs : List Value} {v : Value} {E : Array Value → Sem Value} (hf : P.funcs[k]? = some fn) (hname : (fn.name == "runtime.NumGoroutine") = false) (hb : fn.body.isNone = true) (hnx : Extern.findNext fn = none) (he : Extern.find fn = some E)
    (hl : evs f l = some vs) (hrun : ∀ w, (E vs.toArray).run P w = .ok v w) : PureV P n ⟨some d, .call { callee := .value (.func k), args := l.toArray, argTypes := ats }, ty, pos, af, g⟩ f v := fun a ha w => by
  have hargs := ha.evs hl
  have h1 := run_callFunc_extern hf hname hb hnx he vs.toArray w
  rw [hrun] at h1
  simp [execOp, resolve, Act.eval, Deferred.ofValue, invoke, hargs, h1]

/- pointers to unsafe ones and back -/
theorem S_toUnsafe {b o cells m by_ : Nat} {e u : TypeId} {z : Value} (hs : P.underlying t = some (.pointer u)) (hd : P.underlying yt = some .unsafePointer) (hu : Zm P u = some (some z, m, by_)) (hj : m ≠ 0) (hx : ev f x = some (.pointer (some ⟨b, o, none⟩))) (hsh : w.shape? b = some (e, cells)) (ho : o < cells)
    (h : N ((d, .pointer (some ⟨b, o, none⟩)) :: f) ds w) (hn : Nat.blt d n = true := by rfl) : opF P n ⟨some d, .convert t yt x, ty, pos, af, g⟩ N Q f ds w := by
  obtain ⟨i, hi1, hi2, hi3, hi4⟩ := Zz hu
  exact Yn (fun a ha => by simp [execOp, ha.ev hx, Lib.run_to_unsafe (P := P) w ⟨b, o, none⟩ hs hd hi1 (by rw [hi3]; exact hj) hsh ho]) h rfl hn
theorem S_fromUnsafe {b o cells m by_ : Nat} {e u : TypeId} {z : Value} (hs : P.underlying t = some .unsafePointer) (hd : P.underlying yt = some (.pointer u)) (hu : Zm P u = some (some z, m, by_)) (hx : ev f x = some (.pointer (some ⟨b, o, none⟩))) (hsh : w.shape? b = some (e, cells)) (hl : liesAt P P.depth e (cells / P.cellsOf e) o u 1 = true)
    (h : N ((d, .pointer (some ⟨b, o, none⟩)) :: f) ds w) (hn : Nat.blt d n = true := by rfl) : opF P n ⟨some d, .convert t yt x, ty, pos, af, g⟩ N Q f ds w := by
  obtain ⟨i, hi1, hi2, hi3, hi4⟩ := Zz hu
  exact Yn (fun a ha => by simp [execOp, ha.ev hx, Lib.run_from_unsafe (P := P) w ⟨b, o, none⟩ hs hd hi1 hsh hl]) h rfl hn
theorem P_nePtr {e : TypeId} {z : Value} {m by_ : Nat} {A : Addr} (hu : P.underlying t = some (.pointer e)) (he : Zm P e = some (some z, m, by_)) (hx : ev f x = some (.pointer (some A))) (hy : ev f y = some (.pointer (some A))) : PureV P n ⟨some d, .binOp .neq t x y yt, ty, pos, af, g⟩ f (.bool false) :=
  fun z hz w => by
    obtain ⟨i, hi1, hi2, hi3, hi4⟩ := Zz he
    simp [execOp, hz.ev hx, hz.ev hy, eqGuard, Lib.run_neq_ptr_same w A hu hi1]

theorem fill_run (off : Nat) : ∀ (vs : List Value) (k : Nat) (cells : Array Value), off + k + vs.length ≤ cells.size →
    (vs.zipIdx k).foldl (fun cs p => cs.setIfInBounds (off + p.2) p.1) cells = (cells.toList.take (off + k) ++ vs ++ cells.toList.drop (off + k + vs.length)).toArray
  | [], k, cells, h => by simp
  | v :: r, k, cells, h => by
    simp only [List.length_cons] at h
    rw [List.zipIdx_cons, List.foldl_cons, fill_run off r (k + 1) _ (by simp; omega)]
    apply Array.ext'
    simp only [Array.toList_setIfInBounds]
    have hsz : cells.toList.length = cells.size := by simp
    have hk : off + k < cells.toList.length := by omega
    rw [show off + (k + 1) = off + k + 1 by omega, List.take_succ_eq_append_getElem (by simpa using hk)]
    simp only [List.getElem_set_self, List.length_cons]
    rw [List.take_set_of_le (Nat.le_refl _), List.drop_set_of_lt (by omega), List.append_assoc, List.append_assoc, List.append_assoc, show off + k + 1 + r.length = off + k + (r.length + 1) by omega]
    rfl
theorem fill_row (m : Nat) : ∀ (vss : List (List Value)) (k : Nat) (cells : Array Value), (∀ vs ∈ vss, vs.length = m) → k * m + vss.length * m ≤ cells.size →
    Instr.fill (fun i => some (i * m, m)) cells (Ye k (vss.map fun vs => Value.agg vs.toArray)) = some (cells.toList.take (k * m) ++ vss.flatten ++ cells.toList.drop (k * m + vss.length * m)).toArray
  | [], k, cells, h1, h2 => by simp [Ye, Instr.fill]
  | vs :: r, k, cells, h1, h2 => by
    have hl := h1 vs (by simp)
    simp only [List.length_cons, Nat.succ_mul] at h2
    have hc : (Value.agg vs.toArray).cells = vs.toArray := rfl
    simp only [List.map_cons, Ye, Instr.fill, hc]
    have hcond : ¬ ((vs.toArray.size != m || decide (k * m + vs.toArray.size > cells.size)) = true) := by simp [hl]; omega
    have hcond' : ¬ ((decide (vs.toArray.size ≠ m) || decide (k * m + vs.toArray.size > cells.size)) = true) := by simp [hl]; omega
    have hrun := fill_run (k * m) vs 0 cells (by omega)
    rw [if_neg hcond']
    have hz : vs.toArray.zipIdx.foldl (fun cs p => cs.setIfInBounds (k * m + p.2) p.1) cells = (cells.toList.take (k * m) ++ vs ++ cells.toList.drop (k * m + m)).toArray := by
      have : vs.toArray.zipIdx = (vs.zipIdx 0).toArray := by simp
      rw [this, List.foldl_toArray, hrun, hl, Nat.add_zero]
    have hz' : Array.foldl (fun cs x => match x with | (c, j) => cs.setIfInBounds (k * m + j) c) cells vs.toArray.zipIdx = (cells.toList.take (k * m) ++ vs ++ cells.toList.drop (k * m + m)).toArray := hz
    rw [hz', fill_row m r (k + 1) _ (fun us hu => h1 us (by simp [hu])) (by simp [Nat.succ_mul, hl]; omega)]
    congr 1
    apply Array.ext'
    simp only [Nat.succ_mul, List.flatten_cons, List.length_cons]
    have hlt : (cells.toList.take (k * m) ++ vs).length = k * m + m := by simp [hl]; omega
    generalize cells.toList.take (k * m) = A at *
    have e1 : (A ++ vs ++ cells.toList.drop (k * m + m)).take (k * m + m) = A ++ vs := by rw [← hlt]; exact List.take_left
    have e2 : (A ++ vs ++ cells.toList.drop (k * m + m)).drop (k * m + m + r.length * m) = (cells.toList.drop (k * m + m)).drop (r.length * m) := by
      conv => lhs; rw [← List.drop_drop]; arg 2; arg 1; rw [← hlt]
      rw [List.drop_left]
    rw [e1, e2, List.drop_drop, show k * m + m + r.length * m = k * m + (r.length * m + m) by omega]
    simp only [List.append_assoc]
/-- '[]T{s, ..}', each a struct. -/
theorem zU {e by_ m q : Nat} {z : Value} {l : List Operand} {vss : List (List Value)} (hu : P.underlying t = some (.slice e)) (hi : Zm P e = some (some z, m, by_)) (hpos : 0 < m) (hx : evs f l = some (vss.map fun vs => Value.agg vs.toArray)) (hl : ∀ vs ∈ vss, vs.length = m) (hq : l.length = q) (hq0 : 0 < q) (h24 : q * m ≤ 16777216)
    (h : ∀ b w', Blk w' b vss.flatten e → Mv No w w' → w.heap.size ≤ b → N ((d, .slice (some ⟨b, 0, none⟩) q q) :: f) ds w') (hn : Nat.blt d n = true := by rfl) : opF P n ⟨some d, .buildSlice t q (Ye 0 l).toArray, ty, pos, af, g⟩ N Q f ds w := by
  obtain ⟨i, hi1, hi2, hi3, hi4⟩ := Zz hi
  refine Yn (w' := w.alloc (.cells vss.flatten.toArray e)) (v := .slice (some ⟨w.heap.size, 0, none⟩) q q) (fun a ha => ?_) (h w.heap.size _ (Blk.new w vss.flatten e) (Mv.alloc w _) (Nat.le_refl _)) rfl hn
  have hvs := ha.evs hx
  have hlen : vss.length = q := by
    have := congrArg List.length hvs
    simp at this
    omega
  have hp : (Ye 0 l).map (fun x => (x.1, a.eval x.2)) = Ye 0 (vss.map fun vs => Value.agg vs.toArray) := by rw [partsF_map, hvs]
  have hm0 : q * m ≠ 0 := Nat.mul_ne_zero (by omega) (by omega)
  have hfill := fill_row m vss 0 ((Array.range (q * m)).map fun x => z.cells[x % z.cells.size]!) hl (by simp [hlen])
  have hd : ((Array.range (q * m)).map fun x => z.cells[x % z.cells.size]!).toList.drop (0 * m + vss.length * m) = [] := List.drop_eq_nil_of_le (by simp [hlen])
  rw [hd, Nat.zero_mul, List.take_zero, List.nil_append, List.append_nil] at hfill
  have h24' : ¬ 16777216 < q * m := by omega
  simp only [execOp, Instr.buildSlice, Sem.run_bind, run_underlying hu, Result.andThen_ok]
  simp only [sizeOf, typeInfo, Sem.run_bind, run_program, Result.andThen_ok, hi1]
  simp [hi3, h24', hm0, zeroValue, typeInfo, hi1, hi2, hp, hfill, newRow]

theorem run_equalSc {k : ScK} {a b : Value} (hu : P.underlying t = some k.desc) (ha : k.has a) (hb : k.has b) (q : Nat) : (Op.equalIn (q + 1) t a b).run P w = .ok (eqSc a b) w := by
  cases k with
  | int k => obtain ⟨a, rfl⟩ := ha; obtain ⟨b, rfl⟩ := hb; simp [Op.equalIn, run_underlying hu, ScK.desc, eqSc]
  | str => obtain ⟨a, rfl⟩ := ha; obtain ⟨b, rfl⟩ := hb; simp [Op.equalIn, run_underlying hu, ScK.desc, eqSc]
  | bool => obtain ⟨a, rfl⟩ := ha; obtain ⟨b, rfl⟩ := hb; simp [Op.equalIn, run_underlying hu, ScK.desc, eqSc]
/-- A struct of three scalars. -/
def TripT (P : Program) (t : TypeId) (k0 k1 k2 : ScK) : Prop := ∃ f0 f1 f2, P.underlying t = some (.struct #[f0, f1, f2]) ∧ P.underlying f0.type = some k0.desc ∧ P.underlying f1.type = some k1.desc ∧ P.underlying f2.type = some k2.desc ∧ (f0.name ≠ "_" ∧ f1.name ≠ "_" ∧ f2.name ≠ "_") ∧ (f0.offset = 0 ∧ f1.offset = 1 ∧ f2.offset = 2) ∧ (Zg P f0.type = true ∧ Zg P f1.type = true ∧ Zg P f2.type = true) ∧ P.stoodInHeld t = false ∧ P.eqGuardType P.depth t = false
theorem run_equalTrip {k0 k1 k2 : ScK} {a b c a' b' c' : Value} (hp : TripT P t k0 k1 k2) (h0 : k0.has a ∧ k0.has a') (h1 : k1.has b ∧ k1.has b') (h2 : k2.has c ∧ k2.has c') (q : Nat) :
    (Op.equalIn (q + 1 + 1) t (.agg #[a, b, c]) (.agg #[a', b', c'])).run P w = .ok (eqSc a a' && eqSc b b' && eqSc c c') w := by
  obtain ⟨f0, f1, f2, hu, u0, u1, u2, ⟨n0, n1, n2⟩, ⟨o0, o1, o2⟩, ⟨s0, s1, s2⟩, hs, hgt⟩ := hp
  have e0 := run_equalSc (P := P) (w := w) u0 h0.1 h0.2 q
  have e1 := run_equalSc (P := P) (w := w) u1 h1.1 h1.2 q
  have e2 := run_equalSc (P := P) (w := w) u2 h2.1 h2.2 q
  rw [Op.equalIn]
  simp only [Sem.run_bind, run_underlying hu, Result.andThen_ok]
  cases q0 : eqSc a a' <;> cases q1 : eqSc b b' <;> cases q2 : eqSc c c' <;> rw [q0] at e0 <;> rw [q1] at e1 <;> rw [q2] at e2 <;>
  simp [hs, n0, n1, n2, o0, o1, o2, part, y8 s0, y8 s1, y8 s2, e0, e1, e2, q0, q1, q2]
theorem P_eqTrip {k0 k1 k2 : ScK} {a b c a' b' c' : Value} {β : Bool} (hp : TripT P t k0 k1 k2) (hx : ev f x = some (.agg #[a, b, c])) (hy : ev f y = some (.agg #[a', b', c'])) (h0 : k0.has a ∧ k0.has a') (h1 : k1.has b ∧ k1.has b') (h2 : k2.has c ∧ k2.has c') (hβ : (eqSc a a' && eqSc b b' && eqSc c c') = β) : PureV P n ⟨some d, .binOp .eql t x y yt, ty, pos, af, g⟩ f (.bool β) :=
  fun z hz w => by
    subst hβ
    have hgt := hp
    obtain ⟨f0, f1, f2, hu, u0, u1, u2, _, _, _, hs, hgt⟩ := hgt
    have hb : binOp .eql t (.agg #[a, b, c]) (.agg #[a', b', c']) = (do pure (.bool (← Op.equal t (.agg #[a, b, c]) (.agg #[a', b', c'])))) := rfl
    have hg : (eqGuard .eql t x y (.agg #[a, b, c]) (.agg #[a', b', c'])).run P w = .ok () w := by simp [eqGuard, hgt]
    have hq : (Op.equal t (.agg #[a, b, c]) (.agg #[a', b', c'])).run P w = .ok (eqSc a a' && eqSc b b' && eqSc c c') w := run_equalTrip hp h0 h1 h2 9998
    simp only [execOp, hz.ev hx, hz.ev hy, Sem.run_bind, hg, Result.andThen_ok, hb, hq, Sem.run_pure]
theorem P_neTrip {k0 k1 k2 : ScK} {a b c a' b' c' : Value} {β : Bool} (hp : TripT P t k0 k1 k2) (hx : ev f x = some (.agg #[a, b, c])) (hy : ev f y = some (.agg #[a', b', c'])) (h0 : k0.has a ∧ k0.has a') (h1 : k1.has b ∧ k1.has b') (h2 : k2.has c ∧ k2.has c') (hβ : (!(eqSc a a' && eqSc b b' && eqSc c c')) = β) : PureV P n ⟨some d, .binOp .neq t x y yt, ty, pos, af, g⟩ f (.bool β) :=
  fun z hz w => by
    subst hβ
    have hgt := hp
    obtain ⟨f0, f1, f2, hu, u0, u1, u2, _, _, _, hs, hgt⟩ := hgt
    have hb : binOp .neq t (.agg #[a, b, c]) (.agg #[a', b', c']) = (do pure (.bool (!(← Op.equal t (.agg #[a, b, c]) (.agg #[a', b', c']))))) := rfl
    have hg : (eqGuard .neq t x y (.agg #[a, b, c]) (.agg #[a', b', c'])).run P w = .ok () w := by simp [eqGuard, hgt]
    have hq : (Op.equal t (.agg #[a, b, c]) (.agg #[a', b', c'])).run P w = .ok (eqSc a a' && eqSc b b' && eqSc c c') w := run_equalTrip hp h0 h1 h2 9998
    simp only [execOp, hz.ev hx, hz.ev hy, Sem.run_bind, hg, Result.andThen_ok, hb, hq, Sem.run_pure]
end
end Go.Proofs.YtnoioimphcmeiaaGreatDoor
namespace Go.Proofs.YtnoioimphcmeiaaGreatDoor
open Go.RowKit

theorem mixed : Tryz.prog.follows .mixedOrders = true := by kernel_rfl
theorem Yf : Zm Tryz.prog 3 = some ((some (.int .i64 0)), 1, 8) := by kernel_rfl
theorem ti_4 : Zm Tryz.prog 4 = some ((some (.bool false)), 1, 1) := by kernel_rfl
theorem ti_5 : Zm Tryz.prog 5 = some ((some (.int .u8 0)), 1, 1) := by kernel_rfl
theorem ti_9 : Zm Tryz.prog 9 = some ((some (.string (ByteArray.mk #[]))), 1, 16) := by kernel_rfl
theorem ti_25 : Zm Tryz.prog 25 = some ((some (.slice none 0 0)), 1, 24) := by kernel_rfl
theorem yl : Zm Tryz.prog 27 = some ((some (.agg #[(.string (ByteArray.mk #[])), (.slice none 0 0), (.int .i64 0), (.int .i64 0), (.int .i64 0)])), 5, 64) := by kernel_rfl
theorem ti_28 : Zm Tryz.prog 28 = some ((some (.slice none 0 0)), 1, 24) := by kernel_rfl
theorem yb : Zm Tryz.prog 30 = some ((some (.agg #[(.string (ByteArray.mk #[])), (.string (ByteArray.mk #[])), (.slice none 0 0), (.int .i64 0), (.int .i64 0), (.int .i64 0)])), 6, 80) := by kernel_rfl
theorem ti_32 : Zm Tryz.prog 32 = some ((some (.agg #[(.int .i64 0), (.string (ByteArray.mk #[])), (.slice none 0 0), (.int .i64 0), (.int .i64 0), (.int .i64 0), (.string (ByteArray.mk #[])), (.string (ByteArray.mk #[])), (.slice none 0 0), (.int .i64 0), (.int .i64 0), (.int .i64 0), (.string (ByteArray.mk #[]))])), 13, 168) := by kernel_rfl
theorem ti_34 : Zm Tryz.prog 34 = some ((some (.slice none 0 0)), 1, 24) := by kernel_rfl
theorem ti_35 : Zm Tryz.prog 35 = some ((some (.slice none 0 0)), 1, 24) := by kernel_rfl
theorem z6 : Zm Tryz.prog 37 = some ((some (.agg #[(.slice none 0 0), (.slice none 0 0)])), 2, 48) := by kernel_rfl
theorem ZM : Zm Tryz.prog 43 = some ((some (.agg #[(.string (ByteArray.mk #[])), (.int .i64 0), (.bool false)])), 3, 32) := by kernel_rfl
theorem ti_56 : Zm Tryz.prog 56 = some ((some (.slice none 0 0)), 1, 24) := by kernel_rfl
theorem yD : Zm Tryz.prog 71 = some ((some (.agg #[(.int .i64 0), (.string (ByteArray.mk #[])), (.int .i64 0)])), 3, 32) := by kernel_rfl
theorem ti_131 : Zm Tryz.prog 131 = some ((some (.int .u64 0)), 1, 8) := by kernel_rfl
theorem ti_166 : Zm Tryz.prog 166 = some ((some (.float .f64 0)), 1, 8) := by kernel_rfl
theorem ti_171 : Zm Tryz.prog 171 = some ((some (.pointer none)), 1, 8) := by kernel_rfl
theorem ti_173 : Zm Tryz.prog 173 = some ((some (.agg #[(.pointer none), (.slice none 0 0)])), 2, 32) := by kernel_rfl
theorem ti_234 : Zm Tryz.prog 234 = some ((some (.agg #[(.int .u64 0), (.int .u64 0), (.int .i64 0)])), 3, 24) := by kernel_rfl
theorem ti_248 : Zm Tryz.prog 248 = some ((some (.agg #[(.int .u64 0), (.int .u64 0)])), 2, 16) := by kernel_rfl
theorem ti_259 : Zm Tryz.prog 259 = some ((some (.agg #[(.int .i64 0), (.string (ByteArray.mk #[]))])), 2, 24) := by kernel_rfl
theorem Zw : Zg Tryz.prog 2 = true := by kernel_rfl
theorem z_ : Zg Tryz.prog 3 = true := by kernel_rfl
theorem sc_4 : Zg Tryz.prog 4 = true := by kernel_rfl
theorem sc_5 : Zg Tryz.prog 5 = true := by kernel_rfl
theorem yc : Zg Tryz.prog 9 = true := by kernel_rfl
theorem ZC : Zg Tryz.prog 25 = true := by kernel_rfl
theorem Z6 : Zg Tryz.prog 28 = true := by kernel_rfl
theorem yX : Zg Tryz.prog 34 = true := by kernel_rfl
theorem yS : Zg Tryz.prog 35 = true := by kernel_rfl
theorem sc_56 : Zg Tryz.prog 56 = true := by kernel_rfl
theorem sc_74 : Zg Tryz.prog 74 = true := by kernel_rfl
theorem sc_131 : Zg Tryz.prog 131 = true := by kernel_rfl
theorem sc_166 : Zg Tryz.prog 166 = true := by kernel_rfl
theorem sc_171 : Zg Tryz.prog 171 = true := by kernel_rfl
theorem sc_244 : Zg Tryz.prog 244 = true := by kernel_rfl
theorem sc_260 : Zg Tryz.prog 260 = true := by kernel_rfl
theorem Zo : YB Tryz.prog 27 5 = true := by kernel_rfl
theorem Zu : YB Tryz.prog 30 6 = true := by kernel_rfl
theorem st_32 : YB Tryz.prog 32 13 = true := by kernel_rfl
theorem zZ : YB Tryz.prog 37 2 = true := by kernel_rfl
theorem st_43 : YB Tryz.prog 43 3 = true := by kernel_rfl
theorem Yo : YB Tryz.prog 71 3 = true := by kernel_rfl
theorem yG : yC Tryz.prog 27 0 = some 0 := by kernel_rfl
theorem yV : yC Tryz.prog 27 1 = some 1 := by kernel_rfl
theorem yJ : yC Tryz.prog 27 2 = some 2 := by kernel_rfl
theorem ZB : yC Tryz.prog 27 3 = some 3 := by kernel_rfl
theorem ZV : yC Tryz.prog 27 4 = some 4 := by kernel_rfl
theorem yx : yC Tryz.prog 30 0 = some 0 := by kernel_rfl
theorem Zp : yC Tryz.prog 30 1 = some 1 := by kernel_rfl
theorem Zj : yC Tryz.prog 30 2 = some 2 := by kernel_rfl
theorem yy : yC Tryz.prog 30 3 = some 3 := by kernel_rfl
theorem yO : yC Tryz.prog 30 4 = some 4 := by kernel_rfl
theorem ZI : yC Tryz.prog 30 5 = some 5 := by kernel_rfl
theorem fo_32_0 : yC Tryz.prog 32 0 = some 0 := by kernel_rfl
theorem fo_32_1 : yC Tryz.prog 32 1 = some 1 := by kernel_rfl
theorem fo_32_2 : yC Tryz.prog 32 2 = some 6 := by kernel_rfl
theorem ZW : yC Tryz.prog 32 3 = some 12 := by kernel_rfl
theorem yg : yC Tryz.prog 37 0 = some 0 := by kernel_rfl
theorem yf : yC Tryz.prog 37 1 = some 1 := by kernel_rfl
theorem ZO : yC Tryz.prog 43 0 = some 0 := by kernel_rfl
theorem Yb : yC Tryz.prog 43 1 = some 1 := by kernel_rfl
theorem Yc : yC Tryz.prog 71 0 = some 0 := by kernel_rfl
theorem ZJ : yC Tryz.prog 71 1 = some 1 := by kernel_rfl
theorem fo_71_2 : yC Tryz.prog 71 2 = some 2 := by kernel_rfl
theorem fo_173_0 : yC Tryz.prog 173 0 = some 0 := by kernel_rfl
theorem fo_173_1 : yC Tryz.prog 173 1 = some 1 := by kernel_rfl
theorem fo_208_0 : yC Tryz.prog 208 0 = some 0 := by kernel_rfl
theorem fo_208_1 : yC Tryz.prog 208 1 = some 1 := by kernel_rfl
theorem fo_208_2 : yC Tryz.prog 208 2 = some 2 := by kernel_rfl
theorem fo_217_0 : yC Tryz.prog 217 0 = some 0 := by kernel_rfl
theorem fo_217_1 : yC Tryz.prog 217 1 = some 800 := by kernel_rfl
theorem fo_217_2 : yC Tryz.prog 217 2 = some 801 := by kernel_rfl
theorem fo_217_3 : yC Tryz.prog 217 3 = some 802 := by kernel_rfl
theorem fo_217_4 : yC Tryz.prog 217 4 = some 803 := by kernel_rfl
theorem fo_234_0 : yC Tryz.prog 234 0 = some 0 := by kernel_rfl
theorem fo_234_1 : yC Tryz.prog 234 1 = some 1 := by kernel_rfl
theorem fo_234_2 : yC Tryz.prog 234 2 = some 2 := by kernel_rfl
theorem fo_248_0 : yC Tryz.prog 248 0 = some 0 := by kernel_rfl
theorem fo_248_1 : yC Tryz.prog 248 1 = some 1 := by kernel_rfl
theorem fo_259_0 : yC Tryz.prog 259 0 = some 0 := by kernel_rfl
theorem fo_259_1 : yC Tryz.prog 259 1 = some 1 := by kernel_rfl
theorem bi_27_0_1_2_3 : ZZ Tryz.prog 27 [0, 1, 2, 3] = some ([(.string (ByteArray.mk #[])), (.slice none 0 0), (.int .i64 0), (.int .i64 0), (.int .i64 0)], [0, 1, 2, 3]) := by kernel_rfl
theorem bi_27_1 : ZZ Tryz.prog 27 [1] = some ([(.string (ByteArray.mk #[])), (.slice none 0 0), (.int .i64 0), (.int .i64 0), (.int .i64 0)], [1]) := by kernel_rfl
theorem Zq : ZZ Tryz.prog 37 [] = some ([(.slice none 0 0), (.slice none 0 0)], []) := by kernel_rfl
theorem bi_37_0 : ZZ Tryz.prog 37 [0] = some ([(.slice none 0 0), (.slice none 0 0)], [0]) := by kernel_rfl
theorem bi_37_0_1 : ZZ Tryz.prog 37 [0, 1] = some ([(.slice none 0 0), (.slice none 0 0)], [0, 1]) := by kernel_rfl
theorem bi_43_0_1 : ZZ Tryz.prog 43 [0, 1] = some ([(.string (ByteArray.mk #[])), (.int .i64 0), (.bool false)], [0, 1]) := by kernel_rfl
theorem bi_71 : ZZ Tryz.prog 71 [] = some ([(.int .i64 0), (.string (ByteArray.mk #[])), (.int .i64 0)], []) := by kernel_rfl
theorem Yy : ZZ Tryz.prog 71 [0, 1] = some ([(.int .i64 0), (.string (ByteArray.mk #[])), (.int .i64 0)], [0, 1]) := by kernel_rfl
theorem bi_71_0_2 : ZZ Tryz.prog 71 [0, 2] = some ([(.int .i64 0), (.string (ByteArray.mk #[])), (.int .i64 0)], [0, 2]) := by kernel_rfl
theorem bi_71_2 : ZZ Tryz.prog 71 [2] = some ([(.int .i64 0), (.string (ByteArray.mk #[])), (.int .i64 0)], [2]) := by kernel_rfl
theorem cb_8 : zA Tryz.prog 8 = true := by kernel_rfl
theorem Yz : zA Tryz.prog 9 = true := by kernel_rfl
theorem Z3 : zA Tryz.prog 10 = true := by kernel_rfl
theorem cb_11 : zA Tryz.prog 11 = true := by kernel_rfl
theorem cb_12 : zA Tryz.prog 12 = true := by kernel_rfl
theorem cb_13 : zA Tryz.prog 13 = true := by kernel_rfl
theorem cb_14 : zA Tryz.prog 14 = true := by kernel_rfl
theorem cb_15 : zA Tryz.prog 15 = true := by kernel_rfl
theorem cb_16 : zA Tryz.prog 16 = true := by kernel_rfl
theorem cb_17 : zA Tryz.prog 17 = true := by kernel_rfl
theorem cb_18 : zA Tryz.prog 18 = true := by kernel_rfl
theorem cb_19 : zA Tryz.prog 19 = true := by kernel_rfl
theorem cb_20 : zA Tryz.prog 20 = true := by kernel_rfl
theorem cb_21 : zA Tryz.prog 21 = true := by kernel_rfl
theorem cb_22 : zA Tryz.prog 22 = true := by kernel_rfl
theorem cb_23 : zA Tryz.prog 23 = true := by kernel_rfl
theorem cb_24 : zA Tryz.prog 24 = true := by kernel_rfl
theorem cb_25 : zA Tryz.prog 25 = true := by kernel_rfl
theorem cb_26 : zA Tryz.prog 26 = true := by kernel_rfl
theorem cb_30 : zA Tryz.prog 30 = true := by kernel_rfl
theorem cb_31 : zA Tryz.prog 31 = true := by kernel_rfl
theorem cb_32 : zA Tryz.prog 32 = true := by kernel_rfl
theorem cb_33 : zA Tryz.prog 33 = true := by kernel_rfl
theorem cb_34 : zA Tryz.prog 34 = true := by kernel_rfl
theorem cb_35 : zA Tryz.prog 35 = true := by kernel_rfl
theorem cb_36 : zA Tryz.prog 36 = true := by kernel_rfl
theorem cb_37 : zA Tryz.prog 37 = true := by kernel_rfl
theorem cb_38 : zA Tryz.prog 38 = true := by kernel_rfl
theorem cb_39 : zA Tryz.prog 39 = true := by kernel_rfl
theorem cb_40 : zA Tryz.prog 40 = true := by kernel_rfl
theorem cb_41 : zA Tryz.prog 41 = true := by kernel_rfl
theorem cb_42 : zA Tryz.prog 42 = true := by kernel_rfl
theorem cb_43 : zA Tryz.prog 43 = true := by kernel_rfl
theorem cb_44 : zA Tryz.prog 44 = true := by kernel_rfl
theorem cb_45 : zA Tryz.prog 45 = true := by kernel_rfl
theorem cb_46 : zA Tryz.prog 46 = true := by kernel_rfl
theorem cb_47 : zA Tryz.prog 47 = true := by kernel_rfl
theorem cb_48 : zA Tryz.prog 48 = true := by kernel_rfl
theorem cb_49 : zA Tryz.prog 49 = true := by kernel_rfl
theorem cb_50 : zA Tryz.prog 50 = true := by kernel_rfl
theorem cb_51 : zA Tryz.prog 51 = true := by kernel_rfl
theorem cb_59 : zA Tryz.prog 59 = true := by kernel_rfl
theorem cb_60 : zA Tryz.prog 60 = true := by kernel_rfl
theorem cb_61 : zA Tryz.prog 61 = true := by kernel_rfl
theorem cb_62 : zA Tryz.prog 62 = true := by kernel_rfl
theorem cb_63 : zA Tryz.prog 63 = true := by kernel_rfl
theorem cb_64 : zA Tryz.prog 64 = true := by kernel_rfl
theorem Yp : zA Tryz.prog 65 = true := by kernel_rfl
theorem cb_66 : zA Tryz.prog 66 = true := by kernel_rfl
theorem cb_67 : zA Tryz.prog 67 = true := by kernel_rfl
theorem cb_68 : zA Tryz.prog 68 = true := by kernel_rfl
theorem cb_69 : zA Tryz.prog 69 = true := by kernel_rfl
theorem cb_70 : zA Tryz.prog 70 = true := by kernel_rfl
theorem cb_71 : zA Tryz.prog 71 = true := by kernel_rfl
theorem cb_72 : zA Tryz.prog 72 = true := by kernel_rfl
theorem cb_73 : zA Tryz.prog 73 = true := by kernel_rfl
theorem cb_74 : zA Tryz.prog 74 = true := by kernel_rfl
theorem cb_75 : zA Tryz.prog 75 = true := by kernel_rfl
theorem cb_76 : zA Tryz.prog 76 = true := by kernel_rfl
theorem cb_77 : zA Tryz.prog 77 = true := by kernel_rfl
theorem cb_98 : zA Tryz.prog 98 = true := by kernel_rfl
theorem cb_99 : zA Tryz.prog 99 = true := by kernel_rfl
theorem cb_100 : zA Tryz.prog 100 = true := by kernel_rfl
theorem cb_101 : zA Tryz.prog 101 = true := by kernel_rfl
theorem cb_102 : zA Tryz.prog 102 = true := by kernel_rfl
theorem cb_103 : zA Tryz.prog 103 = true := by kernel_rfl
theorem cb_104 : zA Tryz.prog 104 = true := by kernel_rfl
theorem cb_105 : zA Tryz.prog 105 = true := by kernel_rfl
theorem cb_106 : zA Tryz.prog 106 = true := by kernel_rfl
theorem cb_107 : zA Tryz.prog 107 = true := by kernel_rfl
theorem cb_108 : zA Tryz.prog 108 = true := by kernel_rfl
theorem cb_109 : zA Tryz.prog 109 = true := by kernel_rfl
theorem cb_110 : zA Tryz.prog 110 = true := by kernel_rfl
theorem cb_111 : zA Tryz.prog 111 = true := by kernel_rfl
theorem cb_117 : zA Tryz.prog 117 = true := by kernel_rfl
theorem cb_119 : zA Tryz.prog 119 = true := by kernel_rfl
theorem cb_120 : zA Tryz.prog 120 = true := by kernel_rfl
theorem cb_121 : zA Tryz.prog 121 = true := by kernel_rfl
theorem cb_122 : zA Tryz.prog 122 = true := by kernel_rfl
theorem cb_123 : zA Tryz.prog 123 = true := by kernel_rfl
theorem cb_126 : zA Tryz.prog 126 = true := by kernel_rfl
theorem cb_127 : zA Tryz.prog 127 = true := by kernel_rfl
theorem cb_128 : zA Tryz.prog 128 = true := by kernel_rfl
theorem cb_134 : zA Tryz.prog 134 = true := by kernel_rfl
theorem cb_135 : zA Tryz.prog 135 = true := by kernel_rfl
theorem cb_136 : zA Tryz.prog 136 = true := by kernel_rfl
theorem cb_141 : zA Tryz.prog 141 = true := by kernel_rfl
theorem cb_152 : zA Tryz.prog 152 = true := by kernel_rfl
theorem cb_157 : zA Tryz.prog 157 = true := by kernel_rfl
theorem cb_158 : zA Tryz.prog 158 = true := by kernel_rfl
theorem cb_164 : zA Tryz.prog 164 = true := by kernel_rfl
theorem cb_165 : zA Tryz.prog 165 = true := by kernel_rfl
theorem cb_166 : zA Tryz.prog 166 = true := by kernel_rfl
theorem cb_168 : zA Tryz.prog 168 = true := by kernel_rfl
theorem cb_169 : zA Tryz.prog 169 = true := by kernel_rfl
theorem cb_174 : zA Tryz.prog 174 = true := by kernel_rfl
theorem cb_176 : zA Tryz.prog 176 = true := by kernel_rfl
theorem cb_177 : zA Tryz.prog 177 = true := by kernel_rfl
theorem cb_178 : zA Tryz.prog 178 = true := by kernel_rfl
theorem cb_179 : zA Tryz.prog 179 = true := by kernel_rfl
theorem cb_180 : zA Tryz.prog 180 = true := by kernel_rfl
theorem cb_181 : zA Tryz.prog 181 = true := by kernel_rfl
theorem cb_183 : zA Tryz.prog 183 = true := by kernel_rfl
theorem cb_184 : zA Tryz.prog 184 = true := by kernel_rfl
theorem cb_185 : zA Tryz.prog 185 = true := by kernel_rfl
theorem cb_186 : zA Tryz.prog 186 = true := by kernel_rfl
theorem cb_188 : zA Tryz.prog 188 = true := by kernel_rfl
theorem cb_189 : zA Tryz.prog 189 = true := by kernel_rfl
theorem cb_190 : zA Tryz.prog 190 = true := by kernel_rfl
theorem cb_191 : zA Tryz.prog 191 = true := by kernel_rfl
theorem cb_196 : zA Tryz.prog 196 = true := by kernel_rfl
theorem cb_197 : zA Tryz.prog 197 = true := by kernel_rfl

end Go.Proofs.YtnoioimphcmeiaaGreatDoor
namespace Go.Proofs.YtnoioimphcmeiaaGreatDoor

def letN (c : Nat) : Bool := decide (c = 95 ∨ (97 ≤ c ∧ c ≤ 122) ∨ (65 ≤ c ∧ c ≤ 90))
def yL (c : Nat) : Bool := decide (48 ≤ c ∧ c ≤ 57)
def YA (c : Nat) : Bool := decide (c = 32 ∨ c = 9 ∨ c = 10 ∨ c = 13)
def ldN (c : Nat) : Bool := letN c || yL c

/-- How many bytes at the beginning are of a kind. -/
def zQ (p : Nat → Bool) : List UInt8 → Nat
  | [] => 0
  | c :: r => if p c.toNat = true then zQ p r + 1 else 0
theorem Yr (p : Nat → Bool) : ∀ l, zQ p l ≤ l.length
  | [] => Nat.le_refl _
  | c :: r => by
    have := Yr p r
    simp only [zQ, List.length_cons]
    split <;> omega
theorem spanB_in (p : Nat → Bool) : ∀ (l : List UInt8) (i : Nat), i < zQ p l → ∃ c, l[i]? = some c ∧ p c.toNat = true
  | [], i, h => by simp [zQ] at h
  | c :: r, i, h => by
    simp only [zQ] at h
    split at h
    · rename_i hc
      cases i with
      | zero => exact ⟨c, rfl, hc⟩
      | succ i =>
        obtain ⟨d, h1, h2⟩ := spanB_in p r i (by omega)
        exact ⟨d, by simpa using h1, h2⟩
    · omega
theorem spanB_at (p : Nat → Bool) : ∀ (l : List UInt8) (c : UInt8), l[zQ p l]? = some c → p c.toNat = false
  | [], c, h => by simp at h
  | d :: r, c, h => by
    simp only [zQ] at h
    split at h
    · exact spanB_at p r c (by simpa using h)
    · rename_i hd
      have : d = c := by simpa using h
      subst this
      simpa using hd
theorem spanB_eq (p : Nat → Bool) : ∀ (l : List UInt8) (i : Nat), i ≤ l.length → (∀ j, j < i → ∀ c, l[j]? = some c → p c.toNat = true) → (∀ c, l[i]? = some c → p c.toNat = false) → zQ p l = i
  | [], i, hi, _, _ => by simp at hi; simp [zQ, hi]
  | d :: r, i, hi, h1, h2 => by
    cases i with
    | zero => simp [zQ, h2 d rfl]
    | succ i =>
      have := spanB_eq p r i (by simpa using hi) (fun j hj c hc => h1 (j + 1) (by omega) c (by simpa using hc)) (fun c hc => h2 c (by simpa using hc))
      simp [zQ, h1 0 (by omega) d rfl, this]
theorem spanB_all (p : Nat → Bool) : ∀ (l : List UInt8), ∀ c ∈ l.take (zQ p l), p c.toNat = true
  | [], c, h => by simp at h
  | d :: r, c, h => by
    simp only [zQ] at h
    split at h
    · rename_i hd
      rw [List.take_succ_cons] at h
      rcases List.mem_cons.1 h with rfl | h
      · exact hd
      · exact spanB_all p r c h
    · simp at h

/-- A byte in capitals. -/
def upC (c : UInt8) : UInt8 := if 97 ≤ c.toNat ∧ c.toNat ≤ 122 then c - 32 else c
/-- A letter of A to Z. -/
def capN (c : Nat) : Bool := decide (65 ≤ c ∧ c ≤ 90)
theorem upC_toNat (c : UInt8) : (upC c).toNat = if 97 ≤ c.toNat ∧ c.toNat ≤ 122 then c.toNat - 32 else c.toNat := by
  unfold upC
  split
  · rw [UInt8.toNat_sub_of_le]
    · rfl
    · rw [UInt8.le_iff_toNat_le]
      show 32 ≤ c.toNat
      omega
  · rfl

def wordsL : List (List UInt8) := [[83, 69, 76, 69, 67, 84], [70, 82, 79, 77], [87, 72, 69, 82, 69], [71, 82, 79, 85, 80], [66, 89], [79, 82, 68, 69, 82], [65, 83, 67], [68, 69, 83, 67], [76, 73, 77, 73, 84], [65, 83], [74, 79, 73, 78], [79, 78], [65, 78, 68], [79, 82], [78, 79, 84], [73, 83], [78, 85, 76, 76], [84, 82, 85, 69], [70, 65, 76, 83, 69], [67, 79, 85, 78, 84], [83, 85, 77], [77, 73, 78], [77, 65, 88], [73, 78, 83, 69, 82, 84], [73, 78, 84, 79], [86, 65, 76, 85, 69, 83], [85, 80, 68, 65, 84, 69], [83, 69, 84], [68, 69, 76, 69, 84, 69], [67, 82, 69, 65, 84, 69], [84, 65, 66, 76, 69], [68, 82, 79, 80], [73, 78, 84], [82, 69, 65, 76], [84, 69, 88, 84]]
/-- The keywords, a blank about each. -/
def wordsT : List UInt8 := wordsL.foldl (fun a x => a ++ x ++ [32]) [32]

def kwF (w : List UInt8) : Option (List UInt8) := if w.map upC ∈ wordsL then some (w.map upC) else none

/-- A blank, a word without blanks, a blank: it stands in the words' text just if it is one of them. -/
theorem infix_word {u : List UInt8} (hu : ∀ c ∈ u, c ≠ 32) : ∀ (W : List (List UInt8)) (hW : ∀ x ∈ W, x ≠ [] ∧ ∀ c ∈ x, c ≠ 32) (hne : u ≠ []), ([32] ++ u ++ [32]) <:+: (W.foldl (fun a x => a ++ x ++ [32]) [32]) ↔ u ∈ W := by
  have key : ∀ (W : List (List UInt8)) (a : List UInt8), W.foldl (fun a x => a ++ x ++ [32]) a = a ++ W.flatMap (fun x => x ++ [32]) := by
    intro W
    induction W with
    | nil => intro a; simp
    | cons x r ih => intro a; rw [List.foldl_cons, ih]; simp
  have split_word : ∀ (v x s t : List UInt8), (∀ c ∈ v, c ≠ 32) → (∀ c ∈ x, c ≠ 32) → v ++ [32] ++ s = x ++ [32] ++ t → v = x ∧ s = t := by
    intro v
    induction v with
    | nil =>
      intro x s t _ hx he
      cases x with
      | nil => exact ⟨rfl, by simpa using he⟩
      | cons c x => exact absurd (by simpa using (List.cons.inj (by simpa using he)).1 : (32 : UInt8) = c).symm (hx c (by simp))
    | cons d v ih =>
      intro x s t hv hx he
      cases x with
      | nil => exact absurd (by simpa using (List.cons.inj (by simpa using he)).1 : d = 32) (hv d (by simp))
      | cons c x =>
        have he' := List.cons.inj (by simpa using he : d :: (v ++ 32 :: s) = c :: (x ++ 32 :: t))
        obtain ⟨h1, h2⟩ := ih x s t (fun c hc => hv c (by simp [hc])) (fun c hc => hx c (by simp [hc])) (by simpa using he'.2)
        exact ⟨by rw [he'.1, h1], h2⟩
  have main : ∀ (W : List (List UInt8)) (hW : ∀ x ∈ W, x ≠ [] ∧ ∀ c ∈ x, c ≠ 32) (hne : u ≠ []), ([32] ++ u ++ [32]) <:+: ([32] ++ W.flatMap (fun x => x ++ [32])) ↔ u ∈ W := by
    intro W
    induction W with
    | nil =>
      intro _ hne
      constructor
      · rintro ⟨s, t, he⟩
        have := congrArg List.length he
        simp at this
        have h0 : u.length = 0 := by omega
        exact absurd (List.eq_nil_of_length_eq_zero h0) hne
      · intro h; cases h
    | cons x r ih =>
      intro hW hne
      have ih' := ih (fun y hy => hW y (by simp [hy])) hne
      have hx := hW x (by simp)
      constructor
      · rintro ⟨s, t, he⟩
        cases s with
        | nil =>
          have he' : u ++ [32] ++ t = x ++ [32] ++ r.flatMap (fun x => x ++ [32]) := by simpa using he
          exact List.mem_cons.2 (.inl (split_word u x _ _ hu hx.2 he').1)
        | cons c s =>
          have he' : s ++ ([32] ++ u ++ [32]) ++ t = x ++ ([32] ++ r.flatMap (fun x => x ++ [32])) := by
            have := (List.cons.inj (by simpa using he : c :: (s ++ (32 :: (u ++ 32 :: t))) = 32 :: (x ++ 32 :: r.flatMap (fun x => x ++ [32])))).2
            simpa using this
          -- s begins with x
          have hle : x.length ≤ s.length := by
            rcases Nat.lt_or_ge s.length x.length with hlt | hge
            · exfalso
              have h1 := congrArg (·[s.length]?) he'
              simp only [List.append_assoc] at h1
              rw [List.getElem?_append_right (Nat.le_refl _), Nat.sub_self] at h1
              rw [List.getElem?_append_left hlt] at h1
              have h2 : x[s.length]? = some 32 := by rw [← h1]; rfl
              exact hx.2 32 (List.mem_of_getElem? h2) rfl
            · exact hge
          have h3 : s.take x.length = x := by
            have h1 := congrArg (List.take x.length) he'
            rw [List.take_left, List.append_assoc, List.take_append_of_le_length hle] at h1
            exact h1
          have h4 : s.drop x.length ++ ([32] ++ u ++ [32]) ++ t = [32] ++ r.flatMap (fun x => x ++ [32]) := by
            have h1 := congrArg (List.drop x.length) he'
            rw [List.drop_left, List.append_assoc, List.drop_append_of_le_length hle] at h1
            rw [← h1, List.append_assoc]
          exact List.mem_cons.2 (.inr (ih'.1 ⟨_, t, h4⟩))
      · intro h
        rcases List.mem_cons.1 h with rfl | h
        · exact ⟨[], r.flatMap (fun x => x ++ [32]), by simp⟩
        · obtain ⟨s, t, he⟩ := ih'.2 h
          exact ⟨[32] ++ x ++ s, t, by rw [List.flatMap_cons]; rw [show [32] ++ x ++ s ++ ([32] ++ u ++ [32]) ++ t = [32] ++ x ++ (s ++ ([32] ++ u ++ [32]) ++ t) by simp, he]; simp⟩
  intro W hW hne
  rw [key]
  exact main W hW hne

/- words -/
structure Tk where
  kind : Nat
  s : List UInt8
  at_ : Nat
  deriving DecidableEq
/-- A text behind its quote: what it says, how many bytes; none: it is cut. -/
def Zr : List UInt8 → Option (List UInt8 × Nat)
  | [] => none
  | [c] => if c = 39 then some ([], 1) else none
  | c :: d :: r =>
    if c = 39 then
      if d = 39 then (Zr r).map fun x => (39 :: x.1, x.2 + 2) else some ([], 1)
    else (Zr (d :: r)).map fun x => (c :: x.1, x.2 + 1)
termination_by l => l.length

def bigT : List UInt8 := [57, 50, 50, 51, 51, 55, 50, 48, 51, 54, 56, 53, 52, 55, 55, 53, 56, 48, 55]
/-- a is behind b in the order of bytes. -/
def gtB : List UInt8 → List UInt8 → Bool
  | [], _ => false
  | _ :: _, [] => true
  | a :: x, b :: y => if a = b then gtB x y else decide (b.toNat < a.toNat)

inductive Nx where
  | ok (kind : Nat) (s : List UInt8) (n : Nat)
  | er (e : Nat)
  deriving DecidableEq

/-- How many digits the number at the beginning has, the ones behind a point counted: whole, more. -/
def ZF (l : List UInt8) : Nat := if l[zQ yL l]? = some 46 then zQ yL (l.drop (zQ yL l + 1)) else 0
def numF (big : List UInt8 → Bool) (l : List UInt8) : Nx :=
  if 1 < zQ yL l ∧ l[0]? = some 48 then .er 7
  else if 0 < ZF l then
    if big (l.take (zQ yL l + 1 + ZF l)) = true then .er 4 else .ok 4 (l.take (zQ yL l + 1 + ZF l)) (zQ yL l + 1 + ZF l)
  else if 19 < zQ yL l ∨ (zQ yL l = 19 ∧ gtB (l.take 19) bigT = true) then .er 4
  else .ok 3 (l.take (zQ yL l)) (zQ yL l)
def signL : List UInt8 := [40, 41, 44, 46, 61, 60, 62, 43, 45, 42, 59]
def twoL : List (List UInt8) := [[60, 62], [60, 61], [62, 61]]

def ZY (big : List UInt8 → Bool) (l : List UInt8) : Nx :=
  match l with
  | [] => .ok 0 [] 0
  | c :: r =>
    if letN c.toNat = true then
      match kwF (l.take (zQ ldN l)) with
      | some k => .ok 2 k (zQ ldN l)
      | none => if 12 < zQ ldN l then .er 4 else .ok 1 (l.take (zQ ldN l)) (zQ ldN l)
    else if yL c.toNat = true then numF big l
    else if c = 39 then
      match Zr r with
      | some (s, n) => .ok 5 s (n + 1)
      | none => .er 10
    else if l.take 2 ∈ twoL then .ok 6 (l.take 2) 2
    else if c ∈ signL then .ok 6 [c] 1
    else .er 100

/-- The words from a place on; the error behind them and its place. -/
def lexF (big : List UInt8 → Bool) : Nat → List UInt8 → Nat → List Tk × Option (Nat × Nat)
  | 0, _, at_ => ([], some (at_, 0))
  | fuel + 1, l, at_ =>
    match ZY big (l.drop (zQ YA l)) with
    | .er e => ([], some (at_ + zQ YA l, e))
    | .ok kind s n =>
      if kind = 0 then ([⟨kind, s, at_ + zQ YA l⟩], none)
      else (⟨kind, s, at_ + zQ YA l⟩ :: (lexF big fuel (l.drop (zQ YA l + n)) (at_ + zQ YA l + n)).1, (lexF big fuel (l.drop (zQ YA l + n)) (at_ + zQ YA l + n)).2)

theorem textF_le : ∀ (l : List UInt8) (s : List UInt8) (n : Nat), Zr l = some (s, n) → 1 ≤ n ∧ n ≤ l.length ∧ s.length < n
  | [], s, n, h => by simp [Zr] at h
  | [c], s, n, h => by
    simp only [Zr] at h
    split at h
    · simp only [Option.some.injEq, Prod.mk.injEq] at h
      obtain ⟨rfl, rfl⟩ := h
      simp
    · cases h
  | c :: d :: r, s, n, h => by
    simp only [Zr] at h
    split at h
    · split at h
      · obtain ⟨⟨s', n'⟩, h1, h2⟩ := Option.map_eq_some_iff.1 h
        have := textF_le r s' n' h1
        simp only [Prod.mk.injEq] at h2
        obtain ⟨rfl, rfl⟩ := h2
        simp only [List.length_cons]
        omega
      · simp only [Option.some.injEq, Prod.mk.injEq] at h
        obtain ⟨rfl, rfl⟩ := h
        simp
    · obtain ⟨⟨s', n'⟩, h1, h2⟩ := Option.map_eq_some_iff.1 h
      have := textF_le (d :: r) s' n' h1
      simp only [Prod.mk.injEq] at h2
      obtain ⟨rfl, rfl⟩ := h2
      simp only [List.length_cons] at *
      omega
termination_by l => l.length

theorem moreF_le (l : List UInt8) (h : 0 < ZF l) : zQ yL l + 1 + ZF l ≤ l.length := by
  unfold ZF at *
  split at h
  · rename_i hc
    rw [if_pos hc]
    have h1 := Yr yL (l.drop (zQ yL l + 1))
    have h2 := (List.getElem?_eq_some_iff.1 hc).1
    rw [List.length_drop] at h1
    omega
  · omega

theorem nextF_ok {big : List UInt8 → Bool} {l s : List UInt8} {k n : Nat} (h : ZY big l = .ok k s n) : (k = 0 ∧ l = [] ∧ s = [] ∧ n = 0) ∨ (0 < k ∧ k < 7 ∧ 0 < n ∧ n ≤ l.length ∧ s.length ≤ n) := by
  cases l with
  | nil =>
    simp only [ZY, Nx.ok.injEq] at h
    obtain ⟨rfl, rfl, rfl⟩ := h
    exact .inl ⟨rfl, rfl, rfl, rfl⟩
  | cons c r =>
    right
    have hld := Yr ldN (c :: r)
    have hdg := Yr yL (c :: r)
    simp only [ZY] at h
    split at h
    · rename_i hl
      have hpos : 0 < zQ ldN (c :: r) := by simp [zQ, ldN, hl]
      split at h
      · rename_i k' hk
        simp only [Nx.ok.injEq] at h
        obtain ⟨rfl, rfl, rfl⟩ := h
        unfold kwF at hk
        split at hk
        · cases hk
          refine ⟨by omega, by omega, hpos, hld, ?_⟩
          simp
          omega
        · cases hk
      · split at h
        · cases h
        · simp only [Nx.ok.injEq] at h
          obtain ⟨rfl, rfl, rfl⟩ := h
          exact ⟨by omega, by omega, hpos, hld, by simp; omega⟩
    · split at h
      · rename_i hd
        have hpos : 0 < zQ yL (c :: r) := by simp [zQ, hd]
        unfold numF at h
        split at h
        · cases h
        · split at h
          · rename_i hm
            have := moreF_le _ hm
            split at h
            · cases h
            · simp only [Nx.ok.injEq] at h
              obtain ⟨rfl, rfl, rfl⟩ := h
              exact ⟨by omega, by omega, by omega, this, by simp; omega⟩
          · split at h
            · cases h
            · simp only [Nx.ok.injEq] at h
              obtain ⟨rfl, rfl, rfl⟩ := h
              exact ⟨by omega, by omega, hpos, hdg, by simp; omega⟩
      · split at h
        · split at h
          · rename_i s' n' ht
            simp only [Nx.ok.injEq] at h
            obtain ⟨rfl, rfl, rfl⟩ := h
            have := textF_le r s' n' ht
            exact ⟨by omega, by omega, by omega, by simp only [List.length_cons]; omega, by omega⟩
          · cases h
        · split at h
          · rename_i ht
            simp only [Nx.ok.injEq] at h
            obtain ⟨rfl, rfl, rfl⟩ := h
            have hlen : 2 ≤ (c :: r).length := by
              have h2 : ((c :: r).take 2).length = 2 := by
                simp only [twoL, List.mem_cons, List.not_mem_nil, or_false] at ht
                rcases ht with ht | ht | ht <;> rw [ht] <;> rfl
              rw [List.length_take] at h2
              omega
            exact ⟨by omega, by omega, by omega, hlen, by simp; omega⟩
          · split at h
            · simp only [Nx.ok.injEq] at h
              obtain ⟨rfl, rfl, rfl⟩ := h
              exact ⟨by omega, by omega, by omega, by simp, by simp⟩
            · cases h
end Go.Proofs.YtnoioimphcmeiaaGreatDoor
namespace Go.Proofs.YtnoioimphcmeiaaGreatDoor
open Go.RowKit
set_option maxRecDepth 20000

/-- A function value that tells whether a sign is of a kind. -/
def PredF (P : Program) (fv : Value) (p : Nat → Bool) : Prop :=
  (∀ c, 128 ≤ c → p c = false) ∧ ∃ k : FuncId, fv = .func (.func k) #[] #[] ∧ zA P k = true ∧ ∀ (w : World) (c : Nat), c ≤ 1114111 → Ret P k [.int .i32 (c : Int)] w fun v w' => v = .bool (p c) ∧ w = w'
section
variable {P : Program} {n : Nat} {N : Nxt} {Q : Post} {f : Fr} {ds : List Deferred} {w : World}
variable {d : Nat} {ty : TypeId} {pos : String} {af : Array Edge} {g : Option (Nat × Bool)}
theorem S_callPred {fv : Value} {p : Nat → Bool} {c : Operand} {l : List Operand} {ats : Array TypeId} {s : Nat} {β : Bool} (hp : PredF P fv p) (hf : ev f c = some fv) (hl : evs f l = some [.int .i32 (s : Int)]) (hs : s ≤ 1114111) (hβ : p s = β) (h : N ((d, .bool β) :: f) ds w) (hn : Nat.blt d n = true := by rfl) :
    opF P n ⟨some d, .call { callee := .value c, args := l.toArray, argTypes := ats }, ty, pos, af, g⟩ N Q f ds w := by
  obtain ⟨_, k, rfl, h2, h3⟩ := hp
  exact S_callv (first := []) (captured := []) h2 hf hl (h3 w s hs) (fun v w' ⟨hv, hw⟩ => by subst hv; subst hw; rw [hβ]; exact h) hn
end

section
variable {w : World}
theorem letter_ret (c : Nat) : Ret Tryz.prog 100 [.int .i32 (c : Int)] w fun v w' => v = .bool (letN c) ∧ w = w' := by
  refine zN Tryz.func100 Tryz.ntmps100 rfl rfl ?_
  by_cases h1 : c = 95
  · rw [show letN c = true from decide_eq_true (by omega)]
    refine zf (zb (L (S (zd rfl) (zg (zc (zf (zb (L (S (za rfl) ?_)))))))))
    refine L (S (zR rfl rfl (decide_eq_true (by omega))) ?_)
    refine L (S (za rfl) (zl (j := 2) (dj := 5) (b := false) (b' := true) (d := 6) rfl (zl (j := 2) (dj := 5) (b := false) (b' := true) (d := 7) rfl (zl (j := 2) (dj := 5) (b := false) (b' := true) (d := 8) rfl (ZE (j := 5) (dj := 8) (b := true) (d := 9) rfl (ZE (j := 5) (dj := 8) (b := true) (d := 10) rfl (zl (j := 2) (dj := 5) (b := false) (b' := true) (d := 11) rfl (L (S (zt rfl rfl) (L (S (za rfl) (zl (j := 10) (dj := 13) (b := false) (b' := true) (d := 14) rfl (zl (j := 10) (dj := 13) (b := false) (b' := true) (d := 15) rfl (zl (j := 10) (dj := 13) (b := false) (b' := true) (d := 16) rfl (ZE (j := 13) (dj := 16) (b := true) (d := 17) rfl (ZE (j := 13) (dj := 16) (b := true) (d := 18) rfl (zl (j := 10) (dj := 13) (b := false) (b' := true) (d := 19) rfl (L (S (zt rfl rfl) (L (S (zd rfl) (zg (zc (zy ?_))))))))))))))))))))))))
    refine zC Tryz.results100 rfl ?_
    exact ⟨rfl, rfl⟩
  · by_cases h2 : 97 ≤ c
    · by_cases h3 : c ≤ 122
      · rw [show letN c = true from decide_eq_true (by omega)]
        refine zf (zb (L (S (zd rfl) (zg (zc (zf (zb (L (S (za rfl) ?_)))))))))
        refine L (S (zR rfl rfl (decide_eq_false (by omega))) ?_)
        refine L (S (za rfl) (zh (j := 2) (dj := 5) (b := false) (S (za rfl) ?_) rfl))
        refine zh (j := 2) (dj := 5) (b := false) (S (y_ rfl rfl (decide_eq_true (by omega))) ?_) rfl
        refine zh (j := 2) (dj := 5) (b := false) (S (za rfl) (zh (j := 5) (dj := 8) (b := true) (S (za rfl) ?_) rfl)) rfl
        refine zh (j := 5) (dj := 8) (b := true) (S (Yd rfl rfl (decide_eq_true (by omega))) ?_) rfl
        refine zh (j := 2) (dj := 5) (b := false) (S (zt rfl rfl) (L (S (zj rfl rfl) (L (S (za rfl) (zl (j := 10) (dj := 13) (b := false) (b' := true) (d := 14) rfl (zl (j := 10) (dj := 13) (b := false) (b' := true) (d := 15) rfl (zl (j := 10) (dj := 13) (b := false) (b' := true) (d := 16) rfl (ZE (j := 13) (dj := 16) (b := true) (d := 17) rfl (ZE (j := 13) (dj := 16) (b := true) (d := 18) rfl (zl (j := 10) (dj := 13) (b := false) (b' := true) (d := 19) rfl (L (S (zt rfl rfl) (L (S (zd rfl) (zg (zc (zy ?_)))))))))))))))))) rfl
        refine zC Tryz.results100 rfl ?_
        exact ⟨rfl, rfl⟩
      · rw [show letN c = false from decide_eq_false (by omega)]
        refine zf (zb (L (S (zd rfl) (zg (zc (zf (zb (L (S (za rfl) ?_)))))))))
        refine L (S (zR rfl rfl (decide_eq_false (by omega))) ?_)
        refine L (S (za rfl) (zh (j := 2) (dj := 5) (b := false) (S (za rfl) ?_) rfl))
        refine zh (j := 2) (dj := 5) (b := false) (S (y_ rfl rfl (decide_eq_true (by omega))) ?_) rfl
        refine zh (j := 2) (dj := 5) (b := false) (S (za rfl) (zh (j := 5) (dj := 8) (b := true) (S (za rfl) ?_) rfl)) rfl
        refine zh (j := 5) (dj := 8) (b := true) (S (Yd rfl rfl (decide_eq_false (by omega))) ?_) rfl
        refine zh (j := 2) (dj := 5) (b := false) (S (zt rfl rfl) (L (S (zj rfl rfl) (L (S (za rfl) (zh (j := 10) (dj := 13) (b := false) (S (za rfl) ?_) rfl)))))) rfl
        refine zh (j := 10) (dj := 13) (b := false) (S (y_ rfl rfl (decide_eq_true (by omega))) ?_) rfl
        refine zh (j := 10) (dj := 13) (b := false) (S (za rfl) (zh (j := 13) (dj := 16) (b := true) (S (za rfl) ?_) rfl)) rfl
        refine zh (j := 13) (dj := 16) (b := true) (S (Yd rfl rfl (decide_eq_false (by omega))) ?_) rfl
        refine zh (j := 10) (dj := 13) (b := false) (S (zt rfl rfl) (L (S (zj rfl rfl) (L (S (zd rfl) (zg (zc (zy ?_)))))))) rfl
        refine zC Tryz.results100 rfl ?_
        exact ⟨rfl, rfl⟩
    · by_cases h4 : 65 ≤ c
      · by_cases h5 : c ≤ 90
        · rw [show letN c = true from decide_eq_true (by omega)]
          refine zf (zb (L (S (zd rfl) (zg (zc (zf (zb (L (S (za rfl) ?_)))))))))
          refine L (S (zR rfl rfl (decide_eq_false (by omega))) ?_)
          refine L (S (za rfl) (zh (j := 2) (dj := 5) (b := false) (S (za rfl) ?_) rfl))
          refine zh (j := 2) (dj := 5) (b := false) (S (y_ rfl rfl (decide_eq_false (by omega))) ?_) rfl
          refine zh (j := 2) (dj := 5) (b := false) (S (za rfl) (zl (j := 5) (dj := 8) (b := true) (b' := false) (d := 9) rfl (zl (j := 5) (dj := 8) (b := true) (b' := false) (d := 10) rfl (zh (j := 2) (dj := 5) (b := false) (S (zj rfl rfl) (L (S (zj rfl rfl) (L (S (za rfl) (zh (j := 10) (dj := 13) (b := false) (S (za rfl) ?_) rfl)))))) rfl)))) rfl
          refine zh (j := 10) (dj := 13) (b := false) (S (y_ rfl rfl (decide_eq_true (by omega))) ?_) rfl
          refine zh (j := 10) (dj := 13) (b := false) (S (za rfl) (zh (j := 13) (dj := 16) (b := true) (S (za rfl) ?_) rfl)) rfl
          refine zh (j := 13) (dj := 16) (b := true) (S (Yd rfl rfl (decide_eq_true (by omega))) ?_) rfl
          refine zh (j := 10) (dj := 13) (b := false) (S (zt rfl rfl) (L (S (zj rfl rfl) (L (S (zd rfl) (zg (zc (zy ?_)))))))) rfl
          refine zC Tryz.results100 rfl ?_
          exact ⟨rfl, rfl⟩
        · rw [show letN c = false from decide_eq_false (by omega)]
          refine zf (zb (L (S (zd rfl) (zg (zc (zf (zb (L (S (za rfl) ?_)))))))))
          refine L (S (zR rfl rfl (decide_eq_false (by omega))) ?_)
          refine L (S (za rfl) (zh (j := 2) (dj := 5) (b := false) (S (za rfl) ?_) rfl))
          refine zh (j := 2) (dj := 5) (b := false) (S (y_ rfl rfl (decide_eq_false (by omega))) ?_) rfl
          refine zh (j := 2) (dj := 5) (b := false) (S (za rfl) (zl (j := 5) (dj := 8) (b := true) (b' := false) (d := 9) rfl (zl (j := 5) (dj := 8) (b := true) (b' := false) (d := 10) rfl (zh (j := 2) (dj := 5) (b := false) (S (zj rfl rfl) (L (S (zj rfl rfl) (L (S (za rfl) (zh (j := 10) (dj := 13) (b := false) (S (za rfl) ?_) rfl)))))) rfl)))) rfl
          refine zh (j := 10) (dj := 13) (b := false) (S (y_ rfl rfl (decide_eq_true (by omega))) ?_) rfl
          refine zh (j := 10) (dj := 13) (b := false) (S (za rfl) (zh (j := 13) (dj := 16) (b := true) (S (za rfl) ?_) rfl)) rfl
          refine zh (j := 13) (dj := 16) (b := true) (S (Yd rfl rfl (decide_eq_false (by omega))) ?_) rfl
          refine zh (j := 10) (dj := 13) (b := false) (S (zt rfl rfl) (L (S (zj rfl rfl) (L (S (zd rfl) (zg (zc (zy ?_)))))))) rfl
          refine zC Tryz.results100 rfl ?_
          exact ⟨rfl, rfl⟩
      · rw [show letN c = false from decide_eq_false (by omega)]
        refine zf (zb (L (S (zd rfl) (zg (zc (zf (zb (L (S (za rfl) ?_)))))))))
        refine L (S (zR rfl rfl (decide_eq_false (by omega))) ?_)
        refine L (S (za rfl) (zh (j := 2) (dj := 5) (b := false) (S (za rfl) ?_) rfl))
        refine zh (j := 2) (dj := 5) (b := false) (S (y_ rfl rfl (decide_eq_false (by omega))) ?_) rfl
        refine zh (j := 2) (dj := 5) (b := false) (S (za rfl) (zl (j := 5) (dj := 8) (b := true) (b' := false) (d := 9) rfl (zl (j := 5) (dj := 8) (b := true) (b' := false) (d := 10) rfl (zh (j := 2) (dj := 5) (b := false) (S (zj rfl rfl) (L (S (zj rfl rfl) (L (S (za rfl) (zh (j := 10) (dj := 13) (b := false) (S (za rfl) ?_) rfl)))))) rfl)))) rfl
        refine zh (j := 10) (dj := 13) (b := false) (S (y_ rfl rfl (decide_eq_false (by omega))) ?_) rfl
        refine zh (j := 10) (dj := 13) (b := false) (S (za rfl) (zl (j := 13) (dj := 16) (b := true) (b' := false) (d := 17) rfl (zl (j := 13) (dj := 16) (b := true) (b' := false) (d := 18) rfl (zh (j := 10) (dj := 13) (b := false) (S (zj rfl rfl) (L (S (zj rfl rfl) (L (S (zd rfl) (zg (zc (zy ?_)))))))) rfl)))) rfl
        refine zC Tryz.results100 rfl ?_
        exact ⟨rfl, rfl⟩

theorem digit_ret (c : Nat) : Ret Tryz.prog 102 [.int .i32 (c : Int)] w fun v w' => v = .bool (yL c) ∧ w = w' := by
  refine zN Tryz.func102 Tryz.ntmps102 rfl rfl ?_
  by_cases h1 : 48 ≤ c
  · by_cases h2 : c ≤ 57
    · rw [show yL c = true from decide_eq_true (by omega)]
      refine zf (zb (L (S (zd rfl) (zg (zc (zf (zb (L (S (za rfl) ?_)))))))))
      refine L (S (y_ rfl rfl (decide_eq_true (by omega))) ?_)
      refine L (S (za rfl) (zh (j := 2) (dj := 5) (b := true) (S (za rfl) ?_) rfl))
      refine zh (j := 2) (dj := 5) (b := true) (S (Yd rfl rfl (decide_eq_true (by omega))) ?_) rfl
      refine L (S (zt rfl rfl) (L (S (zd rfl) (zg (zc (zy ?_))))))
      refine zC Tryz.results102 rfl ?_
      exact ⟨rfl, rfl⟩
    · rw [show yL c = false from decide_eq_false (by omega)]
      refine zf (zb (L (S (zd rfl) (zg (zc (zf (zb (L (S (za rfl) ?_)))))))))
      refine L (S (y_ rfl rfl (decide_eq_true (by omega))) ?_)
      refine L (S (za rfl) (zh (j := 2) (dj := 5) (b := true) (S (za rfl) ?_) rfl))
      refine zh (j := 2) (dj := 5) (b := true) (S (Yd rfl rfl (decide_eq_false (by omega))) ?_) rfl
      refine L (S (zt rfl rfl) (L (S (zd rfl) (zg (zc (zy ?_))))))
      refine zC Tryz.results102 rfl ?_
      exact ⟨rfl, rfl⟩
  · rw [show yL c = false from decide_eq_false (by omega)]
    refine zf (zb (L (S (zd rfl) (zg (zc (zf (zb (L (S (za rfl) ?_)))))))))
    refine L (S (y_ rfl rfl (decide_eq_false (by omega))) ?_)
    refine L (S (za rfl) (zl (j := 2) (dj := 5) (b := true) (b' := false) (d := 6) rfl (zl (j := 2) (dj := 5) (b := true) (b' := false) (d := 7) rfl (L (S (zj rfl rfl) (L (S (zd rfl) (zg (zc (zy ?_))))))))))
    refine zC Tryz.results102 rfl ?_
    exact ⟨rfl, rfl⟩

theorem blank_ret (c : Nat) : Ret Tryz.prog 63 [.int .i32 (c : Int)] w fun v w' => v = .bool (YA c) ∧ w = w' := by
  refine zN Tryz.func63 Tryz.ntmps63 rfl rfl ?_
  by_cases h1 : c = 32
  · rw [show YA c = true from decide_eq_true (by omega)]
    refine zf (zb (L (S (zd rfl) (zg (zc (zf (zb (L (S (za rfl) ?_)))))))))
    refine L (S (zR rfl rfl (decide_eq_true (by omega))) ?_)
    refine L (S (za rfl) (zl (j := 2) (dj := 5) (b := false) (b' := true) (d := 6) rfl (zl (j := 2) (dj := 5) (b := false) (b' := true) (d := 7) rfl (L (S (zt rfl rfl) (L (S (za rfl) (zl (j := 6) (dj := 9) (b := false) (b' := true) (d := 10) rfl (zl (j := 6) (dj := 9) (b := false) (b' := true) (d := 11) rfl (L (S (zt rfl rfl) (L (S (za rfl) (zl (j := 10) (dj := 13) (b := false) (b' := true) (d := 14) rfl (zl (j := 10) (dj := 13) (b := false) (b' := true) (d := 15) rfl (L (S (zt rfl rfl) (L (S (zd rfl) (zg (zc (zy ?_))))))))))))))))))))))
    refine zC Tryz.results63 rfl ?_
    exact ⟨rfl, rfl⟩
  · by_cases h2 : c = 9
    · rw [show YA c = true from decide_eq_true (by omega)]
      refine zf (zb (L (S (zd rfl) (zg (zc (zf (zb (L (S (za rfl) ?_)))))))))
      refine L (S (zR rfl rfl (decide_eq_false (by omega))) ?_)
      refine L (S (za rfl) (zh (j := 2) (dj := 5) (b := false) (S (za rfl) ?_) rfl))
      refine zh (j := 2) (dj := 5) (b := false) (S (zR rfl rfl (decide_eq_true (by omega))) ?_) rfl
      refine L (S (zj rfl rfl) (L (S (za rfl) (zl (j := 6) (dj := 9) (b := false) (b' := true) (d := 10) rfl (zl (j := 6) (dj := 9) (b := false) (b' := true) (d := 11) rfl (L (S (zt rfl rfl) (L (S (za rfl) (zl (j := 10) (dj := 13) (b := false) (b' := true) (d := 14) rfl (zl (j := 10) (dj := 13) (b := false) (b' := true) (d := 15) rfl (L (S (zt rfl rfl) (L (S (zd rfl) (zg (zc (zy ?_))))))))))))))))))
      refine zC Tryz.results63 rfl ?_
      exact ⟨rfl, rfl⟩
    · by_cases h3 : c = 10
      · rw [show YA c = true from decide_eq_true (by omega)]
        refine zf (zb (L (S (zd rfl) (zg (zc (zf (zb (L (S (za rfl) ?_)))))))))
        refine L (S (zR rfl rfl (decide_eq_false (by omega))) ?_)
        refine L (S (za rfl) (zh (j := 2) (dj := 5) (b := false) (S (za rfl) ?_) rfl))
        refine zh (j := 2) (dj := 5) (b := false) (S (zR rfl rfl (decide_eq_false (by omega))) ?_) rfl
        refine L (S (zj rfl rfl) (L (S (za rfl) (zh (j := 6) (dj := 9) (b := false) (S (za rfl) ?_) rfl))))
        refine zh (j := 6) (dj := 9) (b := false) (S (zR rfl rfl (decide_eq_true (by omega))) ?_) rfl
        refine L (S (zj rfl rfl) (L (S (za rfl) (zl (j := 10) (dj := 13) (b := false) (b' := true) (d := 14) rfl (zl (j := 10) (dj := 13) (b := false) (b' := true) (d := 15) rfl (L (S (zt rfl rfl) (L (S (zd rfl) (zg (zc (zy ?_))))))))))))
        refine zC Tryz.results63 rfl ?_
        exact ⟨rfl, rfl⟩
      · by_cases h4 : c = 13
        · rw [show YA c = true from decide_eq_true (by omega)]
          refine zf (zb (L (S (zd rfl) (zg (zc (zf (zb (L (S (za rfl) ?_)))))))))
          refine L (S (zR rfl rfl (decide_eq_false (by omega))) ?_)
          refine L (S (za rfl) (zh (j := 2) (dj := 5) (b := false) (S (za rfl) ?_) rfl))
          refine zh (j := 2) (dj := 5) (b := false) (S (zR rfl rfl (decide_eq_false (by omega))) ?_) rfl
          refine L (S (zj rfl rfl) (L (S (za rfl) (zh (j := 6) (dj := 9) (b := false) (S (za rfl) ?_) rfl))))
          refine zh (j := 6) (dj := 9) (b := false) (S (zR rfl rfl (decide_eq_false (by omega))) ?_) rfl
          refine L (S (zj rfl rfl) (L (S (za rfl) (zh (j := 10) (dj := 13) (b := false) (S (za rfl) ?_) rfl))))
          refine zh (j := 10) (dj := 13) (b := false) (S (zR rfl rfl (decide_eq_true (by omega))) ?_) rfl
          refine L (S (zj rfl rfl) (L (S (zd rfl) (zg (zc (zy ?_))))))
          refine zC Tryz.results63 rfl ?_
          exact ⟨rfl, rfl⟩
        · rw [show YA c = false from decide_eq_false (by omega)]
          refine zf (zb (L (S (zd rfl) (zg (zc (zf (zb (L (S (za rfl) ?_)))))))))
          refine L (S (zR rfl rfl (decide_eq_false (by omega))) ?_)
          refine L (S (za rfl) (zh (j := 2) (dj := 5) (b := false) (S (za rfl) ?_) rfl))
          refine zh (j := 2) (dj := 5) (b := false) (S (zR rfl rfl (decide_eq_false (by omega))) ?_) rfl
          refine L (S (zj rfl rfl) (L (S (za rfl) (zh (j := 6) (dj := 9) (b := false) (S (za rfl) ?_) rfl))))
          refine zh (j := 6) (dj := 9) (b := false) (S (zR rfl rfl (decide_eq_false (by omega))) ?_) rfl
          refine L (S (zj rfl rfl) (L (S (za rfl) (zh (j := 10) (dj := 13) (b := false) (S (za rfl) ?_) rfl))))
          refine zh (j := 10) (dj := 13) (b := false) (S (zR rfl rfl (decide_eq_false (by omega))) ?_) rfl
          refine L (S (zj rfl rfl) (L (S (zd rfl) (zg (zc (zy ?_))))))
          refine zC Tryz.results63 rfl ?_
          exact ⟨rfl, rfl⟩

theorem letdig_ret (c : Nat) : Ret Tryz.prog 101 [.int .i32 (c : Int)] w fun v w' => v = .bool (ldN c) ∧ w = w' := by
  refine zN Tryz.func101 Tryz.ntmps101 rfl rfl ?_
  unfold ldN
  have hl := letter_ret (w := w) c
  have hd := digit_ret (w := w) c
  cases h1 : letN c with
  | true =>
    rw [h1] at hl
    refine zf (zb (L (S (zd rfl) (zg (zc (zf (zb (L (S (za rfl) ?_)))))))))
    refine L (zq cb_100 rfl (hl) ?_)
    rintro _ _ ⟨rfl, rfl⟩
    refine L (S (za rfl) (zl (j := 2) (dj := 5) (b := false) (b' := true) (d := 6) rfl (zl (j := 2) (dj := 5) (b := false) (b' := true) (d := 7) rfl (L (S (zt rfl rfl) (L (S (zd rfl) (zg (zc (zy ?_))))))))))
    refine zC Tryz.results101 rfl ?_
    exact ⟨rfl, rfl⟩
  | false =>
    rw [h1] at hl
    cases h2 : yL c with
    | true =>
      rw [h2] at hd
      refine zf (zb (L (S (zd rfl) (zg (zc (zf (zb (L (S (za rfl) ?_)))))))))
      refine L (zq cb_100 rfl (hl) ?_)
      rintro _ _ ⟨rfl, rfl⟩
      refine L (S (za rfl) (zh (j := 2) (dj := 5) (b := false) (S (za rfl) ?_) rfl))
      refine zh (j := 2) (dj := 5) (b := false) (zq cb_102 rfl (hd) ?_) rfl
      rintro _ _ ⟨rfl, rfl⟩
      refine L (S (zj rfl rfl) (L (S (zd rfl) (zg (zc (zy ?_))))))
      refine zC Tryz.results101 rfl ?_
      exact ⟨rfl, rfl⟩
    | false =>
      rw [h2] at hd
      refine zf (zb (L (S (zd rfl) (zg (zc (zf (zb (L (S (za rfl) ?_)))))))))
      refine L (zq cb_100 rfl (hl) ?_)
      rintro _ _ ⟨rfl, rfl⟩
      refine L (S (za rfl) (zh (j := 2) (dj := 5) (b := false) (S (za rfl) ?_) rfl))
      refine zh (j := 2) (dj := 5) (b := false) (zq cb_102 rfl (hd) ?_) rfl
      rintro _ _ ⟨rfl, rfl⟩
      refine L (S (zj rfl rfl) (L (S (zd rfl) (zg (zc (zy ?_))))))
      refine zC Tryz.results101 rfl ?_
      exact ⟨rfl, rfl⟩

theorem pred_dig : PredF Tryz.prog (.func (.func 102) #[] #[]) yL := ⟨fun c h => decide_eq_false (by omega), _, rfl, cb_102, fun w c _ => digit_ret c⟩
theorem pred_bl : PredF Tryz.prog (.func (.func 63) #[] #[]) YA := ⟨fun c h => decide_eq_false (by omega), _, rfl, cb_63, fun w c _ => blank_ret c⟩
theorem pred_ld : PredF Tryz.prog (.func (.func 101) #[] #[]) ldN := ⟨fun c h => by
  have h1 : letN c = false := decide_eq_false (by omega)
  have h2 : yL c = false := decide_eq_false (by omega)
  simp [ldN, h1, h2], _, rfl, cb_101, fun w c _ => letdig_ret c⟩

theorem span_ret {fv : Value} {p : Nat → Bool} (l : List UInt8) (hp : PredF Tryz.prog fv p) (hl : l.length < 9223372036854775808) :
    Ret Tryz.prog 62 [.string (str l), fv] w fun v w' => v = .int .i64 (zQ p l : Int) ∧ Mv No w w' := by
  have hsz := yR l
  refine zN Tryz.func62 Tryz.ntmps62 rfl rfl ?_
  refine zf (zb (L (S (zd rfl) (zg (zc (zf (zf (zb (L (S (za rfl) ?_))))))))))
  refine L (S_rangeT Tryz.underlying9 rfl ?_)
  rintro b8 w1 hb1 hm1 hn1
  refine zg (zc (zx ?_))
  refine yF (γ := Nat) (fun i => [(0, .string (str l)), (1, fv), (8, .pointer (some ⟨b8, 0, none⟩))]) (fun i wr => Itr wr b8 (str l) i ∧ i ≤ l.length ∧ (∀ j, j < i → ∀ c, l[j]? = some c → p c.toNat = true) ∧ Mv No w wr) (fun i => l.length - i) 0 (.cons rfl (.cons rfl (.cons rfl (.nil _)))) ⟨hb1, Nat.zero_le _, fun j hj => by omega, hm1⟩ ?_
  rintro i wr ⟨hi, hle, hall, hmr⟩
  rcases Nat.lt_or_ge i l.length with hlt | hge
  · obtain ⟨c, hc⟩ : ∃ c, l[i]? = some c := ⟨l[i], List.getElem?_eq_getElem hlt⟩
    rcases Nat.lt_or_ge c.toNat 128 with hlo | hhi
    · cases hpc : p c.toNat with
      | true =>
        refine zf (zb ?_)
        refine L (S_nextLo rfl hi (yd hc) hlo ?_)
        rintro w2 hi2 hm2
        refine L (S (zv rfl rfl) (zg (zc (zf (zr rfl (zo (zc (zx (zf (zb (L (S (zv rfl rfl) (L (S (zv rfl rfl) (L (S (zd rfl) (L (S (zd rfl) (zg (zc (zf (zb (L (S (za rfl) (L (S (za rfl) ?_))))))))))))))))))))))))))
        refine L (S_callPred hp rfl rfl (by omega) hpc ?_)
        refine L (S (yu rfl rfl) (zg (zc (zk rfl (zo (yj (zc ?_)))))))
        exact ⟨rfl, i + 1, .cons rfl (.cons rfl (.cons rfl (.nil _))), ⟨hi2, hlt, fun j hj d hd => by
          by_cases hji : j = i
          · subst hji; rw [hc] at hd; cases hd; exact hpc
          · exact hall j (by omega) d hd, hmr.new hm2 hn1⟩, by omega⟩
      | false =>
        have hs : zQ p l = i := spanB_eq p l i (by omega) hall (fun d hd => by rw [hc] at hd; cases hd; exact hpc)
        rw [hs]
        refine zf (zb ?_)
        refine L (S_nextLo rfl hi (yd hc) hlo ?_)
        rintro w2 hi2 hm2
        refine L (S (zv rfl rfl) (zg (zc (zf (zr rfl (zo (zc (zx (zf (zb (L (S (zv rfl rfl) (L (S (zv rfl rfl) (L (S (zd rfl) (L (S (zd rfl) (zg (zc (zf (zb (L (S (za rfl) (L (S (za rfl) ?_))))))))))))))))))))))))))
        refine L (S_callPred hp rfl rfl (by omega) hpc ?_)
        refine L (S (yu rfl rfl) (zg (zc (zr rfl (zf (zb (L (S (za rfl) (L (S (zd rfl) (zg (zc (zy (zP (zm (zP (zm ?_)))))))))))))))))
        refine zC Tryz.results62 rfl ?_
        exact ⟨rfl, hmr.new hm2 hn1⟩
    · have hs : zQ p l = i := spanB_eq p l i (by omega) hall (fun d hd => by rw [hc] at hd; cases hd; exact hp.1 _ hhi)
      rw [hs]
      refine zf (zb ?_)
      refine L (S_nextHi rfl hi (yd hc) hhi ?_)
      rintro w2 r k hr1 hr2 hi2 hm2
      refine L (S (zv rfl rfl) (zg (zc (zf (zr rfl (zo (zc (zx (zf (zb (L (S (zv rfl rfl) (L (S (zv rfl rfl) (L (S (zd rfl) (L (S (zd rfl) (zg (zc (zf (zb (L (S (za rfl) (L (S (za rfl) ?_))))))))))))))))))))))))))
      refine L (S_callPred hp rfl rfl hr2 (hp.1 _ hr1) ?_)
      refine L (S (yu rfl rfl) (zg (zc (zr rfl (zf (zb (L (S (za rfl) (L (S (zd rfl) (zg (zc (zy (zP (zm (zP (zm ?_)))))))))))))))))
      refine zC Tryz.results62 rfl ?_
      exact ⟨rfl, hmr.new hm2 hn1⟩
  · have hs : zQ p l = l.length := spanB_eq p l l.length (Nat.le_refl _) (fun j hj => hall j (by omega)) (fun c hc => by rw [List.getElem?_eq_none (Nat.le_refl _)] at hc; cases hc)
    rw [hs]
    refine zf (zb ?_)
    refine L (S_nextEnd rfl hi (by omega) ?_)
    refine L (S (zv rfl rfl) (zg (zc (zf (zk rfl (yn (zL (zL (yK (zc (zf (zb (L (S (za rfl) ?_))))))))))))))
    refine L (S (yi Tryz.underlying9 rfl) ?_)
    refine L (S (zd rfl) (zg (zc (zy ?_))))
    refine zC Tryz.results62 rfl ?_
    exact ⟨by rw [yR], hmr⟩
end
end Go.Proofs.YtnoioimphcmeiaaGreatDoor
namespace Go.Proofs
open Go.Shelf
def Tryz.lays169_ren : Go.Shelf.Ren := ⟨fun | 169 => 122 | n => n, fun | 70 => 171 | 9 => 9 | 0 => 0 | 72 => 173 | 37 => 56 | 127 => 182 | 3 => 3 | 5 => 5 | n => n, fun | n => n⟩
theorem Tryz.lays169 : Go.Proofs.Lays.n169 Tryz.prog Tryz.lays169_ren := {
  mixed := by kernel_rfl
  f169 := Tryz.func122.trans (congrArg some (by kernel_rfl))
  t0 := Tryz.underlying0
  a0 := Tryz.isAgg0
  z0 := Tryz.sizeOf0
  v0 := Tryz.zeroValue0
  t3 := Tryz.underlying3
  a3 := Tryz.isAgg3
  z3 := Tryz.sizeOf3
  v3 := Tryz.zeroValue3
  t9 := Tryz.underlying9
  a9 := Tryz.isAgg9
  z9 := Tryz.sizeOf9
  v9 := Tryz.zeroValue9
  t37 := Tryz.underlying56
  a37 := Tryz.isAgg56
  z37 := Tryz.sizeOf56
  v37 := Tryz.zeroValue56
  t70 := Tryz.underlying171
  a70 := Tryz.isAgg171
  z70 := Tryz.sizeOf171
  v70 := Tryz.zeroValue171
  t72 := Tryz.underlying173
  a72 := Tryz.isAgg173
  z72 := Tryz.sizeOf173
  v72 := Tryz.zeroValue173
  t127 := Tryz.underlying182
  a127 := Tryz.isAgg182
  z127 := Tryz.sizeOf182
  v127 := Tryz.zeroValue182 }
theorem Tryz.Builder_Extra_169 : Builder.Extra Tryz.prog Tryz.lays169_ren := {
  sizeBuilder := by kernel_rfl
  liesBuilder := by kernel_rfl
  t5 := Tryz.underlying5
  a5 := Tryz.isAgg5
  z5 := Tryz.sizeOf5
  v5 := Tryz.zeroValue5
  infoByte := by kernel_rfl
  cellsByte := by kernel_rfl
  sizeByte := by kernel_rfl
  neB5 := by decide }
open Go.RowKit in
/-- (*strings.Builder).String: "String returns the accumulated string.": WHATEVER THE BUILDER HOLDS. (LAID: no walk: one application.) -/
theorem Tryz.Builder_String_any (B b : Nat) (l : List UInt8) (w : World) (h : Lib.IsBuilder 173 5 B b (Lib.byteCells l) w) (hBw : B ≤ w.heap.size) :
    Calls Tryz.prog 122 #[.pointer (some ⟨b, 0, none⟩)] w fun e w' => e = .returned (.string ⟨l.toArray⟩) ∧ Below B w w' := Any.Builder_String_any Tryz.lays169 Tryz.Builder_Extra_169 B b l w h hBw
def Tryz.lays137_ren : Go.Shelf.Ren := ⟨fun | 137 => 107 | 217 => 125 | 266 => 137 | n => n, fun | 9 => 9 | 5 => 5 | 3 => 3 | n => n, fun | n => n⟩
theorem Tryz.lays137 : Go.Proofs.Lays.n137 Tryz.prog Tryz.lays137_ren := {
  mixed := by kernel_rfl
  f137 := Tryz.func107.trans (congrArg some (by kernel_rfl))
  f217 := Tryz.func125.trans (congrArg some (by kernel_rfl))
  f266 := Tryz.func137.trans (congrArg some (by kernel_rfl))
  t3 := Tryz.underlying3
  a3 := Tryz.isAgg3
  z3 := Tryz.sizeOf3
  v3 := Tryz.zeroValue3
  t5 := Tryz.underlying5
  a5 := Tryz.isAgg5
  z5 := Tryz.sizeOf5
  v5 := Tryz.zeroValue5
  t9 := Tryz.underlying9
  a9 := Tryz.isAgg9
  z9 := Tryz.sizeOf9
  v9 := Tryz.zeroValue9 }
open Go.RowKit in
/-- strings.IndexByte: "IndexByte returns the index of the first instance of c in s, or -1 if c is not present in s.": IT RETURNS 'Lib.indexByte s c'; the world is as it was. (LAID: no walk: one application.) -/
theorem Tryz.strings_IndexByte (s : ByteArray) (c : Int) (w : World) :
    Calls Tryz.prog 107 #[.string s, .int .u8 c] w fun e w' => e = .returned (.int .i64 (Lib.indexByte s.data.toList c.toNat.toUInt8)) ∧ w' = w := Any.strings_IndexByte Tryz.lays137 s c w
def Tryz.lays129_ren : Go.Shelf.Ren := ⟨fun | 129 => 176 | n => n, fun | 53 => 131 | 3 => 3 | 4 => 4 | 46 => 74 | 5 => 5 | 9 => 9 | n => n, fun | n => n⟩
theorem Tryz.lays129 : Go.Proofs.Lays.n129 Tryz.prog Tryz.lays129_ren := {
  mixed := by kernel_rfl
  f129 := Tryz.func176.trans (congrArg some (by kernel_rfl))
  t3 := Tryz.underlying3
  a3 := Tryz.isAgg3
  z3 := Tryz.sizeOf3
  v3 := Tryz.zeroValue3
  t4 := Tryz.underlying4
  a4 := Tryz.isAgg4
  z4 := Tryz.sizeOf4
  v4 := Tryz.zeroValue4
  t5 := Tryz.underlying5
  a5 := Tryz.isAgg5
  z5 := Tryz.sizeOf5
  v5 := Tryz.zeroValue5
  t9 := Tryz.underlying9
  a9 := Tryz.isAgg9
  z9 := Tryz.sizeOf9
  v9 := Tryz.zeroValue9
  t46 := Tryz.underlying74
  a46 := Tryz.isAgg74
  z46 := Tryz.sizeOf74
  v46 := Tryz.zeroValue74
  t53 := Tryz.underlying131
  a53 := Tryz.isAgg131
  z53 := Tryz.sizeOf131
  v53 := Tryz.zeroValue131 }
/-- bits.Len64: "Len64 returns the minimum number of bits required to represent x; the result is 0 for x == 0.": IT RETURNS 'Lib.bitLen x'; the world is as it was. ('h0', 'h1': x is a uint64.) (LAID: no walk: one application.) -/
theorem Tryz.bits_Len64 (x : Int) (w : World) (h0 : 0 ≤ x) (h1 : x ≤ 18446744073709551615) :
    Calls Tryz.prog 176 #[.int .u64 x] w fun e w' => e = .returned (.int .i64 (Lib.bitLen x.toNat)) ∧ w' = w := Any.bits_Len64 Tryz.lays129 x w h0 h1
def Tryz.laysC245_ren : Go.Shelf.Ren := ⟨fun | 245 => 135 | 279 => 142 | 280 => 143 | 281 => 144 | 282 => 145 | 316 => 153 | 171 => 155 | 205 => 154 | 243 => 170 | 246 => 187 | 283 => 192 | 284 => 193 | 285 => 194 | 286 => 195 | 129 => 176 | 317 => 198 | 318 => 180 | 319 => 199 | 320 => 200 | 337 => 201 | 338 => 202 | n => n, fun | 9 => 9 | 3 => 3 | 75 => 168 | 167 => 185 | 4 => 4 | 168 => 186 | 210 => 196 | 37 => 56 | 0 => 0 | 127 => 182 | 145 => 227 | 143 => 225 | 2 => 2 | 171 => 254 | 53 => 131 | 5 => 5 | 173 => 256 | 212 => 263 | 51 => 198 | 20 => 20 | 213 => 264 | 46 => 74 | 232 => 268 | 233 => 269 | 80 => 174 | n => n, fun | 15 => 1 | 16 => 2 | 17 => 11 | 18 => 12 | 19 => 13 | n => n⟩
theorem Tryz.laysC245 : Go.Proofs.LaysC.n245 Tryz.prog Tryz.laysC245_ren := {
  mixed := by kernel_rfl
  f129 := Tryz.func176.trans (congrArg some (by kernel_rfl))
  f171 := Tryz.func155.trans (congrArg some (by kernel_rfl))
  f205 := Tryz.func154.trans (congrArg some (by kernel_rfl))
  f243 := Tryz.func170.trans (congrArg some (by kernel_rfl))
  f245 := Tryz.func135.trans (congrArg some (by kernel_rfl))
  f246 := Tryz.func187.trans (congrArg some (by kernel_rfl))
  f279 := Tryz.func142.trans (congrArg some (by kernel_rfl))
  f280 := Tryz.func143.trans (congrArg some (by kernel_rfl))
  f281 := Tryz.func144.trans (congrArg some (by kernel_rfl))
  f282 := Tryz.func145.trans (congrArg some (by kernel_rfl))
  f283 := Tryz.func192.trans (congrArg some (by kernel_rfl))
  f284 := Tryz.func193.trans (congrArg some (by kernel_rfl))
  f285 := Tryz.func194.trans (congrArg some (by kernel_rfl))
  f286 := Tryz.func195.trans (congrArg some (by kernel_rfl))
  f316 := Tryz.func153.trans (congrArg some (by kernel_rfl))
  f317 := Tryz.func198.trans (congrArg some (by kernel_rfl))
  f318 := Tryz.func180.trans (congrArg some (by kernel_rfl))
  f319 := Tryz.func199.trans (congrArg some (by kernel_rfl))
  f320 := Tryz.func200.trans (congrArg some (by kernel_rfl))
  f337 := Tryz.func201.trans (congrArg some (by kernel_rfl))
  f338 := Tryz.func202.trans (congrArg some (by kernel_rfl))
  t0 := Tryz.underlying0
  a0 := Tryz.isAgg0
  z0 := Tryz.sizeOf0
  v0 := Tryz.zeroValue0
  t2 := Tryz.underlying2
  a2 := Tryz.isAgg2
  z2 := Tryz.sizeOf2
  v2 := Tryz.zeroValue2
  t3 := Tryz.underlying3
  a3 := Tryz.isAgg3
  z3 := Tryz.sizeOf3
  v3 := Tryz.zeroValue3
  t4 := Tryz.underlying4
  a4 := Tryz.isAgg4
  z4 := Tryz.sizeOf4
  v4 := Tryz.zeroValue4
  t5 := Tryz.underlying5
  a5 := Tryz.isAgg5
  z5 := Tryz.sizeOf5
  v5 := Tryz.zeroValue5
  t9 := Tryz.underlying9
  a9 := Tryz.isAgg9
  z9 := Tryz.sizeOf9
  v9 := Tryz.zeroValue9
  t20 := Tryz.underlying20
  a20 := Tryz.isAgg20
  z20 := Tryz.sizeOf20
  v20 := Tryz.zeroValue20
  t37 := Tryz.underlying56
  a37 := Tryz.isAgg56
  z37 := Tryz.sizeOf56
  v37 := Tryz.zeroValue56
  t46 := Tryz.underlying74
  a46 := Tryz.isAgg74
  z46 := Tryz.sizeOf74
  v46 := Tryz.zeroValue74
  t51 := Tryz.underlying198
  a51 := Tryz.isAgg198
  z51 := Tryz.sizeOf198
  v51 := Tryz.zeroValue198
  t53 := Tryz.underlying131
  a53 := Tryz.isAgg131
  z53 := Tryz.sizeOf131
  v53 := Tryz.zeroValue131
  t75 := Tryz.underlying168
  a75 := Tryz.isAgg168
  z75 := Tryz.sizeOf168
  v75 := Tryz.zeroValue168
  t127 := Tryz.underlying182
  a127 := Tryz.isAgg182
  z127 := Tryz.sizeOf182
  v127 := Tryz.zeroValue182
  t143 := Tryz.underlying225
  a143 := Tryz.isAgg225
  z143 := Tryz.sizeOf225
  v143 := Tryz.zeroValue225
  t145 := Tryz.underlying227
  a145 := Tryz.isAgg227
  z145 := Tryz.sizeOf227
  v145 := Tryz.zeroValue227
  t167 := Tryz.underlying185
  a167 := Tryz.isAgg185
  z167 := Tryz.sizeOf185
  v167 := Tryz.zeroValue185
  t168 := Tryz.underlying186
  a168 := Tryz.isAgg186
  z168 := Tryz.sizeOf186
  v168 := Tryz.zeroValue186
  t171 := Tryz.underlying254
  a171 := Tryz.isAgg254
  z171 := Tryz.sizeOf254
  v171 := Tryz.zeroValue254
  t173 := Tryz.underlying256
  a173 := Tryz.isAgg256
  z173 := Tryz.sizeOf256
  v173 := Tryz.zeroValue256
  t210 := Tryz.underlying196
  a210 := Tryz.isAgg196
  z210 := Tryz.sizeOf196
  v210 := Tryz.zeroValue196
  t212 := Tryz.underlying263
  a212 := Tryz.isAgg263
  z212 := Tryz.sizeOf263
  v212 := Tryz.zeroValue263
  t213 := Tryz.underlying264
  a213 := Tryz.isAgg264
  z213 := Tryz.sizeOf264
  t232 := Tryz.underlying268
  a232 := Tryz.isAgg268
  z232 := Tryz.sizeOf268
  v232 := Tryz.zeroValue268
  t233 := Tryz.underlying269
  a233 := Tryz.isAgg269
  z233 := Tryz.sizeOf269
  v233 := Tryz.zeroValue269
  g15 := by kernel_rfl
  g16 := by kernel_rfl
  g17 := by kernel_rfl
  g18 := by kernel_rfl
  g19 := by kernel_rfl
  t80 := Tryz.underlying174
  a80 := Tryz.isAgg174
  z80 := Tryz.sizeOf174
  v80 := Tryz.zeroValue174
  i0 := by kernel_rfl
  i2 := by kernel_rfl
  i3 := by kernel_rfl
  i4 := by kernel_rfl
  i5 := by kernel_rfl
  i9 := by kernel_rfl
  i20 := by kernel_rfl
  i37 := by kernel_rfl
  i46 := by kernel_rfl
  i51 := by kernel_rfl
  i53 := by kernel_rfl
  i75 := by kernel_rfl
  i80 := by kernel_rfl
  i127 := by kernel_rfl
  i143 := by kernel_rfl
  i145 := by kernel_rfl
  i167 := by kernel_rfl
  i168 := by kernel_rfl
  i171 := by kernel_rfl
  i173 := by kernel_rfl
  i210 := by kernel_rfl
  i212 := by kernel_rfl
  i232 := by kernel_rfl
  i233 := by kernel_rfl
  m15 := by kernel_rfl
  m16 := by kernel_rfl
  m17 := by kernel_rfl
  m18 := by kernel_rfl
  m19 := by kernel_rfl
  c0 := by kernel_rfl
  c2 := by kernel_rfl
  c3 := by kernel_rfl
  c4 := by kernel_rfl
  c5 := by kernel_rfl
  c9 := by kernel_rfl
  c20 := by kernel_rfl
  c37 := by kernel_rfl
  c46 := by kernel_rfl
  c51 := by kernel_rfl
  c53 := by kernel_rfl
  c75 := by kernel_rfl
  c80 := by kernel_rfl
  c127 := by kernel_rfl
  c143 := by kernel_rfl
  c145 := by kernel_rfl
  c167 := by kernel_rfl
  c168 := by kernel_rfl
  c171 := by kernel_rfl
  c173 := by kernel_rfl
  c210 := by kernel_rfl
  c212 := by kernel_rfl
  c213 := by kernel_rfl
  c232 := by kernel_rfl
  c233 := by kernel_rfl }
open Go.RowKit in
/-- strconv.toError, at the inner package's ErrRange: 'rangeError(fn, s)' as an error: A *NumError IN A NEW BLOCK. (LAID: no walk: one application.) -/
theorem Tryz.strconv_toError_range (fn s : ByteArray) (base bits : Int) (ev : Value) (w : World) (hlim : s.size ≤ 281474976710656) (hv : w.cell? ⟨2, 0, none⟩ = some ev) (hev : ev = .nilIface ∨ ∃ te pe, ev = .iface te pe) :
    Calls Tryz.prog 135 #[.string fn, .string s, .int .i64 base, .int .i64 bits, .iface 185 (.int .i64 1)] w fun e w' => ∃ N, e = .returned (.iface 186 (.pointer (some ⟨N, 0, none⟩))) ∧ w.heap.size ≤ N ∧ w'.heap[N]? = some (.cells #[.string fn, .string s, ev] 196 (0, 0)) ∧ Below w.heap.size w w' := Any.strconv_toError_range Tryz.laysC245 fn s base bits ev w hlim hv hev
def Tryz.lays144_ren : Go.Shelf.Ren := ⟨fun | 144 => 119 | 143 => 132 | 219 => 140 | 217 => 125 | 225 => 148 | 224 => 149 | 267 => 150 | 266 => 137 | 314 => 156 | n => n, fun | 9 => 9 | 4 => 4 | 3 => 3 | 5 => 5 | 46 => 74 | 146 => 199 | 51 => 198 | n => n, fun | 1 => 0 | n => n⟩
theorem Tryz.lays144 : Go.Proofs.Lays.n144 Tryz.prog Tryz.lays144_ren := {
  mixed := by kernel_rfl
  f143 := Tryz.func132.trans (congrArg some (by kernel_rfl))
  f144 := Tryz.func119.trans (congrArg some (by kernel_rfl))
  f217 := Tryz.func125.trans (congrArg some (by kernel_rfl))
  f219 := Tryz.func140.trans (congrArg some (by kernel_rfl))
  f224 := Tryz.func149.trans (congrArg some (by kernel_rfl))
  f225 := Tryz.func148.trans (congrArg some (by kernel_rfl))
  f266 := Tryz.func137.trans (congrArg some (by kernel_rfl))
  f267 := Tryz.func150.trans (congrArg some (by kernel_rfl))
  f314 := Tryz.func156.trans (congrArg some (by kernel_rfl))
  t3 := Tryz.underlying3
  a3 := Tryz.isAgg3
  z3 := Tryz.sizeOf3
  v3 := Tryz.zeroValue3
  t4 := Tryz.underlying4
  a4 := Tryz.isAgg4
  z4 := Tryz.sizeOf4
  v4 := Tryz.zeroValue4
  t5 := Tryz.underlying5
  a5 := Tryz.isAgg5
  z5 := Tryz.sizeOf5
  v5 := Tryz.zeroValue5
  t9 := Tryz.underlying9
  a9 := Tryz.isAgg9
  z9 := Tryz.sizeOf9
  v9 := Tryz.zeroValue9
  t46 := Tryz.underlying74
  a46 := Tryz.isAgg74
  z46 := Tryz.sizeOf74
  v46 := Tryz.zeroValue74
  t51 := Tryz.underlying198
  a51 := Tryz.isAgg198
  z51 := Tryz.sizeOf198
  v51 := Tryz.zeroValue198
  t146 := Tryz.underlying199
  a146 := Tryz.isAgg199
  z146 := Tryz.sizeOf199
  v146 := Tryz.zeroValue199
  g1 := by kernel_rfl }
open Go.RowKit Go.Lib in
/-- strings.Contains: "Contains reports whether substr is within s.": IT RETURNS 'Lib.contains s substr'; the world is as it was. (LAID: no walk: one application.) -/
theorem Tryz.strings_Contains (s sub : ByteArray) (m : Int) (w : World) (hs : s.size < 4294967281) (hm : w.cell? ⟨0, 0, none⟩ = some (.int .i64 m)) :
    Calls Tryz.prog 119 #[.string s, .string sub] w fun e w' => e = .returned (.bool (Lib.contains s.data.toList sub.data.toList)) ∧ w' = w := Any.strings_Contains Tryz.lays144 s sub m w hs hm
def Tryz.lays99_ren : Go.Shelf.Ren := ⟨fun | 99 => 106 | 206 => 124 | n => n, fun | 9 => 9 | 4 => 4 | 3 => 3 | n => n, fun | n => n⟩
theorem Tryz.lays99 : Go.Proofs.Lays.n99 Tryz.prog Tryz.lays99_ren := {
  mixed := by kernel_rfl
  f99 := Tryz.func106.trans (congrArg some (by kernel_rfl))
  f206 := Tryz.func124.trans (congrArg some (by kernel_rfl))
  t3 := Tryz.underlying3
  a3 := Tryz.isAgg3
  z3 := Tryz.sizeOf3
  v3 := Tryz.zeroValue3
  t4 := Tryz.underlying4
  a4 := Tryz.isAgg4
  z4 := Tryz.sizeOf4
  v4 := Tryz.zeroValue4
  t9 := Tryz.underlying9
  a9 := Tryz.isAgg9
  z9 := Tryz.sizeOf9
  v9 := Tryz.zeroValue9 }
open Go.RowKit Go.Lib in
/-- strings.HasPrefix: "HasPrefix reports whether the string s begins with prefix.": IT RETURNS 'Lib.hasPrefix s prefix'; the world is as it was. (LAID: no walk: one application.) -/
theorem Tryz.strings_HasPrefix (s p : ByteArray) (w : World) :
    Calls Tryz.prog 106 #[.string s, .string p] w fun e w' => e = .returned (.bool (Lib.hasPrefix s.data.toList p.data.toList)) ∧ w' = w := Any.strings_HasPrefix Tryz.lays99 s p w
def Tryz.lays101_ren : Go.Shelf.Ren := ⟨fun | 101 => 120 | 208 => 133 | 206 => 124 | n => n, fun | 9 => 9 | 4 => 4 | 3 => 3 | n => n, fun | n => n⟩
theorem Tryz.lays101 : Go.Proofs.Lays.n101 Tryz.prog Tryz.lays101_ren := {
  mixed := by kernel_rfl
  f101 := Tryz.func120.trans (congrArg some (by kernel_rfl))
  f206 := Tryz.func124.trans (congrArg some (by kernel_rfl))
  f208 := Tryz.func133.trans (congrArg some (by kernel_rfl))
  t3 := Tryz.underlying3
  a3 := Tryz.isAgg3
  z3 := Tryz.sizeOf3
  v3 := Tryz.zeroValue3
  t4 := Tryz.underlying4
  a4 := Tryz.isAgg4
  z4 := Tryz.sizeOf4
  v4 := Tryz.zeroValue4
  t9 := Tryz.underlying9
  a9 := Tryz.isAgg9
  z9 := Tryz.sizeOf9
  v9 := Tryz.zeroValue9 }
open Go.RowKit Go.Lib in
/-- strings.TrimPrefix: "TrimPrefix returns s without the provided leading prefix string. If s doesn't start with prefix, s is returned unchanged.": IT RETURNS 'Lib.trimPrefix s prefix'; the world is as it was. (LAID: no walk: one application.) -/
theorem Tryz.strings_TrimPrefix (s p : ByteArray) (w : World) :
    Calls Tryz.prog 120 #[.string s, .string p] w fun e w' => e = .returned (.string ⟨(Lib.trimPrefix s.data.toList p.data.toList).toArray⟩) ∧ w' = w := Any.strings_TrimPrefix Tryz.lays101 s p w
def Tryz.lays264_ren : Go.Shelf.Ren := ⟨fun | 264 => 188 | n => n, fun | 53 => 131 | 46 => 74 | n => n, fun | n => n⟩
theorem Tryz.lays264 : Go.Proofs.Lays.n264 Tryz.prog Tryz.lays264_ren := {
  mixed := by kernel_rfl
  f264 := Tryz.func188.trans (congrArg some (by kernel_rfl))
  t46 := Tryz.underlying74
  a46 := Tryz.isAgg74
  z46 := Tryz.sizeOf74
  v46 := Tryz.zeroValue74
  t53 := Tryz.underlying131
  a53 := Tryz.isAgg131
  z53 := Tryz.sizeOf131
  v53 := Tryz.zeroValue131 }
open Go.RowKit Go.Lib in
theorem Tryz.bits_Mul64 (x y : Nat) (hx : x < 18446744073709551616) (hy : y < 18446744073709551616) (w : World) :
    Calls Tryz.prog 188 #[.int .u64 x, .int .u64 y] w fun e w' => e = .returned (.tuple #[.int .u64 ((x * y / 18446744073709551616 : Nat) : Int), .int .u64 ((x * y % 18446744073709551616 : Nat) : Int)]) ∧ w' = w := Any.bits_Mul64 Tryz.lays264 x y hx hy w
end Go.Proofs
namespace Go.Proofs.YtnoioimphcmeiaaGreatDoor
open Go.RowKit
set_option maxRecDepth 20000

theorem index_infix (sub : List UInt8) : ∀ s : List UInt8, 0 ≤ Lib.index s sub ↔ sub <:+: s
  | [] => by
    simp only [Lib.index]
    cases sub <;> simp
  | b :: l => by
    have ih := index_infix sub l
    have hge := Lib.index_ge l sub
    rw [List.infix_cons_iff]
    simp only [Lib.index]
    by_cases hp : sub.isPrefixOf (b :: l) = true
    · rw [if_pos hp]
      exact ⟨fun _ => .inl (List.isPrefixOf_iff_prefix.1 hp), fun _ => Int.le_refl _⟩
    · rw [if_neg hp]
      have hp' : ¬ sub <+: b :: l := fun h => hp (List.isPrefixOf_iff_prefix.2 h)
      by_cases hi : Lib.index l sub = -1
      · rw [hi] at ih ⊢
        constructor
        · intro h
          exact absurd h (by decide)
        · rintro (h | h)
          · exact absurd h hp'
          · exact absurd (ih.2 h) (by decide)
      · have hb : (Lib.index l sub == -1) = false := by simpa using hi
        rw [hb]
        simp only [Bool.false_eq_true, if_false]
        constructor
        · intro _
          exact .inr (ih.1 (by omega))
        · rintro (h | h)
          · exact absurd h hp'
          · have := ih.2 h; omega
theorem words_caps : ∀ u ∈ wordsL, u ≠ [] ∧ ∀ c ∈ u, capN c.toNat = true := by decide
theorem words_text : wordsT = [32, 83, 69, 76, 69, 67, 84, 32, 70, 82, 79, 77, 32, 87, 72, 69, 82, 69, 32, 71, 82, 79, 85, 80, 32, 66, 89, 32, 79, 82, 68, 69, 82, 32, 65, 83, 67, 32, 68, 69, 83, 67, 32, 76, 73, 77, 73, 84, 32, 65, 83, 32, 74, 79, 73, 78, 32, 79, 78, 32, 65, 78, 68, 32, 79, 82, 32, 78, 79, 84, 32, 73, 83, 32, 78, 85, 76, 76, 32, 84, 82, 85, 69, 32, 70, 65, 76, 83, 69, 32, 67, 79, 85, 78, 84, 32, 83, 85, 77, 32, 77, 73, 78, 32, 77, 65, 88, 32, 73, 78, 83, 69, 82, 84, 32, 73, 78, 84, 79, 32, 86, 65, 76, 85, 69, 83, 32, 85, 80, 68, 65, 84, 69, 32, 83, 69, 84, 32, 68, 69, 76, 69, 84, 69, 32, 67, 82, 69, 65, 84, 69, 32, 84, 65, 66, 76, 69, 32, 68, 82, 79, 80, 32, 73, 78, 84, 32, 82, 69, 65, 76, 32, 84, 69, 88, 84, 32] := by decide
/-- Capitals all, and not none: a keyword just if it stands among the words with a blank about it. -/
theorem contains_words {u : List UInt8} (hne : u ≠ []) (hc : ∀ c ∈ u, capN c.toNat = true) : Lib.contains wordsT ([32] ++ u ++ [32]) = decide (u ∈ wordsL) := by
  have h32 : ∀ {x : List UInt8}, (∀ c ∈ x, capN c.toNat = true) → ∀ c ∈ x, c ≠ 32 := fun h c hx he => by
    have := h c hx
    subst he
    exact absurd this (by decide)
  unfold Lib.contains
  exact decide_eq_decide.2 ((index_infix _ _).trans (infix_word (h32 hc) wordsL (fun x hx => ⟨(words_caps x hx).1, h32 (words_caps x hx).2⟩) hne))
theorem kwF_none {l : List UInt8} {c : UInt8} (hc : c ∈ l) (hn : capN (upC c).toNat = false) : kwF l = none := by
  unfold kwF
  rw [if_neg]
  intro h
  have := (words_caps _ h).2 (upC c) (List.mem_map.2 ⟨c, hc, rfl⟩)
  rw [hn] at this
  cases this
theorem mix_get {l : List UInt8} {i : Nat} {c : UInt8} (hc : l[i]? = some c) : ((l.take i).map upC ++ l.drop i)[i]? = some c := by
  have hi := (List.getElem?_eq_some_iff.1 hc).1
  rw [List.getElem?_append_right (by simp; omega), List.length_map, List.length_take, Nat.min_eq_left (by omega), Nat.sub_self, List.getElem?_drop]
  simpa using hc
theorem mix_set {l : List UInt8} {i : Nat} {c : UInt8} (hc : l[i]? = some c) : ((l.take i).map upC ++ l.drop i).set i (upC c) = (l.take (i + 1)).map upC ++ l.drop (i + 1) := by
  obtain ⟨hi, he⟩ := List.getElem?_eq_some_iff.1 hc
  rw [List.drop_eq_getElem_cons hi, he, List.take_succ_eq_append_getElem hi, he]
  rw [List.set_append_right _ _ (by simp; omega), List.length_map, List.length_take, Nat.min_eq_left (by omega), Nat.sub_self]
  simp
theorem mix_same {l : List UInt8} {i : Nat} {c : UInt8} (hc : l[i]? = some c) (hu : upC c = c) : (l.take i).map upC ++ l.drop i = (l.take (i + 1)).map upC ++ l.drop (i + 1) := by
  obtain ⟨hi, he⟩ := List.getElem?_eq_some_iff.1 hc
  rw [List.drop_eq_getElem_cons hi, he, List.take_succ_eq_append_getElem hi, he]
  simp [hu]
theorem upC_same {c : UInt8} (h : ¬ (97 ≤ c.toNat ∧ c.toNat ≤ 122)) : upC c = c := by unfold upC; rw [if_neg h]
theorem upC_low {c : UInt8} (h : 97 ≤ c.toNat ∧ c.toNat ≤ 122) : bv (upC c) = .int .u8 ((c.toNat : Int) - 32) := by
  have := upC_toNat c
  rw [if_pos h] at this
  unfold bv
  rw [this]
  congr 1
  omega

/-- The library's variable MaxLen is some number. -/
def Mx (w : World) : Prop := ∃ m : Int, w.cell? ⟨0, 0, none⟩ = some (.int .i64 m)
theorem Mx.no {w w' : World} (h : Mx w) (hm : Mv No w w') : Mx w' := by
  obtain ⟨m, h⟩ := h
  exact ⟨m, by rw [World.cell?_of_block (w := w) (hm.block _ (cell_lt h) (fun hf => hf.elim))]; exact h⟩

section
variable {w : World}
theorem contains_call (u : List UInt8) (hx : Mx w) (s t : ByteArray) (hs : s.data.toList = wordsT) (ht : t.data.toList = [32] ++ u ++ [32]) (hne : u ≠ []) (hc : ∀ c ∈ u, capN c.toNat = true) : Ret Tryz.prog 119 [.string s, .string t] w fun v w' => v = .bool (decide (u ∈ wordsL)) ∧ w = w' := by
  obtain ⟨m, hm⟩ := hx
  have hsz : s.size < 4294967281 := by
    have : s.size = s.data.toList.length := by rw [Array.length_toList]; rfl
    rw [this, hs, words_text]
    decide
  refine (Tryz.strings_Contains s t m w hsz hm).mono fun e w' ⟨he, hw⟩ => ⟨_, he, ?_, hw.symm⟩
  rw [hs, ht, contains_words hne hc]

set_option maxHeartbeats 1000000 in
theorem kw_ret (l : List UInt8) (hx : Mx w) (hl : l.length < 4611686018427387904) :
    Ret Tryz.prog 103 [.string (str l)] w fun v w' => v = .tuple #[.string (str ((kwF l).getD [])), .bool (kwF l).isSome] ∧ Mv No w w' := by
  refine zN Tryz.func103 Tryz.ntmps103 rfl rfl ?_
  refine zf (zb (L (S (zd rfl) (L (S (zd rfl) (zg (zc (zf (zb (L (S (za rfl) ?_)))))))))))
  refine L (S_strByt Tryz.underlying9 Tryz.underlying56 Tryz.underlying5 rfl ?_)
  rintro b8 w1 c8 hb1 hm1 hn1
  refine L (S (zd rfl) (zg (zc (zf (zf (zb (L (S (za rfl) ?_))))))))
  refine L (S (zH Tryz.underlying56 rfl) ?_)
  refine L (S (za rfl) (zg (zc (zx ?_))))
  refine yF (γ := Nat) (fun i => [(0, .string (str l)), (4, .slice (some ⟨b8, 0, none⟩) l.length c8), (9, .slice (some ⟨b8, 0, none⟩) l.length c8), (10, .int .i64 (l.length : Int)), (11, .int .i64 (i : Int))]) (fun i wr => Byt wr b8 5 ((l.take i).map upC ++ l.drop i) ∧ i ≤ l.length ∧ (∀ j, j < i → ∀ c, l[j]? = some c → capN (upC c).toNat = true) ∧ Mv No w wr) (fun i => l.length - i) 0 (.cons rfl (.cons rfl (.cons rfl (.cons rfl (.cons rfl (.nil _)))))) ⟨by simpa using hb1, Nat.zero_le _, fun j hj => by omega, hm1⟩ ?_
  rintro i wr ⟨hb, hle, hall, hmr⟩
  refine zf (zb ?_)
  refine L (S (zG rfl rfl rfl) ?_)
  refine zg (zc (zf ?_))
  refine C_ifp rfl rfl (fun hlt => ?_) (fun hge => ?_)
  · have hil : i < l.length := by omega
    obtain ⟨c, hc⟩ : ∃ c, l[i]? = some c := ⟨l[i], List.getElem?_eq_getElem hil⟩
    have hcell := hb.cell (mix_get hc)
    have hmem : c ∈ l := List.mem_of_getElem? hc
    have hcl := c.toNat_lt
    have hall' : capN (upC c).toNat = true → ∀ j, j < i + 1 → ∀ d, l[j]? = some d → capN (upC d).toNat = true := fun h j hj d hd => by
      by_cases hji : j = i
      · subst hji; rw [hc] at hd; cases hd; exact h
      · exact hall j (by omega) d hd
    by_cases h1 : 97 ≤ c.toNat
    · by_cases h2 : c.toNat ≤ 122
      · have hcap : capN (upC c).toNat = true := by
          rw [upC_toNat, if_pos ⟨h1, h2⟩]
          exact decide_eq_true (by omega)
        refine zo (zc (zf (zx (zf (zb (L (S (za rfl) ?_)))))))
        refine L (S (zn Tryz.underlying56 (zD ti_5) rfl rfl (j := i) rfl hil (p := i) (by omega)) ?_)
        refine L (zi sc_5 rfl hcell ?_)
        refine L (S (zd rfl) (L (S (zd rfl) (zg (zc (zf (zb (L (S (za rfl) ?_)))))))))
        refine L (S (y_ rfl rfl (decide_eq_true (by omega))) ?_)
        refine L (S (za rfl) (zh (j := 2) (dj := 18) (b := true) (S (za rfl) ?_) rfl))
        refine zh (j := 2) (dj := 18) (b := true) (S (Yd rfl rfl (decide_eq_true (by omega))) ?_) rfl
        refine L (S (zt rfl rfl) (zg (zc (zr rfl (zb (L (S (za rfl) (L (S (za rfl) (L (S (za rfl) ?_)))))))))))
        refine L (S (Zd rfl rfl (wU8 (c := (c.toNat : Int) - 32) (by omega))) ?_)
        refine L (S (zn Tryz.underlying56 (zD ti_5) rfl rfl (j := i) rfl hil (p := i) (by omega)) ?_)
        refine L (S_storeByt ti_5 rfl (by rw [upC_low ⟨h1, h2⟩]; rfl) hb (by simp; omega) ?_)
        rintro w2 hb2 hm2
        refine zg (yj (zc (zb ?_)))
        refine L (S (zT rfl rfl (z1 (c := ((i + 1 : Nat) : Int)) (by omega))) ?_)
        refine L (S (za rfl) (zg (zc ?_)))
        exact ⟨rfl, i + 1, .cons rfl (.cons rfl (.cons rfl (.cons rfl (.cons rfl (.nil _))))), ⟨by rw [mix_set hc] at hb2; exact hb2, hil, hall' hcap, hmr.new hm2 hn1⟩, by omega⟩
      · have hno : kwF l = none := kwF_none hmem (by rw [upC_toNat, if_neg (by omega)]; exact decide_eq_false (by omega))
        rw [hno]
        refine zo (zc (zf (zx (zf (zb (L (S (za rfl) ?_)))))))
        refine L (S (zn Tryz.underlying56 (zD ti_5) rfl rfl (j := i) rfl hil (p := i) (by omega)) ?_)
        refine L (zi sc_5 rfl hcell ?_)
        refine L (S (zd rfl) (L (S (zd rfl) (zg (zc (zf (zb (L (S (za rfl) ?_)))))))))
        refine L (S (y_ rfl rfl (decide_eq_true (by omega))) ?_)
        refine L (S (za rfl) (zh (j := 2) (dj := 18) (b := true) (S (za rfl) ?_) rfl))
        refine zh (j := 2) (dj := 18) (b := true) (S (Yd rfl rfl (decide_eq_false (by omega))) ?_) rfl
        refine L (S (zt rfl rfl) (zg (zc (zk rfl (zf (zb (L (S (za rfl) ?_))))))))
        refine L (S (zG rfl rfl (decide_eq_false (by omega))) ?_)
        refine L (S (za rfl) (zh (j := 2) (dj := 29) (b := false) (S (za rfl) ?_) rfl))
        refine zh (j := 2) (dj := 29) (b := false) (S (yp rfl rfl (decide_eq_true (by omega))) ?_) rfl
        refine L (S (zj rfl rfl) (zg (zc (zr rfl (zf (zb (L (S (zd rfl) (L (S (zd rfl) (zg (zc (zy (zP (zm (zm (zP (zm ?_))))))))))))))))))
        refine Z7 Tryz.results103 rfl rfl ?_
        exact ⟨rfl, hmr⟩
    · have hup : upC c = c := upC_same (by omega)
      by_cases h3 : c.toNat < 65
      · have hno : kwF l = none := kwF_none hmem (by rw [hup]; exact decide_eq_false (by omega))
        rw [hno]
        refine zo (zc (zf (zx (zf (zb (L (S (za rfl) ?_)))))))
        refine L (S (zn Tryz.underlying56 (zD ti_5) rfl rfl (j := i) rfl hil (p := i) (by omega)) ?_)
        refine L (zi sc_5 rfl hcell ?_)
        refine L (S (zd rfl) (L (S (zd rfl) (zg (zc (zf (zb (L (S (za rfl) ?_)))))))))
        refine L (S (y_ rfl rfl (decide_eq_false (by omega))) ?_)
        refine L (S (za rfl) (zl (j := 2) (dj := 18) (b := true) (b' := false) (d := 19) rfl (zl (j := 2) (dj := 18) (b := true) (b' := false) (d := 20) rfl (L (S (zj rfl rfl) (zg (zc (zk rfl (zf (zb (L (S (za rfl) ?_))))))))))))
        refine L (S (zG rfl rfl (decide_eq_true (by omega))) ?_)
        refine L (S (za rfl) (zl (j := 2) (dj := 29) (b := false) (b' := true) (d := 30) rfl (zl (j := 2) (dj := 29) (b := false) (b' := true) (d := 31) rfl (L (S (zt rfl rfl) (zg (zc (zr rfl (zf (zb (L (S (zd rfl) (L (S (zd rfl) (zg (zc (zy (zP (zm (zm (zP (zm ?_))))))))))))))))))))))
        refine Z7 Tryz.results103 rfl rfl ?_
        exact ⟨rfl, hmr⟩
      · by_cases h4 : 90 < c.toNat
        · have hno : kwF l = none := kwF_none hmem (by rw [hup]; exact decide_eq_false (by omega))
          rw [hno]
          refine zo (zc (zf (zx (zf (zb (L (S (za rfl) ?_)))))))
          refine L (S (zn Tryz.underlying56 (zD ti_5) rfl rfl (j := i) rfl hil (p := i) (by omega)) ?_)
          refine L (zi sc_5 rfl hcell ?_)
          refine L (S (zd rfl) (L (S (zd rfl) (zg (zc (zf (zb (L (S (za rfl) ?_)))))))))
          refine L (S (y_ rfl rfl (decide_eq_false (by omega))) ?_)
          refine L (S (za rfl) (zl (j := 2) (dj := 18) (b := true) (b' := false) (d := 19) rfl (zl (j := 2) (dj := 18) (b := true) (b' := false) (d := 20) rfl (L (S (zj rfl rfl) (zg (zc (zk rfl (zf (zb (L (S (za rfl) ?_))))))))))))
          refine L (S (zG rfl rfl (decide_eq_false (by omega))) ?_)
          refine L (S (za rfl) (zh (j := 2) (dj := 29) (b := false) (S (za rfl) ?_) rfl))
          refine zh (j := 2) (dj := 29) (b := false) (S (yp rfl rfl (decide_eq_true (by omega))) ?_) rfl
          refine L (S (zj rfl rfl) (zg (zc (zr rfl (zf (zb (L (S (zd rfl) (L (S (zd rfl) (zg (zc (zy (zP (zm (zm (zP (zm ?_))))))))))))))))))
          refine Z7 Tryz.results103 rfl rfl ?_
          exact ⟨rfl, hmr⟩
        · have hcap : capN (upC c).toNat = true := by
            rw [hup]
            exact decide_eq_true (by omega)
          refine zo (zc (zf (zx (zf (zb (L (S (za rfl) ?_)))))))
          refine L (S (zn Tryz.underlying56 (zD ti_5) rfl rfl (j := i) rfl hil (p := i) (by omega)) ?_)
          refine L (zi sc_5 rfl hcell ?_)
          refine L (S (zd rfl) (L (S (zd rfl) (zg (zc (zf (zb (L (S (za rfl) ?_)))))))))
          refine L (S (y_ rfl rfl (decide_eq_false (by omega))) ?_)
          refine L (S (za rfl) (zl (j := 2) (dj := 18) (b := true) (b' := false) (d := 19) rfl (zl (j := 2) (dj := 18) (b := true) (b' := false) (d := 20) rfl (L (S (zj rfl rfl) (zg (zc (zk rfl (zf (zb (L (S (za rfl) ?_))))))))))))
          refine L (S (zG rfl rfl (decide_eq_false (by omega))) ?_)
          refine L (S (za rfl) (zh (j := 2) (dj := 29) (b := false) (S (za rfl) ?_) rfl))
          refine zh (j := 2) (dj := 29) (b := false) (S (yp rfl rfl (decide_eq_false (by omega))) ?_) rfl
          refine L (S (zj rfl rfl) (zg (zc (zk rfl (zo (yj (zc (zb ?_))))))))
          refine L (S (zT rfl rfl (z1 (c := ((i + 1 : Nat) : Int)) (by omega))) ?_)
          refine L (S (za rfl) (zg (zc ?_)))
          exact ⟨rfl, i + 1, .cons rfl (.cons rfl (.cons rfl (.cons rfl (.cons rfl (.nil _))))), ⟨by rw [mix_same hc hup] at hb; exact hb, hil, hall' hcap, hmr⟩, by omega⟩
  · have hil : i = l.length := by omega
    rw [hil, List.take_of_length_le (Nat.le_refl _), List.drop_eq_nil_of_le (Nat.le_refl _), List.append_nil] at hb
    by_cases h0 : l.length = 0
    · have hnil : l = [] := List.eq_nil_of_length_eq_zero h0
      subst hnil
      refine yn (zL (zL (yK (zc (zf (zf (zb (L (S (za rfl) ?_)))))))))
      refine L (S (zH Tryz.underlying56 rfl) ?_)
      refine L (S (zR rfl rfl (decide_eq_true (by simp))) ?_)
      refine L (S (za rfl) (zl (j := 3) (dj := 37) (b := false) (b' := true) (d := 38) rfl (zl (j := 3) (dj := 37) (b := false) (b' := true) (d := 39) rfl (zl (j := 3) (dj := 37) (b := false) (b' := true) (d := 40) rfl (zl (j := 3) (dj := 37) (b := false) (b' := true) (d := 41) rfl (zl (j := 3) (dj := 37) (b := false) (b' := true) (d := 42) rfl (zl (j := 3) (dj := 37) (b := false) (b' := true) (d := 43) rfl (L (S (zt rfl rfl) (zg (zc (zr rfl (zf (zb (L (S (zd rfl) (L (S (zd rfl) (zg (zc (zy (zm ?_))))))))))))))))))))))
      refine Z7 Tryz.results103 rfl rfl ?_
      exact ⟨rfl, hmr⟩
    · have hne : l.map upC ≠ [] := fun h => h0 (by simpa using congrArg List.length h)
      have hcc : ∀ c ∈ l.map upC, capN c.toNat = true := fun c hc => by
        obtain ⟨d, hd, rfl⟩ := List.mem_map.1 hc
        obtain ⟨j, hj⟩ := List.getElem?_of_mem hd
        exact hall j (by rw [hil]; exact (List.getElem?_eq_some_iff.1 hj).1) d hj
      have hsz : (str (l.map upC)).size = l.length := by rw [yR]; simp
      have hlm : (l.map upC).length = l.length := by simp
      refine yn (zL (zL (yK (zc (zf (zf (zb (L (S (za rfl) ?_)))))))))
      refine L (S (zH Tryz.underlying56 rfl) ?_)
      refine L (S (zR rfl rfl (decide_eq_false (by omega))) ?_)
      refine L (S (za rfl) ?_)
      have hcall := contains_call (w := wr) (l.map upC) (hx.no hmr)
      by_cases hin : l.map upC ∈ wordsL
      · have hk : kwF l = some (l.map upC) := by unfold kwF; rw [if_pos hin]
        rw [hk]
        rw [decide_eq_true hin] at hcall
        refine zh (j := 3) (dj := 37) (b := false) (S (za rfl) ?_) rfl
        refine zh (j := 3) (dj := 37) (b := false) (S_bytesStr Tryz.underlying56 Tryz.underlying5 Tryz.underlying9 rfl hb.slr hlm ?_) rfl
        refine zh (j := 3) (dj := 37) (b := false) (S (P_addT rfl rfl (by rw [hsz]; show 1 + l.length ≤ _; omega)) ?_) rfl
        refine zh (j := 3) (dj := 37) (b := false) (S (P_addT rfl rfl (by rw [ByteArray.size_append, hsz]; show 1 + l.length + 1 ≤ _; omega)) ?_) rfl
        refine zh (j := 3) (dj := 37) (b := false) (zq cb_119 rfl (hcall _ _ words_text.symm (by simp [str]) hne hcc) ?_) rfl
        rintro _ _ ⟨rfl, rfl⟩
        refine zh (j := 3) (dj := 37) (b := false) (S (yu rfl rfl) (L (S (zj rfl rfl) (zg (zc (zk rfl (zo (zc (zf (zb (L (S (za rfl) ?_)))))))))))) rfl
        refine L (S_bytesStr Tryz.underlying56 Tryz.underlying5 Tryz.underlying9 rfl hb.slr hlm ?_)
        refine L (S (zd rfl) (L (S (zd rfl) (zg (zc (zy ?_))))))
        refine Z7 Tryz.results103 rfl rfl ?_
        exact ⟨rfl, hmr⟩
      · have hk : kwF l = none := by unfold kwF; rw [if_neg hin]
        rw [hk]
        rw [decide_eq_false hin] at hcall
        refine zh (j := 3) (dj := 37) (b := false) (S (za rfl) ?_) rfl
        refine zh (j := 3) (dj := 37) (b := false) (S_bytesStr Tryz.underlying56 Tryz.underlying5 Tryz.underlying9 rfl hb.slr hlm ?_) rfl
        refine zh (j := 3) (dj := 37) (b := false) (S (P_addT rfl rfl (by rw [hsz]; show 1 + l.length ≤ _; omega)) ?_) rfl
        refine zh (j := 3) (dj := 37) (b := false) (S (P_addT rfl rfl (by rw [ByteArray.size_append, hsz]; show 1 + l.length + 1 ≤ _; omega)) ?_) rfl
        refine zh (j := 3) (dj := 37) (b := false) (zq cb_119 rfl (hcall _ _ words_text.symm (by simp [str]) hne hcc) ?_) rfl
        rintro _ _ ⟨rfl, rfl⟩
        refine zh (j := 3) (dj := 37) (b := false) (S (yu rfl rfl) (L (S (zj rfl rfl) (zg (zc (zr rfl (zf (zb (L (S (zd rfl) (L (S (zd rfl) (zg (zc (zy (zm ?_)))))))))))))))) rfl
        refine Z7 Tryz.results103 rfl rfl ?_
        exact ⟨rfl, hmr⟩
end
end Go.Proofs.YtnoioimphcmeiaaGreatDoor
namespace Go.Proofs.YtnoioimphcmeiaaGreatDoor
open Go.RowKit
set_option maxRecDepth 20000

theorem Blk.own {w : World} {b : Nat} {cs : List Value} {e : TypeId} {n m base : Nat} (h : Blk w b cs e) (hl : cs.length = n * m) (hm : 0 < m) (hb : base ≤ b) (hn : n ≤ maxLen) : w.ownsRow base e m (.slice (some ⟨b, 0, none⟩) n n) n cs :=
  ⟨hl, .inr ⟨b, n, cs.toArray, rfl, hb, h, Nat.le_refl _, hn, by simpa using hl, by rw [← hl]; simp⟩⟩
def wordsV : List Value := wordsL.map fun x => .string (str x)
theorem wordsV_one : ∀ v ∈ wordsV, v.oneCell' = true := fun v hv => by
  obtain ⟨x, _, rfl⟩ := List.mem_map.1 hv
  rfl
def wordsO : List Operand := wordsL.map fun x => .const (.string (str x))
theorem words_evs (f : Fr) : evs f wordsO = some wordsV := by
  have key : ∀ W : List (List UInt8), evs f (W.map fun x => .const (.string (str x))) = some (W.map fun x => .string (str x)) := by
    intro W
    induction W with
    | nil => rfl
    | cons x r ih => simp only [List.map_cons, evs, ih, ev]
  exact key wordsL
theorem words_parts : (Ye 0 wordsO).toArray = #[(0, .const (.string ⟨#[83, 69, 76, 69, 67, 84]⟩)), (1, .const (.string ⟨#[70, 82, 79, 77]⟩)), (2, .const (.string ⟨#[87, 72, 69, 82, 69]⟩)), (3, .const (.string ⟨#[71, 82, 79, 85, 80]⟩)), (4, .const (.string ⟨#[66, 89]⟩)), (5, .const (.string ⟨#[79, 82, 68, 69, 82]⟩)), (6, .const (.string ⟨#[65, 83, 67]⟩)), (7, .const (.string ⟨#[68, 69, 83, 67]⟩)), (8, .const (.string ⟨#[76, 73, 77, 73, 84]⟩)), (9, .const (.string ⟨#[65, 83]⟩)), (10, .const (.string ⟨#[74, 79, 73, 78]⟩)), (11, .const (.string ⟨#[79, 78]⟩)), (12, .const (.string ⟨#[65, 78, 68]⟩)), (13, .const (.string ⟨#[79, 82]⟩)), (14, .const (.string ⟨#[78, 79, 84]⟩)), (15, .const (.string ⟨#[73, 83]⟩)), (16, .const (.string ⟨#[78, 85, 76, 76]⟩)), (17, .const (.string ⟨#[84, 82, 85, 69]⟩)), (18, .const (.string ⟨#[70, 65, 76, 83, 69]⟩)), (19, .const (.string ⟨#[67, 79, 85, 78, 84]⟩)), (20, .const (.string ⟨#[83, 85, 77]⟩)), (21, .const (.string ⟨#[77, 73, 78]⟩)), (22, .const (.string ⟨#[77, 65, 88]⟩)), (23, .const (.string ⟨#[73, 78, 83, 69, 82, 84]⟩)), (24, .const (.string ⟨#[73, 78, 84, 79]⟩)), (25, .const (.string ⟨#[86, 65, 76, 85, 69, 83]⟩)), (26, .const (.string ⟨#[85, 80, 68, 65, 84, 69]⟩)), (27, .const (.string ⟨#[83, 69, 84]⟩)), (28, .const (.string ⟨#[68, 69, 76, 69, 84, 69]⟩)), (29, .const (.string ⟨#[67, 82, 69, 65, 84, 69]⟩)), (30, .const (.string ⟨#[84, 65, 66, 76, 69]⟩)), (31, .const (.string ⟨#[68, 82, 79, 80]⟩)), (32, .const (.string ⟨#[73, 78, 84]⟩)), (33, .const (.string ⟨#[82, 69, 65, 76]⟩)), (34, .const (.string ⟨#[84, 69, 88, 84]⟩))] := rfl
section
variable {w : World}
theorem S_words {n d : Nat} {N : Nxt} {Q : Post} {f : Fr} {ds : List Deferred} {ty : TypeId} {pos : String} {af : Array Edge} {g : Option (Nat × Bool)} (h : ∀ b w', Blk w' b wordsV 9 → Mv No w w' → w.heap.size ≤ b → N ((d, .slice (some ⟨b, 0, none⟩) 35 35) :: f) ds w') (hn : Nat.blt d n = true := by rfl) :
    opF Tryz.prog n ⟨some d, .buildSlice 151 35 #[(0, .const (.string ⟨#[83, 69, 76, 69, 67, 84]⟩)), (1, .const (.string ⟨#[70, 82, 79, 77]⟩)), (2, .const (.string ⟨#[87, 72, 69, 82, 69]⟩)), (3, .const (.string ⟨#[71, 82, 79, 85, 80]⟩)), (4, .const (.string ⟨#[66, 89]⟩)), (5, .const (.string ⟨#[79, 82, 68, 69, 82]⟩)), (6, .const (.string ⟨#[65, 83, 67]⟩)), (7, .const (.string ⟨#[68, 69, 83, 67]⟩)), (8, .const (.string ⟨#[76, 73, 77, 73, 84]⟩)), (9, .const (.string ⟨#[65, 83]⟩)), (10, .const (.string ⟨#[74, 79, 73, 78]⟩)), (11, .const (.string ⟨#[79, 78]⟩)), (12, .const (.string ⟨#[65, 78, 68]⟩)), (13, .const (.string ⟨#[79, 82]⟩)), (14, .const (.string ⟨#[78, 79, 84]⟩)), (15, .const (.string ⟨#[73, 83]⟩)), (16, .const (.string ⟨#[78, 85, 76, 76]⟩)), (17, .const (.string ⟨#[84, 82, 85, 69]⟩)), (18, .const (.string ⟨#[70, 65, 76, 83, 69]⟩)), (19, .const (.string ⟨#[67, 79, 85, 78, 84]⟩)), (20, .const (.string ⟨#[83, 85, 77]⟩)), (21, .const (.string ⟨#[77, 73, 78]⟩)), (22, .const (.string ⟨#[77, 65, 88]⟩)), (23, .const (.string ⟨#[73, 78, 83, 69, 82, 84]⟩)), (24, .const (.string ⟨#[73, 78, 84, 79]⟩)), (25, .const (.string ⟨#[86, 65, 76, 85, 69, 83]⟩)), (26, .const (.string ⟨#[85, 80, 68, 65, 84, 69]⟩)), (27, .const (.string ⟨#[83, 69, 84]⟩)), (28, .const (.string ⟨#[68, 69, 76, 69, 84, 69]⟩)), (29, .const (.string ⟨#[67, 82, 69, 65, 84, 69]⟩)), (30, .const (.string ⟨#[84, 65, 66, 76, 69]⟩)), (31, .const (.string ⟨#[68, 82, 79, 80]⟩)), (32, .const (.string ⟨#[73, 78, 84]⟩)), (33, .const (.string ⟨#[82, 69, 65, 76]⟩)), (34, .const (.string ⟨#[84, 69, 88, 84]⟩))], ty, pos, af, g⟩ N Q f ds w := by
  rw [← words_parts]
  exact S_buildSliceN (l := wordsO) (vs := wordsV) Tryz.underlying151 ti_9 (words_evs f) wordsV_one rfl (by decide) (by decide) h hn

set_option maxHeartbeats 1000000 in
theorem words_ret : Ret Tryz.prog 126 [] w fun v w' => ∃ b, v = .slice (some ⟨b, 0, none⟩) 35 35 ∧ Blk w' b wordsV 9 ∧ w.heap.size ≤ b ∧ Mv No w w' := by
  refine zN Tryz.func126 Tryz.ntmps126 rfl rfl ?_
  refine zf (zb (L (S (zd rfl) (zg (zc (zf (zb ?_)))))))
  refine L (S_words ?_)
  rintro b1 w1 hb1 hm1 hn1
  refine L (S (zd rfl) (zg (zc (zy ?_))))
  refine zC Tryz.results126 rfl ?_
  exact ⟨b1, rfl, hb1, hn1, hm1⟩

set_option maxHeartbeats 1000000 in
theorem refkw_ret (l : List UInt8) (hl : l.length < 4611686018427387904) :
    Ret Tryz.prog 108 [.string (str l)] w fun v w' => v = .string (str ((kwF l).getD [])) ∧ Mv No w w' := by
  have hsz := yR l
  refine zN Tryz.func108 Tryz.ntmps108 rfl rfl ?_
  refine zf (zb (L (S (zd rfl) (zg (zc (zf (zb (L (S (zd rfl) (zg (zc (zf (zf (zb (L (S (zd rfl) (zg (zc (zx ?_)))))))))))))))))))
  refine yF (γ := Nat) (fun i => [(0, .string (str l)), (3, .string (str ((l.take i).map upC))), (4, .int .i64 (i : Int))]) (fun i wr => i ≤ l.length ∧ Mv No w wr) (fun i => l.length - i) 0 (.cons rfl (.cons rfl (.cons rfl (.nil _)))) ⟨Nat.zero_le _, Mv.refl w⟩ ?_
  rintro i wr ⟨hi, hmr⟩
  refine zf (zf (zb (L (S (za rfl) (L (S (za rfl) ?_))))))
  refine L (S (yi Tryz.underlying9 rfl) ?_)
  refine L (S (zG rfl rfl rfl) ?_)
  refine zg (zc ?_)
  refine C_ifp rfl rfl (fun hlt => ?_) (fun hge => ?_)
  · have hil : i < l.length := by omega
    obtain ⟨c, hc⟩ : ∃ c, l[i]? = some c := ⟨l[i], List.getElem?_eq_getElem hil⟩
    have hcl := c.toNat_lt
    have htake : (l.take (i + 1)).map upC = (l.take i).map upC ++ [upC c] := by
      obtain ⟨h1, h2⟩ := List.getElem?_eq_some_iff.1 hc
      rw [List.take_succ_eq_append_getElem h1, h2, List.map_append]
      rfl
    have hsz2 : (str ((l.take i).map upC)).size = i := by rw [yR, List.length_map, List.length_take]; omega
    have happ : str ((l.take i).map upC) ++ str [upC c] = str ((l.take (i + 1)).map upC) := by rw [str_append, htake]
    by_cases hlow : 97 ≤ c.toNat ∧ c.toNat ≤ 122
    · have hup : (.int .u8 ((c.toNat - 32 : Nat) : Int) : Value) = bv (upC c) := by
        unfold bv
        rw [upC_toNat, if_pos hlow]
      refine zo (zc (zf (zx (zf (zb (L (S (za rfl) (L (S (za rfl) ?_)))))))))
      refine L (S (zY Tryz.underlying9 rfl rfl (j := i) rfl (yd hc)) ?_)
      refine L (S (zd rfl) (zg (zc (zf (zf (zb (L (S (za rfl) ?_))))))))
      refine L (S (y_ rfl rfl (decide_eq_true (by omega))) ?_)
      refine L (S (za rfl) (zh (j := 2) (dj := 19) (b := true) (S (za rfl) ?_) rfl))
      refine zh (j := 2) (dj := 19) (b := true) (S (Yd rfl rfl (decide_eq_true (by omega))) ?_) rfl
      refine L (S (zt rfl rfl) (zg (zc (zr rfl (zb (L (S (za rfl) ?_)))))))
      refine L (S (Zd rfl rfl (wU8 (c := ((c.toNat - 97 : Nat) : Int)) (by omega))) ?_)
      refine L (S (zT rfl rfl (wU8 (c := ((c.toNat - 32 : Nat) : Int)) (by omega))) ?_)
      refine L (S (zd rfl) (zg (zc (zb (L (S (za rfl) (L (S (za rfl) ?_))))))))
      refine L (Yq Tryz.underlying56 ti_5 rfl rfl rfl ?_)
      rintro b2 w2 hb2 hm2 hn2
      refine L (S_bytesStr Tryz.underlying56 Tryz.underlying5 Tryz.underlying9 rfl (l := [upC c]) (.inr ⟨b2, 0, rfl, by have := hb2.row; rw [hup] at this; exact this⟩) rfl ?_)
      refine L (S (P_addT rfl rfl (by rw [hsz2, yR]; show i + 1 ≤ _; omega)) ?_)
      refine L (S (zd rfl) (zg (yj (zc (zb (L (S (za rfl) ?_)))))))
      refine L (S (zT rfl rfl (z1 (c := ((i + 1 : Nat) : Int)) (by omega))) ?_)
      refine L (S (zd rfl) (zg (zc ?_)))
      exact ⟨rfl, i + 1, .cons rfl (.cons (by show some (Value.string (str ((l.take i).map upC) ++ str [upC c])) = _; rw [happ]) (.cons rfl (.nil _))), ⟨hil, hmr.no hm2⟩, by omega⟩
    · have hup : (.int .u8 (c.toNat : Int) : Value) = bv (upC c) := by rw [upC_same hlow]; rfl
      by_cases h1 : 97 ≤ c.toNat
      · refine zo (zc (zf (zx (zf (zb (L (S (za rfl) (L (S (za rfl) ?_)))))))))
        refine L (S (zY Tryz.underlying9 rfl rfl (j := i) rfl (yd hc)) ?_)
        refine L (S (zd rfl) (zg (zc (zf (zf (zb (L (S (za rfl) ?_))))))))
        refine L (S (y_ rfl rfl (decide_eq_true (by omega))) ?_)
        refine L (S (za rfl) (zh (j := 2) (dj := 19) (b := true) (S (za rfl) ?_) rfl))
        refine zh (j := 2) (dj := 19) (b := true) (S (Yd rfl rfl (decide_eq_false (by omega))) ?_) rfl
        refine L (S (zt rfl rfl) (zg (zc (zk rfl (zo (zc (zb (L (S (za rfl) (L (S (za rfl) ?_)))))))))))
        refine L (Yq Tryz.underlying56 ti_5 rfl rfl rfl ?_)
        rintro b2 w2 hb2 hm2 hn2
        refine L (S_bytesStr Tryz.underlying56 Tryz.underlying5 Tryz.underlying9 rfl (l := [upC c]) (.inr ⟨b2, 0, rfl, by have := hb2.row; rw [hup] at this; exact this⟩) rfl ?_)
        refine L (S (P_addT rfl rfl (by rw [hsz2, yR]; show i + 1 ≤ _; omega)) ?_)
        refine L (S (zd rfl) (zg (yj (zc (zb (L (S (za rfl) ?_)))))))
        refine L (S (zT rfl rfl (z1 (c := ((i + 1 : Nat) : Int)) (by omega))) ?_)
        refine L (S (zd rfl) (zg (zc ?_)))
        exact ⟨rfl, i + 1, .cons rfl (.cons (by show some (Value.string (str ((l.take i).map upC) ++ str [upC c])) = _; rw [happ]) (.cons rfl (.nil _))), ⟨hil, hmr.no hm2⟩, by omega⟩
      · refine zo (zc (zf (zx (zf (zb (L (S (za rfl) (L (S (za rfl) ?_)))))))))
        refine L (S (zY Tryz.underlying9 rfl rfl (j := i) rfl (yd hc)) ?_)
        refine L (S (zd rfl) (zg (zc (zf (zf (zb (L (S (za rfl) ?_))))))))
        refine L (S (y_ rfl rfl (decide_eq_false (by omega))) ?_)
        refine L (S (za rfl) (zl (j := 2) (dj := 19) (b := true) (b' := false) (d := 20) rfl (zl (j := 2) (dj := 19) (b := true) (b' := false) (d := 21) rfl (L (S (zj rfl rfl) (zg (zc (zk rfl (zo (zc (zb (L (S (za rfl) (L (S (za rfl) ?_)))))))))))))))
        refine L (Yq Tryz.underlying56 ti_5 rfl rfl rfl ?_)
        rintro b2 w2 hb2 hm2 hn2
        refine L (S_bytesStr Tryz.underlying56 Tryz.underlying5 Tryz.underlying9 rfl (l := [upC c]) (.inr ⟨b2, 0, rfl, by have := hb2.row; rw [hup] at this; exact this⟩) rfl ?_)
        refine L (S (P_addT rfl rfl (by rw [hsz2, yR]; show i + 1 ≤ _; omega)) ?_)
        refine L (S (zd rfl) (zg (yj (zc (zb (L (S (za rfl) ?_)))))))
        refine L (S (zT rfl rfl (z1 (c := ((i + 1 : Nat) : Int)) (by omega))) ?_)
        refine L (S (zd rfl) (zg (zc ?_)))
        exact ⟨rfl, i + 1, .cons rfl (.cons (by show some (Value.string (str ((l.take i).map upC) ++ str [upC c])) = _; rw [happ]) (.cons rfl (.nil _))), ⟨hil, hmr.no hm2⟩, by omega⟩
  · have hil : i = l.length := by omega
    rw [hil, List.take_of_length_le (Nat.le_refl _)]
    refine yn (zL (zL (yK (zc (zf (zb ?_))))))
    refine L (zq cb_126 rfl (words_ret) ?_)
    rintro _ w2 ⟨b2, rfl, hb2, hn2, hm2⟩
    refine L (S (zd rfl) (zg (zc (zf (zf (zb (L (S (zd rfl) (zg (zc (zx ?_)))))))))))
    refine yF (γ := Nat) (fun i => [(3, .string (str (l.map upC))), (6, .slice (some ⟨b2, 0, none⟩) 35 35), (7, .int .i64 (i : Int))]) (fun i wr => wr = w2 ∧ i ≤ 35 ∧ ∀ j, j < i → wordsL[j]? ≠ some (l.map upC)) (fun i => 35 - i) 0 (.cons rfl (.cons rfl (.cons rfl (.nil _)))) ⟨rfl, by omega, fun j hj => by omega⟩ ?_
    rintro k wq ⟨rfl, hk, hno⟩
    refine zf (zf (zb (L (S (za rfl) (L (S (za rfl) ?_))))))
    refine L (S (zH Tryz.underlying151 rfl) ?_)
    refine L (S (zG rfl rfl rfl) ?_)
    refine zg (zc ?_)
    refine C_ifp rfl rfl (fun hlt2 => ?_) (fun hge2 => ?_)
    · have hk35 : k < 35 := by omega
      obtain ⟨x, hx⟩ : ∃ x, wordsL[k]? = some x := ⟨_, List.getElem?_eq_getElem (by show k < 35; exact hk35)⟩
      have hcell : wq.cell? ⟨b2, k, none⟩ = some (.string (str x)) := hb2.cell (by rw [wordsV, List.getElem?_map, hx]; rfl)
      by_cases hxe : x = l.map upC
      · have hkw : kwF l = some (l.map upC) := by unfold kwF; rw [if_pos (by rw [← hxe]; exact List.mem_of_getElem? hx)]
        rw [hkw]
        refine zo (zc (zf (zx (zf (zb (L (S (za rfl) (L (S (za rfl) ?_)))))))))
        refine L (S (zn Tryz.underlying151 (zD ti_9) rfl rfl (j := k) rfl hk35 (p := k) (by omega)) ?_)
        refine L (zi yc rfl hcell ?_)
        refine L (S (za rfl) ?_)
        refine L (S (ZR rfl rfl (decide_eq_true (by rw [hxe]))) ?_)
        refine zg (zc (zr rfl (zf (zb (L (S (za rfl) (L (S (zd rfl) (zg (zc (zy (zP (zm (zm (zP (zm ?_))))))))))))))))
        refine zC Tryz.results108 rfl ?_
        exact ⟨rfl, hmr.no hm2⟩
      · refine zo (zc (zf (zx (zf (zb (L (S (za rfl) (L (S (za rfl) ?_)))))))))
        refine L (S (zn Tryz.underlying151 (zD ti_9) rfl rfl (j := k) rfl hk35 (p := k) (by omega)) ?_)
        refine L (zi yc rfl hcell ?_)
        refine L (S (za rfl) ?_)
        refine L (S (ZR rfl rfl (decide_eq_false (fun h => hxe (ZH h)))) ?_)
        refine zg (zc (zk rfl (zo (yj (zc (zb (L (S (za rfl) ?_))))))))
        refine L (S (zT rfl rfl (z1 (c := ((k + 1 : Nat) : Int)) (by omega))) ?_)
        refine L (S (zd rfl) (zg (zc ?_)))
        exact ⟨rfl, k + 1, .cons rfl (.cons rfl (.cons rfl (.nil _))), ⟨rfl, hk35, fun j hj he => by
          by_cases hjk : j = k
          · subst hjk; rw [hx] at he; exact hxe (Option.some.inj he)
          · exact hno j (by omega) he⟩, by omega⟩
    · have hk35 : k = 35 := by omega
      subst hk35
      have hkw : kwF l = none := by
        unfold kwF
        rw [if_neg]
        intro h
        obtain ⟨j, hj⟩ := List.getElem?_of_mem h
        exact hno j (List.getElem?_eq_some_iff.1 hj).1 hj
      rw [hkw]
      refine yn (zL (zL (yK (zc (zf (zb (L (S (zd rfl) (zg (zc (zy ?_)))))))))))
      refine zC Tryz.results108 rfl ?_
      exact ⟨rfl, hmr.no hm2⟩
end
end Go.Proofs.YtnoioimphcmeiaaGreatDoor
namespace Go.Proofs.YtnoioimphcmeiaaGreatDoor
open Go.RowKit
set_option maxRecDepth 20000

/-- All blocks from a number on. -/
def Ge (B : Nat) : Nat → Prop := fun k => B ≤ k
theorem Mv.ge {S : Nat → Prop} {a b c : World} {B : Nat} (h : Mv S a b) (k : Mv (Ge B) b c) (hB : a.heap.size ≤ B) : Mv S a c :=
  h.trans k fun x hx hge => by unfold Ge at hge; omega
/-- A builder of texts, in a block of its own from B on, that holds these bytes. -/
def Bd (w : World) (B b : Nat) (l : List UInt8) : Prop := ∃ p v, Blk w b [p, v] 173 ∧ (p = .pointer none ∨ p = .pointer (some ⟨b, 0, none⟩)) ∧ w.ownsRow B 5 1 v l.length (l.map bv) ∧ B ≤ b ∧ v.ownBlock ≠ some b
theorem own_one {w : World} {base : Nat} {e : TypeId} {size : Nat} {v : Value} {n : Nat} {xs : List Value} (h : w.ownsRow base e size v n xs) : v.oneCell' = true := by
  obtain ⟨A, cap, rfl, _⟩ := own_reads h
  rfl
theorem Mv.ofBelowB {a b : World} {B : Nat} (h : Below B a b) : Mv (Ge B) a b := ⟨h.os, h.tape, h.output, h.size, fun k _ hn => h.block k (by unfold Ge at hn; omega)⟩
theorem Bd.no {w w' : World} {B b : Nat} {l : List UInt8} (h : Bd w B b l) (hm : Mv No w w') : Bd w' B b l := by
  obtain ⟨p, v, h1, h2, h3, h4, h5⟩ := h
  exact ⟨p, v, h1.no hm, h2, zE h3 hm, h4, h5⟩
theorem Bd.lt {w : World} {B b : Nat} {l : List UInt8} (h : Bd w B b l) : b < w.heap.size := by
  obtain ⟨p, v, h1, _⟩ := h
  exact h1.lt
theorem byteCells_bv (l : List UInt8) : Lib.byteCells l = l.map bv := rfl
theorem Bd.is {w : World} {B b : Nat} {l : List UInt8} (h : Bd w B b l) : Lib.IsBuilder 173 5 B b (Lib.byteCells l) w := by
  obtain ⟨p, v, h1, h2, h3, h4, h5⟩ := h
  have h3' : w.ownsRow B 5 1 v (Lib.byteCells l).length (Lib.byteCells l) := by rw [byteCells_bv, List.length_map]; exact h3
  rcases h2 with rfl | rfl
  · exact .inl ⟨h4, v, h1, h3', h5⟩
  · exact .inr ⟨h4, v, h1, h3', h5⟩

theorem noEscape_next : Extern.findNext Tryz.f146 = none := by kernel_rfl
theorem noEscape_find : Extern.find Tryz.f146 = some Extern.AbiNoEscape.same := by kernel_rfl
theorem builder_lies : liesAt Tryz.prog Tryz.prog.depth 173 (2 / Tryz.prog.cellsOf 173) 0 173 1 = true := by kernel_rfl
theorem Blk.shape {w : World} {b : Nat} {cs : List Value} {t : TypeId} (h : Blk w b cs t) : w.shape? b = some (t, cs.length) := by
  unfold Blk at h
  simp [World.shape?, h]

section
variable {w : World}
theorem copyCheck_ret {b : Nat} {p v : Value} (h : Blk w b [p, v] 173) (hp : p = .pointer none ∨ p = .pointer (some ⟨b, 0, none⟩)) :
    Ret Tryz.prog 136 [.pointer (some ⟨b, 0, none⟩)] w fun _ w' => Blk w' b [.pointer (some ⟨b, 0, none⟩), v] 173 ∧ Mv (At b) w w' := by
  refine zN Tryz.func136 Tryz.ntmps136 rfl rfl ?_
  rcases hp with rfl | rfl
  · refine zf (zb (L (S (za rfl) (L (S (Zy rfl) (L (S (ze fo_173_0 rfl) ?_)))))))
    refine L (zi sc_171 rfl (h.cell (i := 0) rfl) ?_)
    refine L (S (P_eqNil Tryz.underlying171 rfl rfl rfl) ?_)
    refine zg (zc (zr rfl (zb (L (S (za rfl) (L (S (za rfl) ?_)))))))
    refine L (S_toUnsafe Tryz.underlying171 Tryz.underlying189 ti_173 (by decide) rfl h.shape (by show 0 < 2; omega) ?_)
    refine L (S (P_ext Tryz.func146 (by kernel_rfl) rfl noEscape_next noEscape_find rfl (fun _ => rfl)) ?_)
    refine L (S_fromUnsafe Tryz.underlying189 Tryz.underlying171 ti_173 rfl h.shape builder_lies ?_)
    refine L (S (Zy rfl) (L (S (ze fo_173_0 rfl) ?_)))
    refine L (yv ti_171 rfl rfl rfl h (by show 0 < 2; omega) ?_)
    rintro w2 hb2 hm2
    refine zg ?_
    refine F_end0 Tryz.results136 ?_
    exact ⟨hb2, hm2⟩
  · refine zf (zb (L (S (za rfl) (L (S (Zy rfl) (L (S (ze fo_173_0 rfl) ?_)))))))
    refine L (zi sc_171 rfl (h.cell (i := 0) rfl) ?_)
    refine L (S (P_eqNil Tryz.underlying171 rfl rfl rfl) ?_)
    refine zg (zc (zk rfl (zf (zb (L (S (za rfl) (L (S (Zy rfl) (L (S (ze fo_173_0 rfl) ?_))))))))))
    refine L (zi sc_171 rfl (h.cell (i := 0) rfl) ?_)
    refine L (S (za rfl) ?_)
    refine L (S (P_nePtr Tryz.underlying171 ti_173 rfl rfl) ?_)
    refine zg (zc (zk rfl (zo ?_)))
    refine F_end0 Tryz.results136 ?_
    exact ⟨h, Mv.refl w⟩

theorem writeByte_ret {B b : Nat} {l : List UInt8} (c : UInt8) (h : Bd w B b l) (hl : l.length < 1000000000) :
    Ret Tryz.prog 123 [.pointer (some ⟨b, 0, none⟩), bv c] w fun v w' => v = .nilIface ∧ Bd w' B b (l ++ [c]) ∧ Mv (Ge B) w w' := by
  obtain ⟨p, v, h1, h2, h3, h4, h5⟩ := h
  refine zN Tryz.func123 Tryz.ntmps123 rfl rfl ?_
  refine zf (zb (L (S (zd rfl) (zg (zc (zf (zb (L (S (za rfl) ?_)))))))))
  refine L (zq cb_136 rfl (copyCheck_ret h1 h2) ?_)
  rintro _ w1 ⟨hb1, hm1⟩
  refine zg (zc (zf (zb (L (S (za rfl) (L (S (za rfl) (L (S (Zy rfl) (L (S (ze fo_173_1 rfl) ?_)))))))))))
  refine L (zi sc_56 rfl (hb1.cell (i := 1) rfl) ?_)
  refine L (S (za rfl) ?_)
  refine L (Yq Tryz.underlying56 ti_5 rfl rfl rfl ?_)
  rintro b2 w2 hb2 hm2 hn2
  have ho2 : w2.ownsRow B 5 1 v l.length (l.map bv) := zE (yo h3 hm1 (fun k hk he => h5 (by rw [← he]; exact hk))) hm2
  refine L (S_append Tryz.underlying56 ti_5 rfl (by decide) rfl ho2 rfl (.inr ⟨b2, 0, rfl, hb2.row⟩) rfl (fun u hu => by rw [show u = bv c by simpa using hu]; rfl) (by have := h1.lt; have := hm1.size; have := hm2.size; omega) (by unfold maxLen; omega) (by omega) ?_)
  rintro v3 w3 ho3 hm3 hf3
  refine L (S (Zy rfl) (L (S (ze fo_173_1 rfl) ?_)))
  have hb3 : Blk w3 b [.pointer (some ⟨b, 0, none⟩), v] 173 := (hb1.no hm2).mv hm3 (fun hk => h5 hk)
  refine L (yv ti_56 rfl rfl (own_one ho3) hb3 (by show 1 < 2; omega) ?_)
  rintro w4 hb4 hm4
  refine zg (zc (zf (zb (L (S (zd rfl) (zg (zc (zy ?_))))))))
  have hlt1 := h1.lt
  have hs1 := hm1.size
  have hs2 := hm2.size
  have hv3 : v3.ownBlock ≠ some b := fun he => by
    rcases hf3 b he with h6 | h6
    · exact h5 h6
    · omega
  refine zC Tryz.results123 rfl ?_
  refine ⟨rfl, ⟨_, v3, hb4, .inr rfl, ?_, h4, hv3⟩, ?_⟩
  · have := yo ho3 hm4 (fun k hk he => hv3 (by rw [← he]; exact hk))
    simpa [List.length_append] using this
  · have g1 : Mv (Ge B) w w1 := hm1.mono fun x _ he => by have : x = b := he; unfold Ge; omega
    have g3 : Mv (Ge B) w w3 := (g1.no hm2).trans hm3 fun x _ he => by
      have := (ZN ho2 he).1
      unfold Ge; omega
    exact g3.trans hm4 fun x _ he => by have : x = b := he; unfold Ge; omega

theorem string_ret {B b : Nat} {l : List UInt8} (h : Bd w B b l) (hB : B ≤ w.heap.size) : Ret Tryz.prog 122 [.pointer (some ⟨b, 0, none⟩)] w fun v w' => v = .string (str l) ∧ Mv (Ge B) w w' :=
  (Tryz.Builder_String_any B b l w h.is hB).mono fun e w' ⟨he, hw⟩ => ⟨_, he, rfl, Mv.ofBelowB hw⟩

/-- A token: kind, text, place. -/
def Zf (k : Nat) (s : List UInt8) (a : Nat) : List Value := [.int .i64 (k : Int), .string (str s), .int .i64 (a : Int)]

theorem yM (k : Nat) (s : List UInt8) (a : Nat) : ∀ v ∈ Zf k s a, v.oneCell' = true := by simp [Zf, Value.oneCell']
theorem Zv {b k a : Nat} {s : List UInt8} (h : Blk w b (Zf k s a) 71) : (loadVar 71 ⟨b, 0, none⟩).run Tryz.prog w = .ok (.agg (Zf k s a).toArray) w := zu Yo h.row rfl

theorem textF_step {c : UInt8} {r : List UInt8} (hc : c ≠ 39) : Zr (c :: r) = (Zr r).map fun x => (c :: x.1, x.2 + 1) := by
  cases r with
  | nil => simp [Zr, hc]
  | cons d r => rw [Zr, if_neg hc]
/-- So much of a text is read; what is still to come. -/
def TextGo (l : List UInt8) (i : Nat) (acc : List UInt8) : Prop := Zr (l.drop 1) = (Zr (l.drop i)).map fun x => (acc ++ x.1, x.2 + (i - 1))

set_option maxHeartbeats 1000000 in
theorem text_ret (l : List UInt8) (hl : l.length < 100000000) (h1 : 1 ≤ l.length) :
    Ret Tryz.prog 105 [.string (str l)] w fun v w' => (match Zr (l.drop 1) with
      | some (s, n) => v = .tuple #[.agg (Zf 5 s 0).toArray, .int .i64 ((n + 1 : Nat) : Int), .int .i64 0]
      | none => v = .tuple #[.agg (Zf 0 [] 0).toArray, .int .i64 0, .int .i64 10]) ∧ Mv No w w' := by
  have hsz := yR l
  refine zN Tryz.func105 Tryz.ntmps105 rfl rfl ?_
  refine zf (zb ?_)
  refine L (ye (zs := [(.int .i64 0), (.string (ByteArray.mk #[])), (.int .i64 0)]) yD rfl ?_)
  rintro b2 w1 hb2 hm1 hn1
  refine L (S (zd rfl) (L (S (zd rfl) (zg (zc (zf (zb ?_)))))))
  refine L (ye (zs := [(.pointer none), (.slice none 0 0)]) ti_173 rfl ?_)
  rintro b5 w2 hb5 hm2 hn2
  refine zg (zc (zf (zf ?_)))
  have hlt2 := hb2.lt
  have hb2' : Blk w2 b2 (Zf 0 [] 0) 71 := hb2.no hm2
  have hbd : Bd w2 w1.heap.size b5 [] := ⟨_, _, hb5, .inl rfl, Yl, hn2, by simp [Value.ownBlock]⟩
  have hm02 : Mv No w w2 := hm1.no hm2
  refine zb (L (S (zd rfl) (zg (zc (zx ?_)))))
  refine yF (γ := Nat × List UInt8) (fun q => [(0, .string (str l)), (2, .pointer (some ⟨b2, 0, none⟩)), (5, .pointer (some ⟨b5, 0, none⟩)), (6, .int .i64 (q.1 : Int))]) (fun q wr => Bd wr w1.heap.size b5 q.2 ∧ Blk wr b2 (Zf 0 [] 0) 71 ∧ 1 ≤ q.1 ∧ q.1 ≤ l.length ∧ q.2.length < q.1 ∧ TextGo l q.1 q.2 ∧ Mv No w wr) (fun q => l.length - q.1) (1, []) (.cons rfl (.cons rfl (.cons rfl (.cons rfl (.nil _))))) ⟨hbd, hb2', Nat.le_refl _, h1, Nat.zero_lt_one, by simp [TextGo], hm02⟩ ?_
  rintro ⟨i, acc⟩ wr ⟨hbr, hb2r, hi1, hil, hacc, hgo, hmr⟩
  dsimp only at hbr hi1 hil hacc hgo
  unfold TextGo at hgo
  have hB1 : w1.heap.size ≤ wr.heap.size := by
    obtain ⟨_, _, h6, _, _, h7, _⟩ := hbr
    have := h6.lt
    omega
  dsimp only
  refine zf (zf (zb (L (S (za rfl) (L (S (za rfl) ?_))))))
  refine L (S (yi Tryz.underlying9 rfl) ?_)
  refine L (S (zG rfl rfl rfl) ?_)
  refine zg (zc ?_)
  refine C_ifp rfl rfl (fun hlt => ?_) (fun hge => ?_)
  · have hlt' : i < l.length := by omega
    obtain ⟨c, hc⟩ : ∃ c, l[i]? = some c := ⟨l[i], List.getElem?_eq_getElem hlt'⟩
    have hdrop : l.drop i = c :: l.drop (i + 1) := by
      obtain ⟨h2, h3⟩ := List.getElem?_eq_some_iff.1 hc
      rw [List.drop_eq_getElem_cons h2, h3]
    have hcl := c.toNat_lt
    by_cases hq : c = 39
    · subst hq
      rw [hdrop] at hgo
      by_cases hend : i + 1 = l.length
      · have hn : l.drop (i + 1) = [] := List.drop_eq_nil_of_le (by omega)
        rw [hn] at hgo
        have he : Zr (l.drop 1) = some (acc, i) := by
          rw [hgo]
          simp only [Zr, if_pos, Option.map_some, List.append_nil]
          congr 2
          omega
        rw [he]
        refine zo (zc (zf (zx (zf (zf (zb (L (S (za rfl) (L (S (za rfl) ?_))))))))))
        refine L (S (zY Tryz.underlying9 rfl rfl (j := i) rfl (yd hc)) ?_)
        refine L (S (zR rfl rfl (decide_eq_true rfl)) ?_)
        refine zg (zc (zr rfl (zf (zb (L (S (za rfl) ?_))))))
        refine L (S (zT rfl rfl (z1 (c := ((i + 1 : Nat) : Int)) (by omega))) ?_)
        refine L (S (zd rfl) (zg (zc (zf (zb (L (S (za rfl) (L (S (za rfl) ?_)))))))))
        refine L (S (yi Tryz.underlying9 rfl) ?_)
        refine L (S (zR rfl rfl (decide_eq_true (by omega))) ?_)
        refine L (S (za rfl) (zl (j := 4) (dj := 23) (b := false) (b' := true) (d := 24) rfl (zl (j := 4) (dj := 23) (b := false) (b' := true) (d := 25) rfl (zl (j := 4) (dj := 23) (b := false) (b' := true) (d := 26) rfl (zl (j := 4) (dj := 23) (b := false) (b' := true) (d := 27) rfl (L (S (zt rfl rfl) (zg (zc (zr rfl (zf (zb ?_))))))))))))
        refine L (zq cb_122 rfl (string_ret hbr hB1) ?_)
        rintro _ w3 ⟨rfl, hm3⟩
        refine L (S (zW (ix := [0, 1]) (l := [.const (.int .i64 5), .tmp 29]) Yy rfl (by simp [Value.oneCell']) rfl) ?_)
        refine L (S (za rfl) ?_)
        refine L (zw yD rfl rfl (yM 5 acc 0) rfl (hb2r.mv hm3 (by unfold Ge; omega)) (by exact Nat.le_refl 3) ?_)
        rintro w4 hb4 hm4
        refine L (S (zd rfl) (L (S (zd rfl) (zg (zc (zy (zm (zP (zm (zm (zP (zm ?_))))))))))))
        have hb4' : Blk w4 b2 (Zf 5 acc 0) 71 := hb4
        refine yk (rs := [.cell 2 71, .tmp 3, .tmp 4]) [.agg (Zf 5 acc 0).toArray, .int .i64 ((i + 1 : Nat) : Int), .int .i64 0] Tryz.results105 ?_ ?_
        · exact ⟨⟨_, rfl, Zv hb4'⟩, rfl, rfl, trivial⟩
        · exact ⟨rfl, (hmr.ge hm3 hm1.size).new hm4 hn1⟩
      · obtain ⟨d, hd⟩ : ∃ d, l[i + 1]? = some d := ⟨l[i + 1], List.getElem?_eq_getElem (by omega)⟩
        have hdrop2 : l.drop (i + 1) = d :: l.drop (i + 2) := by
          obtain ⟨h2, h3⟩ := List.getElem?_eq_some_iff.1 hd
          rw [List.drop_eq_getElem_cons h2, h3]
        rw [hdrop2] at hgo
        by_cases hq2 : d = 39
        · subst hq2
          simp only [Zr, if_pos] at hgo
          refine zo (zc (zf (zx (zf (zf (zb (L (S (za rfl) (L (S (za rfl) ?_))))))))))
          refine L (S (zY Tryz.underlying9 rfl rfl (j := i) rfl (yd hc)) ?_)
          refine L (S (zR rfl rfl (decide_eq_true rfl)) ?_)
          refine zg (zc (zr rfl (zf (zb (L (S (za rfl) ?_))))))
          refine L (S (zT rfl rfl (z1 (c := ((i + 1 : Nat) : Int)) (by omega))) ?_)
          refine L (S (zd rfl) (zg (zc (zf (zb (L (S (za rfl) (L (S (za rfl) ?_)))))))))
          refine L (S (yi Tryz.underlying9 rfl) ?_)
          refine L (S (zR rfl rfl (decide_eq_false (by omega))) ?_)
          refine L (S (za rfl) (zh (j := 4) (dj := 23) (b := false) (S (za rfl) (zh (j := 4) (dj := 23) (b := false) (S (za rfl) ?_) rfl)) rfl))
          refine zh (j := 4) (dj := 23) (b := false) (S (zY Tryz.underlying9 rfl rfl (j := i + 1) rfl (yd hd)) ?_) rfl
          refine zh (j := 4) (dj := 23) (b := false) (S (Za rfl rfl (decide_eq_false (by decide))) ?_) rfl
          refine L (S (zj rfl rfl) (zg (zc (zk rfl (zo (zc (zb (L (S (za rfl) (L (S (za rfl) ?_)))))))))))
          refine L (S (zY Tryz.underlying9 rfl rfl (j := i + 1) rfl (yd hd)) ?_)
          refine L (zq cb_123 rfl (writeByte_ret 39 hbr (by omega)) ?_)
          rintro _ w3 ⟨rfl, hbd3, hm3⟩
          refine zg (yj (zc (zb (L (S (za rfl) ?_)))))
          refine L (S (zT rfl rfl (z1 (c := ((i + 2 : Nat) : Int)) (by omega))) ?_)
          refine L (S (zd rfl) (zg (zc ?_)))
          exact ⟨rfl, (i + 2, acc ++ [39]), .cons rfl (.cons rfl (.cons rfl (.cons rfl (.nil _)))), ⟨hbd3, hb2r.mv hm3 (by unfold Ge; omega), by dsimp only; omega, by dsimp only; omega, by simp; omega, by
            unfold TextGo
            rw [hgo]
            cases Zr (l.drop (i + 2)) with
            | none => rfl
            | some x => simp only [Option.map_some, List.append_assoc, List.cons_append, List.nil_append]; congr 2; omega, hmr.ge hm3 hm1.size⟩, by dsimp only; omega⟩
        · have hdl := d.toNat_lt
          have hd39 : d.toNat ≠ 39 := fun he => hq2 (by rw [← UInt8.toNat_inj, he]; rfl)
          have he : Zr (l.drop 1) = some (acc, i) := by
            rw [hgo]
            rw [Zr, if_pos rfl, if_neg hq2]
            simp only [Option.map_some, List.append_nil]
            congr 2
            omega
          rw [he]
          refine zo (zc (zf (zx (zf (zf (zb (L (S (za rfl) (L (S (za rfl) ?_))))))))))
          refine L (S (zY Tryz.underlying9 rfl rfl (j := i) rfl (yd hc)) ?_)
          refine L (S (zR rfl rfl (decide_eq_true rfl)) ?_)
          refine zg (zc (zr rfl (zf (zb (L (S (za rfl) ?_))))))
          refine L (S (zT rfl rfl (z1 (c := ((i + 1 : Nat) : Int)) (by omega))) ?_)
          refine L (S (zd rfl) (zg (zc (zf (zb (L (S (za rfl) (L (S (za rfl) ?_)))))))))
          refine L (S (yi Tryz.underlying9 rfl) ?_)
          refine L (S (zR rfl rfl (decide_eq_false (by omega))) ?_)
          refine L (S (za rfl) (zh (j := 4) (dj := 23) (b := false) (S (za rfl) (zh (j := 4) (dj := 23) (b := false) (S (za rfl) ?_) rfl)) rfl))
          refine zh (j := 4) (dj := 23) (b := false) (S (zY Tryz.underlying9 rfl rfl (j := i + 1) rfl (yd hd)) ?_) rfl
          refine zh (j := 4) (dj := 23) (b := false) (S (Za rfl rfl (decide_eq_true (by omega))) ?_) rfl
          refine L (S (zj rfl rfl) (zg (zc (zr rfl (zf (zb ?_))))))
          refine L (zq cb_122 rfl (string_ret hbr hB1) ?_)
          rintro _ w3 ⟨rfl, hm3⟩
          refine L (S (zW (ix := [0, 1]) (l := [.const (.int .i64 5), .tmp 29]) Yy rfl (by simp [Value.oneCell']) rfl) ?_)
          refine L (S (za rfl) ?_)
          refine L (zw yD rfl rfl (yM 5 acc 0) rfl (hb2r.mv hm3 (by unfold Ge; omega)) (by exact Nat.le_refl 3) ?_)
          rintro w4 hb4 hm4
          refine L (S (zd rfl) (L (S (zd rfl) (zg (zc (zy (zm (zP (zm (zm (zP (zm ?_))))))))))))
          have hb4' : Blk w4 b2 (Zf 5 acc 0) 71 := hb4
          refine yk (rs := [.cell 2 71, .tmp 3, .tmp 4]) [.agg (Zf 5 acc 0).toArray, .int .i64 ((i + 1 : Nat) : Int), .int .i64 0] Tryz.results105 ?_ ?_
          · exact ⟨⟨_, rfl, Zv hb4'⟩, rfl, rfl, trivial⟩
          · exact ⟨rfl, (hmr.ge hm3 hm1.size).new hm4 hn1⟩
    · have hc39 : c.toNat ≠ 39 := fun he => hq (by rw [← UInt8.toNat_inj, he]; rfl)
      rw [hdrop, textF_step hq] at hgo
      refine zo (zc (zf (zx (zf (zf (zb (L (S (za rfl) (L (S (za rfl) ?_))))))))))
      refine L (S (zY Tryz.underlying9 rfl rfl (j := i) rfl (yd hc)) ?_)
      refine L (S (zR rfl rfl (decide_eq_false (by omega))) ?_)
      refine zg (zc (zk rfl (zo (zc (zb (L (S (za rfl) (L (S (za rfl) ?_)))))))))
      refine L (S (zY Tryz.underlying9 rfl rfl (j := i) rfl (yd hc)) ?_)
      refine L (zq cb_123 rfl (writeByte_ret c hbr (by omega)) ?_)
      rintro _ w3 ⟨rfl, hbd3, hm3⟩
      refine zg (yj (zc (zb (L (S (za rfl) ?_)))))
      refine L (S (zT rfl rfl (z1 (c := ((i + 1 : Nat) : Int)) (by omega))) ?_)
      refine L (S (zd rfl) (zg (zc ?_)))
      exact ⟨rfl, (i + 1, acc ++ [c]), .cons rfl (.cons rfl (.cons rfl (.cons rfl (.nil _)))), ⟨hbd3, hb2r.mv hm3 (by unfold Ge; omega), by dsimp only; omega, by dsimp only; omega, by simp; omega, by
        unfold TextGo
        rw [hgo]
        cases Zr (l.drop (i + 1)) with
        | none => rfl
        | some x => simp only [Option.map_some, List.append_assoc, List.cons_append, List.nil_append]; congr 2; omega, hmr.ge hm3 hm1.size⟩, by dsimp only; omega⟩
  · have hn : l.drop i = [] := List.drop_eq_nil_of_le (by omega)
    rw [hn] at hgo
    have he : Zr (l.drop 1) = none := by rw [hgo]; simp [Zr]
    rw [he]
    refine yn (zL (zL (yK (zc (zf (zb ?_))))))
    refine L (S (zW (ix := []) (l := []) bi_71 rfl (by simp [Value.oneCell']) rfl) ?_)
    refine L (zw yD rfl rfl (yM 0 [] 0) rfl hb2r (by exact Nat.le_refl 3) ?_)
    rintro w4 hb4 hm4
    refine L (S (zd rfl) (L (S (zd rfl) (zg (zc (zy ?_))))))
    have hb4' : Blk w4 b2 (Zf 0 [] 0) 71 := hb4
    refine yk (rs := [.cell 2 71, .tmp 3, .tmp 4]) [.agg (Zf 0 [] 0).toArray, .int .i64 0, .int .i64 10] Tryz.results105 ?_ ?_
    · exact ⟨⟨_, rfl, Zv hb4'⟩, rfl, rfl, trivial⟩
    · exact ⟨rfl, hmr.new hm4 hn1⟩
end
end Go.Proofs.YtnoioimphcmeiaaGreatDoor
