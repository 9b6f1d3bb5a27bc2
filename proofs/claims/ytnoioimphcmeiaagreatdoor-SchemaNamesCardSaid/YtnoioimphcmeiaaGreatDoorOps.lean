/- The operations, one rule each. No program is named here. -/
import Derived.Test.YtnoioimphcmeiaaGreatDoorMem
namespace Go.Proofs.YtnoioimphcmeiaaGreatDoor
open Go.RowKit

def evs (f : Fr) : List Operand → Option (List Value)
  | [] => some []
  | x :: r => match ev f x, evs f r with
    | some v, some vs => some (v :: vs)
    | _, _ => none

theorem Of.evs {n : Nat} {f : Fr} {a : Act} (h : Of n f a) : ∀ {l : List Operand} {vs : List Value}, evs f l = some vs → l.map a.eval = vs
  | [], vs, hv => by simpa [Go.Proofs.YtnoioimphcmeiaaGreatDoor.evs] using hv
  | x :: r, vs, hv => by
    simp only [Go.Proofs.YtnoioimphcmeiaaGreatDoor.evs] at hv
    split at hv
    · rename_i v vs' h1 h2
      obtain rfl := Option.some.inj hv
      simp [h.ev h1, Of.evs h h2]
    · cases hv

section
variable {P : Program} {n : Nat} {N : Nxt} {Q : Post} {f : Fr} {ds : List Deferred} {w w' : World}

theorem S_val {o : Oper} {d : Nat} {v : Value} (hrun : ∀ a, Of n f a → (execOp a.eval o).run P w = .ok (.value v) w') (h : N ((d, v) :: f) ds w') (hd : o.dst = some d := by rfl) (hn : Nat.blt d n = true := by rfl) : opF P n o N Q f ds w := fun a ha hds K hK => by
  unfold Oper.wp
  rw [hrun a ha, Oper.upon_value, hd]
  exact hK _ _ _ (ha.put hn) (by subst hds; exact h)

/-- The same value in whatever world. -/
def PureV (P : Program) (n : Nat) (o : Oper) (f : Fr) (v : Value) : Prop := ∀ a, Of n f a → ∀ w, (execOp a.eval o).run P w = .ok (.value v) w

theorem S {o : Oper} {d : Nat} {v : Value} (hp : PureV P n o f v) (h : N ((d, v) :: f) ds w) (hd : o.dst = some d := by rfl) (hn : Nat.blt d n = true := by rfl) : opF P n o N Q f ds w :=
  S_val (fun a ha => hp a ha w) h hd hn

/- in a region that draws its order: what yields the same in whatever world is taken first -/
section
variable {ops : Array Oper} {fuel i d : Nat} {v : Value} {listed : Array Bool} {o : Oper}
theorem A_pure (ho : ops[i]? = some o) (hp : PureV P n o f v) (h : wpA P n ops Q fuel (listed.setIfInBounds i true) ((d, v) :: f) ds w) (hs : Region.noSelect ops = true) (hf : Region.free .any ops listed i = true) (hr : (Region.ready .any ops listed).contains i = true)
    (hQ : ∀ c f ds w, Q (.panic c) f ds w → False) (hd : o.dst = some d) (hn : Nat.blt d n = true) (hg : o.guard = none) : wpA P n ops Q (fuel + 1) listed f ds w :=
  A_take ho hd hn hs hf hr hQ (fun a ha => .inl ⟨by simp [Region.wanted, hg], hp a ha⟩) h
theorem A_pureY {j dj : Nat} {b : Bool} (ho : ops[i]? = some o) (hp : PureV P n o f v) (hv : fget f dj = some (.bool b)) (h : wpA P n ops Q fuel (listed.setIfInBounds i true) ((d, v) :: f) ds w) (hs : Region.noSelect ops = true) (hf : Region.free .any ops listed i = true) (hr : (Region.ready .any ops listed).contains i = true)
    (hQ : ∀ c f ds w, Q (.panic c) f ds w → False) (hd : o.dst = some d) (hn : Nat.blt d n = true) (hg : o.guard = some (j, b)) (hj : (ops[j]?).bind (·.dst) = some dj) : wpA P n ops Q (fuel + 1) listed f ds w :=
  A_take ho hd hn hs hf hr hQ (fun a ha => .inl ⟨by
    have := ha.val dj _ hv
    simp [Region.wanted, hg, yielded, hj, this], hp a ha⟩) h
theorem A_pureN {j dj : Nat} {b b' : Bool} (ho : ops[i]? = some o) (hv : fget f dj = some (.bool b')) (h : wpA P n ops Q fuel (listed.setIfInBounds i true) ((d, undef) :: f) ds w) (hs : Region.noSelect ops = true) (hf : Region.free .any ops listed i = true) (hr : (Region.ready .any ops listed).contains i = true)
    (hQ : ∀ c f ds w, Q (.panic c) f ds w → False) (hd : o.dst = some d) (hn : Nat.blt d n = true) (hg : o.guard = some (j, b)) (hne : (b' == b) = false) (hj : (ops[j]?).bind (·.dst) = some dj) : wpA P n ops Q (fuel + 1) listed f ds w :=
  A_take ho hd hn hs hf hr hQ (fun a ha => .inr ⟨by
    have := ha.val dj _ hv
    simp only [Region.wanted, hg, yielded, hj, this, Option.bind_some]
    cases b <;> cases b' <;> simp_all, rfl⟩) h
theorem A_pureNu {j dj : Nat} {b : Bool} (ho : ops[i]? = some o) (hv : fget f dj = some undef) (h : wpA P n ops Q fuel (listed.setIfInBounds i true) ((d, undef) :: f) ds w) (hs : Region.noSelect ops = true) (hf : Region.free .any ops listed i = true) (hr : (Region.ready .any ops listed).contains i = true)
    (hQ : ∀ c f ds w, Q (.panic c) f ds w → False) (hd : o.dst = some d) (hn : Nat.blt d n = true) (hg : o.guard = some (j, b)) (hj : (ops[j]?).bind (·.dst) = some dj) : wpA P n ops Q (fuel + 1) listed f ds w :=
  A_take ho hd hn hs hf hr hQ (fun a ha => .inr ⟨by
    have := ha.val dj _ hv
    simp [Region.wanted, hg, yielded, hj, this, undef], rfl⟩) h
theorem A_one (h : ∀ a, Of n f a → a.defers = ds → wpOp P ops (QA n Q) i (wpAny P .any ops (QA n Q) fuel (listed.setIfInBounds i true)) a w) (hr : Region.ready .any ops listed = [i]) : wpA P n ops Q (fuel + 1) listed f ds w :=
  A_all hr (by simp) fun j hj => by
    have : j = i := by simpa using hj
    subst this; exact h
theorem A_two {i2 : Nat} (h : ∀ a, Of n f a → a.defers = ds → wpOp P ops (QA n Q) i (wpAny P .any ops (QA n Q) fuel (listed.setIfInBounds i true)) a w) (h2 : ∀ a, Of n f a → a.defers = ds → wpOp P ops (QA n Q) i2 (wpAny P .any ops (QA n Q) fuel (listed.setIfInBounds i2 true)) a w)
    (hr : Region.ready .any ops listed = [i, i2]) : wpA P n ops Q (fuel + 1) listed f ds w :=
  A_all hr (by simp) fun j hj => by
    have : j = i ∨ j = i2 := by simpa using hj
    rcases this with rfl | rfl
    · exact h
    · exact h2
theorem A_three {i2 i3 : Nat} (h : ∀ a, Of n f a → a.defers = ds → wpOp P ops (QA n Q) i (wpAny P .any ops (QA n Q) fuel (listed.setIfInBounds i true)) a w) (h2 : ∀ a, Of n f a → a.defers = ds → wpOp P ops (QA n Q) i2 (wpAny P .any ops (QA n Q) fuel (listed.setIfInBounds i2 true)) a w) (h3 : ∀ a, Of n f a → a.defers = ds → wpOp P ops (QA n Q) i3 (wpAny P .any ops (QA n Q) fuel (listed.setIfInBounds i3 true)) a w)
    (hr : Region.ready .any ops listed = [i, i2, i3]) : wpA P n ops Q (fuel + 1) listed f ds w :=
  A_all hr (by simp) fun j hj => by
    have : j = i ∨ j = i2 ∨ j = i3 := by simpa using hj
    rcases this with rfl | rfl | rfl
    · exact h
    · exact h2
    · exact h3
end

theorem S_skip {o : Oper} (hrun : ∀ a, Of n f a → (execOp a.eval o).run P w = .ok .skip w') (h : N f ds w') (hd : o.dst = none := by rfl) : opF P n o N Q f ds w := fun a ha hds K hK => by
  unfold Oper.wp
  rw [hrun a ha, Oper.upon_skip, hd]
  exact hK _ _ _ ha (by subst hds; exact h)

theorem P_move {d : Nat} {x : Operand} {ty : TypeId} {pos : String} {af : Array Edge} {g : Option (Nat × Bool)} {v : Value} (hx : ev f x = some v) : PureV P n ⟨some d, .move x, ty, pos, af, g⟩ f (v) :=
  fun a ha w => by simp [execOp, ha.ev hx]
theorem P_assign {d : Nat} {x : Operand} {ty : TypeId} {pos : String} {af : Array Edge} {g : Option (Nat × Bool)} {v : Value} (hx : ev f x = some v) : PureV P n ⟨some d, .assign x, ty, pos, af, g⟩ f (v) :=
  fun a ha w => by simp [execOp, ha.ev hx]
theorem P_pickT {d : Nat} {c x y : Operand} {ty : TypeId} {pos : String} {af : Array Edge} {g : Option (Nat × Bool)} {v : Value} (hc : ev f c = some (.bool true)) (hx : ev f x = some v) : PureV P n ⟨some d, .pick c x y, ty, pos, af, g⟩ f (v) :=
  fun a ha w => by simp [execOp, ha.ev hx, ha.ev hc, asBool]
theorem P_pickF {d : Nat} {c x y : Operand} {ty : TypeId} {pos : String} {af : Array Edge} {g : Option (Nat × Bool)} {v : Value} (hc : ev f c = some (.bool false)) (hy : ev f y = some v) : PureV P n ⟨some d, .pick c x y, ty, pos, af, g⟩ f (v) :=
  fun a ha w => by simp [execOp, ha.ev hy, ha.ev hc, asBool]
theorem P_extract {d i : Nat} {x : Operand} {ty : TypeId} {pos : String} {af : Array Edge} {g : Option (Nat × Bool)} {vs : Array Value} {v : Value} (hx : ev f x = some (.tuple vs)) (hv : vs[i]? = some v) : PureV P n ⟨some d, .extract x i, ty, pos, af, g⟩ f (v) :=
  fun a ha w => by simp [execOp, ha.ev hx, Instr.extract, hv]
/- numbers -/
section
variable {d : Nat} {x y : Operand} {t yt ty : TypeId} {pos : String} {af : Array Edge} {g : Option (Nat × Bool)} {k : IntKind} {a b c : Int} {β : Bool}

theorem run_bin_int {op : BinOp} (h : op ≠ .shl ∧ op ≠ .shr) : (do eqGuard op t x y (.int k a) (.int k b); binOp op t (.int k a) (.int k b) : Sem Value).run P w =
    (match op with | .add | .sub | .mul => Op.intArith op k a b | .quo | .rem => Op.intDiv op k a b | .and | .or | .xor | .andNot => Op.intBits op k a b | _ => Op.intCmp op a b : Sem Value).run P w := by
  obtain ⟨h1, h2⟩ := h
  cases op <;> first | exact absurd rfl h1 | exact absurd rfl h2 | simp [eqGuard, binOp]

theorem P_add (hx : ev f x = some (.int k a)) (hy : ev f y = some (.int k b)) (hc : k.wrap (a + b) = c) : PureV P n ⟨some d, .binOp .add t x y yt, ty, pos, af, g⟩ f (.int k c) :=
  fun z hz w => by subst hc; simp only [execOp, hz.ev hx, hz.ev hy, Sem.run_bind, Sem.run_map]; have := run_bin_int (P := P) (w := w) (t := t) (x := x) (y := y) (k := k) (a := a) (b := b) (op := .add) (by simp); simp only [Sem.run_bind] at this; rw [this]; simp [Op.intArith]
theorem P_sub (hx : ev f x = some (.int k a)) (hy : ev f y = some (.int k b)) (hc : k.wrap (a - b) = c) : PureV P n ⟨some d, .binOp .sub t x y yt, ty, pos, af, g⟩ f (.int k c) :=
  fun z hz w => by subst hc; simp only [execOp, hz.ev hx, hz.ev hy, Sem.run_bind, Sem.run_map]; have := run_bin_int (P := P) (w := w) (t := t) (x := x) (y := y) (k := k) (a := a) (b := b) (op := .sub) (by simp); simp only [Sem.run_bind] at this; rw [this]; simp [Op.intArith]
theorem P_mul (hx : ev f x = some (.int k a)) (hy : ev f y = some (.int k b)) (hc : k.wrap (a * b) = c) : PureV P n ⟨some d, .binOp .mul t x y yt, ty, pos, af, g⟩ f (.int k c) :=
  fun z hz w => by subst hc; simp only [execOp, hz.ev hx, hz.ev hy, Sem.run_bind, Sem.run_map]; have := run_bin_int (P := P) (w := w) (t := t) (x := x) (y := y) (k := k) (a := a) (b := b) (op := .mul) (by simp); simp only [Sem.run_bind] at this; rw [this]; simp [Op.intArith]
theorem P_quo (hx : ev f x = some (.int k a)) (hy : ev f y = some (.int k b)) (hb : b ≠ 0) (hc : k.wrap (a.tdiv b) = c) : PureV P n ⟨some d, .binOp .quo t x y yt, ty, pos, af, g⟩ f (.int k c) :=
  fun z hz w => by subst hc; simp only [execOp, hz.ev hx, hz.ev hy, Sem.run_bind, Sem.run_map]; have := run_bin_int (P := P) (w := w) (t := t) (x := x) (y := y) (k := k) (a := a) (b := b) (op := .quo) (by simp); simp only [Sem.run_bind] at this; rw [this]; simp [Op.intDiv, hb]
theorem P_rem (hx : ev f x = some (.int k a)) (hy : ev f y = some (.int k b)) (hb : b ≠ 0) (hc : a.tmod b = c) : PureV P n ⟨some d, .binOp .rem t x y yt, ty, pos, af, g⟩ f (.int k c) :=
  fun z hz w => by subst hc; simp only [execOp, hz.ev hx, hz.ev hy, Sem.run_bind, Sem.run_map]; have := run_bin_int (P := P) (w := w) (t := t) (x := x) (y := y) (k := k) (a := a) (b := b) (op := .rem) (by simp); simp only [Sem.run_bind] at this; rw [this]; simp [Op.intDiv, hb]
/-- & | ^ &^: as the bits are. -/
def bitsOp (op : BinOp) (k : IntKind) (a b : Int) : Int :=
  match op with
  | .and => k.wrap (BitVec.ofInt k.bits a &&& BitVec.ofInt k.bits b).toNat
  | .or => k.wrap (BitVec.ofInt k.bits a ||| BitVec.ofInt k.bits b).toNat
  | .xor => k.wrap (BitVec.ofInt k.bits a ^^^ BitVec.ofInt k.bits b).toNat
  | .andNot => k.wrap (BitVec.ofInt k.bits a &&& ~~~ BitVec.ofInt k.bits b).toNat
  | _ => 0
theorem P_and (hx : ev f x = some (.int k a)) (hy : ev f y = some (.int k b)) (hc : bitsOp .and k a b = c) : PureV P n ⟨some d, .binOp .and t x y yt, ty, pos, af, g⟩ f (.int k c) :=
  fun z hz w => by subst hc; simp only [execOp, hz.ev hx, hz.ev hy, Sem.run_bind, Sem.run_map]; have := run_bin_int (P := P) (w := w) (t := t) (x := x) (y := y) (k := k) (a := a) (b := b) (op := .and) (by simp); simp only [Sem.run_bind] at this; rw [this]; simp [Op.intBits, bitsOp]
theorem P_or (hx : ev f x = some (.int k a)) (hy : ev f y = some (.int k b)) (hc : bitsOp .or k a b = c) : PureV P n ⟨some d, .binOp .or t x y yt, ty, pos, af, g⟩ f (.int k c) :=
  fun z hz w => by subst hc; simp only [execOp, hz.ev hx, hz.ev hy, Sem.run_bind, Sem.run_map]; have := run_bin_int (P := P) (w := w) (t := t) (x := x) (y := y) (k := k) (a := a) (b := b) (op := .or) (by simp); simp only [Sem.run_bind] at this; rw [this]; simp [Op.intBits, bitsOp]
theorem P_xor (hx : ev f x = some (.int k a)) (hy : ev f y = some (.int k b)) (hc : bitsOp .xor k a b = c) : PureV P n ⟨some d, .binOp .xor t x y yt, ty, pos, af, g⟩ f (.int k c) :=
  fun z hz w => by subst hc; simp only [execOp, hz.ev hx, hz.ev hy, Sem.run_bind, Sem.run_map]; have := run_bin_int (P := P) (w := w) (t := t) (x := x) (y := y) (k := k) (a := a) (b := b) (op := .xor) (by simp); simp only [Sem.run_bind] at this; rw [this]; simp [Op.intBits, bitsOp]
theorem P_shl {k' : IntKind} (hx : ev f x = some (.int k a)) (hy : ev f y = some (.int k' b)) (hb : 0 ≤ b) (hc : k.wrap (a * 2 ^ (min b.toNat k.bits)) = c) : PureV P n ⟨some d, .binOp .shl t x y yt, ty, pos, af, g⟩ f (.int k c) :=
  fun z hz w => by subst hc; simp [execOp, hz.ev hx, hz.ev hy, eqGuard, binOp, Op.shift, Int.not_lt.2 hb]
theorem P_shr {k' : IntKind} (hx : ev f x = some (.int k a)) (hy : ev f y = some (.int k' b)) (hb : 0 ≤ b) (hc : a.fdiv (2 ^ (min b.toNat k.bits)) = c) : PureV P n ⟨some d, .binOp .shr t x y yt, ty, pos, af, g⟩ f (.int k c) :=
  fun z hz w => by subst hc; simp [execOp, hz.ev hx, hz.ev hy, eqGuard, binOp, Op.shift, Int.not_lt.2 hb]
theorem P_eq (hx : ev f x = some (.int k a)) (hy : ev f y = some (.int k b)) (hβ : decide (a = b) = β) : PureV P n ⟨some d, .binOp .eql t x y yt, ty, pos, af, g⟩ f (.bool β) :=
  fun z hz w => by subst hβ; simp only [execOp, hz.ev hx, hz.ev hy, Sem.run_bind, Sem.run_map]; have := run_bin_int (P := P) (w := w) (t := t) (x := x) (y := y) (k := k) (a := a) (b := b) (op := .eql) (by simp); simp only [Sem.run_bind] at this; rw [this]; simp [Op.intCmp]; rfl
theorem P_ne (hx : ev f x = some (.int k a)) (hy : ev f y = some (.int k b)) (hβ : decide (a ≠ b) = β) : PureV P n ⟨some d, .binOp .neq t x y yt, ty, pos, af, g⟩ f (.bool β) :=
  fun z hz w => by
    subst hβ; simp only [execOp, hz.ev hx, hz.ev hy, Sem.run_bind, Sem.run_map]
    have := run_bin_int (P := P) (w := w) (t := t) (x := x) (y := y) (k := k) (a := a) (b := b) (op := .neq) (by simp)
    simp only [Sem.run_bind] at this; rw [this]
    have e : (a != b) = decide (a ≠ b) := by by_cases hab : a = b <;> simp [hab]
    simp only [Op.intCmp, Sem.run_pure, Result.andThen_ok, e]
theorem P_lt (hx : ev f x = some (.int k a)) (hy : ev f y = some (.int k b)) (hβ : decide (a < b) = β) : PureV P n ⟨some d, .binOp .lss t x y yt, ty, pos, af, g⟩ f (.bool β) :=
  fun z hz w => by subst hβ; simp only [execOp, hz.ev hx, hz.ev hy, Sem.run_bind, Sem.run_map]; have := run_bin_int (P := P) (w := w) (t := t) (x := x) (y := y) (k := k) (a := a) (b := b) (op := .lss) (by simp); simp only [Sem.run_bind] at this; rw [this]; simp [Op.intCmp]
theorem P_le (hx : ev f x = some (.int k a)) (hy : ev f y = some (.int k b)) (hβ : decide (a ≤ b) = β) : PureV P n ⟨some d, .binOp .leq t x y yt, ty, pos, af, g⟩ f (.bool β) :=
  fun z hz w => by subst hβ; simp only [execOp, hz.ev hx, hz.ev hy, Sem.run_bind, Sem.run_map]; have := run_bin_int (P := P) (w := w) (t := t) (x := x) (y := y) (k := k) (a := a) (b := b) (op := .leq) (by simp); simp only [Sem.run_bind] at this; rw [this]; simp [Op.intCmp]
theorem P_gt (hx : ev f x = some (.int k a)) (hy : ev f y = some (.int k b)) (hβ : decide (b < a) = β) : PureV P n ⟨some d, .binOp .gtr t x y yt, ty, pos, af, g⟩ f (.bool β) :=
  fun z hz w => by subst hβ; simp only [execOp, hz.ev hx, hz.ev hy, Sem.run_bind, Sem.run_map]; have := run_bin_int (P := P) (w := w) (t := t) (x := x) (y := y) (k := k) (a := a) (b := b) (op := .gtr) (by simp); simp only [Sem.run_bind] at this; rw [this]; simp [Op.intCmp]
theorem P_ge (hx : ev f x = some (.int k a)) (hy : ev f y = some (.int k b)) (hβ : decide (b ≤ a) = β) : PureV P n ⟨some d, .binOp .geq t x y yt, ty, pos, af, g⟩ f (.bool β) :=
  fun z hz w => by subst hβ; simp only [execOp, hz.ev hx, hz.ev hy, Sem.run_bind, Sem.run_map]; have := run_bin_int (P := P) (w := w) (t := t) (x := x) (y := y) (k := k) (a := a) (b := b) (op := .geq) (by simp); simp only [Sem.run_bind] at this; rw [this]; simp [Op.intCmp]
theorem P_not {β' : Bool} (hx : ev f x = some (.bool β')) (hβ : (!β') = β) : PureV P n ⟨some d, .unOp .not t x, ty, pos, af, g⟩ f (.bool β) :=
  fun z hz w => by subst hβ; simp [execOp, hz.ev hx, Op.unary, Op.intArith]
theorem P_neg (hx : ev f x = some (.int k a)) (hc : k.wrap (-a) = c) : PureV P n ⟨some d, .unOp .neg t x, ty, pos, af, g⟩ f (.int k c) :=
  fun z hz w => by subst hc; simp [execOp, hz.ev hx, Op.unary, Op.intArith]
theorem P_conv {k' : IntKind} {t' : TypeDesc} (hs : P.underlying t = some t') (ht : P.underlying yt = some (.int k')) (hx : ev f x = some (.int k a)) (hc : k'.wrap a = c) : PureV P n ⟨some d, .convert t yt x, ty, pos, af, g⟩ f (.int k' c) :=
  fun z hz w => by subst hc; simp [execOp, hz.ev hx, convert, run_underlying ht, run_underlying hs, Conv.intToInt]
end

/- words on wraps -/
theorem wI64 {a c : Int} (h : a = c ∧ -9223372036854775808 ≤ c ∧ c < 9223372036854775808) : IntKind.i64.wrap a = c := by
  obtain ⟨rfl, h1, h2⟩ := h
  simp only [IntKind.wrap, IntKind.bits, IntKind.signed]
  simp
  omega
theorem wU64 {a c : Int} (h : a = c ∧ 0 ≤ c ∧ c < 18446744073709551616) : IntKind.u64.wrap a = c := by
  obtain ⟨rfl, h1, h2⟩ := h
  simp only [IntKind.wrap, IntKind.bits, IntKind.signed]
  simp
  omega
theorem wU8 {a c : Int} (h : a = c ∧ 0 ≤ c ∧ c < 256) : IntKind.u8.wrap a = c := by
  obtain ⟨rfl, h1, h2⟩ := h
  simp only [IntKind.wrap, IntKind.bits, IntKind.signed]
  simp
  omega
theorem wU32 {a c : Int} (h : a = c ∧ 0 ≤ c ∧ c < 4294967296) : IntKind.u32.wrap a = c := by
  obtain ⟨rfl, h1, h2⟩ := h
  simp only [IntKind.wrap, IntKind.bits, IntKind.signed]
  simp
  omega
theorem wI32 {a c : Int} (h : a = c ∧ -2147483648 ≤ c ∧ c < 2147483648) : IntKind.i32.wrap a = c := by
  obtain ⟨rfl, h1, h2⟩ := h
  simp only [IntKind.wrap, IntKind.bits, IntKind.signed]
  simp
  omega

/- words on quotients -/
theorem quoU64 {a b c : Int} {m k : Nat} (ha : a = (m : Int)) (hb : b = (k : Int)) (hc : c = ((m / k : Nat) : Int)) (hm : m < 18446744073709551616) : IntKind.u64.wrap (a.tdiv b) = c := by
  subst ha; subst hb; subst hc
  rw [← Int.ofNat_tdiv]
  have h1 : m / k ≤ m := Nat.div_le_self m k
  generalize m / k = z at *
  exact wU64 ⟨rfl, by omega, by omega⟩
theorem quoI64 {a b c : Int} {m k : Nat} (ha : a = (m : Int)) (hb : b = (k : Int)) (hc : c = ((m / k : Nat) : Int)) (hm : m < 9223372036854775808) : IntKind.i64.wrap (a.tdiv b) = c := by
  subst ha; subst hb; subst hc
  rw [← Int.ofNat_tdiv]
  have h1 : m / k ≤ m := Nat.div_le_self m k
  generalize m / k = z at *
  exact wI64 ⟨rfl, by omega, by omega⟩
theorem remN {a b c : Int} {m k : Nat} (ha : a = (m : Int)) (hb : b = (k : Int)) (hc : c = ((m % k : Nat) : Int)) : a.tmod b = c := by
  subst ha; subst hb; subst hc
  exact (Int.ofNat_tmod m k).symm

end
end Go.Proofs.YtnoioimphcmeiaaGreatDoor
