/- More rules: bits of u64, floats, interfaces made, scopes and jumps forward. No program is named here. -/
import Derived.Test.YtnoioimphcmeiaaGreatDoorOpsL
import Derived.Scope
namespace Go.Proofs.YtnoioimphcmeiaaGreatDoor
open Go.RowKit

theorem ofInt64 (a : Nat) (h : a < 18446744073709551616) : (BitVec.ofInt IntKind.u64.bits (a : Int)).toNat = a := by
  simp [IntKind.bits]
  omega
theorem wU64' {n : Nat} (h : n < 18446744073709551616) : IntKind.u64.wrap (n : Int) = (n : Int) := wU64 ⟨rfl, by omega, by omega⟩
theorem andU64 {a b : Nat} {c : Int} (ha : a < 18446744073709551616) (hb : b < 18446744073709551616) (hc : c = ((a &&& b : Nat) : Int)) : bitsOp .and .u64 (a : Int) (b : Int) = c := by
  subst hc
  show IntKind.u64.wrap ((BitVec.ofInt IntKind.u64.bits (a : Int) &&& BitVec.ofInt IntKind.u64.bits (b : Int)).toNat : Int) = _
  rw [BitVec.toNat_and, ofInt64 a ha, ofInt64 b hb]
  exact wU64' (Nat.lt_of_le_of_lt Nat.and_le_left ha)
theorem orU64 {a b : Nat} {c : Int} (ha : a < 18446744073709551616) (hb : b < 18446744073709551616) (hc : c = ((a ||| b : Nat) : Int)) : bitsOp .or .u64 (a : Int) (b : Int) = c := by
  subst hc
  show IntKind.u64.wrap ((BitVec.ofInt IntKind.u64.bits (a : Int) ||| BitVec.ofInt IntKind.u64.bits (b : Int)).toNat : Int) = _
  rw [BitVec.toNat_or, ofInt64 a ha, ofInt64 b hb]
  exact wU64' (Nat.or_lt_two_pow (n := 64) ha hb)
theorem shrU64 {a s : Nat} {b c : Int} (hb : b = (s : Int)) (hs : s ≤ 64) (hc : c = ((a / 2 ^ s : Nat) : Int)) : (a : Int).fdiv (2 ^ (min b.toNat IntKind.u64.bits)) = c := by
  subst hb hc
  have e : min (s : Int).toNat IntKind.u64.bits = s := by
    show min (s : Int).toNat 64 = s
    omega
  rw [e]
  have h2 : ((2 : Int) ^ s) = ((2 ^ s : Nat) : Int) := by simp
  rw [h2, Int.fdiv_eq_ediv_of_nonneg _ (Int.natCast_nonneg _)]
  rfl
theorem shlU64 {a s : Nat} {b c : Int} (hb : b = (s : Int)) (hs : s ≤ 64) (hc : c = ((a * 2 ^ s : Nat) : Int)) (hlt : a * 2 ^ s < 18446744073709551616) : IntKind.u64.wrap ((a : Int) * 2 ^ (min b.toNat IntKind.u64.bits)) = c := by
  subst hb hc
  have e : min (s : Int).toNat IntKind.u64.bits = s := by
    show min (s : Int).toNat 64 = s
    omega
  rw [e]
  have h2 : (a : Int) * ((2 : Int) ^ s) = ((a * 2 ^ s : Nat) : Int) := by simp
  rw [h2]
  exact wU64' hlt
theorem modU64 {x : Nat} {a c : Int} (ha : a = (x : Int)) (hc : c = ((x % 18446744073709551616 : Nat) : Int)) : IntKind.u64.wrap a = c := by
  subst ha hc
  simp [IntKind.wrap, IntKind.bits, IntKind.signed]

section
variable {P : Program} {n : Nat} {N : Nxt} {Q : Post} {f : Fr} {ds : List Deferred} {w w' : World}
variable {d : Nat} {x y : Operand} {t yt ty : TypeId} {pos : String} {af : Array Edge} {g : Option (Nat × Bool)} {k : IntKind} {a b c : Int}
theorem P_andNot (hx : ev f x = some (.int k a)) (hy : ev f y = some (.int k b)) (hc : bitsOp .andNot k a b = c) : PureV P n ⟨some d, .binOp .andNot t x y yt, ty, pos, af, g⟩ f (.int k c) :=
  fun z hz w => by subst hc; simp only [execOp, hz.ev hx, hz.ev hy, Sem.run_bind, Sem.run_map]; have := run_bin_int (P := P) (w := w) (t := t) (x := x) (y := y) (k := k) (a := a) (b := b) (op := .andNot) (by simp); simp only [Sem.run_bind] at this; rw [this]; simp [Op.intBits, bitsOp]
theorem P_mulF {k : FloatKind} {a b r : Nat} (hx : ev f x = some (.float k a)) (hy : ev f y = some (.float k b)) (hr : k.format.mul a b = some r) : PureV P n ⟨some d, .binOp .mul t x y yt, ty, pos, af, g⟩ f (.float k r) :=
  fun z hz w => by simp [execOp, hz.ev hx, hz.ev hy, eqGuard, binOp, Op.floatArith, hr]
theorem P_quoF {k : FloatKind} {a b r : Nat} (hx : ev f x = some (.float k a)) (hy : ev f y = some (.float k b)) (hr : k.format.div a b = some r) : PureV P n ⟨some d, .binOp .quo t x y yt, ty, pos, af, g⟩ f (.float k r) :=
  fun z hz w => by simp [execOp, hz.ev hx, hz.ev hy, eqGuard, binOp, Op.floatArith, hr]
theorem P_convIF {k : FloatKind} {j : IntKind} {a : Int} {t' : TypeDesc} (hs : P.underlying t = some t') (ht : P.underlying yt = some (.float k)) (hx : ev f x = some (.int j a)) : PureV P n ⟨some d, .convert t yt x, ty, pos, af, g⟩ f (.float k (k.nearest a)) :=
  fun z hz w => by simp [execOp, hz.ev hx, convert, run_underlying hs, run_underlying ht, Conv.intToFloat]
theorem P_mkI {v : Value} {u : TypeDesc} (hu : P.underlying t = some u) (hi : ∀ ms, u ≠ .interface ms) (hx : ev f x = some v) : PureV P n ⟨some d, .makeInterface t x, ty, pos, af, g⟩ f (.iface t v) :=
  fun z hz w => by
    cases u <;> first | exact absurd rfl (hi _) | simp [execOp, hz.ev hx, Instr.makeInterface, run_underlying hu]

/- scopes -/
def scopeF (Q : Post) : Post
  | .goto _, _, _, _ => False
  | e, f, ds, w => Q e f ds w
theorem scope_n (h : Q .normal f ds w) : scopeF Q .normal f ds w := h
theorem scope_x {id : Nat} (h : Q (.exit id) f ds w) : scopeF Q (.exit id) f ds w := h
theorem scope_r (h : Q .ret f ds w) : scopeF Q .ret f ds w := h
theorem C_scope {c : Code} (h : wpF P n c (scopeF Q) f ds w) : wpF P n (.scope c) Q f ds w := fun a ha hd =>
  wp_scope_straight (wp_mono (h a ha hd) fun e a' w' ⟨f', hf', hq⟩ => by
    cases e with
    | goto l => exact hq.elim
    | _ => exact ⟨f', hf', hq⟩)
/-- A jump forward: what holds at the label. -/
def jumpF (J : Nat → Fr → World → Prop) (ds : List Deferred) (Q : Post) : Post
  | .goto l, f, ds', w => ds' = ds ∧ J l f w
  | e, f, ds, w => Q e f ds w
theorem jump_n {J : Nat → Fr → World → Prop} {ds' : List Deferred} (h : Q .normal f ds w) : jumpF J ds' Q .normal f ds w := h
theorem jump_x {J : Nat → Fr → World → Prop} {ds' : List Deferred} {id : Nat} (h : Q (.exit id) f ds w) : jumpF J ds' Q (.exit id) f ds w := h
theorem jump_r {J : Nat → Fr → World → Prop} {ds' : List Deferred} (h : Q .ret f ds w) : jumpF J ds' Q .ret f ds w := h
theorem jump_g {J : Nat → Fr → World → Prop} {l : Nat} (h : J l f w) : jumpF J ds Q (.goto l) f ds w := ⟨rfl, h⟩
theorem then_g {K : Nxt} {l : Nat} (h : Q (.goto l) f ds w) : thenF K Q (.goto l) f ds w := h
theorem blk_g {id l : Nat} (h : Q (.goto l) f ds w) : blkF id Q (.goto l) f ds w := h
theorem C_goto {l : Nat} (h : Q (.goto l) f ds w) : wpF P n (.goto l) Q f ds w := fun a ha hd => wp_goto ⟨f, ha, hd ▸ h⟩
theorem C_scopeG {c : Code} (J : Nat → Fr → World → Prop) (rest : Nat → Code) (hf : ∀ l f w, J l f w → findLabel c l = some (rest l)) (first : wpF P n c (jumpF J ds Q) f ds w) (pass : ∀ l f w, J l f w → wpF P n (rest l) (scopeF Q) f ds w) : wpF P n (.scope c) Q f ds w := by
  intro a ha hd b k cs
  obtain ⟨e, a₁, w₁, ⟨f₁, hf₁, hq⟩, harr⟩ := first a ha hd b (.inScope c :: k) cs
  cases e with
  | normal => exact ⟨.normal, a₁, w₁, ⟨f₁, hf₁, hq⟩, .head step_scope (Steps.trans harr (.one step_inScope))⟩
  | exit id => exact ⟨.exit id, a₁, w₁, ⟨f₁, hf₁, hq⟩, fun k' hk => .head step_scope (harr k' (by simp [exitTo, hk]))⟩
  | goto l =>
    obtain ⟨hds, hJ⟩ := hq
    have hg : gotoIn l (.inScope c :: k) = some (.code (rest l) :: .inScope c :: k) := by simp [gotoIn, hf l f₁ w₁ hJ]
    obtain ⟨e₂, a₂, w₂, ⟨f₂, hf₂, hq₂⟩, harr₂⟩ := pass l f₁ w₁ hJ a₁ hf₁ hds b (.inScope c :: k) cs
    cases e₂ with
    | normal => exact ⟨.normal, a₂, w₂, ⟨f₂, hf₂, hq₂⟩, .head step_scope ((harr _ hg).trans (Steps.trans harr₂ (.one step_inScope)))⟩
    | exit id => exact ⟨.exit id, a₂, w₂, ⟨f₂, hf₂, hq₂⟩, fun k' hk => .head step_scope ((harr _ hg).trans (harr₂ k' (by simp [exitTo, hk])))⟩
    | goto l' => exact hq₂.elim
    | ret => exact ⟨_, a₂, w₂, ⟨f₂, hf₂, hq₂⟩, .of_steps (.head step_scope (harr _ hg)) harr₂⟩
    | panic ch => exact ⟨_, a₂, w₂, ⟨f₂, hf₂, hq₂⟩, .of_steps (.head step_scope (harr _ hg)) harr₂⟩
    | outgrown => exact ⟨_, a₂, w₂, ⟨f₂, hf₂, hq₂⟩, .of_steps (.head step_scope (harr _ hg)) harr₂⟩
  | ret => exact ⟨_, a₁, w₁, ⟨f₁, hf₁, hq⟩, .of_steps (.one step_scope) harr⟩
  | panic ch => exact ⟨_, a₁, w₁, ⟨f₁, hf₁, hq⟩, .of_steps (.one step_scope) harr⟩
  | outgrown => exact ⟨_, a₁, w₁, ⟨f₁, hf₁, hq⟩, .of_steps (.one step_scope) harr⟩
end

/- floats: numbers not below 0 -/
/-- Not a NaN, no sign. -/
def Good (b : Nat) : Prop := b ≤ 9218868437227405312
theorem read_good {b : Nat} (h : Good b) : (∃ m e, Ieee.double.read b = .number false m e) ∨ Ieee.double.read b = .infinity false := by
  unfold Good at h
  have h1 : Ieee.double.signWeight = 9223372036854775808 := by decide
  have h2 : Ieee.double.infRung = 9218868437227405312 := by decide
  unfold Ieee.Format.read
  simp only [h1, h2]
  have hd : b / 9223372036854775808 = 0 := Nat.div_eq_of_lt (by omega)
  have hm : b % 9223372036854775808 = b := Nat.mod_eq_of_lt (by omega)
  rw [hd, hm]
  split
  · exact .inl ⟨_, _, rfl⟩
  · split
    · exact .inl ⟨_, _, rfl⟩
    · have : b = 9218868437227405312 := by omega
      rw [if_pos this]
      exact .inr rfl
theorem order_good {a b : Nat} (ha : Good a) (hb : Good b) : ∃ o, Ieee.double.order a b = some o := by
  unfold Ieee.Format.order
  rcases read_good ha with ⟨m, e, h⟩ | h <;> rcases read_good hb with ⟨m', e', h'⟩ | h' <;> rw [h, h'] <;> exact ⟨_, rfl⟩
theorem write_good (d : Ieee.Datum) (h : (∃ m e, d = .number false m e) ∨ d = .infinity false) : Good (Ieee.double.write d) := by
  have h2 : Ieee.double.infRung = 9218868437227405312 := by decide
  unfold Good
  rcases h with ⟨m, e, rfl⟩ | rfl
  · show Ieee.double.nearest false m e ≤ _
    unfold Ieee.Format.nearest
    split
    · simp [Ieee.Format.word]
    · simp only [Ieee.Format.word, Bool.false_eq_true, if_false, h2]
      exact Nat.min_le_right _ _
  · show Ieee.double.word false Ieee.double.infRung ≤ _
    simp [Ieee.Format.word, h2]
theorem nearest_good (n : Nat) : Good (FloatKind.f64.nearest (n : Int)) := by
  unfold FloatKind.nearest FloatKind.encode
  exact write_good _ (.inl ⟨_, _, by
    have : decide ((n : Int) < 0) = false := decide_eq_false (by omega)
    rw [this]⟩)
/-- A finite number above 0. -/
def Pos (b : Nat) : Prop := ∃ m e, m ≠ 0 ∧ Ieee.double.read b = .number false m e
theorem mul_good {a b : Nat} (ha : Good a) (hb : Pos b) : ∃ r, Ieee.double.mul a b = some r ∧ Good r := by
  obtain ⟨m, e, hm, hb⟩ := hb
  unfold Ieee.Format.mul
  rcases read_good ha with ⟨m', e', h⟩ | h
  · rw [h, hb]
    exact ⟨_, rfl, write_good _ (.inl ⟨_, _, rfl⟩)⟩
  · rw [h, hb]
    simp only [Ieee.Datum.product, if_neg hm, Option.map_some]
    exact ⟨_, rfl, write_good _ (.inr rfl)⟩
theorem div_good {a b : Nat} (ha : Good a) (hb : Pos b) : ∃ r, Ieee.double.div a b = some r ∧ Good r := by
  obtain ⟨m, e, hm, hb⟩ := hb
  unfold Ieee.Format.div
  rcases read_good ha with ⟨m', e', h⟩ | h
  · rw [h, hb]
    simp only [Ieee.Datum.quotient, if_neg hm, Option.map_some]
    exact ⟨_, rfl, write_good _ (.inl ⟨_, _, rfl⟩)⟩
  · rw [h, hb]
    exact ⟨_, rfl, write_good _ (.inr rfl)⟩
end Go.Proofs.YtnoioimphcmeiaaGreatDoor
