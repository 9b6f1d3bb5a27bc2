/- More rules: bits of u32, function values against nil, two structs of two ints alike, a price function. No program is named here. -/
import Derived.Test.YtnoioimphcmeiaaGreatDoorFn
import Derived.Lib.TrailingZeros
namespace Go.Proofs.YtnoioimphcmeiaaGreatDoor
open Go.RowKit

theorem ofInt32 (a : Nat) (h : a < 4294967296) : (BitVec.ofInt IntKind.u32.bits (a : Int)).toNat = a := by
  show (BitVec.ofInt 32 (a : Int)).toNat = a
  rw [BitVec.ofInt_natCast, BitVec.toNat_ofNat]; exact Nat.mod_eq_of_lt (by omega)
theorem wU32' {n : Nat} (h : n < 4294967296) : IntKind.u32.wrap (n : Int) = (n : Int) := wU32 ⟨rfl, by omega, by omega⟩
theorem andU32 {a b : Nat} {c : Int} (ha : a < 4294967296) (hb : b < 4294967296) (hc : c = ((a &&& b : Nat) : Int)) : bitsOp .and .u32 (a : Int) (b : Int) = c := by
  subst hc
  simp only [bitsOp]
  rw [BitVec.toNat_and, ofInt32 a ha, ofInt32 b hb]
  exact wU32' (Nat.lt_of_le_of_lt Nat.and_le_left ha)
theorem orU32 {a b : Nat} {c : Int} (ha : a < 4294967296) (hb : b < 4294967296) (hc : c = ((a ||| b : Nat) : Int)) : bitsOp .or .u32 (a : Int) (b : Int) = c := by
  subst hc
  simp only [bitsOp]
  rw [BitVec.toNat_or, ofInt32 a ha, ofInt32 b hb]
  exact wU32' (Nat.or_lt_two_pow (n := 32) ha hb)
theorem xorU32 {a b : Nat} {c : Int} (ha : a < 4294967296) (hb : b < 4294967296) (hc : c = ((a ^^^ b : Nat) : Int)) : bitsOp .xor .u32 (a : Int) (b : Int) = c := by
  subst hc
  simp only [bitsOp]
  rw [BitVec.toNat_xor, ofInt32 a ha, ofInt32 b hb]
  exact wU32' (Nat.xor_lt_two_pow (n := 32) ha hb)
theorem shrU32 {a s : Nat} {b c : Int} (hb : b = (s : Int)) (hs : s ≤ 32) (hc : c = ((a >>> s : Nat) : Int)) : (a : Int).fdiv (2 ^ (min b.toNat IntKind.u32.bits)) = c := by
  subst hb hc
  have e : min (s : Int).toNat IntKind.u32.bits = s := by
    show min (s : Int).toNat 32 = s
    omega
  rw [e, Nat.shiftRight_eq_div_pow, Int.natCast_ediv, Int.natCast_pow]
  exact Int.fdiv_eq_ediv_of_nonneg _ (by exact_mod_cast Nat.zero_le _)
theorem shlU32 {s : Nat} {b c : Int} (hb : b = (s : Int)) (hs : s < 32) (hc : c = ((2 ^ s : Nat) : Int)) : IntKind.u32.wrap (1 * 2 ^ (min b.toNat IntKind.u32.bits)) = c := by
  subst hb hc
  have e : min (s : Int).toNat IntKind.u32.bits = s := by
    show min (s : Int).toNat 32 = s
    omega
  rw [e, Int.one_mul]
  have : 2 ^ s < 2 ^ 32 := Nat.pow_lt_pow_right (by omega) hs
  have h2 := wU32' (n := 2 ^ s) this
  rw [Int.natCast_pow] at h2 ⊢
  exact h2

theorem negU32 {x : Nat} {c : Int} (h0 : x ≠ 0) (h : x < 4294967296) (hc : c = ((4294967296 - x : Nat) : Int)) : IntKind.u32.wrap (-(x : Int)) = c := by
  subst hc
  simp only [IntKind.wrap, IntKind.bits, IntKind.signed]
  simp
  omega
theorem wrapU32 {x : Nat} {a c : Int} (ha : a = (x : Int)) (hc : c = ((x % 4294967296 : Nat) : Int)) : IntKind.u32.wrap a = c := by
  subst ha hc
  simp only [IntKind.wrap, IntKind.bits, IntKind.signed]
  simp

section
variable {P : Program} {n : Nat} {N : Nxt} {Q : Post} {f : Fr} {ds : List Deferred} {w : World}
variable {d : Nat} {x y : Operand} {t yt ty : TypeId} {pos : String} {af : Array Edge} {g : Option (Nat × Bool)}
theorem P_eqNilF {fn : Fn} {a1 a2 : Array Value} {p1 p2 p3} (hu : P.underlying t = some (.func p1 p2 p3)) (hx : ev f x = some (.func fn a1 a2)) (hy : ev f y = some .nilFunc) : PureV P n ⟨some d, .binOp .eql t x y yt, ty, pos, af, g⟩ f (.bool false) :=
  fun z hz w => by
    have hb : binOp .eql t (.func fn a1 a2) .nilFunc = (do pure (.bool (← Op.equal t (.func fn a1 a2) .nilFunc))) := rfl
    have hg : (eqGuard .eql t x y (.func fn a1 a2) .nilFunc).run P w = .ok () w := by simp [eqGuard]
    have key : ∀ d, (Op.equalIn (d + 1) t (.func fn a1 a2) .nilFunc).run P w = .ok false w := fun d => by simp [Op.equalIn, run_underlying hu]
    have hq : (Op.equal t (.func fn a1 a2) .nilFunc).run P w = .ok false w := key 9999
    simp only [execOp, hz.ev hx, hz.ev hy, Sem.run_bind, hg, Result.andThen_ok, hb, hq, Sem.run_pure]
theorem P_eqNN {p1 p2 p3} (hu : P.underlying t = some (.func p1 p2 p3)) (hx : ev f x = some .nilFunc) (hy : ev f y = some .nilFunc) : PureV P n ⟨some d, .binOp .eql t x y yt, ty, pos, af, g⟩ f (.bool true) :=
  fun z hz w => by
    have hb : binOp .eql t .nilFunc .nilFunc = (do pure (.bool (← Op.equal t .nilFunc .nilFunc))) := rfl
    have hg : (eqGuard .eql t x y .nilFunc .nilFunc).run P w = .ok () w := by simp [eqGuard]
    have key : ∀ d, (Op.equalIn (d + 1) t .nilFunc .nilFunc).run P w = .ok true w := fun d => by simp [Op.equalIn, run_underlying hu]
    have hq : (Op.equal t .nilFunc .nilFunc).run P w = .ok true w := key 9999
    simp only [execOp, hz.ev hx, hz.ev hy, Sem.run_bind, hg, Result.andThen_ok, hb, hq, Sem.run_pure]

theorem P_indexAddrA {e : TypeId} {m b o len : Nat} {k : IntKind} {iv : Int} {j q : Nat} (hu : P.underlying t = some (.array len e)) (hs : csz P e m) (hx : ev f x = some (.pointer (some ⟨b, o, none⟩))) (hy : ev f y = some (.int k iv)) (hj : iv = (j : Int)) (hlt : j < len) (hp : o + j * m = q)
    : PureV P n ⟨some d, .indexAddr t x y, ty, pos, af, g⟩ f (.pointer (some ⟨b, q, none⟩)) :=
  fun a ha w => by
    subst hj; subst hp
    have h1 : (0 : Int) ≤ (j : Int) ∧ (j : Int) < (len : Int) := by omega
    simp [execOp, ha.ev hx, ha.ev hy, Instr.indexAt, asIntOf, run_underlying hu, Instr.sureAddr, run_csz hs, hlt, Addr.add_lit]

/-- A struct of two whole numbers. -/
def PairT (P : Program) (t : TypeId) (k0 k1 : IntKind) : Prop := ∃ f0 f1, P.underlying t = some (.struct #[f0, f1]) ∧ P.underlying f0.type = some (.int k0) ∧ P.underlying f1.type = some (.int k1) ∧ f0.name ≠ "_" ∧ f1.name ≠ "_" ∧ f0.offset = 0 ∧ f1.offset = 1 ∧ scalarT P f0.type = true ∧ scalarT P f1.type = true ∧ P.stoodInHeld t = false ∧ P.eqGuardType P.depth t = false
theorem run_equalI {k : IntKind} (hu : P.underlying t = some (.int k)) (a b : Int) (d : Nat) : (Op.equalIn (d + 1) t (.int k a) (.int k b)).run P w = .ok (a == b) w := by
  simp [Op.equalIn, run_underlying hu]
theorem run_equalPair {f0 f1 : Field} {k0 k1 : IntKind} {a b c e : Int} (hu : P.underlying t = some (.struct #[f0, f1])) (h0 : P.underlying f0.type = some (.int k0)) (h1 : P.underlying f1.type = some (.int k1)) (n0 : f0.name ≠ "_") (n1 : f1.name ≠ "_") (o0 : f0.offset = 0) (o1 : f1.offset = 1) (s0 : scalarT P f0.type = true) (s1 : scalarT P f1.type = true) (hs : P.stoodInHeld t = false) (d : Nat) :
    (Op.equalIn (d + 1 + 1) t (.agg #[.int k0 a, .int k1 b]) (.agg #[.int k0 c, .int k1 e])).run P w = .ok (decide (a = c ∧ b = e)) w := by
  rw [Op.equalIn]
  simp only [Sem.run_bind, run_underlying hu, Result.andThen_ok]
  by_cases h1a : a = c
  · by_cases h2a : b = e
    · simp [hs, n0, n1, o0, o1, part, run_isAgg_scalar s0, run_isAgg_scalar s1, run_equalI h0, run_equalI h1, h1a, h2a]
    · simp [hs, n0, n1, o0, o1, part, run_isAgg_scalar s0, run_isAgg_scalar s1, run_equalI h0, run_equalI h1, h1a, h2a]
  · simp [hs, n0, n1, o0, o1, part, run_isAgg_scalar s0, run_isAgg_scalar s1, run_equalI h0, run_equalI h1, h1a]
theorem P_eqPair {k0 k1 : IntKind} {a b c e : Int} {β : Bool} (hp : PairT P t k0 k1) (hx : ev f x = some (.agg #[.int k0 a, .int k1 b])) (hy : ev f y = some (.agg #[.int k0 c, .int k1 e])) (hβ : decide (a = c ∧ b = e) = β) : PureV P n ⟨some d, .binOp .eql t x y yt, ty, pos, af, g⟩ f (.bool β) :=
  fun z hz w => by
    subst hβ
    obtain ⟨f0, f1, hu, h0, h1, n0, n1, o0, o1, s0, s1, hs, hgt⟩ := hp
    have hb : binOp .eql t (.agg #[.int k0 a, .int k1 b]) (.agg #[.int k0 c, .int k1 e]) = (do pure (.bool (← Op.equal t (.agg #[.int k0 a, .int k1 b]) (.agg #[.int k0 c, .int k1 e])))) := rfl
    have hg : (eqGuard .eql t x y (.agg #[.int k0 a, .int k1 b]) (.agg #[.int k0 c, .int k1 e])).run P w = .ok () w := by simp [eqGuard, hgt]
    have hq : (Op.equal t (.agg #[.int k0 a, .int k1 b]) (.agg #[.int k0 c, .int k1 e])).run P w = .ok (decide (a = c ∧ b = e)) w := run_equalPair hu h0 h1 n0 n1 o0 o1 s0 s1 hs 9998
    simp only [execOp, hz.ev hx, hz.ev hy, Sem.run_bind, hg, Result.andThen_ok, hb, hq, Sem.run_pure]

/-- A function value that gives a price for a set, whatever else is made. -/
def PrF (P : Program) (w0 : World) (fv : Value) (pr : Nat → Int) : Prop :=
  ∃ (k : FuncId) (first captured : List Value), fv = .func (.func k) first.toArray captured.toArray ∧ callable P k = true ∧
    ∀ (w : World) (x : Nat), x < 4294967296 → Mv No w0 w → Ret P k (first ++ [.int .u32 (x : Int)] ++ captured) w fun v w' => v = .int .i64 (pr x) ∧ Mv No w w'
theorem PrF.mv {w0 w1 : World} {fv : Value} {pr : Nat → Int} (h : PrF P w0 fv pr) (hm : Mv No w0 w1) : PrF P w1 fv pr := by
  obtain ⟨k, a, b, h1, h2, h3⟩ := h
  exact ⟨k, a, b, h1, h2, fun w x hx hw => h3 w x hx (hm.no hw)⟩
theorem S_callP {fv : Value} {pr : Nat → Int} {c : Operand} {l : List Operand} {ats : Array TypeId} {s : Nat} {w0 : World} (hp : PrF P w0 fv pr) (hf : ev f c = some fv) (hl : evs f l = some [.int .u32 (s : Int)]) (hs : s < 4294967296) (hm : Mv No w0 w) (h : ∀ w', Mv No w w' → N ((d, .int .i64 (pr s)) :: f) ds w') (hn : Nat.blt d n = true := by rfl) :
    opF P n ⟨some d, .call { callee := .value c, args := l.toArray, argTypes := ats }, ty, pos, af, g⟩ N Q f ds w := by
  obtain ⟨k, a, b, rfl, h2, h3⟩ := hp
  exact S_callv h2 hf hl (h3 w s hs hm) (fun v w' ⟨hv, hw⟩ => by subst hv; exact h w' hw) hn
end
end Go.Proofs.YtnoioimphcmeiaaGreatDoor
