/- A slice argument of structs of two whole numbers. No program is named here. -/
import Derived.Test.YtgicoidmjfhnbaaRowLib
namespace Go.Proofs.Ytgicoidmjfhnbaa
open Go.ChangeShapes Go.WideShapes Go.ChangeAt Go.RowKit

section
variable {H : Type} {enc : TypeId × Value → H} {P : Program} {W : World} {base : Nat} {spare : Nat → Bool} {held : Bool}
/-- What a slice of pairs reads. -/
def PairsR (w : World) (a : Option Addr) (l : List (Int × Int)) : Prop := ∀ i p, l[i]? = some p → ∃ b off, a = some ⟨b, off, none⟩ ∧ Row w b (off + i * 2) [.int .i64 p.1, .int .i64 p.2]
theorem PairsR.no {w w' : World} {a : Option Addr} {l : List (Int × Int)} (h : PairsR w a l) (hm : Mv No w w') : PairsR w' a l := fun i p hp => by
  obtain ⟨b, off, ha, hr⟩ := h i p hp
  exact ⟨b, off, ha, hr.no hm⟩

theorem open_pairs {t e : TypeId} {v : Value} {d : DataW H} {ps : List MemPlace} {r : Reach} {b0 : Nat} {f0 f1 : Field}
    (hu : P.underlying t = some (.slice e)) (he : P.underlying e = some (.struct #[f0, f1])) (hc : P.cellsOf e = 2) (h0 : P.underlying f0.type = some (.int .i64)) (h1 : P.underlying f1.type = some (.int .i64)) (c0 : P.cellsOf f0.type = 1) (c1 : P.cellsOf f1.type = 1) (o0 : f0.offset = 0) (o1 : f1.offset = 1)
    (hval : Value.okWide P W r b0 t v) (h : DataW.Trod enc P W base spare held t v d ps) :
    ∃ (a : Option Addr) (cap : Nat) (l : List (Int × Int)), v = .slice a l.length cap ∧ PairsR W a l ∧ l.length ≤ maxLen ∧ ∀ p ∈ l, (-9223372036854775808 ≤ p.1 ∧ p.1 < 9223372036854775808) ∧ (-9223372036854775808 ≤ p.2 ∧ p.2 < 9223372036854775808) := by
  obtain ⟨a, len, cap, rfl⟩ := okWide_slice hu hval
  obtain ⟨fuel, hf⟩ := h
  rcases DataW.trod_slice hu hf with ⟨hcs, _⟩ | ⟨x, l, c, elems, rest, n, _, hcs, _, hb, hl, hm, hlen, hel, hsp, hns⟩
  · simp [Value.cells] at hcs
    obtain ⟨rfl, rfl, rfl⟩ := hcs
    exact ⟨none, 0, [], rfl, fun i p hp => by simp at hp, by simp, by simp⟩
  simp [Value.cells] at hcs
  obtain ⟨rfl, rfl, rfl⟩ := hcs
  have hspot : 0 < len → x.spot = none := by
    intro h
    have h2 : ∃ y, elems[0]? = some y := ⟨elems[0]'(by omega), List.getElem?_eq_getElem (by omega)⟩
    obtain ⟨y, hy⟩ := h2
    have h3 := hel 0 h
    rw [hy, Option.bind_eq_some_iff, hc] at h3
    obtain ⟨cs, hcs, _⟩ := h3
    obtain ⟨_, hl2, hcell⟩ := World.cells?_some hcs
    have k0 := hcell 0 (by omega)
    rw [List.getElem?_eq_getElem (by omega)] at k0
    simpa [Addr.add] using World.cell?_spot k0
  have key : ∀ i, i < len → ∃ p : Int × Int, ((-9223372036854775808 ≤ p.1 ∧ p.1 < 9223372036854775808) ∧ (-9223372036854775808 ≤ p.2 ∧ p.2 < 9223372036854775808)) ∧ ∃ b off, x = ⟨b, off, none⟩ ∧ Row W b (off + i * 2) [.int .i64 p.1, .int .i64 p.2] := by
    intro i hi
    have h2 : ∃ y, elems[i]? = some y := ⟨elems[i]'(by omega), List.getElem?_eq_getElem (by omega)⟩
    obtain ⟨y, hy⟩ := h2
    have h3 := hel i hi
    rw [hy, Option.bind_eq_some_iff, hc] at h3
    obtain ⟨cs, hcs, hy'⟩ := h3
    obtain ⟨y0, y1, n', _, hcl, g0, g1⟩ := trod_struct2 he hy'
    rw [o0, c0] at g0
    rw [o1, c1] at g1
    obtain ⟨m0, e0, _, w0⟩ := DataW.trod_int h0 g0
    obtain ⟨m1, e1, _, w1⟩ := DataW.trod_int h1 g1
    rw [hc] at hcl
    obtain ⟨u0, u1, rfl⟩ : ∃ u0 u1, cs = [u0, u1] := by
      match cs, hcl with
      | [u0, u1], _ => exact ⟨u0, u1, rfl⟩
    simp at e0 e1
    subst e0 e1
    obtain ⟨_, _, hcell⟩ := World.cells?_some hcs
    obtain ⟨b, off, spot⟩ := x
    have k0 := hcell 0 (by omega)
    have k1 := hcell 1 (by omega)
    simp only [List.getElem?_cons_zero, List.getElem?_cons_succ] at k0 k1
    have hspot : spot = none := hspot (by omega)
    subst hspot
    rw [Addr.add_lit, Addr.add_lit] at k0 k1
    refine ⟨(m0, m1), ⟨lit_i64 w0, lit_i64 w1⟩, b, off, rfl, fun j v hv => ?_⟩
    match j with
    | 0 => simp only [List.getElem?_cons_zero, Option.some.injEq] at hv; subst hv; exact k0
    | 1 => simp only [List.getElem?_cons_succ, List.getElem?_cons_zero, Option.some.injEq] at hv; subst hv; exact k1
    | j + 2 => simp at hv
  have all : ∀ k, k ≤ len → ∃ l : List (Int × Int), l.length = k ∧ PairsR W (some x) l ∧ ∀ p ∈ l, (-9223372036854775808 ≤ p.1 ∧ p.1 < 9223372036854775808) ∧ (-9223372036854775808 ≤ p.2 ∧ p.2 < 9223372036854775808) := by
    intro k
    induction k with
    | zero => exact fun _ => ⟨[], rfl, fun i p hp => by simp at hp, by simp⟩
    | succ k ih =>
      intro hk
      obtain ⟨l, hl, hr, hp⟩ := ih (by omega)
      obtain ⟨p, hpp, b, off, hx, hrow⟩ := key k (by omega)
      refine ⟨l ++ [p], by simp [hl], fun i q hq => ?_, ?_⟩
      · by_cases hi : i < l.length
        · rw [List.getElem?_append_left hi] at hq
          exact hr i q hq
        · have hi2 : i = l.length := by
            have := (List.getElem?_eq_some_iff.1 hq).1
            simp at this; omega
          subst hi2
          simp at hq
          subst hq
          exact ⟨b, off, by rw [hx], by rw [hl]; exact hrow⟩
      · intro q hq
        rcases List.mem_append.1 hq with hq | hq
        · exact hp q hq
        · simp at hq
          subst hq
          exact hpp
  obtain ⟨l, hl', hr, hp⟩ := all len (Nat.le_refl _)
  exact ⟨some x, cap, l, by rw [hl'], hr, by omega, hp⟩
end
end Go.Proofs.Ytgicoidmjfhnbaa
