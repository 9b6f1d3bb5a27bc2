import Derived.Test.YthihhibadpbncaaDoorGPrice
import Derived.Test.YthihhibadpbncaaDoorRowInts
import Derived.Test.YthihhibadpbncaaDoorRows
namespace Go.Proofs.YthihhibadpbncaaDoor
open Go.ChangeShapes Go.WideShapes Go.ChangeAt Go.RowKit

theorem lit_i16 {n : Int} (h : (Lit.int .i16 n).wf = true) : -32768 ≤ n ∧ n < 32768 := by
  have h1 : IntKind.i16.min = -32768 := by decide
  have h2 : IntKind.i16.max = 32767 := by decide
  simp [Lit.wf, h1, h2] at h
  omega

/-- What a case is. -/
structure IsCase (W : World) (v : Value) (A : Option Addr) (cap : Nat) (bud m k bs : Int) (A5 : Option Addr) (c5 : Nat) (A6 : Option Addr) (c6 : Nat) (sz off two : List Int) : Prop where
  eq : v = caseV A sz.length cap bud m k bs A5 off.length c5 A6 two.length c6
  s : SlR W A (sz.map iv)
  o : SlR W A5 (off.map iv16)
  t : SlR W A6 (two.map iv16)
  rs : Inr sz
  ro : Inr16 off
  rt : Inr16 two
  rb : -9223372036854775808 ≤ bud ∧ bud < 9223372036854775808
  rm : -9223372036854775808 ≤ m ∧ m < 9223372036854775808
  rk : -9223372036854775808 ≤ k ∧ k < 9223372036854775808
  ls : sz.length ≤ maxLen
  lo : off.length ≤ maxLen
  lt : two.length ≤ maxLen

section
variable {H : Type} {enc : TypeId × Value → H} {W : World} {base : Nat} {spare : Nat → Bool} {held : Bool}
theorem open_case {v : Value} {d : DataW H} {ps : List MemPlace} {r : Reach} {b0 : Nat} (hval : Value.okWide Tryd.prog W r b0 25 v) (h : DataW.Trod enc Tryd.prog W base spare held 25 v d ps) :
    ∃ A cap bud m k bs A5 c5 A6 c6 sz off two, IsCase W v A cap bud m k bs A5 c5 A6 c6 sz off two := by
  obtain ⟨cs, rfl, hsz⟩ := okWide_struct Tryd.underlying25 hval
  obtain ⟨fuel, hf⟩ := h
  have h7 : Tryd.prog.cellsOf 25 = 7 := by kernel_rfl
  obtain ⟨xs, n, _, _, hl, hlen, hf⟩ := DataW.trod_struct Tryd.underlying25 hf
  simp only [Value.cells] at hl hf
  rw [h7] at hl
  obtain ⟨l⟩ := cs
  simp only at hl hf
  obtain ⟨v0, v1, v2, v3, v4, v5, v6, rfl⟩ : ∃ v0 v1 v2 v3 v4 v5 v6, l = [v0, v1, v2, v3, v4, v5, v6] := by
    match l, hl with
    | [a, b, c, d, e, f, g], _ => exact ⟨a, b, c, d, e, f, g, rfl⟩
  have hx : ∀ i, i < 7 → ∃ y, xs[i]? = some y := fun i hi => ⟨xs[i]'(by rw [hlen]; exact hi), List.getElem?_eq_getElem _⟩
  have c1 : Tryd.prog.cellsOf 22 = 1 := by kernel_rfl
  have c2 : Tryd.prog.cellsOf 2 = 1 := by kernel_rfl
  have c3 : Tryd.prog.cellsOf 3 = 1 := by kernel_rfl
  have c4 : Tryd.prog.cellsOf 23 = 1 := by kernel_rfl
  obtain ⟨y0, e0⟩ := hx 0 (by omega)
  obtain ⟨y1, e1⟩ := hx 1 (by omega)
  obtain ⟨y2, e2⟩ := hx 2 (by omega)
  obtain ⟨y3, e3⟩ := hx 3 (by omega)
  obtain ⟨y4, e4⟩ := hx 4 (by omega)
  obtain ⟨y5, e5⟩ := hx 5 (by omega)
  obtain ⟨y6, e6⟩ := hx 6 (by omega)
  have g0 : DataW.trod enc Tryd.prog W base spare held n 22 (([v0, v1, v2, v3, v4, v5, v6].drop 0).take (Tryd.prog.cellsOf 22)) = xs[0]? := hf 0 _ rfl
  have g1 : DataW.trod enc Tryd.prog W base spare held n 2 (([v0, v1, v2, v3, v4, v5, v6].drop 1).take (Tryd.prog.cellsOf 2)) = xs[1]? := hf 1 _ rfl
  have g2 : DataW.trod enc Tryd.prog W base spare held n 3 (([v0, v1, v2, v3, v4, v5, v6].drop 2).take (Tryd.prog.cellsOf 3)) = xs[2]? := hf 2 _ rfl
  have g3 : DataW.trod enc Tryd.prog W base spare held n 3 (([v0, v1, v2, v3, v4, v5, v6].drop 3).take (Tryd.prog.cellsOf 3)) = xs[3]? := hf 3 _ rfl
  have g4 : DataW.trod enc Tryd.prog W base spare held n 2 (([v0, v1, v2, v3, v4, v5, v6].drop 4).take (Tryd.prog.cellsOf 2)) = xs[4]? := hf 4 _ rfl
  have g5 : DataW.trod enc Tryd.prog W base spare held n 23 (([v0, v1, v2, v3, v4, v5, v6].drop 5).take (Tryd.prog.cellsOf 23)) = xs[5]? := hf 5 _ rfl
  have g6 : DataW.trod enc Tryd.prog W base spare held n 23 (([v0, v1, v2, v3, v4, v5, v6].drop 6).take (Tryd.prog.cellsOf 23)) = xs[6]? := hf 6 _ rfl
  rw [e0] at g0
  rw [e1] at g1
  rw [e2] at g2
  rw [e3] at g3
  rw [e4] at g4
  rw [e5] at g5
  rw [e6] at g6
  rw [c1] at g0
  rw [c2] at g1 g4
  rw [c3] at g2 g3
  rw [c4] at g5 g6
  obtain ⟨A, cap, sz, h0, hs, ws, ls⟩ := slice_of Tryd.underlying22 Tryd.underlying2 c2 g0
  obtain ⟨A5, c5, off, h5, ho, wo, lo⟩ := slice_of Tryd.underlying23 Tryd.underlying41 (by kernel_rfl) g5
  obtain ⟨A6, c6, two, h6, ht, wt, lt⟩ := slice_of Tryd.underlying23 Tryd.underlying41 (by kernel_rfl) g6
  obtain ⟨bud, h1, _, w1⟩ := DataW.trod_int Tryd.underlying2 g1
  obtain ⟨m, h2, _, w2⟩ := DataW.trod_int Tryd.underlying3 g2
  obtain ⟨k, h3, _, w3⟩ := DataW.trod_int Tryd.underlying3 g3
  obtain ⟨bs, h4, _, w4⟩ := DataW.trod_int Tryd.underlying2 g4
  simp at h0 h1 h2 h3 h4 h5 h6
  subst h0 h1 h2 h3 h4 h5 h6
  exact ⟨A, cap, bud, m, k, bs, A5, c5, A6, c6, sz, off, two, rfl, hs, ho, ht, fun n hn => lit_i64 (ws n hn), fun n hn => lit_i16 (wo n hn), fun n hn => lit_i16 (wt n hn), lit_i64 w1, lit_i64 w2, lit_i64 w3, ls, lo, lt⟩
end

/-- The table, out of what the row lists. -/
theorem tab_of_laid {W : World} (h : laidMet Tryd.prog [("math/bits.deBruijn32tab", Rows.laid_math_bits_deBruijn32tab)] W) : Tab W := by
  have h' : laidMet Tryd.prog [("math/bits.deBruijn32tab", Lib.tabData .u8 (Lib.deBruijn32tab.map fun n : Nat => (n : Int)))] W := h
  have hg : Tryd.prog.globalNamed "math/bits.deBruijn32tab" = some 0 := by kernel_rfl
  have ht := Lib.tabIs_of_head (t := 54) (e := 5) (n := 32) hg (by kernel_rfl) (by kernel_rfl) (by kernel_rfl) (by kernel_rfl) (by kernel_rfl) h'
  intro j hj
  have hc := ht.cell hg j (by rw [List.length_map]; exact hj)
  rw [hc]
  have : ∀ j, j < 32 → (Lib.deBruijn32tab.map fun n : Nat => (n : Int)).getD j 0 = ((Lib.deBruijn32tab.getD j 0 : Nat) : Int) := by decide
  rw [this j hj]

/-- A settled world in which the table is laid. -/
noncomputable def laidWorld (os : Os) : World :=
  let w0 := World.holding Tryd.prog os ⟨#[], #[], []⟩
  { w0 with heap := w0.heap.modify 0 fun
      | .cells _ t frozen => .cells (Lib.deBruijn32tab.map fun n : Nat => Value.int .u8 (n : Int)).toArray t frozen
      | o => o }
theorem laid_met (os : Os) (args : Array Value) : laidMet Tryd.prog [("math/bits.deBruijn32tab", Rows.laid_math_bits_deBruijn32tab)] ((laidWorld os).forCall (fun _ _ => 0) ⟨#[], args, []⟩).memory :=
  laidMet_of_run (ps := (List.range 32).map fun i => .cell 0 i) 8 (by kernel_rfl) (by kernel_rfl) (by kernel_rfl)
end Go.Proofs.YthihhibadpbncaaDoor
