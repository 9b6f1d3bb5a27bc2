/- Slices of whole numbers and laid tables, opened. No program is named here. -/
import Derived.Test.YthihhibadpbncaaDoorRowLib
import Derived.Lib.LaidTab
import Derived.MakeChecks
import Derived.LaidLaws
namespace Go.Proofs.YthihhibadpbncaaDoor
open Go.ChangeShapes Go.WideShapes Go.ChangeAt Go.RowKit

section
variable {H : Type} {enc : TypeId × Value → H} {P : Program} {W : World} {base : Nat} {spare : Nat → Bool} {held : Bool}
theorem slice_of {t e : TypeId} {k : IntKind} {fuel : Nat} {cs : List Value} {x : DataW H × List MemPlace} (hu : P.underlying t = some (.slice e)) (he : P.underlying e = some (.int k)) (hc : P.cellsOf e = 1)
    (h : DataW.trod enc P W base spare held fuel t cs = some x) : ∃ (A : Option Addr) (cap : Nat) (l : List Int), cs = [.slice A l.length cap] ∧ SlR W A (l.map (Value.int k)) ∧ (∀ n ∈ l, (Lit.int k n).wf = true) ∧ l.length ≤ maxLen := by
  rcases open_ints hu he hc h with ⟨rfl, _⟩ | ⟨a, len, cap, zs, rfl, _, hl, hm, hz, _, hcell, hwz⟩
  · exact ⟨none, 0, [], rfl, .inl rfl, by simp, by simp⟩
  · have hl2 : len ≤ zs.length := by
      rw [hz]
      split
      · exact hl
      · exact Nat.le_refl _
    have hll : (zs.take len).length = len := by simp; omega
    refine ⟨some a, cap, zs.take len, by rw [hll], ?_, fun n hn => hwz n (List.mem_of_mem_take hn), by rw [hll]; omega⟩
    by_cases h0 : len = 0
    · left; simp [h0]
    · obtain ⟨b, off, spot⟩ := a
      have g0 := hcell 0 (by omega)
      have hspot : spot = none := by simpa [Addr.add] using World.cell?_spot g0
      subst hspot
      refine .inr ⟨b, off, rfl, fun i v hv => ?_⟩
      have hil : i < len := by
        have := (List.getElem?_eq_some_iff.1 hv).1
        simp at this; omega
      have := hcell i (by omega)
      rw [Addr.add_lit] at this
      rw [this]
      have hg : (zs.take len)[i]? = some (zs.getD i 0) := by
        simp [hil, List.getD, show i < zs.length by omega]
      rw [List.getElem?_map, hg] at hv
      exact hv
end
end Go.Proofs.YthihhibadpbncaaDoor
