/- How arguments of a law are opened. No program is named here. -/
import Derived.Test.YtnoioimphcmeiaaGreatDoorFn
import Derived.ProofKit
import Derived.OpenShut
import Derived.ShutString
import Derived.ChangeOld
import Derived.Below
import Derived.SizedLaws
import Derived.ChangeSlices
import Derived.Carry
namespace Go.Proofs.YtnoioimphcmeiaaGreatDoor
open Go.ChangeShapes Go.WideShapes Go.ChangeAt Go.RowKit

section
variable {H : Type} {enc : TypeId × Value → H} {P : Program} {W : World} {base : Nat} {spare : Nat → Bool} {held : Bool}

theorem lit_u8 {n : Int} (h : (Lit.int .u8 n).wf = true) : 0 ≤ n ∧ n < 256 := by
  have h1 : IntKind.u8.min = 0 := by decide
  have h2 : IntKind.u8.max = 255 := by decide
  simp [Lit.wf, h1, h2] at h
  omega
theorem lit_u64 {n : Int} (h : (Lit.int .u64 n).wf = true) : ∃ m : Nat, n = (m : Int) ∧ m < 18446744073709551616 := by
  have h1 : IntKind.u64.min = 0 := by decide
  have h2 : IntKind.u64.max = 18446744073709551615 := by decide
  simp [Lit.wf, h1, h2] at h
  exact ⟨n.toNat, by omega, by omega⟩
theorem lit_i64 {n : Int} (h : (Lit.int .i64 n).wf = true) : -9223372036854775808 ≤ n ∧ n < 9223372036854775808 := by
  have h1 : IntKind.i64.min = -9223372036854775808 := by decide
  have h2 : IntKind.i64.max = 9223372036854775807 := by decide
  simp [Lit.wf, h1, h2] at h
  omega

theorem bytes_of_ints : ∀ (zs : List Int), (∀ n ∈ zs, (Lit.int .u8 n).wf = true) → ∃ bs : List UInt8, zs.map (Value.int .u8) = bs.map bv ∧ bs.length = zs.length
  | [], _ => ⟨[], rfl, rfl⟩
  | n :: zs, h => by
    obtain ⟨bs, h1, h2⟩ := bytes_of_ints zs (fun m hm => h m (by simp [hm]))
    obtain ⟨h3, h4⟩ := lit_u8 (h n (by simp))
    refine ⟨UInt8.ofNat n.toNat :: bs, ?_, by simp [h2]⟩
    have := bv_ofNat (x := n.toNat) (by omega)
    rw [Int.toNat_of_nonneg h3] at this
    simp only [List.map_cons, h1, this]

/-- A []byte argument. -/
theorem open_bytes {t e : TypeId} {v : Value} {d : DataW H} {ps : List MemPlace} {ts : List TypeId} {ds : List (DataW H)} {j : Nat} {r : Reach} {b0 : Nat}
    (hsz : (DataW.weightsEach P ts ds).all (· ≤ reachBytes) = true) (ht : ts[j]? = some t) (hd : ds[j]? = some d) (hu : P.underlying t = some (.slice e)) (he : P.underlying e = some (.int .u8)) (hc : P.cellsOf e = 1) (hB : P.bytesOf e = 1)
    (hval : Value.okWide P W r b0 t v) (h : DataW.Trod enc P W base spare held t v d ps) : ∃ (a : Option Addr) (cap : Nat) (bs : List UInt8), v = .slice a bs.length cap ∧ SlR W a (bs.map bv) ∧ bs.length ≤ 140737488351232 := by
  obtain ⟨a, len, cap, rfl⟩ := okWide_slice hu hval
  obtain ⟨fuel, hf⟩ := h
  rcases open_ints hu he hc hf with ⟨hcs, _⟩ | ⟨x, l, c, zs, hcs, _, hl, hm, hz, hx, hcell, hwz⟩
  · simp [Value.cells] at hcs
    obtain ⟨rfl, rfl, rfl⟩ := hcs
    exact ⟨none, 0, [], rfl, .inl rfl, by simp⟩
  · simp [Value.cells] at hcs
    obtain ⟨rfl, rfl, rfl⟩ := hcs
    obtain ⟨hx, _⟩ := Prod.mk.inj hx
    subst hx
    have z := sized_slice hsz ht hd hu
    rw [hB] at z
    have hl2 : len ≤ zs.length := by
      rw [hz]
      split
      · exact hl
      · exact Nat.le_refl _
    have h1 : (lits (H := H) .u8 (zs.take len)).length + (lits (H := H) .u8 (zs.drop len)).length = zs.length := by
      simp [lits]; omega
    rw [h1] at z
    have hr : reachBytes = 140737488351232 := by decide
    obtain ⟨bs, hb1, hb2⟩ := bytes_of_ints (zs.take len) (fun n hn => hwz n (List.mem_of_mem_take hn))
    have hbl : bs.length = len := by rw [hb2]; simp; omega
    refine ⟨some x, cap, bs, by rw [hbl], ?_, by rw [hbl]; omega⟩
    by_cases h0 : len = 0
    · left
      have : bs = [] := List.eq_nil_of_length_eq_zero (by omega)
      simp [this]
    · obtain ⟨b, off, spot⟩ := x
      have g0 := hcell 0 (by omega)
      have hspot : spot = none := by simpa [Addr.add] using World.cell?_spot g0
      subst hspot
      refine .inr ⟨b, off, rfl, fun i v hv => ?_⟩
      rw [← hb1] at hv
      have hil : i < len := by
        have := (List.getElem?_eq_some_iff.1 hv).1
        simp at this; omega
      have := hcell i (by omega)
      rw [Addr.add_lit] at this
      rw [this]
      have hg : (zs.take len)[i]? = some (zs.getD i 0) := by
        simp [hil, List.getD, show i < zs.length by omega]
      rw [List.getElem?_map, hg] at hv
      exact hv

/-- A text argument. -/
theorem open_str {t : TypeId} {v : Value} {d : DataW H} {ps : List MemPlace} {ts : List TypeId} {ds : List (DataW H)} {j : Nat} {r : Reach} {b0 : Nat}
    (hsz : (DataW.weightsEach P ts ds).all (· ≤ reachBytes) = true) (ht : ts[j]? = some t) (hd : ds[j]? = some d) (hu : P.underlying t = some .string)
    (hval : Value.okWide P W r b0 t v) (h : DataW.Trod enc P W base spare held t v d ps) : ∃ (l : List UInt8), v = .string (str l) ∧ l.length ≤ 140737488351232 ∧ d = .lit (.string (str l).data.toList) ∧ ps = [] ∧ (str l).size ≤ maxLen := by
  obtain ⟨s, rfl, rfl, rfl, hs⟩ := Go.ChangeMaps.open_string hu hval h
  have z := sized_string hsz ht hd
  have hr : reachBytes = 140737488351232 := by decide
  exact ⟨s.data.toList, by rw [str_eta], by omega, by rw [str_eta], rfl, by rw [str_eta]; exact hs⟩
end
end Go.Proofs.YtnoioimphcmeiaaGreatDoor
