import Derived.Test.YtnoioimphcmeiaaGreatDoorOpsF
import Derived.Test.YtnoioimphcmeiaaGreatDoorLNum
import Derived.Test.YtnoioimphcmeiaaGreatDoorRows
import GoSem.PinnedTables
namespace Go.Proofs.YtnoioimphcmeiaaGreatDoor
open Go.RowKit
set_option maxRecDepth 20000
set_option maxHeartbeats 1000000

def pow10L : List Nat := [4607182418800017408, 4621819117588971520, 4636737291354636288, 4652007308841189376, 4666723172467343360, 4681608360884174848, 4696837146684686336, 4711630319722168320, 4726483295884279808, 4741671816366391296, 4756540486875873280, 4771362005757984768, 4786511204640096256, 4801453603149578240, 4816244402031689728, 4831355200913801216, 4846369599423283200, 4861130398305394688, 4876203697187506176, 4891288408196988160, 4906019910204099648, 4921056587992461136, 4936209963552724370]
def powtabL : List Nat := [1, 3, 6, 9, 13, 16, 19, 23, 26]
def ptV : List Value := Go.Pinned.pow10Rows.flatMap fun x => [.int .u64 (x.1 : Int), .int .u64 (x.2 : Int)]
def chV : List Value := Go.Pinned.cheatRows.flatMap fun x => [.int .i64 (x.1 : Int), .string (str x.2)]
/-- What the variables of the library hold. -/
structure Vr (w : World) : Prop where
  mx : Mx w
  opt : w.cell? ⟨4, 0, none⟩ = some (.bool true)
  info : Row w 5 0 [.int .u64 52, .int .u64 11, .int .i64 (-1023)]
  p10 : ∃ b o c, w.cell? ⟨8, 0, none⟩ = some (.slice (some ⟨b, o, none⟩) 23 c) ∧ Row w b o (pow10L.map (.float .f64))
  pt : Row w 9 0 ptV
  ptb : ∃ b o c, w.cell? ⟨7, 0, none⟩ = some (.slice (some ⟨b, o, none⟩) 9 c) ∧ Row w b o (powtabL.map fun (x : Nat) => .int .i64 (x : Int))
  ch : ∃ b o c, w.cell? ⟨10, 0, none⟩ = some (.slice (some ⟨b, o, none⟩) 61 c) ∧ Row w b o chV
  er : ∃ t u, w.cell? ⟨2, 0, none⟩ = some (.iface t u)
theorem cell_no {w w' : World} {a : Addr} {v : Value} (h : w.cell? a = some v) (hm : Mv No w w') : w'.cell? a = some v := by
  rw [World.cell?_of_block (w := w) (hm.block _ (cell_lt h) (fun hf => hf.elim))]; exact h
theorem Vr.no {w w' : World} (h : Vr w) (hm : Mv No w w') : Vr w' where
  mx := h.mx.no hm
  opt := cell_no h.opt hm
  info := h.info.no hm
  p10 := by obtain ⟨b, o, c, h1, h2⟩ := h.p10; exact ⟨b, o, c, cell_no h1 hm, h2.no hm⟩
  pt := h.pt.no hm
  ptb := by obtain ⟨b, o, c, h1, h2⟩ := h.ptb; exact ⟨b, o, c, cell_no h1 hm, h2.no hm⟩
  ch := by obtain ⟨b, o, c, h1, h2⟩ := h.ch; exact ⟨b, o, c, cell_no h1 hm, h2.no hm⟩
  er := by obtain ⟨t, u, h1⟩ := h.er; exact ⟨t, u, cell_no h1 hm⟩
theorem pt_len : Go.Pinned.pow10Rows.length = 696 := by decide +kernel
theorem pt_facts : ∀ x ∈ Go.Pinned.pow10Rows, 9223372036854775808 ≤ x.1 ∧ x.1 ≤ 18446742974197923840 ∧ x.2 < 18446744073709551616 := by decide +kernel
theorem flat2 {α : Type} (f : α → List Value) (hf : ∀ x, (f x).length = 2) : ∀ (l : List α) (i : Nat) (x : α), l[i]? = some x → (l.flatMap f)[2 * i]? = (f x)[0]? ∧ (l.flatMap f)[2 * i + 1]? = (f x)[1]?
  | [], i, x, h => by simp at h
  | y :: r, 0, x, h => by
    have : y = x := by simpa using h
    subst this
    have := hf y
    rw [List.flatMap_cons]
    exact ⟨List.getElem?_append_left (by omega), List.getElem?_append_left (by omega)⟩
  | y :: r, i + 1, x, h => by
    have h2 := hf y
    have ih := flat2 f hf r i x (by simpa using h)
    rw [List.flatMap_cons]
    constructor
    · rw [List.getElem?_append_right (by omega), h2, show 2 * (i + 1) - 2 = 2 * i by omega]; exact ih.1
    · rw [List.getElem?_append_right (by omega), h2, show 2 * (i + 1) + 1 - 2 = 2 * i + 1 by omega]; exact ih.2
theorem pos_of {m : Nat} {e : Int} {b : Nat} (h : Ieee.double.read b = .number false m e) (hm : m ≠ 0) : Pos b := ⟨m, e, hm, h⟩
def posB (b : Nat) : Bool := match Ieee.double.read b with
  | .number false m _ => m != 0
  | _ => false
theorem pos_of_B {b : Nat} (h : posB b = true) : Pos b := by
  unfold posB at h
  split at h
  · rename_i m e hr
    exact ⟨m, e, by simpa using h, hr⟩
  · cases h
theorem pow10_pos : ∀ b ∈ pow10L, posB b = true := by decide +kernel
end Go.Proofs.YtnoioimphcmeiaaGreatDoor
