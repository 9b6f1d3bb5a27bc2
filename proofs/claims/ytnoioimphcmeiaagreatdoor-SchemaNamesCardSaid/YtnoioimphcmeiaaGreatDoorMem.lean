/- Memory in the walk's words: what a step leaves, blocks known whole, rows that are read. No program is named here. -/
import Derived.Test.YtnoioimphcmeiaaGreatDoorEng
import Derived.Maps.AppendAt
import Derived.Deep.Draws
namespace Go.Proofs.YtnoioimphcmeiaaGreatDoor
open Go.RowKit

/-- What a step leaves as it was: all old blocks but those in S. -/
structure Mv (S : Nat → Prop) (w w' : World) : Prop where
  os : w'.os = w.os
  tape : w'.tape = w.tape
  output : w'.output = w.output
  size : w.heap.size ≤ w'.heap.size
  block : ∀ k, k < w.heap.size → ¬ S k → w'.heap[k]? = w.heap[k]?

/-- No block. -/
def No : Nat → Prop := fun _ => False
/-- One block. -/
def At (b : Nat) : Nat → Prop := fun k => k = b
/-- The block that a slice owns. -/
def OwnOf (v : Value) : Nat → Prop := fun k => v.ownBlock = some k
def Or2 (S T : Nat → Prop) : Nat → Prop := fun k => S k ∨ T k

theorem Mv.refl {S : Nat → Prop} (w : World) : Mv S w w := ⟨rfl, rfl, rfl, Nat.le_refl _, fun _ _ _ => rfl⟩
theorem Mv.trans {S S' : Nat → Prop} {a b c : World} (h : Mv S a b) (k : Mv S' b c) (hs : ∀ x, x < a.heap.size → S' x → S x) : Mv S a c :=
  ⟨k.os.trans h.os, k.tape.trans h.tape, k.output.trans h.output, Nat.le_trans h.size k.size, fun i hi hn => (k.block i (Nat.lt_of_lt_of_le hi h.size) (fun hs' => hn (hs i hi hs'))).trans (h.block i hi hn)⟩
theorem Mv.mono {S S' : Nat → Prop} {a b : World} (h : Mv S a b) (hs : ∀ x, x < a.heap.size → S x → S' x) : Mv S' a b :=
  ⟨h.os, h.tape, h.output, h.size, fun i hi hn => h.block i hi (fun hx => hn (hs i hi hx))⟩
theorem Mv.no {S : Nat → Prop} {a b c : World} (h : Mv S a b) (k : Mv No b c) : Mv S a c := h.trans k fun _ _ hf => hf.elim
theorem Mv.ofNo {S : Nat → Prop} {a b : World} (h : Mv No a b) : Mv S a b := h.mono fun _ _ hf => hf.elim
theorem Mv.new {S : Nat → Prop} {a b c : World} {g : Nat} (h : Mv S a b) (k : Mv (At g) b c) (hg : a.heap.size ≤ g) : Mv S a c :=
  h.trans k fun x hx he => by have : x = g := he; omega
theorem Mv.drew {S : Nat → Prop} {a b : World} (h : Mv S a b) : Mv S a b.drew := ⟨h.os, h.tape, h.output, h.size, h.block⟩
theorem Mv.drewN {S : Nat → Prop} {a b : World} (h : Mv S a b) (n : Nat) : Mv S a (b.drewN n) := ⟨h.os, h.tape, h.output, h.size, h.block⟩
theorem Mv.below {a b : World} (h : Mv No a b) : Below a.heap.size a b := ⟨h.os, h.tape, h.output, h.size, fun k hk => h.block k hk (fun hf => hf.elim)⟩
theorem Mv.ofBelow {a b : World} (h : Below a.heap.size a b) : Mv No a b := ⟨h.os, h.tape, h.output, h.size, fun k hk _ => h.block k hk⟩
theorem Mv.ofGrown {a b : World} {v : Value} (h : a.grownBy b v.ownBlock) : Mv (OwnOf v) a b :=
  ⟨h.os, h.tape, h.output, h.size, fun k hk hn => h.block k hk (fun e => hn e.symm)⟩
theorem Mv.alloc (w : World) (o : Obj) : Mv No w (w.alloc o) :=
  ⟨rfl, rfl, rfl, by simp, fun k hk _ => Below.heap_alloc w o k hk⟩
theorem Mv.setCell (w : World) (a : Addr) (v : Value) : Mv (At a.block) w (w.setCell a v) :=
  ⟨rfl, rfl, rfl, by simp [World.setCell], fun k _ hn => Below.heap_setCell w a v k (fun e => hn e)⟩

/-- A block known whole, that may be written. -/
def Blk (w : World) (b : Nat) (cs : List Value) (t : TypeId) : Prop := w.heap[b]? = some (.cells cs.toArray t (0, 0))

theorem Blk.lt {w : World} {b : Nat} {cs : List Value} {t : TypeId} (h : Blk w b cs t) : b < w.heap.size := by
  rcases Nat.lt_or_ge b w.heap.size with hl | hl
  · exact hl
  · rw [Blk, Array.getElem?_eq_none hl] at h; cases h
theorem Blk.mv {w w' : World} {b : Nat} {cs : List Value} {t : TypeId} {S : Nat → Prop} (h : Blk w b cs t) (hm : Mv S w w') (hn : ¬ S b) : Blk w' b cs t := (hm.block b h.lt hn).trans h
theorem Blk.no {w w' : World} {b : Nat} {cs : List Value} {t : TypeId} (h : Blk w b cs t) (hm : Mv No w w') : Blk w' b cs t := h.mv hm fun hf => hf.elim
theorem Blk.ne {w w' : World} {b g : Nat} {cs : List Value} {t : TypeId} (h : Blk w b cs t) (hm : Mv (At g) w w') (hn : b ≠ g) : Blk w' b cs t := h.mv hm hn
theorem Blk.cell {w : World} {b : Nat} {cs : List Value} {t : TypeId} (h : Blk w b cs t) {i : Nat} {v : Value} (hv : cs[i]? = some v) : w.cell? ⟨b, i, none⟩ = some v := by
  unfold Blk at h
  simp [World.cell?, h, hv]
theorem Blk.new (w : World) (cs : List Value) (t : TypeId) : Blk (w.alloc (.cells cs.toArray t)) w.heap.size cs t := by
  show (w.heap.push _)[w.heap.size]? = _
  simp
theorem Blk.set {w : World} {b : Nat} {cs : List Value} {t : TypeId} (h : Blk w b cs t) (i : Nat) (v : Value) : Blk (w.setCell ⟨b, i, none⟩ v) b (cs.set i v) t := by
  unfold Blk at *
  simp only [World.setCell, Array.getElem?_modify, h]
  simp
theorem Blk.frozen {w : World} {b : Nat} {cs : List Value} {t : TypeId} (h : Blk w b cs t) (i : Nat) : w.frozen? ⟨b, i, none⟩ = false := by
  unfold Blk at h
  simp [World.frozen?, h]

/-- From a place on the cells read so. -/
def Row (w : World) (b off : Nat) (cs : List Value) : Prop := ∀ i v, cs[i]? = some v → w.cell? ⟨b, off + i, none⟩ = some v

theorem cell_lt {w : World} {a : Addr} {v : Value} (h : w.cell? a = some v) : a.block < w.heap.size := by
  rcases Nat.lt_or_ge a.block w.heap.size with hl | hl
  · exact hl
  · rw [World.cell?, Array.getElem?_eq_none hl] at h; cases h
theorem Row.nil {w : World} {b off : Nat} : Row w b off [] := fun _ _ h => by simp at h
theorem Row.mv {w w' : World} {b off : Nat} {cs : List Value} {S : Nat → Prop} (h : Row w b off cs) (hm : Mv S w w') (hn : ¬ S b) : Row w' b off cs := fun i v hv => by
  have hc := h i v hv
  rw [World.cell?_of_block (w := w) (hm.block b (cell_lt hc) hn)]
  exact hc
theorem Row.no {w w' : World} {b off : Nat} {cs : List Value} (h : Row w b off cs) (hm : Mv No w w') : Row w' b off cs := h.mv hm fun hf => hf.elim
theorem Blk.row {w : World} {b : Nat} {cs : List Value} {t : TypeId} (h : Blk w b cs t) : Row w b 0 cs := fun i v hv => by rw [Nat.zero_add]; exact h.cell hv
theorem Row.drop {w : World} {b off : Nat} {cs : List Value} (h : Row w b off cs) (k : Nat) : Row w b (off + k) (cs.drop k) := fun i v hv => by
  rw [Nat.add_assoc]; exact h (k + i) v (by simpa using hv)
theorem Row.take {w : World} {b off : Nat} {cs : List Value} (h : Row w b off cs) (k : Nat) : Row w b off (cs.take k) := fun i v hv =>
  h i v (by simp only [List.getElem?_take] at hv; split at hv <;> first | exact hv | cases hv)
theorem Row.at {w : World} {b off : Nat} {cs : List Value} (h : Row w b off cs) (i : Nat) {v : Value} (hv : cs[i]? = some v) : Row w b (off + i) [v] := fun j u hu => by
  cases j with
  | zero => have : v = u := by simpa using hu
            subst this; exact h i v hv
  | succ j => simp at hu

/-- What a slice reads: its cells, from its address on. -/
def SlR (w : World) (A : Option Addr) (cs : List Value) : Prop := cs = [] ∨ ∃ b off, A = some ⟨b, off, none⟩ ∧ Row w b off cs
theorem SlR.mv {w w' : World} {A : Option Addr} {cs : List Value} {S : Nat → Prop} (h : SlR w A cs) (hm : Mv S w w') (hn : ∀ a, A = some a → ¬ S a.block) : SlR w' A cs := by
  rcases h with h | ⟨b, off, rfl, hr⟩
  · exact .inl h
  · exact .inr ⟨b, off, rfl, hr.mv hm (hn _ rfl)⟩
theorem SlR.no {w w' : World} {A : Option Addr} {cs : List Value} (h : SlR w A cs) (hm : Mv No w w') : SlR w' A cs := h.mv hm fun _ _ hf => hf.elim
theorem SlR.form {w : World} {A : Option Addr} {cs : List Value} (h : SlR w A cs) {i : Nat} (hi : i < cs.length) : ∃ b off, A = some ⟨b, off, none⟩ ∧ Row w b off cs := by
  rcases h with rfl | h
  · simp at hi
  · exact h
theorem SlR.take {w : World} {A : Option Addr} {cs : List Value} (h : SlR w A cs) (k : Nat) : SlR w A (cs.take k) := by
  rcases h with rfl | ⟨b, off, rfl, hr⟩
  · exact .inl (by simp)
  · exact .inr ⟨b, off, rfl, hr.take k⟩

/- what a slice of the call's own is -/
theorem own_lt {w : World} {base : Nat} {e : TypeId} {size : Nat} {v : Value} {n : Nat} {xs : List Value} (h : w.ownsRow base e size v n xs) {k : Nat} (hk : OwnOf v k) : base ≤ k ∧ k < w.heap.size := h.lt k hk
theorem own_mv {w w' : World} {base : Nat} {e : TypeId} {size : Nat} {v : Value} {n : Nat} {xs : List Value} {S : Nat → Prop} (h : w.ownsRow base e size v n xs) (hm : Mv S w w') (hn : ∀ k, OwnOf v k → ¬ S k) : w'.ownsRow base e size v n xs := by
  obtain ⟨h1, h2⟩ := h
  refine ⟨h1, ?_⟩
  rcases h2 with h2 | ⟨g, cap, cur, rfl, hg, hh, r⟩
  · exact .inl h2
  · have hlt : g < w.heap.size := by
      rcases Nat.lt_or_ge g w.heap.size with hl | hl
      · exact hl
      · rw [Array.getElem?_eq_none hl] at hh; cases hh
    exact .inr ⟨g, cap, cur, rfl, hg, (hm.block g hlt (hn g rfl)).trans hh, r⟩
theorem own_no {w w' : World} {base : Nat} {e : TypeId} {size : Nat} {v : Value} {n : Nat} {xs : List Value} (h : w.ownsRow base e size v n xs) (hm : Mv No w w') : w'.ownsRow base e size v n xs := own_mv h hm fun _ _ hf => hf.elim
/-- It is a slice, and reads so. -/
theorem own_reads {w : World} {base : Nat} {e : TypeId} {size : Nat} {v : Value} {n : Nat} {xs : List Value} (h : w.ownsRow base e size v n xs) :
    ∃ A cap, v = .slice A n cap ∧ SlR w A xs ∧ n ≤ cap ∧ cap ≤ maxLen ∧ (∀ a, A = some a → OwnOf v a.block) := by
  obtain ⟨h1, h2⟩ := h
  rcases h2 with ⟨rfl, rfl⟩ | ⟨g, cap, cur, rfl, hg, hh, hnc, hcm, hcs, ht⟩
  · exact ⟨none, 0, rfl, .inl (List.eq_nil_of_length_eq_zero (by omega)), Nat.le_refl _, Nat.zero_le _, fun a ha => by cases ha⟩
  · refine ⟨_, cap, rfl, .inr ⟨g, 0, rfl, fun i v hv => ?_⟩, hnc, hcm, fun a ha => by cases ha; rfl⟩
    subst ht
    have hv' : cur.toList[i]? = some v := by
      simp only [List.getElem?_take] at hv; split at hv <;> first | exact hv | cases hv
    simp only [Nat.zero_add, World.cell?, hh]
    simpa using hv'

theorem Mv.own {a b c : World} {base : Nat} {e : TypeId} {size : Nat} {v : Value} {n : Nat} {xs : List Value} (h : Mv No a b) (k : Mv (OwnOf v) b c) (ho : b.ownsRow base e size v n xs) (hb : a.heap.size ≤ base) : Mv No a c :=
  h.trans k fun x hx hox => absurd (own_lt ho hox).1 (by omega)

end Go.Proofs.YtnoioimphcmeiaaGreatDoor
