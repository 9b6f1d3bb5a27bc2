/- Own slices: their form, a store into an element. No program is named here. -/
import Derived.Test.YtnoioimphcmeiaaGreatDoorFn
namespace Go.Proofs.YtnoioimphcmeiaaGreatDoor
open Go.RowKit

theorem own_form {w : World} {base : Nat} {e : TypeId} {size : Nat} {v : Value} {n : Nat} {xs : List Value} (h : w.ownsRow base e size v n xs) (hn : 0 < n) :
    ∃ g cap, v = .slice (some ⟨g, 0, none⟩) n cap ∧ base ≤ g ∧ g < w.heap.size := by
  obtain ⟨h1, h2⟩ := h
  rcases h2 with ⟨rfl, rfl⟩ | ⟨g, cap, cur, rfl, hg, hh, r⟩
  · omega
  · refine ⟨g, cap, rfl, hg, ?_⟩
    rcases Nat.lt_or_ge g w.heap.size with hl | hl
    · exact hl
    · rw [Array.getElem?_eq_none hl] at hh; cases hh

section
variable {P : Program} {n : Nat} {N : Nxt} {Q : Post} {f : Fr} {ds : List Deferred} {w w' : World}
variable {d : Nat} {x y : Operand} {t yt ty : TypeId} {pos : String} {af : Array Edge} {g : Option (Nat × Bool)}
/-- A store into an element, one cell, of a slice of one's own. -/
theorem S_storeOwn {b i len cap base : Nat} {e : TypeId} {xs : List Value} {v : Value} {z : Option Value} {by_ : Nat} (hs : tinfo P t = some (z, 1, by_)) (hx : ev f x = some (.pointer (some ⟨b, i, none⟩))) (hv : ev f y = some v) (h1 : v.oneCell' = true) (ho : w.ownsRow base e 1 (.slice (some ⟨b, 0, none⟩) len cap) len xs) (hi : i < len)
    (h : ∀ w', w'.ownsRow base e 1 (.slice (some ⟨b, 0, none⟩) len cap) len (xs.set i v) → Mv (At b) w w' → N f ds w') : opF P n ⟨none, .store t x y, ty, pos, af, g⟩ N Q f ds w :=
  S_skip (w' := w.setCell ⟨b, i, none⟩ v) (fun a ha => by
    obtain ⟨inf, hinf, hz⟩ := Option.map_eq_some_iff.1 hs
    simp only [Prod.mk.injEq] at hz
    have hxl : xs.length = len := by simpa using ho.1
    have hcell : w.cell? ⟨b, i, none⟩ = some xs[i] := by
      rw [ho.cellAt i (by simpa using hi)]; simp
    have hvc := one_cells h1
    simp [execOp, ha.ev hx, ha.ev hv, Instr.storeAt, Instr.sureAddr, storeVar, hvc, sizeOf, typeInfo, hinf, hz.2.1, storeCells, run_store P w _ v _ h1, Addr.add_lit, hcell, ho.frozenAt i]) (h _ (ho.stored i v).1 (Mv.setCell w ⟨b, i, none⟩ v)) rfl
end

section
variable {P : Program} {n : Nat} {N : Nxt} {Q : Post} {f : Fr} {ds : List Deferred} {w : World}
variable {d : Nat} {x y : Operand} {t ty : TypeId} {pos : String} {af : Array Edge} {g : Option (Nat × Bool)}
/-- 'append', the outcome in a slice's form. -/
theorem S_appendV {e : TypeId} {z : Value} {m by_ base : Nat} {v : Value} {len : Nat} {xs : List Value} {A : Option Addr} {k c : Nat} {news : List Value}
    (hu : P.underlying t = some (.slice e)) (hi : tinfo P e = some (some z, m, by_)) (hz : z.cells.size = m) (hm : 0 < m) (hx : ev f x = some v) (hown : w.ownsRow base e m v len xs) (hy : ev f y = some (.slice A k c)) (hr : SlR w A news) (hl : news.length = k * m)
    (hone : ∀ u ∈ news, u.oneCell' = true) (hbase : base ≤ w.heap.size) (h63 : len + k ≤ maxLen) (hby : (len + k) * by_ ≤ 140737488355328)
    (h : ∀ A' c' w', w'.ownsRow base e m (.slice A' (len + k) c') (len + k) (xs ++ news) → Mv (OwnOf v) w w' → N ((d, .slice A' (len + k) c') :: f) ds w') (hn : Nat.blt d n = true := by rfl) :
    opF P n ⟨some d, .call { callee := .builtin .append, args := #[x, y], argTypes := #[t, t] }, ty, pos, af, g⟩ N Q f ds w :=
  S_append hu hi hz hm hx hown hy hr hl hone hbase h63 hby (fun v' w' ho hm' _ => by
    obtain ⟨A', c', rfl, _⟩ := own_reads ho
    exact h A' c' w' ho hm') hn
end
theorem own_base {w : World} {base base' : Nat} {e : TypeId} {size : Nat} {v : Value} {n : Nat} {xs : List Value} (h : w.ownsRow base e size v n xs) (hb : base' ≤ base) : w.ownsRow base' e size v n xs := by
  obtain ⟨h1, h2⟩ := h
  refine ⟨h1, ?_⟩
  rcases h2 with h2 | ⟨g, cap, cur, h3, hg, r⟩
  · exact .inl h2
  · exact .inr ⟨g, cap, cur, h3, Nat.le_trans hb hg, r⟩
theorem own_nil {w : World} {base : Nat} {e : TypeId} {size : Nat} : w.ownsRow base e size (.slice none 0 0) 0 [] := ⟨by simp, .inl ⟨rfl, rfl⟩⟩
end Go.Proofs.YtnoioimphcmeiaaGreatDoor
