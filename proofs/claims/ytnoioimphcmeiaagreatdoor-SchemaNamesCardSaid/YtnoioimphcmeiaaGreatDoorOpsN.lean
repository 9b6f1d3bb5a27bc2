/- The operations on slices and strings. No program is named here. -/
import Derived.Test.YtnoioimphcmeiaaGreatDoorOpsM
namespace Go.Proofs.YtnoioimphcmeiaaGreatDoor
open Go.RowKit

section
variable {P : Program} {n : Nat} {N : Nxt} {Q : Post} {f : Fr} {ds : List Deferred} {w w' : World}
variable {d : Nat} {x y : Operand} {t yt ty : TypeId} {pos : String} {af : Array Edge} {g : Option (Nat × Bool)}

theorem P_lenS {tt ot : TypeId} {A : Option Addr} {len cap : Nat} (hu : P.underlying tt = some (.slice ot)) (hx : ev f x = some (.slice A len cap)) :
    PureV P n ⟨some d, .call { callee := .builtin .len, args := #[x], argTypes := #[tt] }, ty, pos, af, g⟩ f (.int .i64 len) :=
  fun a ha w => by simp [execOp, resolve, invoke, builtin, ha.ev hx, Builtin.len_, run_underlying hu, goInt]
theorem P_lenT {tt : TypeId} {s : ByteArray} (hu : P.underlying tt = some .string) (hx : ev f x = some (.string s)) :
    PureV P n ⟨some d, .call { callee := .builtin .len, args := #[x], argTypes := #[tt] }, ty, pos, af, g⟩ f (.int .i64 s.size) :=
  fun a ha w => by simp [execOp, resolve, invoke, builtin, ha.ev hx, Builtin.len_, run_underlying hu, goInt]
theorem P_min {tt tt' : TypeId} {k k' : IntKind} {a b c : Int} (hx : ev f x = some (.int k a)) (hy : ev f y = some (.int k' b)) (hc : (if b < a then b else a) = c) :
    PureV P n ⟨some d, .call { callee := .builtin .min, args := #[x, y], argTypes := #[tt, tt'] }, ty, pos, af, g⟩ f (.int k c) :=
  fun z hz w => by subst hc; simp [execOp, resolve, invoke, builtin, hz.ev hx, hz.ev hy, Builtin.min_, Builtin.min2]
/-- Size of an element, in cells. -/
def csz (P : Program) (e : TypeId) (m : Nat) : Prop := (P.info? e).map (·.size) = some m
theorem csz_of {P : Program} {e : TypeId} {z : Option Value} {m b : Nat} (h : tinfo P e = some (z, m, b)) : csz P e m := by
  obtain ⟨i, hi, hz⟩ := Option.map_eq_some_iff.1 h
  simp only [Prod.mk.injEq] at hz
  simp [csz, hi, hz.2.1]
theorem run_csz {e : TypeId} {m : Nat} (h : csz P e m) : (sizeOf e).run P w = .ok m w := by
  obtain ⟨i, hi, rfl⟩ := Option.map_eq_some_iff.1 h
  simp [sizeOf, typeInfo, hi]

theorem P_indexAddr {e : TypeId} {m b o len cap : Nat} {k : IntKind} {iv : Int} {j p : Nat} (hu : P.underlying t = some (.slice e)) (hs : csz P e m) (hx : ev f x = some (.slice (some ⟨b, o, none⟩) len cap)) (hy : ev f y = some (.int k iv)) (hj : iv = (j : Int)) (hlt : j < len) (hp : o + j * m = p)
    : PureV P n ⟨some d, .indexAddr t x y, ty, pos, af, g⟩ f (.pointer (some ⟨b, p, none⟩)) :=
  fun a ha w => by
    subst hj; subst hp
    have h1 : (0 : Int) ≤ (j : Int) ∧ (j : Int) < (len : Int) := by omega
    simp [execOp, ha.ev hx, ha.ev hy, Instr.indexAt, asIntOf, run_underlying hu, h1, run_csz hs, hlt, Addr.add_lit]
theorem P_indexT {s : ByteArray} {k : IntKind} {iv : Int} {j : Nat} {b : UInt8} (hu : P.underlying t = some .string) (hx : ev f x = some (.string s)) (hy : ev f y = some (.int k iv)) (hj : iv = (j : Int)) (hb : s.data.toList[j]? = some b)
    : PureV P n ⟨some d, .index t x y, ty, pos, af, g⟩ f (.int .u8 (b.toNat : Int)) :=
  fun a ha w => by
    subst hj
    have h1 : s[j]? = some b := by
      have := hb
      simp only [Array.getElem?_toList] at this
      have hlt : j < s.data.size := by
        rcases Nat.lt_or_ge j s.data.size with hl | hl
        · exact hl
        · rw [Array.getElem?_eq_none hl] at this; cases this
      have h2 : j < s.size := hlt
      rw [getElem?_pos s j h2]
      rw [Array.getElem?_eq_getElem hlt] at this
      exact this
    simp [execOp, ha.ev hx, ha.ev hy, Instr.index, asIntOf, run_underlying hu, h1]
theorem run_sliceBound {k : IntKind} {iv : Int} {j y : Nat} {code : BoundsCode} (hj : iv = (j : Int)) (h : j ≤ y) : (Instr.sliceBound (.int k iv) y code).run P w = .ok j w := by
  subst hj
  have h1 : (0 : Int) ≤ (j : Int) ∧ (j : Int) ≤ (y : Int) := by omega
  simp [Instr.sliceBound, asIntOf, h1, h]

/-- Bounds that may be there or not. -/
def bnd (f : Fr) (x : Option Operand) (dflt j : Nat) : Prop :=
  match x with
  | none => j = dflt
  | some x => ∃ k iv, ev f x = some (.int k iv) ∧ iv = (j : Int)
theorem bnd_none {f : Fr} {dflt : Nat} : bnd f none dflt dflt := rfl
theorem bnd_some {f : Fr} {x : Operand} {dflt j : Nat} {k : IntKind} {iv : Int} (hx : ev f x = some (.int k iv)) (hj : iv = (j : Int)) : bnd f (some x) dflt j := ⟨k, iv, hx, hj⟩

theorem run_sliceBounds {s : Bool} {a : Act} (ha : Of n f a) {len cap l h : Nat} {lo hi : Option Operand} (hl : bnd f lo 0 l) (hh : bnd f hi len h) (h1 : l ≤ h) (h2 : h ≤ cap) :
    (Instr.sliceBounds s len cap (lo.map a.eval) (hi.map a.eval) none).run P w = .ok (l, h, cap) w := by
  cases lo <;> cases hi <;> simp only [bnd] at hl hh
  · subst hl; subst hh; simp [Instr.sliceBounds]
  · obtain ⟨k, iv, hx, hj⟩ := hh
    subst hl
    simp [Instr.sliceBounds, ha.ev hx, run_sliceBound hj h2]
  · obtain ⟨k, iv, hx, hj⟩ := hl
    subst hh
    simp [Instr.sliceBounds, ha.ev hx, run_sliceBound hj h1]
  · obtain ⟨k, iv, hx, hj⟩ := hl
    obtain ⟨k', iv', hx', hj'⟩ := hh
    simp [Instr.sliceBounds, ha.ev hx, ha.ev hx', run_sliceBound hj h1, run_sliceBound hj' h2]

/-- Where 's[l:]' begins. -/
def cutA (A : Option Addr) (l m cap : Nat) : Option Addr := if cap = l then A else A.map (·.add (l * m))

theorem P_slice {e : TypeId} {m len cap l hh : Nat} {A : Option Addr} {lo hi : Option Operand} (hu : P.underlying t = some (.slice e)) (hs : csz P e m) (hx : ev f x = some (.slice A len cap)) (hl : bnd f lo 0 l) (hhi : bnd f hi len hh) (h1 : l ≤ hh) (h2 : hh ≤ cap)
    : PureV P n ⟨some d, .slice t x lo hi none, ty, pos, af, g⟩ f (.slice (cutA A l m cap) (hh - l) (cap - l)) :=
  fun a ha w => by
    have hb := run_sliceBounds (P := P) (w := w) (s := true) ha hl hhi h1 h2
    simp [execOp, ha.ev hx, Instr.sliceAt, Instr.slice, run_underlying hu, hb, run_csz hs, cutA]
theorem SlR.cut {w : World} {A : Option Addr} {cs : List Value} (h : SlR w A cs) {l m cap : Nat} (hc : cs.length ≤ cap * m) : SlR w (cutA A l m cap) (cs.drop (l * m)) := by
  rcases h with rfl | ⟨b, off, rfl, hr⟩
  · exact .inl (by simp)
  · unfold cutA
    split
    · rename_i e
      subst e
      exact .inl (List.drop_eq_nil_of_le hc)
    · exact .inr ⟨b, off + l * m, by simp [Addr.add_lit], hr.drop _⟩

theorem cutA_block {A : Option Addr} {l m cap : Nat} {a : Addr} (h : cutA A l m cap = some a) : ∃ a', A = some a' ∧ a'.block = a.block := by
  unfold cutA at h
  split at h
  · exact ⟨a, h, rfl⟩
  · obtain ⟨a', ha', he⟩ := Option.map_eq_some_iff.1 h
    refine ⟨a', ha', ?_⟩
    rw [← he, Addr.add]
    split <;> rfl

theorem P_sliceT {s s' : ByteArray} {l hh : Nat} {lo hi : Option Operand} (hu : P.underlying t = some .string) (hx : ev f x = some (.string s)) (hl : bnd f lo 0 l) (hhi : bnd f hi s.size hh) (h1 : l ≤ hh) (h2 : hh ≤ s.size) (hs : s.extract l hh = s') :
    PureV P n ⟨some d, .slice t x lo hi none, ty, pos, af, g⟩ f (.string s') := fun a ha w => by
  subst hs
  have hb := run_sliceBounds (P := P) (w := w) (s := false) ha hl hhi h1 h2
  simp [execOp, ha.ev hx, Instr.sliceAt, Instr.slice, run_underlying hu, hb]

/- append -/
theorem S_append {e : TypeId} {z : Value} {m by_ base : Nat} {v : Value} {len : Nat} {xs : List Value} {A : Option Addr} {k c : Nat} {news : List Value}
    (hu : P.underlying t = some (.slice e)) (hi : tinfo P e = some (some z, m, by_)) (hz : z.cells.size = m) (hm : 0 < m) (hx : ev f x = some v) (hown : w.ownsRow base e m v len xs) (hy : ev f y = some (.slice A k c)) (hr : SlR w A news) (hl : news.length = k * m)
    (hone : ∀ u ∈ news, u.oneCell' = true) (hbase : base ≤ w.heap.size) (h63 : len + k ≤ maxLen) (hby : (len + k) * by_ ≤ 140737488355328)
    (h : ∀ v' w', w'.ownsRow base e m v' (len + k) (xs ++ news) → Mv (OwnOf v) w w' → (∀ b, OwnOf v' b → OwnOf v b ∨ w.heap.size ≤ b) → N ((d, v') :: f) ds w') (hn : Nat.blt d n = true := by rfl) :
    opF P n ⟨some d, .call { callee := .builtin .append, args := #[x, y], argTypes := #[t, t] }, ty, pos, af, g⟩ N Q f ds w := by
  obtain ⟨i, hi1, hi2, hi3, hi4⟩ := tinfo_parts hi
  have key : ∃ v' w', (Builtin.append_ #[t, t] ty #[v, .slice A k c]).run P w = .ok v' w' ∧ w'.ownsRow base e m v' (len + k) (xs ++ news) ∧ Mv (OwnOf v) w w' ∧ (∀ b, OwnOf v' b → OwnOf v b ∨ w.heap.size ≤ b) := by
    have hk : A = none → k = 0 := fun hA => by
      rcases hr with rfl | ⟨b, off, hA', _⟩
      · have h0 : k * m = 0 := by simpa using hl.symm
        rcases Nat.mul_eq_zero.1 h0 with h0 | h0
        · exact h0
        · omega
      · rw [hA] at hA'; cases hA'
    cases A with
    | none =>
      obtain rfl : k = 0 := hk rfl
      obtain rfl : news = [] := List.eq_nil_of_length_eq_zero (by rw [hl, Nat.zero_mul])
      have := run_append_owned_none (P := P) w base t ty e i m hu hi1 v len xs hown
      refine ⟨v, w, ?_, by simpa using hown, Mv.refl w, fun b hb => .inl hb⟩
      obtain ⟨A', cap', rfl, _⟩ := own_reads hown
      obtain ⟨h1, h2⟩ := hown
      rcases h2 with ⟨hv, h0⟩ | ⟨gg, cap, cur, hv, hg, hh, hnc, _⟩
      · cases hv
        simp [Builtin.append_, run_underlying hu, sizeOf, typeInfo, hi1, Builtin.lenOf, Builtin.firstCells]
      · cases hv
        simp [Builtin.append_, run_underlying hu, sizeOf, typeInfo, hi1, Builtin.lenOf, Builtin.firstCells, hnc, storeCells]
    | some ad =>
      have hnews : ∀ j u, news[j]? = some u → w.cell? (ad.add j) = some u := fun j u hu' => by
        rcases hr with rfl | ⟨b, off, hA, hrow⟩
        · simp at hu'
        · obtain rfl := Option.some.inj hA
          rw [Addr.add_lit]; exact hrow j u hu'
      obtain ⟨v', w', hrun, h2, h3, _, h5⟩ := run_append_own_at (P := P) w base t ty e i z m by_ hu hi1 hi2 hi3 hi4 hz hm v len xs hown ad k c news hl hnews hone h63 hby hbase
      refine ⟨v', w', hrun, h2, Mv.ofGrown h3, fun b hb => ?_⟩
      rcases h5 with h5 | h5
      · exact .inl (by unfold OwnOf; rw [← h5]; exact hb)
      · right
        unfold OwnOf at hb
        rw [h5] at hb
        have := Option.some.inj hb
        omega
  obtain ⟨v', w', hrun, h1, h2, h3⟩ := key
  exact S_val (fun a ha => by simp [execOp, resolve, invoke, builtin, ha.ev hx, ha.ev hy, hrun]) (h v' w' h1 h2 h3) rfl hn

/-- A slice of so many things, written out: one part each, in order. -/
theorem S_buildSlice0 {e : TypeId} {z : Option Value} {m by_ : Nat} (hu : P.underlying t = some (.slice e)) (hi : tinfo P e = some (z, m, by_)) (h : ∀ b w', w'.ownsRow w.heap.size e m (.slice (some ⟨b, 0, none⟩) 0 0) 0 [] → Mv No w w' → w.heap.size ≤ b → N ((d, .slice (some ⟨b, 0, none⟩) 0 0) :: f) ds w') (hn : Nat.blt d n = true := by rfl) :
    opF P n ⟨some d, .buildSlice t 0 #[], ty, pos, af, g⟩ N Q f ds w := by
  obtain ⟨i, hi1, hz⟩ := Option.map_eq_some_iff.1 hi
  simp only [Prod.mk.injEq] at hz
  refine S_val (w' := w.alloc (.cells #[] e)) (v := .slice (some ⟨w.heap.size, 0, none⟩) 0 0) (fun a _ => ?_) (h w.heap.size _ ?_ (Mv.alloc w _) (Nat.le_refl _)) rfl hn
  · simp [execOp, Instr.buildSlice, run_underlying hu, sizeOf, typeInfo, hi1, Instr.fill, newRow]
    congr 2
    exact Array.eq_empty_of_size_eq_zero (by simp)
  · refine ⟨by simp, .inr ⟨w.heap.size, 0, #[], rfl, Nat.le_refl _, ?_, Nat.le_refl _, Nat.zero_le _, by simp, by simp⟩⟩
    simpa [Blk] using Blk.new w [] e

theorem S_makeSlice {e : TypeId} {z : Value} {m by_ base : Nat} {k k' : IntKind} {L C : Int} {len : Nat} (hu : P.underlying t = some (.slice e)) (hi : tinfo P e = some (some z, m, by_)) (hx : ev f x = some (.int k L)) (hy : ev f y = some (.int k' C)) (hL : L = (len : Int)) (hC : C = (len : Int)) (hb : by_ * len ≤ 281474976710656) (h63 : len ≤ maxLen) (hbase : base ≤ w.heap.size)
    (h : ∀ b w', w'.ownsRow base e m (.slice (some ⟨b, 0, none⟩) len len) len (madeCells z.cells (len * m)).toList → Mv No w w' → w.heap.size ≤ b → N ((d, .slice (some ⟨b, 0, none⟩) len len) :: f) ds w') (hn : Nat.blt d n = true := by rfl) :
    opF P n ⟨some d, .makeSlice t x y, ty, pos, af, g⟩ N Q f ds w := by
  obtain ⟨i, hi1, hi2, hi3, hi4⟩ := tinfo_parts hi
  subst hL; subst hC; subst hi4
  obtain ⟨w', hrun, r1, r2⟩ := run_make_full (P := P) w base t e i z m hu hi1 hi2 hi3 k k' len hb h63 hbase
  exact S_val (fun a ha => by simp [execOp, ha.ev hx, ha.ev hy, hrun]) (h w.heap.size w' r1 ⟨r2.os, r2.tape, r2.output, r2.size, fun k hk _ => r2.block k hk (by simp)⟩ (Nat.le_refl _)) rfl hn

/- strings -/
theorem bytes_eq (a b : ByteArray) : (a.toList == b.toList) = decide (a = b) := by
  have : (a.toList = b.toList) ↔ a = b := ⟨fun h => by rw [ByteArray.toList_eq, ByteArray.toList_eq, Array.toList_inj] at h; cases a; cases b; simp only at h; rw [h], fun h => by rw [h]⟩
  by_cases hab : a = b
  · simp [hab]
  · have : ¬ a.toList = b.toList := fun h => hab (this.1 h)
    simp [hab, this]
theorem P_eqT {a b : ByteArray} {β : Bool} (hx : ev f x = some (.string a)) (hy : ev f y = some (.string b)) (hβ : decide (a = b) = β) : PureV P n ⟨some d, .binOp .eql t x y yt, ty, pos, af, g⟩ f (.bool β) :=
  fun z hz w => by subst hβ; simp [execOp, hz.ev hx, hz.ev hy, eqGuard, binOp, Op.stringOp, bytes_eq]
theorem P_neT {a b : ByteArray} {β : Bool} (hx : ev f x = some (.string a)) (hy : ev f y = some (.string b)) (hβ : decide (a ≠ b) = β) : PureV P n ⟨some d, .binOp .neq t x y yt, ty, pos, af, g⟩ f (.bool β) :=
  fun z hz w => by subst hβ; simp [execOp, hz.ev hx, hz.ev hy, eqGuard, binOp, Op.stringOp, bytes_eq]
theorem P_addT {a b : ByteArray} (hx : ev f x = some (.string a)) (hy : ev f y = some (.string b)) (hs : a.size + b.size ≤ 9223372036854775807) : PureV P n ⟨some d, .binOp .add t x y yt, ty, pos, af, g⟩ f (.string (a ++ b)) :=
  fun z hz w => by
    have h1 : ¬ (((a.size + b.size : Nat) : Int) > IntKind.i64.max) := by
      have : IntKind.i64.max = 9223372036854775807 := by decide
      rw [this]; omega
    simp only [execOp, hz.ev hx, hz.ev hy, eqGuard, binOp, Op.stringOp]
    simp only [if_neg h1]
    simp
theorem run_guardB {op : BinOp} {a b : Bool} : (eqGuard op t x y (.bool a) (.bool b)).run P w = .ok () w := by cases op <;> simp [eqGuard]
theorem run_guardP {op : BinOp} {a b : Option Addr} : (eqGuard op t x y (.pointer a) (.pointer b)).run P w = .ok () w := by cases op <;> simp [eqGuard]
theorem run_equalB (hu : P.underlying t = some .bool) (a b : Bool) : (Op.equal t (.bool a) (.bool b)).run P w = .ok (a == b) w := by
  have key : ∀ d, (Op.equalIn (d + 1) t (.bool a) (.bool b)).run P w = .ok (a == b) w := fun d => by simp [Op.equalIn, run_underlying hu]
  exact key 9999
theorem run_equalP {e : TypeId} (hu : P.underlying t = some (.pointer e)) (a : Option Addr) : (Op.equal t (.pointer a) (.pointer none)).run P w = .ok a.isNone w := by
  have key : ∀ d, (Op.equalIn (d + 1) t (.pointer a) (.pointer none)).run P w = .ok a.isNone w := fun d => by cases a <;> simp [Op.equalIn, run_underlying hu]
  exact key 9999
theorem P_eqB {a b β : Bool} (hu : P.underlying t = some .bool) (hx : ev f x = some (.bool a)) (hy : ev f y = some (.bool b)) (hβ : (a == b) = β) : PureV P n ⟨some d, .binOp .eql t x y yt, ty, pos, af, g⟩ f (.bool β) :=
  fun z hz w => by
    subst hβ
    have hb : binOp .eql t (.bool a) (.bool b) = (do pure (.bool (← Op.equal t (.bool a) (.bool b)))) := rfl
    simp only [execOp, hz.ev hx, hz.ev hy, Sem.run_bind, run_guardB, Result.andThen_ok, hb, run_equalB hu, Sem.run_pure]
theorem P_neB {a b β : Bool} (hu : P.underlying t = some .bool) (hx : ev f x = some (.bool a)) (hy : ev f y = some (.bool b)) (hβ : (!(a == b)) = β) : PureV P n ⟨some d, .binOp .neq t x y yt, ty, pos, af, g⟩ f (.bool β) :=
  fun z hz w => by
    subst hβ
    have hb : binOp .neq t (.bool a) (.bool b) = (do pure (.bool (!(← Op.equal t (.bool a) (.bool b))))) := rfl
    simp only [execOp, hz.ev hx, hz.ev hy, Sem.run_bind, run_guardB, Result.andThen_ok, hb, run_equalB hu, Sem.run_pure]
theorem P_eqNil {A : Option Addr} {e : TypeId} {β : Bool} (hu : P.underlying t = some (.pointer e)) (hx : ev f x = some (.pointer A)) (hy : ev f y = some (.pointer none)) (hβ : A.isNone = β) : PureV P n ⟨some d, .binOp .eql t x y yt, ty, pos, af, g⟩ f (.bool β) :=
  fun z hz w => by
    subst hβ
    have hb : binOp .eql t (.pointer A) (.pointer none) = (do pure (.bool (← Op.equal t (.pointer A) (.pointer none)))) := by cases A <;> rfl
    simp only [execOp, hz.ev hx, hz.ev hy, Sem.run_bind, run_guardP, Result.andThen_ok, hb, run_equalP hu, Sem.run_pure]
theorem P_neNil {A : Option Addr} {e : TypeId} {β : Bool} (hu : P.underlying t = some (.pointer e)) (hx : ev f x = some (.pointer A)) (hy : ev f y = some (.pointer none)) (hβ : A.isSome = β) : PureV P n ⟨some d, .binOp .neq t x y yt, ty, pos, af, g⟩ f (.bool β) :=
  fun z hz w => by
    subst hβ
    have hb : binOp .neq t (.pointer A) (.pointer none) = (do pure (.bool (!(← Op.equal t (.pointer A) (.pointer none))))) := by cases A <;> rfl
    have hs : (!A.isNone) = A.isSome := by cases A <;> rfl
    simp only [execOp, hz.ev hx, hz.ev hy, Sem.run_bind, run_guardP, Result.andThen_ok, hb, run_equalP hu, Sem.run_pure, hs]
end
end Go.Proofs.YtnoioimphcmeiaaGreatDoor
