/- More rules: a text turned to bytes, a range over a text, texts in order, interfaces against nil, floats in order, functions without a body, pointers turned to unsafe ones and back, slices of one struct, two structs of three scalars alike. No program is named here. -/
import Derived.Test.YtnoioimphcmeiaaGreatDoorHeld
import Derived.Test.YtnoioimphcmeiaaGreatDoorOpsG
import Derived.Test.YtnoioimphcmeiaaGreatDoorOwn
import Derived.Lib.ConvBytes
import Derived.Lib.Builder
import Derived.Laws.Externs
import Derived.Laws.RangeString
namespace Go.Proofs.YtnoioimphcmeiaaGreatDoor
open Go.RowKit

/-- A block of bytes that a text was turned to: its first cells are these bytes, and may be written. -/
def Byt (w : World) (b : Nat) (e : TypeId) (l : List UInt8) : Prop := ∃ C : Array Value, w.heap[b]? = some (.cells C e (C.size, C.size + 1)) ∧ l.length ≤ C.size ∧ C.toList.take l.length = l.map bv
theorem Byt.lt {w : World} {b : Nat} {e : TypeId} {l : List UInt8} (h : Byt w b e l) : b < w.heap.size := by
  obtain ⟨C, h1, _⟩ := h
  rcases Nat.lt_or_ge b w.heap.size with hl | hl
  · exact hl
  · rw [Array.getElem?_eq_none hl] at h1; cases h1
theorem Byt.mv {w w' : World} {b : Nat} {e : TypeId} {l : List UInt8} {S : Nat → Prop} (h : Byt w b e l) (hm : Mv S w w') (hn : ¬ S b) : Byt w' b e l := by
  have hlt := h.lt
  obtain ⟨C, h1, h2⟩ := h
  exact ⟨C, (hm.block b hlt hn).trans h1, h2⟩
theorem Byt.no {w w' : World} {b : Nat} {e : TypeId} {l : List UInt8} (h : Byt w b e l) (hm : Mv No w w') : Byt w' b e l := h.mv hm fun hf => hf.elim
theorem Byt.row {w : World} {b : Nat} {e : TypeId} {l : List UInt8} (h : Byt w b e l) : Row w b 0 (l.map bv) := fun i v hv => by
  obtain ⟨C, h1, h2, h3⟩ := h
  rw [← h3] at hv
  have hv' : C.toList[i]? = some v := by
    simp only [List.getElem?_take] at hv
    split at hv <;> first | exact hv | cases hv
  simp only [Nat.zero_add, World.cell?, h1]
  simpa using hv'
theorem Byt.slr {w : World} {b : Nat} {e : TypeId} {l : List UInt8} (h : Byt w b e l) : SlR w (some ⟨b, 0, none⟩) (l.map bv) := .inr ⟨b, 0, rfl, h.row⟩
theorem Byt.cell {w : World} {b : Nat} {e : TypeId} {l : List UInt8} (h : Byt w b e l) {i : Nat} {c : UInt8} (hc : l[i]? = some c) : w.cell? ⟨b, i, none⟩ = some (bv c) := by
  have := h.row i (bv c) (by rw [List.getElem?_map, hc]; rfl)
  rwa [Nat.zero_add] at this

/-- An iterator over a text. -/
def Itr (w : World) (g : Nat) (s : ByteArray) (p : Nat) : Prop := w.heap[g]? = some (.stringIter s p)
theorem Itr.lt {w : World} {g : Nat} {s : ByteArray} {p : Nat} (h : Itr w g s p) : g < w.heap.size := by
  rcases Nat.lt_or_ge g w.heap.size with hl | hl
  · exact hl
  · rw [Itr, Array.getElem?_eq_none hl] at h; cases h
theorem Itr.no {w w' : World} {g : Nat} {s : ByteArray} {p : Nat} (h : Itr w g s p) (hm : Mv No w w') : Itr w' g s p := (hm.block g h.lt (fun hf => hf.elim)).trans h

theorem decode_high (s : ByteArray) (i : Nat) (h : i < s.size) (hb : 128 ≤ (s.data.toList.getD i 0).toNat) : ∃ c k, Utf8.decode s i = (c, k) ∧ 128 ≤ c ∧ c ≤ 1114111 := by
  have e : s.get! (i + 0) = s.data.toList.getD i 0 := by
    have h' : i < s.data.size := h
    show s.data[i]! = _
    rw [getElem!_pos s.data i h', List.getD_eq_getElem?_getD, List.getElem?_eq_getElem (by simpa using h')]
    simp
  have hlt := (s.data.toList.getD i 0).toNat_lt
  refine ⟨(Utf8.decode s i).1, (Utf8.decode s i).2, rfl, ?_⟩
  unfold Utf8.decode
  simp only [e]
  have h0 : ¬ (s.data.toList.getD i 0).toNat < 128 := by omega
  simp only [if_neg h0]
  generalize (s.data.toList.getD i 0).toNat = b0 at *
  generalize (s.get! (i + 1)).toNat = b1
  generalize (s.get! (i + 2)).toNat = b2
  generalize (s.get! (i + 3)).toNat = b3
  simp only [Utf8.runeError]
  split
  · split <;> dsimp only <;> omega
  · split
    · rename_i hc
      simp only [Bool.and_eq_true, beq_iff_eq] at hc
      split <;> dsimp only
      · rename_i hv
        simp only [Bool.and_eq_true, decide_eq_true_eq] at hv
        omega
      · omega
    · split
      · rename_i hc
        simp only [Bool.and_eq_true, beq_iff_eq] at hc
        split <;> dsimp only
        · rename_i hv
          simp only [Bool.and_eq_true, decide_eq_true_eq, Utf8.valid, Bool.or_eq_true] at hv
          omega
        · omega
      · dsimp only; omega

/- two scalars, two structs of three of them -/
inductive ScK | int (k : IntKind) | str | bool
def ScK.desc : ScK → TypeDesc
  | .int k => .int k
  | .str => .string
  | .bool => .bool
def ScK.has : ScK → Value → Prop
  | .int k, v => ∃ a, v = .int k a
  | .str, v => ∃ s, v = .string s
  | .bool, v => ∃ b, v = .bool b
def eqSc : Value → Value → Bool
  | .int _ a, .int _ b => a == b
  | .string a, .string b => a == b
  | .bool a, .bool b => a == b
  | _, _ => false

section
variable {P : Program} {n : Nat} {N : Nxt} {Q : Post} {f : Fr} {ds : List Deferred} {w w' : World}
variable {d : Nat} {x y : Operand} {t yt ty : TypeId} {pos : String} {af : Array Edge} {g : Option (Nat × Bool)}

theorem S_strByt {e : TypeId} {l : List UInt8} {u : TypeDesc} (hs : P.underlying t = some u) (hd : P.underlying yt = some (.slice e)) (he : P.underlying e = some (.int .u8)) (hx : ev f x = some (.string (str l)))
    (h : ∀ b w' c, Byt w' b e l → Mv No w w' → w.heap.size ≤ b → N ((d, .slice (some ⟨b, 0, none⟩) l.length c) :: f) ds w') (hn : Nat.blt d n = true := by rfl) : opF P n ⟨some d, .convert t yt x, ty, pos, af, g⟩ N Q f ds w := by
  have hrun := Lib.run_convert_string_bytes (P := P) w t yt e (str l) hs hd he
  rw [str_size] at hrun
  refine S_val (fun a ha => by simp only [execOp, ha.ev hx, Sem.run_bind, hrun]; rfl) (h w.heap.size (Lib.bytesWorld w e (str l)) (grownCap w l.length 0 e) ⟨Lib.bytesCells w e (str l), Lib.bytesWorld_at_new w e _, ?_, ?_⟩ ⟨?_, ?_, ?_, ?_, fun k hk _ => Lib.bytesWorld_at_old w e _ k hk⟩ (Nat.le_refl _)) rfl hn
  · simp [Lib.bytesCells, str]
  · have hml : l.length = (l.map bv).length := by simp
    have : (Lib.bytesCells w e (str l)).toList = l.map bv ++ List.replicate (grownCap w (str l).size 0 e - (str l).size) (.int .u8 0) := by
      simp only [Lib.bytesCells, Array.toList_append, Array.toList_replicate]
      congr 1
      simp [str, bv]
    rw [this]
    conv => lhs; arg 1; rw [hml]
    rw [List.take_left]
  · simp [Lib.bytesWorld, World.freeze, World.alloc, World.drew, -World.alloc_eq, -World.drew_eq]
  · simp [Lib.bytesWorld, World.freeze, World.alloc, World.drew, -World.alloc_eq, -World.drew_eq]
  · simp [Lib.bytesWorld, World.freeze, World.alloc, World.drew, -World.alloc_eq, -World.drew_eq]
  · rw [Lib.bytesWorld_size]; omega

theorem S_storeByt {b i : Nat} {e : TypeId} {l : List UInt8} {c : UInt8} {z : Option Value} {by_ : Nat} (hs : tinfo P t = some (z, 1, by_)) (hx : ev f x = some (.pointer (some ⟨b, i, none⟩))) (hv : ev f y = some (bv c)) (hb : Byt w b e l) (hi : i < l.length)
    (h : ∀ w', Byt w' b e (l.set i c) → Mv (At b) w w' → N f ds w') : opF P n ⟨none, .store t x y, ty, pos, af, g⟩ N Q f ds w := by
  obtain ⟨C, h1, h2, h3⟩ := hb
  have hcell : ∃ v0, w.cell? ⟨b, i, none⟩ = some v0 := ⟨C[i], by simp [World.cell?, h1]⟩
  obtain ⟨v0, hcell⟩ := hcell
  have hfr : w.frozen? ⟨b, i, none⟩ = false := by
    simp only [World.frozen?, h1]
    have : ¬ C.size ≤ i := by omega
    simp [this]
  refine S_skip (w' := w.setCell ⟨b, i, none⟩ (bv c)) (fun a ha => ?_) (h _ ⟨C.setIfInBounds i (bv c), ?_, by simpa using h2, ?_⟩ (Mv.setCell w ⟨b, i, none⟩ _)) rfl
  · obtain ⟨inf, hinf, hz⟩ := Option.map_eq_some_iff.1 hs
    simp only [Prod.mk.injEq] at hz
    have h1c : (bv c).oneCell' = true := rfl
    have hvc := one_cells h1c
    simp [execOp, ha.ev hx, ha.ev hv, Instr.storeAt, Instr.sureAddr, storeVar, hvc, sizeOf, typeInfo, hinf, hz.2.1, storeCells, run_store P w _ (bv c) _ h1c, Addr.add_lit, hcell, hfr]
  · simp [World.setCell, Array.getElem?_modify, h1]
  · rw [Array.toList_setIfInBounds, List.length_set, List.take_set, h3, List.map_set]

theorem S_rangeT {s : ByteArray} (hu : P.underlying t = some .string) (hx : ev f x = some (.string s)) (h : ∀ b w', Itr w' b s 0 → Mv No w w' → w.heap.size ≤ b → N ((d, .pointer (some ⟨b, 0, none⟩)) :: f) ds w') (hn : Nat.blt d n = true := by rfl) :
    opF P n ⟨some d, .range t x, ty, pos, af, g⟩ N Q f ds w :=
  S_val (v := .pointer (some ⟨w.heap.size, 0, none⟩)) (w' := w.iter s 0) (fun a ha => by simp only [execOp, ha.ev hx, Sem.run_bind, run_range_string w t s hu]; rfl) (h w.heap.size (w.iter s 0) (World.iter_heap w s 0) (Mv.alloc w _) (Nat.le_refl _)) rfl hn

theorem Mv.setObj (w : World) (b : Nat) (o : Obj) : Mv (At b) w { w with heap := w.heap.setIfInBounds b o } :=
  ⟨rfl, rfl, rfl, by simp, fun k _ hn => by
    have : b ≠ k := fun e => hn e.symm
    simp [Array.getElem?_setIfInBounds, this]⟩

/-- The next sign of a text: a byte below 128 is itself. -/
theorem S_nextLo {s : ByteArray} {b p : Nat} {c : UInt8} (hx : ev f x = some (.pointer (some ⟨b, 0, none⟩))) (hi : Itr w b s p) (hc : s.data.toList[p]? = some c) (ha : c.toNat < 128)
    (h : ∀ w', Itr w' b s (p + 1) → Mv (At b) w w' → N ((d, .tuple #[.bool true, .int .i64 (p : Int), .int .i32 (c.toNat : Int)]) :: f) ds w') (hn : Nat.blt d n = true := by rfl) :
    opF P n ⟨some d, .next x true, ty, pos, af, g⟩ N Q f ds w := by
  have hlt : p < s.size := by simpa using (List.getElem?_eq_some_iff.1 hc).1
  have hcs : s[p]'hlt = c := by
    have := (List.getElem?_eq_some_iff.1 hc).2
    rw [← this]
    rfl
  have hd := decode_ascii s p hlt (by rw [hcs]; exact ha)
  rw [hcs] at hd
  have hb := hi.lt
  unfold Itr at hi
  refine S_val (w' := { w with heap := w.heap.setIfInBounds b (.stringIter s (p + 1)) }) (fun a ha' => ?_) (h _ ?_ (Mv.setObj w b _)) rfl hn
  · simp [execOp, ha'.ev hx, Instr.next, getObj, setObj, Sem.run, hi, hlt, hd, goInt]
  · simp [Itr, hb]
theorem S_nextHi {s : ByteArray} {b p : Nat} {c : UInt8} (hx : ev f x = some (.pointer (some ⟨b, 0, none⟩))) (hi : Itr w b s p) (hc : s.data.toList[p]? = some c) (ha : 128 ≤ c.toNat)
    (h : ∀ w' (r k : Nat), 128 ≤ r → r ≤ 1114111 → Itr w' b s (p + k) → Mv (At b) w w' → N ((d, .tuple #[.bool true, .int .i64 (p : Int), .int .i32 (r : Int)]) :: f) ds w') (hn : Nat.blt d n = true := by rfl) :
    opF P n ⟨some d, .next x true, ty, pos, af, g⟩ N Q f ds w := by
  have hlt : p < s.size := by simpa using (List.getElem?_eq_some_iff.1 hc).1
  obtain ⟨r, k, hd, h1, h2⟩ := decode_high s p hlt (by rw [List.getD_eq_getElem?_getD, hc]; exact ha)
  have hb := hi.lt
  unfold Itr at hi
  refine S_val (w' := { w with heap := w.heap.setIfInBounds b (.stringIter s (p + k)) }) (fun a ha' => ?_) (h _ r k h1 h2 ?_ (Mv.setObj w b _)) rfl hn
  · simp [execOp, ha'.ev hx, Instr.next, getObj, setObj, Sem.run, hi, hlt, hd, goInt]
  · simp [Itr, hb]
theorem S_nextEnd {s : ByteArray} {b p : Nat} (hx : ev f x = some (.pointer (some ⟨b, 0, none⟩))) (hi : Itr w b s p) (hp : s.size ≤ p) (h : N ((d, .tuple #[.bool false]) :: f) ds w) (hn : Nat.blt d n = true := by rfl) :
    opF P n ⟨some d, .next x true, ty, pos, af, g⟩ N Q f ds w := by
  unfold Itr at hi
  have hlt : ¬ p < s.size := by omega
  exact S_val (fun a ha' => by simp [execOp, ha'.ev hx, Instr.next, getObj, Sem.run, hi, hlt]) h rfl hn

/- texts in order -/
theorem P_gtT {a b : ByteArray} {β : Bool} (hx : ev f x = some (.string a)) (hy : ev f y = some (.string b)) (hβ : (!(Op.bytesLess a.toList b.toList || a.toList == b.toList)) = β) : PureV P n ⟨some d, .binOp .gtr t x y yt, ty, pos, af, g⟩ f (.bool β) :=
  fun z hz w => by subst hβ; simp [execOp, hz.ev hx, hz.ev hy, eqGuard, binOp, Op.stringOp]
theorem P_ltT {a b : ByteArray} {β : Bool} (hx : ev f x = some (.string a)) (hy : ev f y = some (.string b)) (hβ : Op.bytesLess a.toList b.toList = β) : PureV P n ⟨some d, .binOp .lss t x y yt, ty, pos, af, g⟩ f (.bool β) :=
  fun z hz w => by subst hβ; simp [execOp, hz.ev hx, hz.ev hy, eqGuard, binOp, Op.stringOp]

/- interfaces against nil -/
theorem run_equalI0 {ms} (hu : P.underlying t = some (.interface ms)) : (Op.equal t .nilIface .nilIface).run P w = .ok true w := by
  have key : ∀ q, (Op.equalIn (q + 1) t .nilIface .nilIface).run P w = .ok true w := fun q => by simp [Op.equalIn, run_underlying hu]
  exact key 9999
theorem run_equalI1 {ms} (hu : P.underlying t = some (.interface ms)) (te : TypeId) (u : Value) : (Op.equal t (.iface te u) .nilIface).run P w = .ok false w := by
  have key : ∀ q, (Op.equalIn (q + 1) t (.iface te u) .nilIface).run P w = .ok false w := fun q => by simp [Op.equalIn, run_underlying hu]
  exact key 9999
theorem P_neI {ms} {β : Bool} {v : Value} (hu : P.underlying t = some (.interface ms)) (hx : ev f x = some v) (hv : (v = .nilIface ∧ β = false) ∨ (∃ te u, v = .iface te u ∧ β = true)) : PureV P n ⟨some d, .binOp .neq t x (.const .nilIface) yt, ty, pos, af, g⟩ f (.bool β) :=
  fun z hz w => by
    rcases hv with ⟨rfl, rfl⟩ | ⟨te, u, rfl, rfl⟩
    · have hb : binOp .neq t .nilIface .nilIface = (do pure (.bool (!(← Op.equal t .nilIface .nilIface)))) := rfl
      have hg : (eqGuard .neq t x (.const .nilIface) .nilIface .nilIface).run P w = .ok () w := by cases x <;> simp [eqGuard]
      have he : Act.eval z (.const .nilIface) = .nilIface := rfl
      simp only [execOp, hz.ev hx, he, Sem.run_bind, hg, Result.andThen_ok, hb, run_equalI0 hu, Sem.run_pure, Bool.not_true]
    · have hb : binOp .neq t (.iface te u) .nilIface = (do pure (.bool (!(← Op.equal t (.iface te u) .nilIface)))) := rfl
      have hg : (eqGuard .neq t x (.const .nilIface) (.iface te u) .nilIface).run P w = .ok () w := by simp [eqGuard]
      have he : Act.eval z (.const .nilIface) = .nilIface := rfl
      simp only [execOp, hz.ev hx, he, Sem.run_bind, hg, Result.andThen_ok, hb, run_equalI1 hu, Sem.run_pure, Bool.not_false]

/- floats in order -/
theorem P_geF {k : FloatKind} {a b : Nat} {β : Bool} (hx : ev f x = some (.float k a)) (hy : ev f y = some (.float k b)) (hβ : (k.format.order a b == some .gt || k.format.order a b == some .eq) = β) : PureV P n ⟨some d, .binOp .geq t x y yt, ty, pos, af, g⟩ f (.bool β) :=
  fun z hz w => by subst hβ; simp [execOp, hz.ev hx, hz.ev hy, eqGuard, binOp, Op.floatCmp]
theorem P_ltF {k : FloatKind} {a b : Nat} {β : Bool} (hx : ev f x = some (.float k a)) (hy : ev f y = some (.float k b)) (hβ : (k.format.order a b == some .lt) = β) : PureV P n ⟨some d, .binOp .lss t x y yt, ty, pos, af, g⟩ f (.bool β) :=
  fun z hz w => by subst hβ; simp [execOp, hz.ev hx, hz.ev hy, eqGuard, binOp, Op.floatCmp]
theorem P_gtF {k : FloatKind} {a b : Nat} {β : Bool} (hx : ev f x = some (.float k a)) (hy : ev f y = some (.float k b)) (hβ : (k.format.order a b == some .gt) = β) : PureV P n ⟨some d, .binOp .gtr t x y yt, ty, pos, af, g⟩ f (.bool β) :=
  fun z hz w => by subst hβ; simp [execOp, hz.ev hx, hz.ev hy, eqGuard, binOp, Op.floatCmp]
theorem P_eqF {k : FloatKind} {a b : Nat} {β : Bool} (hx : ev f x = some (.float k a)) (hy : ev f y = some (.float k b)) (hβ : (k.format.order a b == some .eq) = β) : PureV P n ⟨some d, .binOp .eql t x y yt, ty, pos, af, g⟩ f (.bool β) :=
  fun z hz w => by subst hβ; simp [execOp, hz.ev hx, hz.ev hy, eqGuard, binOp, Op.floatCmp]

/-- A call of a function without a body: by its entry. -/
theorem P_ext {k : FuncId} {fn : Func} {l : List Operand} {ats : Array TypeId} {vs : List Value} {v : Value} {E : Array Value → Sem Value} (hf : P.funcs[k]? = some fn) (hname : (fn.name == "runtime.NumGoroutine") = false) (hb : fn.body.isNone = true) (hnx : Extern.findNext fn = none) (he : Extern.find fn = some E)
    (hl : evs f l = some vs) (hrun : ∀ w, (E vs.toArray).run P w = .ok v w) : PureV P n ⟨some d, .call { callee := .value (.func k), args := l.toArray, argTypes := ats }, ty, pos, af, g⟩ f v := fun a ha w => by
  have hargs := ha.evs hl
  have h1 := run_callFunc_extern hf hname hb hnx he vs.toArray w
  rw [hrun] at h1
  simp [execOp, resolve, Act.eval, Deferred.ofValue, invoke, hargs, h1]

/- pointers to unsafe ones and back -/
theorem S_toUnsafe {b o cells m by_ : Nat} {e u : TypeId} {z : Value} (hs : P.underlying t = some (.pointer u)) (hd : P.underlying yt = some .unsafePointer) (hu : tinfo P u = some (some z, m, by_)) (hj : m ≠ 0) (hx : ev f x = some (.pointer (some ⟨b, o, none⟩))) (hsh : w.shape? b = some (e, cells)) (ho : o < cells)
    (h : N ((d, .pointer (some ⟨b, o, none⟩)) :: f) ds w) (hn : Nat.blt d n = true := by rfl) : opF P n ⟨some d, .convert t yt x, ty, pos, af, g⟩ N Q f ds w := by
  obtain ⟨i, hi1, hi2, hi3, hi4⟩ := tinfo_parts hu
  exact S_val (fun a ha => by simp [execOp, ha.ev hx, Lib.run_to_unsafe (P := P) w ⟨b, o, none⟩ hs hd hi1 (by rw [hi3]; exact hj) hsh ho]) h rfl hn
theorem S_fromUnsafe {b o cells m by_ : Nat} {e u : TypeId} {z : Value} (hs : P.underlying t = some .unsafePointer) (hd : P.underlying yt = some (.pointer u)) (hu : tinfo P u = some (some z, m, by_)) (hx : ev f x = some (.pointer (some ⟨b, o, none⟩))) (hsh : w.shape? b = some (e, cells)) (hl : liesAt P P.depth e (cells / P.cellsOf e) o u 1 = true)
    (h : N ((d, .pointer (some ⟨b, o, none⟩)) :: f) ds w) (hn : Nat.blt d n = true := by rfl) : opF P n ⟨some d, .convert t yt x, ty, pos, af, g⟩ N Q f ds w := by
  obtain ⟨i, hi1, hi2, hi3, hi4⟩ := tinfo_parts hu
  exact S_val (fun a ha => by simp [execOp, ha.ev hx, Lib.run_from_unsafe (P := P) w ⟨b, o, none⟩ hs hd hi1 hsh hl]) h rfl hn
theorem P_nePtr {e : TypeId} {z : Value} {m by_ : Nat} {A : Addr} (hu : P.underlying t = some (.pointer e)) (he : tinfo P e = some (some z, m, by_)) (hx : ev f x = some (.pointer (some A))) (hy : ev f y = some (.pointer (some A))) : PureV P n ⟨some d, .binOp .neq t x y yt, ty, pos, af, g⟩ f (.bool false) :=
  fun z hz w => by
    obtain ⟨i, hi1, hi2, hi3, hi4⟩ := tinfo_parts he
    simp [execOp, hz.ev hx, hz.ev hy, eqGuard, Lib.run_neq_ptr_same w A hu hi1]

theorem fill_run (off : Nat) : ∀ (vs : List Value) (k : Nat) (cells : Array Value), off + k + vs.length ≤ cells.size →
    (vs.zipIdx k).foldl (fun cs p => cs.setIfInBounds (off + p.2) p.1) cells = (cells.toList.take (off + k) ++ vs ++ cells.toList.drop (off + k + vs.length)).toArray
  | [], k, cells, h => by simp
  | v :: r, k, cells, h => by
    simp only [List.length_cons] at h
    rw [List.zipIdx_cons, List.foldl_cons, fill_run off r (k + 1) _ (by simp; omega)]
    apply Array.ext'
    simp only [Array.toList_setIfInBounds]
    have hsz : cells.toList.length = cells.size := by simp
    have hk : off + k < cells.toList.length := by omega
    rw [show off + (k + 1) = off + k + 1 by omega, List.take_succ_eq_append_getElem (by simpa using hk)]
    simp only [List.getElem_set_self, List.length_cons]
    rw [List.take_set_of_le (Nat.le_refl _), List.drop_set_of_lt (by omega), List.append_assoc, List.append_assoc, List.append_assoc, show off + k + 1 + r.length = off + k + (r.length + 1) by omega]
    rfl
theorem fill_row (m : Nat) : ∀ (vss : List (List Value)) (k : Nat) (cells : Array Value), (∀ vs ∈ vss, vs.length = m) → k * m + vss.length * m ≤ cells.size →
    Instr.fill (fun i => some (i * m, m)) cells (partsF k (vss.map fun vs => Value.agg vs.toArray)) = some (cells.toList.take (k * m) ++ vss.flatten ++ cells.toList.drop (k * m + vss.length * m)).toArray
  | [], k, cells, h1, h2 => by simp [partsF, Instr.fill]
  | vs :: r, k, cells, h1, h2 => by
    have hl := h1 vs (by simp)
    simp only [List.length_cons, Nat.succ_mul] at h2
    have hc : (Value.agg vs.toArray).cells = vs.toArray := rfl
    simp only [List.map_cons, partsF, Instr.fill, hc]
    have hcond : ¬ ((vs.toArray.size != m || decide (k * m + vs.toArray.size > cells.size)) = true) := by simp [hl]; omega
    have hcond' : ¬ ((decide (vs.toArray.size ≠ m) || decide (k * m + vs.toArray.size > cells.size)) = true) := by simp [hl]; omega
    have hrun := fill_run (k * m) vs 0 cells (by omega)
    rw [if_neg hcond']
    have hz : vs.toArray.zipIdx.foldl (fun cs p => cs.setIfInBounds (k * m + p.2) p.1) cells = (cells.toList.take (k * m) ++ vs ++ cells.toList.drop (k * m + m)).toArray := by
      have : vs.toArray.zipIdx = (vs.zipIdx 0).toArray := by simp
      rw [this, List.foldl_toArray, hrun, hl, Nat.add_zero]
    have hz' : Array.foldl (fun cs x => match x with | (c, j) => cs.setIfInBounds (k * m + j) c) cells vs.toArray.zipIdx = (cells.toList.take (k * m) ++ vs ++ cells.toList.drop (k * m + m)).toArray := hz
    rw [hz', fill_row m r (k + 1) _ (fun us hu => h1 us (by simp [hu])) (by simp [Nat.succ_mul, hl]; omega)]
    congr 1
    apply Array.ext'
    simp only [Nat.succ_mul, List.flatten_cons, List.length_cons]
    have hlt : (cells.toList.take (k * m) ++ vs).length = k * m + m := by simp [hl]; omega
    generalize cells.toList.take (k * m) = A at *
    have e1 : (A ++ vs ++ cells.toList.drop (k * m + m)).take (k * m + m) = A ++ vs := by rw [← hlt]; exact List.take_left
    have e2 : (A ++ vs ++ cells.toList.drop (k * m + m)).drop (k * m + m + r.length * m) = (cells.toList.drop (k * m + m)).drop (r.length * m) := by
      conv => lhs; rw [← List.drop_drop]; arg 2; arg 1; rw [← hlt]
      rw [List.drop_left]
    rw [e1, e2, List.drop_drop, show k * m + m + r.length * m = k * m + (r.length * m + m) by omega]
    simp only [List.append_assoc]
/-- '[]T{s, ..}', each a struct. -/
theorem S_buildSliceS {e by_ m q : Nat} {z : Value} {l : List Operand} {vss : List (List Value)} (hu : P.underlying t = some (.slice e)) (hi : tinfo P e = some (some z, m, by_)) (hpos : 0 < m) (hx : evs f l = some (vss.map fun vs => Value.agg vs.toArray)) (hl : ∀ vs ∈ vss, vs.length = m) (hq : l.length = q) (hq0 : 0 < q) (h24 : q * m ≤ 16777216)
    (h : ∀ b w', Blk w' b vss.flatten e → Mv No w w' → w.heap.size ≤ b → N ((d, .slice (some ⟨b, 0, none⟩) q q) :: f) ds w') (hn : Nat.blt d n = true := by rfl) : opF P n ⟨some d, .buildSlice t q (partsF 0 l).toArray, ty, pos, af, g⟩ N Q f ds w := by
  obtain ⟨i, hi1, hi2, hi3, hi4⟩ := tinfo_parts hi
  refine S_val (w' := w.alloc (.cells vss.flatten.toArray e)) (v := .slice (some ⟨w.heap.size, 0, none⟩) q q) (fun a ha => ?_) (h w.heap.size _ (Blk.new w vss.flatten e) (Mv.alloc w _) (Nat.le_refl _)) rfl hn
  have hvs := ha.evs hx
  have hlen : vss.length = q := by
    have := congrArg List.length hvs
    simp at this
    omega
  have hp : (partsF 0 l).map (fun x => (x.1, a.eval x.2)) = partsF 0 (vss.map fun vs => Value.agg vs.toArray) := by rw [partsF_map, hvs]
  have hm0 : q * m ≠ 0 := Nat.mul_ne_zero (by omega) (by omega)
  have hfill := fill_row m vss 0 ((Array.range (q * m)).map fun x => z.cells[x % z.cells.size]!) hl (by simp [hlen])
  have hd : ((Array.range (q * m)).map fun x => z.cells[x % z.cells.size]!).toList.drop (0 * m + vss.length * m) = [] := List.drop_eq_nil_of_le (by simp [hlen])
  rw [hd, Nat.zero_mul, List.take_zero, List.nil_append, List.append_nil] at hfill
  have h24' : ¬ 16777216 < q * m := by omega
  simp only [execOp, Instr.buildSlice, Sem.run_bind, run_underlying hu, Result.andThen_ok]
  simp only [sizeOf, typeInfo, Sem.run_bind, run_program, Result.andThen_ok, hi1]
  simp [hi3, h24', hm0, zeroValue, typeInfo, hi1, hi2, hp, hfill, newRow]

theorem run_equalSc {k : ScK} {a b : Value} (hu : P.underlying t = some k.desc) (ha : k.has a) (hb : k.has b) (q : Nat) : (Op.equalIn (q + 1) t a b).run P w = .ok (eqSc a b) w := by
  cases k with
  | int k => obtain ⟨a, rfl⟩ := ha; obtain ⟨b, rfl⟩ := hb; simp [Op.equalIn, run_underlying hu, ScK.desc, eqSc]
  | str => obtain ⟨a, rfl⟩ := ha; obtain ⟨b, rfl⟩ := hb; simp [Op.equalIn, run_underlying hu, ScK.desc, eqSc]
  | bool => obtain ⟨a, rfl⟩ := ha; obtain ⟨b, rfl⟩ := hb; simp [Op.equalIn, run_underlying hu, ScK.desc, eqSc]
/-- A struct of three scalars. -/
def TripT (P : Program) (t : TypeId) (k0 k1 k2 : ScK) : Prop := ∃ f0 f1 f2, P.underlying t = some (.struct #[f0, f1, f2]) ∧ P.underlying f0.type = some k0.desc ∧ P.underlying f1.type = some k1.desc ∧ P.underlying f2.type = some k2.desc ∧ (f0.name ≠ "_" ∧ f1.name ≠ "_" ∧ f2.name ≠ "_") ∧ (f0.offset = 0 ∧ f1.offset = 1 ∧ f2.offset = 2) ∧ (scalarT P f0.type = true ∧ scalarT P f1.type = true ∧ scalarT P f2.type = true) ∧ P.stoodInHeld t = false ∧ P.eqGuardType P.depth t = false
theorem run_equalTrip {k0 k1 k2 : ScK} {a b c a' b' c' : Value} (hp : TripT P t k0 k1 k2) (h0 : k0.has a ∧ k0.has a') (h1 : k1.has b ∧ k1.has b') (h2 : k2.has c ∧ k2.has c') (q : Nat) :
    (Op.equalIn (q + 1 + 1) t (.agg #[a, b, c]) (.agg #[a', b', c'])).run P w = .ok (eqSc a a' && eqSc b b' && eqSc c c') w := by
  obtain ⟨f0, f1, f2, hu, u0, u1, u2, ⟨n0, n1, n2⟩, ⟨o0, o1, o2⟩, ⟨s0, s1, s2⟩, hs, hgt⟩ := hp
  have e0 := run_equalSc (P := P) (w := w) u0 h0.1 h0.2 q
  have e1 := run_equalSc (P := P) (w := w) u1 h1.1 h1.2 q
  have e2 := run_equalSc (P := P) (w := w) u2 h2.1 h2.2 q
  rw [Op.equalIn]
  simp only [Sem.run_bind, run_underlying hu, Result.andThen_ok]
  cases q0 : eqSc a a' <;> cases q1 : eqSc b b' <;> cases q2 : eqSc c c' <;> rw [q0] at e0 <;> rw [q1] at e1 <;> rw [q2] at e2 <;>
  simp [hs, n0, n1, n2, o0, o1, o2, part, run_isAgg_scalar s0, run_isAgg_scalar s1, run_isAgg_scalar s2, e0, e1, e2, q0, q1, q2]
theorem P_eqTrip {k0 k1 k2 : ScK} {a b c a' b' c' : Value} {β : Bool} (hp : TripT P t k0 k1 k2) (hx : ev f x = some (.agg #[a, b, c])) (hy : ev f y = some (.agg #[a', b', c'])) (h0 : k0.has a ∧ k0.has a') (h1 : k1.has b ∧ k1.has b') (h2 : k2.has c ∧ k2.has c') (hβ : (eqSc a a' && eqSc b b' && eqSc c c') = β) : PureV P n ⟨some d, .binOp .eql t x y yt, ty, pos, af, g⟩ f (.bool β) :=
  fun z hz w => by
    subst hβ
    have hgt := hp
    obtain ⟨f0, f1, f2, hu, u0, u1, u2, _, _, _, hs, hgt⟩ := hgt
    have hb : binOp .eql t (.agg #[a, b, c]) (.agg #[a', b', c']) = (do pure (.bool (← Op.equal t (.agg #[a, b, c]) (.agg #[a', b', c'])))) := rfl
    have hg : (eqGuard .eql t x y (.agg #[a, b, c]) (.agg #[a', b', c'])).run P w = .ok () w := by simp [eqGuard, hgt]
    have hq : (Op.equal t (.agg #[a, b, c]) (.agg #[a', b', c'])).run P w = .ok (eqSc a a' && eqSc b b' && eqSc c c') w := run_equalTrip hp h0 h1 h2 9998
    simp only [execOp, hz.ev hx, hz.ev hy, Sem.run_bind, hg, Result.andThen_ok, hb, hq, Sem.run_pure]
theorem P_neTrip {k0 k1 k2 : ScK} {a b c a' b' c' : Value} {β : Bool} (hp : TripT P t k0 k1 k2) (hx : ev f x = some (.agg #[a, b, c])) (hy : ev f y = some (.agg #[a', b', c'])) (h0 : k0.has a ∧ k0.has a') (h1 : k1.has b ∧ k1.has b') (h2 : k2.has c ∧ k2.has c') (hβ : (!(eqSc a a' && eqSc b b' && eqSc c c')) = β) : PureV P n ⟨some d, .binOp .neq t x y yt, ty, pos, af, g⟩ f (.bool β) :=
  fun z hz w => by
    subst hβ
    have hgt := hp
    obtain ⟨f0, f1, f2, hu, u0, u1, u2, _, _, _, hs, hgt⟩ := hgt
    have hb : binOp .neq t (.agg #[a, b, c]) (.agg #[a', b', c']) = (do pure (.bool (!(← Op.equal t (.agg #[a, b, c]) (.agg #[a', b', c']))))) := rfl
    have hg : (eqGuard .neq t x y (.agg #[a, b, c]) (.agg #[a', b', c'])).run P w = .ok () w := by simp [eqGuard, hgt]
    have hq : (Op.equal t (.agg #[a, b, c]) (.agg #[a', b', c'])).run P w = .ok (eqSc a a' && eqSc b b' && eqSc c c') w := run_equalTrip hp h0 h1 h2 9998
    simp only [execOp, hz.ev hx, hz.ev hy, Sem.run_bind, hg, Result.andThen_ok, hb, hq, Sem.run_pure]
end
end Go.Proofs.YtnoioimphcmeiaaGreatDoor
