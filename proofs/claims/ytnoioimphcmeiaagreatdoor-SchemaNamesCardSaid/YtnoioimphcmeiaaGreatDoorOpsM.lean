/- The operations on memory, and calls. No program is named here. -/
import Derived.Test.YtnoioimphcmeiaaGreatDoorOps
import Derived.Laws.CopyRow
import Derived.Laws.Cells
import Derived.Laws.BytesArg
import Derived.Laws.OwnMore
namespace Go.Proofs.YtnoioimphcmeiaaGreatDoor
open Go.RowKit

/-- Where a field lies in its struct, if it takes a cell at all. -/
def fieldOff (P : Program) (s : TypeId) (i : Nat) : Option Nat :=
  match P.underlying s with
  | some (.struct fs) => match fs[i]? with
    | some fd => match P.info? fd.type with
      | some inf => bif Nat.beq inf.size 0 then none else some fd.offset
      | none => none
    | none => none
  | _ => none

/-- One cell a value. -/
def scalarT (P : Program) (t : TypeId) : Bool :=
  match P.underlying t with
  | some (.struct _) | some (.array _ _) | none => false
  | _ => true
/-- A struct of so many cells. -/
def structT (P : Program) (t : TypeId) (n : Nat) : Bool :=
  match P.underlying t, P.info? t with
  | some (.struct _), some i => Nat.beq i.size n
  | _, _ => false
/-- A function that is entered when called. -/
def callable (P : Program) (k : FuncId) : Bool :=
  match P.funcs[k]? with
  | some fn => !(fn.name == "runtime.NumGoroutine") && fn.body.isSome
  | none => false

/-- A type's zero value, cells, bytes. -/
def tinfo (P : Program) (t : TypeId) : Option (Option Value × Nat × Nat) := (P.info? t).map fun i => (i.zero, i.size, i.bytes)

theorem tinfo_parts {P : Program} {e : TypeId} {z : Value} {size bytes : Nat} (h : tinfo P e = some (some z, size, bytes)) : ∃ i, P.info? e = some i ∧ i.zero = some z ∧ i.size = size ∧ i.bytes = bytes := info_parts h

/-- What a call comes to. -/
def Ret (P : Program) (k : FuncId) (args : List Value) (w : World) (R : Value → World → Prop) : Prop :=
  Calls P k args.toArray w fun e w' => ∃ v, e = .returned v ∧ R v w'

theorem Ret.mono {P : Program} {k : FuncId} {args : List Value} {w : World} {R R' : Value → World → Prop} (h : Ret P k args w R) (hr : ∀ v w', R v w' → R' v w') : Ret P k args w R' :=
  Calls.mono h fun _ _ ⟨v, he, hR⟩ => ⟨v, he, hr _ _ hR⟩

section
variable {P : Program} {n : Nat} {N : Nxt} {Q : Post} {f : Fr} {ds : List Deferred} {w w' : World}
variable {d : Nat} {x y : Operand} {t yt ty : TypeId} {pos : String} {af : Array Edge} {g : Option (Nat × Bool)}

theorem callFunc_run {k : FuncId} {args : Array Value} (h : callable P k = true) : (callFunc k args).run P w = .ok (.enter k args) w := by
  unfold callable at h
  cases hf : P.funcs[k]? with
  | none => simp [hf] at h
  | some fn =>
    simp only [hf, Bool.and_eq_true, Bool.not_eq_true'] at h
    obtain ⟨h1, h2⟩ := h
    have h3 : fn.body.isNone = false := by cases hb : fn.body <;> simp_all
    simp only [callFunc, Sem.run_bind, run_program, Result.andThen_ok, hf, h1, h3]
    rfl

/-- A call of a function known by its number. -/
theorem S_call {k : FuncId} {l : List Operand} {ats : Array TypeId} {vs : List Value} {R : Value → World → Prop} (hcb : callable P k = true) (hl : evs f l = some vs) (hc : Ret P k vs w R) (h : ∀ v w', R v w' → N ((d, v) :: f) ds w') (hn : Nat.blt d n = true := by rfl) :
    opF P n ⟨some d, .call { callee := .value (.func k), args := l.toArray, argTypes := ats }, ty, pos, af, g⟩ N Q f ds w := fun a ha hds K hK => by
  unfold Oper.wp
  have hargs := ha.evs hl
  have : (execOp a.eval ⟨some d, .call { callee := .value (.func k), args := l.toArray, argTypes := ats }, ty, pos, af, g⟩).run P w = .ok (.enter k vs.toArray) w := by
    simp [execOp, resolve, Act.eval, Deferred.ofValue, invoke, callFunc_run hcb, hargs]
  rw [this, Oper.upon_enter]
  refine Calls.mono hc ?_
  rintro e w' ⟨v, rfl, hR⟩
  exact hK _ _ _ (ha.put hn) (by subst hds; exact h v w' hR)

/-- A call whose answer nobody wants. -/
theorem S_call0 {k : FuncId} {l : List Operand} {ats : Array TypeId} {vs : List Value} {R : Value → World → Prop} (hcb : callable P k = true) (hl : evs f l = some vs) (hc : Ret P k vs w R) (h : ∀ v w', R v w' → N f ds w') :
    opF P n ⟨none, .call { callee := .value (.func k), args := l.toArray, argTypes := ats }, ty, pos, af, g⟩ N Q f ds w := fun a ha hds K hK => by
  unfold Oper.wp
  have hargs := ha.evs hl
  have : (execOp a.eval ⟨none, .call { callee := .value (.func k), args := l.toArray, argTypes := ats }, ty, pos, af, g⟩).run P w = .ok (.enter k vs.toArray) w := by
    simp [execOp, resolve, Act.eval, Deferred.ofValue, invoke, callFunc_run hcb, hargs]
  rw [this, Oper.upon_enter]
  refine Calls.mono hc ?_
  rintro e w' ⟨v, rfl, hR⟩
  exact hK _ _ _ ha.put_none (by subst hds; exact h v w' hR)

/-- A call of a function value. -/
theorem S_callv {c : Operand} {k : FuncId} {l : List Operand} {ats : Array TypeId} {vs : List Value} {first captured : List Value} {R : Value → World → Prop} (hcb : callable P k = true) (hf : ev f c = some (.func (.func k) first.toArray captured.toArray)) (hl : evs f l = some vs)
    (hc : Ret P k (first ++ vs ++ captured) w R) (h : ∀ v w', R v w' → N ((d, v) :: f) ds w') (hn : Nat.blt d n = true := by rfl) :
    opF P n ⟨some d, .call { callee := .value c, args := l.toArray, argTypes := ats }, ty, pos, af, g⟩ N Q f ds w := fun a ha hds K hK => by
  unfold Oper.wp
  have hargs := ha.evs hl
  have : (execOp a.eval ⟨some d, .call { callee := .value c, args := l.toArray, argTypes := ats }, ty, pos, af, g⟩).run P w = .ok (.enter k (first ++ vs ++ captured).toArray) w := by
    simp [execOp, resolve, ha.ev hf, Deferred.ofValue, invoke, callFunc_run hcb, hargs]
  rw [this, Oper.upon_enter]
  refine Calls.mono hc ?_
  rintro e w' ⟨v, rfl, hR⟩
  exact hK _ _ _ (ha.put hn) (by subst hds; exact h v w' hR)

theorem P_makeFunc {fn : Fn} {l m : List Operand} {vs us : List Value} (hl : evs f l = some vs) (hm : evs f m = some us) : PureV P n ⟨some d, .makeFunc fn l.toArray m.toArray, ty, pos, af, g⟩ f (.func fn vs.toArray us.toArray) :=
  fun a ha w => by simp [execOp, Instr.makeFunc, ha.evs hl, ha.evs hm]
/- pointers -/
theorem P_nilCheck {A : Addr} (hx : ev f x = some (.pointer (some A))) : PureV P n ⟨some d, .nilCheck x, ty, pos, af, g⟩ f (.pointer (some A)) :=
  fun a ha w => by simp [execOp, ha.ev hx]
theorem P_nilCheckF {fn : Fn} {a1 a2 : Array Value} (hx : ev f x = some (.func fn a1 a2)) (hfn : ∀ nm, fn ≠ .method nm) : PureV P n ⟨some d, .nilCheck x, ty, pos, af, g⟩ f (.func fn a1 a2) :=
  fun a ha w => by cases fn <;> first | exact absurd rfl (hfn _) | simp [execOp, ha.ev hx]
theorem P_fieldAddr {s : TypeId} {i off b o : Nat} (hfo : fieldOff P s i = some off) (hx : ev f x = some (.pointer (some ⟨b, o, none⟩))) : PureV P n ⟨some d, .fieldAddr s x i, ty, pos, af, g⟩ f (.pointer (some ⟨b, o + off, none⟩)) :=
  fun a ha w => by
    unfold fieldOff at hfo
    split at hfo
    · rename_i fs hu
      split at hfo
      · rename_i fd hfd
        split at hfo
        · rename_i inf hi
          have hs : inf.size ≠ 0 := fun e => by rw [e] at hfo; cases hfo
          have hb : Nat.beq inf.size 0 = false := nbeq_ne hs
          rw [hb] at hfo
          obtain rfl := Option.some.inj hfo
          simp [execOp, ha.ev hx, Instr.fieldAt, run_underlying hu, hfd, Instr.sureAddr, fieldPlace, sizeOf, typeInfo, hi, hs, Addr.add_lit]
        · cases hfo
      · cases hfo
    · cases hfo
theorem run_isAgg_scalar (h : scalarT P t = true) : (isAgg t).run P w = .ok false w := by
  unfold scalarT at h
  cases hu : P.underlying t with
  | none => simp [hu] at h
  | some u =>
    cases u <;> simp_all [isAgg, run_underlying hu]

theorem run_isAgg_struct {m : Nat} (h : structT P t m = true) : (isAgg t).run P w = .ok true w ∧ (sizeOf t).run P w = .ok m w := by
  unfold structT at h
  split at h
  · rename_i u i hu hi
    have : i.size = m := Nat.eq_of_beq_eq_true h
    subst this
    exact ⟨by simp [isAgg, run_underlying hu], by simp [sizeOf, typeInfo, hi]⟩
  · cases h

theorem S_load {A : Addr} {v : Value} (hs : scalarT P t = true) (hx : ev f x = some (.pointer (some A))) (hc : w.cell? A = some v) (h : N ((d, v) :: f) ds w) (hn : Nat.blt d n = true := by rfl) : opF P n ⟨some d, .load t x, ty, pos, af, g⟩ N Q f ds w :=
  S_val (fun a ha => by simp [execOp, ha.ev hx, Instr.loadAt, Instr.sureAddr, loadVar, run_isAgg_scalar hs, run_load, hc]) h rfl hn

theorem S_loadS {b off m : Nat} {cs : List Value} (hs : structT P t m = true) (hx : ev f x = some (.pointer (some ⟨b, off, none⟩))) (hr : Row w b off cs) (hm : cs.length = m) (h : N ((d, .agg cs.toArray) :: f) ds w) (hn : Nat.blt d n = true := by rfl) : opF P n ⟨some d, .load t x, ty, pos, af, g⟩ N Q f ds w :=
  S_val (fun a ha => by
    subst hm
    have hl := run_loadCells_list (P := P) w ⟨b, off, none⟩ cs (fun j v hv => by rw [Addr.add_lit]; exact hr j v hv)
    simp [execOp, ha.ev hx, Instr.loadAt, Instr.sureAddr, loadVar, (run_isAgg_struct (w := w) hs).1, (run_isAgg_struct (w := w) hs).2, hl]) h rfl hn

/-- A store into a block known whole. -/
theorem S_store {b i : Nat} {cs : List Value} {bt : TypeId} {v : Value} {z : Option Value} {by_ : Nat} (hs : tinfo P t = some (z, 1, by_)) (hx : ev f x = some (.pointer (some ⟨b, i, none⟩))) (hv : ev f y = some v) (h1 : v.oneCell' = true) (hb : Blk w b cs bt) (hi : i < cs.length)
    (h : ∀ w', Blk w' b (cs.set i v) bt → Mv (At b) w w' → N f ds w') : opF P n ⟨none, .store t x y, ty, pos, af, g⟩ N Q f ds w :=
  S_skip (w' := w.setCell ⟨b, i, none⟩ v) (fun a ha => by
    obtain ⟨inf, hinf, hz⟩ := Option.map_eq_some_iff.1 hs
    simp only [Prod.mk.injEq] at hz
    have hcell : w.cell? ⟨b, i, none⟩ = some cs[i] := hb.cell (List.getElem?_eq_getElem hi)
    have hvc : v.cells = #[v] := by cases v <;> first | rfl | simp [Value.oneCell'] at h1
    simp [execOp, ha.ev hx, ha.ev hv, Instr.storeAt, Instr.sureAddr, storeVar, hvc, sizeOf, typeInfo, hinf, hz.2.1, storeCells, run_store P w _ v _ h1, Addr.add_lit, hcell, hb.frozen i]) (h _ (hb.set i v) (Mv.setCell w ⟨b, i, none⟩ v)) rfl

/-- The cells of a block with some of them put anew. -/
def splice (cs : List Value) (o : Nat) (vs : List Value) : List Value := cs.take o ++ vs ++ cs.drop (o + vs.length)

theorem setRow_mv (w : World) (b : Nat) (cs cs' : List Value) (bt : TypeId) (hb : Blk w b cs bt) : Blk (w.setRow b cs'.toArray) b cs' bt ∧ Mv (At b) w (w.setRow b cs'.toArray) :=
  ⟨setRow_heap w b _ _ bt _ hb, ⟨rfl, rfl, rfl, by simp, fun k _ hk => setRow_other w b k _ hk⟩⟩

theorem S_storeS {b o m : Nat} {cs vs : List Value} {bt : TypeId} {z : Option Value} {by_ : Nat} (hs : tinfo P t = some (z, m, by_)) (hx : ev f x = some (.pointer (some ⟨b, o, none⟩))) (hv : ev f y = some (.agg vs.toArray)) (h1 : ∀ v ∈ vs, v.oneCell' = true) (hl : vs.length = m) (hb : Blk w b cs bt) (hi : o + vs.length ≤ cs.length)
    (h : ∀ w', Blk w' b (splice cs o vs) bt → Mv (At b) w w' → N f ds w') : opF P n ⟨none, .store t x y, ty, pos, af, g⟩ N Q f ds w :=
  S_skip (w' := w.setRow b (splice cs o vs).toArray) (fun a ha => by
    obtain ⟨inf, hinf, hz⟩ := Option.map_eq_some_iff.1 hs
    simp only [Prod.mk.injEq] at hz
    have hst := run_storeCells_at (P := P) b o bt vs 0 cs.toArray w hb (by simpa using hi) h1
    simp only [Nat.add_zero] at hst
    simp [execOp, ha.ev hx, ha.ev hv, Instr.storeAt, Instr.sureAddr, storeVar, Value.cells, sizeOf, typeInfo, hinf, hz.2.1, hl, hst, splice]) (h _ (setRow_mv w b cs _ bt hb).1 (setRow_mv w b cs _ bt hb).2) rfl

theorem S_alloc {e : TypeId} {z : Value} {zs : List Value} {m by_ : Nat} (hs : tinfo P e = some (some z, m, by_)) (hzs : z.cells.toList = zs) (h : ∀ b w', Blk w' b zs e → Mv No w w' → w.heap.size ≤ b → N ((d, .pointer (some ⟨b, 0, none⟩)) :: f) ds w') (hn : Nat.blt d n = true := by rfl) : opF P n ⟨some d, .alloc e, ty, pos, af, g⟩ N Q f ds w := by
  subst hzs
  exact S_val (w' := w.alloc (.cells z.cells e)) (fun a _ => by
    obtain ⟨i, hi, hz, _, _⟩ := tinfo_parts hs
    simp [execOp, Instr.alloc, zeroValue, typeInfo, hi, hz, newVar, newRow]) (h w.heap.size _ (by simpa using Blk.new w z.cells.toList e) (Mv.alloc w _) (Nat.le_refl _)) rfl hn

theorem S_box {e : TypeId} {v : Value} (hx : ev f x = some v) (h : ∀ b w', Blk w' b v.cells.toList e → Mv No w w' → w.heap.size ≤ b → N ((d, .pointer (some ⟨b, 0, none⟩)) :: f) ds w') (hn : Nat.blt d n = true := by rfl) : opF P n ⟨some d, .box e x, ty, pos, af, g⟩ N Q f ds w :=
  S_val (w' := w.alloc (.cells v.cells e)) (fun a ha => by
    simp [execOp, Instr.box, ha.ev hx, newVar, newRow]) (h w.heap.size _ (by simpa using Blk.new w v.cells.toList e) (Mv.alloc w _) (Nat.le_refl _)) rfl hn

end
end Go.Proofs.YtnoioimphcmeiaaGreatDoor
