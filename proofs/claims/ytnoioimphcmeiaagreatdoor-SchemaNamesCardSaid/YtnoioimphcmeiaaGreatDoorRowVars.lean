/- Vr out of what the row lists. -/
import Derived.Test.YtnoioimphcmeiaaGreatDoorFVars
import Derived.Test.YtnoioimphcmeiaaGreatDoorRowLaid
import Derived.Lib.LaidU8
import Derived.OpenShut
namespace Go.Proofs.YtnoioimphcmeiaaGreatDoor
open Go.RowKit
set_option maxRecDepth 20000

def flv : Lit → Value
  | .int k n => .int k n
  | .float k b => .float k b
  | .bool b => .bool b
  | .string l => .string (str l)
  | .nil => .nilIface
def f1v : DataW Unit → Value
  | .lit x => flv x
  | _ => .nilIface
def fv : DataW Unit → List Value
  | .lit x => [flv x]
  | .agg ds => ds.map f1v
  | _ => []
section
variable {P : Program} {W : World} {base : Nat} {sp : Nat → Bool} {held : Bool}
def Scal (P : Program) (t : TypeId) : Prop := P.underlying t = some .bool ∨ (∃ k, P.underlying t = some (.int k)) ∨ (∃ k, P.underlying t = some (.float k)) ∨ P.underlying t = some .string
theorem scal_is {t : TypeId} (hs : Scal P t) {fuel : Nat} {cs : List Value} {d : DataW Unit} {p : List MemPlace} (h : DataW.trod (fun _ => ()) P W base sp held fuel t cs = some (d, p)) : cs = [f1v d] ∧ cs = fv d := by
  rcases hs with ht | ⟨k, ht⟩ | ⟨k, ht⟩ | ht
  · obtain ⟨b, rfl, hx⟩ := DataW.trod_bool ht h
    cases hx
    exact ⟨rfl, rfl⟩
  · obtain ⟨n, rfl, hx, _⟩ := DataW.trod_int ht h
    cases hx
    exact ⟨rfl, rfl⟩
  · cases fuel with
    | zero => simp [DataW.trod] at h
    | succ n =>
      unfold DataW.trod at h
      rw [ht] at h
      split at h <;> simp_all
      obtain ⟨_, rfl, _⟩ := h
      exact ⟨rfl, rfl⟩
  · obtain ⟨s, rfl, hx, _⟩ := DataW.trod_string ht h
    cases hx
    exact ⟨rfl, rfl⟩
theorem take_one {cs : List Value} {i : Nat} {v : Value} (h : (cs.drop i).take 1 = [v]) : cs[i]? = some v := by
  have := congrArg (·[0]?) h
  simpa [List.getElem?_take, List.getElem?_drop] using this
theorem struct_is {t : TypeId} {fs : Array Field} (ht : P.underlying t = some (.struct fs)) (hf : ∀ (i : Nat) (f : Field), fs[i]? = some f → Scal P f.type ∧ f.offset = i ∧ P.cellsOf f.type = 1) (hct : P.cellsOf t = fs.size)
    {fuel : Nat} {cs : List Value} {d : DataW Unit} {p : List MemPlace} (h : DataW.trod (fun _ => ()) P W base sp held fuel t cs = some (d, p)) : cs = fv d := by
  obtain ⟨xs, n, _, hx, hl, hxl, hall⟩ := DataW.trod_struct ht h
  cases hx
  show cs = (xs.map (·.1)).map f1v
  apply List.ext_getElem?
  intro i
  by_cases hi : i < fs.size
  · obtain ⟨f, hfi⟩ : ∃ f, fs[i]? = some f := ⟨fs[i], by simp [hi]⟩
    obtain ⟨h1, h2, h3⟩ := hf i f hfi
    obtain ⟨y, hy⟩ : ∃ y, xs[i]? = some y := ⟨xs[i]'(by omega), List.getElem?_eq_getElem _⟩
    have h4 := hall i f hfi
    rw [h2, h3, hy] at h4
    obtain ⟨y1, y2⟩ := y
    rw [take_one (scal_is h1 h4).1, List.getElem?_map, List.getElem?_map, hy]
    rfl
  · rw [List.getElem?_eq_none (by omega), List.getElem?_eq_none (by rw [List.length_map, List.length_map]; omega)]
theorem flatMap_at {m : Nat} (hm : 0 < m) (F : DataW Unit → List Value) : ∀ (ds : List (DataW Unit)), (∀ d ∈ ds, (F d).length = m) → ∀ j, (ds.flatMap F)[j]? = (ds[j / m]?).bind fun d => (F d)[j % m]?
  | [], _, j => by simp
  | d :: r, h, j => by
    have hd := h d (List.mem_cons_self ..)
    have ih := flatMap_at hm F r (fun x hx => h x (List.mem_cons_of_mem _ hx))
    rw [List.flatMap_cons]
    by_cases hj : j < m
    · rw [List.getElem?_append_left (by omega), Nat.div_eq_of_lt hj, Nat.mod_eq_of_lt hj]
      rfl
    · rw [List.getElem?_append_right (by omega), hd, ih]
      obtain ⟨q, rfl⟩ : ∃ q, j = q + m := ⟨j - m, by omega⟩
      rw [Nat.add_sub_cancel, Nat.add_div_right _ hm, Nat.add_mod_right]
      rfl
theorem slice_is {t e : TypeId} {m : Nat} (hu : P.underlying t = some (.slice e)) (hc : P.cellsOf e = m) (hm : 0 < m) (hdec : ∀ (fuel : Nat) (cs : List Value) (d : DataW Unit) (p : List MemPlace), DataW.trod (fun _ => ()) P W base sp held fuel e cs = some (d, p) → cs = fv d)
    {fuel : Nat} {cs : List Value} {ds rest : List (DataW Unit)} {p : List MemPlace} (hne : 0 < ds.length) (h : DataW.trod (fun _ => ()) P W base sp held fuel t cs = some (.slice ds rest, p)) :
    ∃ b o cap, cs = [.slice (some ⟨b, o, none⟩) ds.length cap] ∧ Row W b o (ds.flatMap fv) := by
  rcases DataW.trod_slice hu h with ⟨_, hx⟩ | ⟨a, len, cap, elems, rest', n, _, hcs, hx, _, _, _, hlen, hel, _⟩
  · cases hx
  · cases hx
    rw [List.length_map] at hne ⊢
    have key : ∀ i, i < elems.length → ∃ y, elems[i]? = some y ∧ (fv y.1).length = m ∧ ∀ k v, (fv y.1)[k]? = some v → W.cell? ((a.add (i * m)).add k) = some v := by
      intro i hi
      obtain ⟨y, hy⟩ : ∃ y, elems[i]? = some y := ⟨elems[i], List.getElem?_eq_getElem hi⟩
      have h3 := hel i (by omega)
      rw [hy, hc, Option.bind_eq_some_iff] at h3
      obtain ⟨cs', h4, h5⟩ := h3
      obtain ⟨_, hl2, hcell⟩ := World.cells?_some h4
      obtain ⟨y1, y2⟩ := y
      have e := hdec _ _ _ _ h5
      subst e
      refine ⟨(y1, y2), hy, hl2, fun k v hk => ?_⟩
      have hkm : k < m := by
        have := (List.getElem?_eq_some_iff.1 hk).1
        dsimp only at this
        omega
      have := hcell k hkm
      rw [hk] at this
      exact this
    have hspot : a.spot = none := by
      obtain ⟨y, _, hl2, hcell⟩ := key 0 hne
      have h0 := hcell 0 _ (List.getElem?_eq_getElem (by omega))
      simpa [Addr.add] using World.cell?_spot h0
    obtain ⟨b, o, s⟩ := a
    dsimp only at hspot
    subst hspot
    refine ⟨b, o, cap, by rw [hcs, hlen], fun j v hj => ?_⟩
    rw [flatMap_at hm fv _ (by
      intro d hd
      obtain ⟨y, hy, rfl⟩ := List.mem_map.1 hd
      obtain ⟨i, hi, he⟩ := List.mem_iff_getElem.1 hy
      obtain ⟨y', hy', hl2, _⟩ := key i hi
      rw [List.getElem?_eq_getElem hi, he] at hy'
      cases hy'
      exact hl2)] at hj
    rw [List.getElem?_map, Option.bind_map, Option.bind_eq_some_iff] at hj
    obtain ⟨y, hy, hv⟩ := hj
    have hjl := (List.getElem?_eq_some_iff.1 hy).1
    obtain ⟨y', hy', _, hcell⟩ := key (j / m) hjl
    rw [hy] at hy'
    cases hy'
    have := hcell (j % m) v hv
    rw [Addr.add_lit, Addr.add_lit] at this
    have e : o + j / m * m + j % m = o + j := by
      have := Nat.div_add_mod j m
      rw [Nat.mul_comm] at this
      omega
    rw [e] at this
    exact this
theorem array_is {t e : TypeId} {n m : Nat} (hu : P.underlying t = some (.array n e)) (hc : P.cellsOf e = m) (hm : 0 < m) (hct : P.cellsOf t = n * m) (hdec : ∀ (fuel : Nat) (cs : List Value) (d : DataW Unit) (p : List MemPlace), DataW.trod (fun _ => ()) P W base sp held fuel e cs = some (d, p) → cs = fv d)
    {fuel : Nat} {cs : List Value} {ds : List (DataW Unit)} {p : List MemPlace} (h : DataW.trod (fun _ => ()) P W base sp held fuel t cs = some (.agg ds, p)) (hlen : ∀ d ∈ ds, (fv d).length = m) : cs = ds.flatMap fv := by
  obtain ⟨xs, k, _, hx, hl, hxl, hall⟩ := DataW.trod_array hu h
  cases hx
  apply List.ext_getElem?
  intro j
  rw [flatMap_at hm fv _ hlen, List.getElem?_map, Option.bind_map]
  by_cases hj : j < n * m
  · have hi : j / m < n := by rw [Nat.div_lt_iff_lt_mul hm]; exact hj
    obtain ⟨y, hy⟩ : ∃ y, xs[j / m]? = some y := ⟨xs[j / m]'(by omega), List.getElem?_eq_getElem _⟩
    have h1 := hall (j / m) hi
    rw [hc, hy] at h1
    obtain ⟨y1, y2⟩ := y
    have h2 := hdec _ _ _ _ h1
    rw [hy]
    show _ = (fv y1)[j % m]?
    rw [← h2, List.getElem?_take, if_pos (Nat.mod_lt _ hm), List.getElem?_drop]
    congr 1
    have := Nat.div_add_mod j m
    rw [Nat.mul_comm] at this
    omega
  · have hi : n ≤ j / m := by rw [Nat.le_div_iff_mul_le hm]; omega
    rw [List.getElem?_eq_none (by omega), List.getElem?_eq_none (by omega)]
    rfl
end

theorem var_row {W : World} {n : String} {d : DataW Unit} {g : Nat} {t : TypeId} {Q : List Value → Prop} (h : Go.Lib.VarReads Tryz.prog W n d) (hg : Tryz.prog.globalNamed n = some g) (hty : (Tryz.prog.globals[g]?).map (·.type) = some t)
    (dec : ∀ (fuel : Nat) (cs : List Value) (p : List MemPlace), DataW.trod (fun _ => ()) Tryz.prog W 0 (fun _ => true) false fuel t cs = some (d, p) → Q cs) : ∃ L, Q L ∧ ∀ i, W.cell? ⟨g, i, none⟩ = L[i]? := by
  obtain ⟨g', t', cs, fuel, p, hg', ht', hvar, hd⟩ := h
  obtain rfl := Option.some.inj (hg.symm.trans hg')
  obtain rfl := Option.some.inj (hty.symm.trans ht')
  exact ⟨cs.toList, dec _ _ _ hd, fun i => by rw [World.var?_cell hg hvar i, Array.getElem?_toList]⟩
theorem row_of {W : World} {g : Nat} {L : List Value} (h : ∀ i, W.cell? ⟨g, i, none⟩ = L[i]?) : Row W g 0 L := fun i v hv => by rw [Nat.zero_add, h i]; exact hv
theorem iface_is {t : TypeId} {ms} (ht : Tryz.prog.underlying t = some (.interface ms)) {W : World} {nm : String} {d : DataW Unit} {fuel : Nat} {cs : List Value} {p : List MemPlace} (h : DataW.trod (fun _ => ()) Tryz.prog W 0 (fun _ => true) false fuel t cs = some (.iface nm d, p)) : ∃ u v, cs = [.iface u v] := by
  cases fuel with
  | zero => simp [DataW.trod] at h
  | succ n =>
    unfold DataW.trod at h
    rw [ht] at h
    split at h <;> simp_all
theorem vr_of_laid {W : World} {laid : List (String × DataW Unit)} (h : laidMet Tryz.prog laid W) (hx : Mx W)
    (m1 : ("internal/strconv.float64info", Rows.laid_internal_strconv_float64info) ∈ laid) (m2 : ("internal/strconv.optimize", Rows.laid_internal_strconv_optimize) ∈ laid) (m3 : ("internal/strconv.powtab", Rows.laid_internal_strconv_powtab) ∈ laid)
    (m4 : ("internal/strconv.float64pow10", Rows.laid_internal_strconv_float64pow10) ∈ laid) (m5 : ("strconv.ErrRange", Rows.laid_strconv_ErrRange) ∈ laid) (m6 : ("internal/strconv.leftcheats", Rows.laid_internal_strconv_leftcheats) ∈ laid) (m7 : ("internal/strconv.pow10Tab", Rows.laid_internal_strconv_pow10Tab) ∈ laid) : Vr W where
  mx := hx
  opt := by
    obtain ⟨L, hL, hc⟩ := var_row (g := 4) (t := 4) (Q := fun cs => cs = [.bool true]) (Go.Lib.laidMet.reads h m2) (by kernel_rfl) (by kernel_rfl) (fun fuel cs p hd => (scal_is (.inl Tryz.underlying4) hd).1)
    subst hL
    exact hc 0
  info := by
    obtain ⟨L, hL, hc⟩ := var_row (g := 5) (t := 208) (Q := fun cs => cs = [.int .u64 52, .int .u64 11, .int .i64 (-1023)]) (Go.Lib.laidMet.reads h m1) (by kernel_rfl) (by kernel_rfl) (fun fuel cs p hd =>
      struct_is Tryz.underlying208 (fun i f hf => by
        match i, hf with
        | 0, hf => cases hf; exact ⟨.inr (.inl ⟨_, Tryz.underlying74⟩), rfl, by kernel_rfl⟩
        | 1, hf => cases hf; exact ⟨.inr (.inl ⟨_, Tryz.underlying74⟩), rfl, by kernel_rfl⟩
        | 2, hf => cases hf; exact ⟨.inr (.inl ⟨_, Tryz.underlying3⟩), rfl, by kernel_rfl⟩
        | i + 3, hf => simp at hf) (by kernel_rfl) hd)
    subst hL
    exact row_of hc
  p10 := by
    obtain ⟨L, ⟨b, o, cap, rfl, hr⟩, hc⟩ := var_row (g := 8) (t := 244) (Q := fun cs => ∃ b o cap, cs = [.slice (some ⟨b, o, none⟩) 23 cap] ∧ Row W b o (pow10L.map (.float .f64))) (Go.Lib.laidMet.reads h m4) (by kernel_rfl) (by kernel_rfl) (fun fuel cs p hd =>
      slice_is Tryz.underlying244 (m := 1) (by kernel_rfl) (by decide) (fun _ _ _ _ hd => (scal_is (.inr (.inr (.inl ⟨_, Tryz.underlying166⟩))) hd).2) (by decide) hd)
    exact ⟨b, o, cap, hc 0, hr⟩
  pt := by
    obtain ⟨L, hL, hc⟩ := var_row (g := 9) (t := 249) (Q := fun cs => cs = ptV) (Go.Lib.laidMet.reads h m7) (by kernel_rfl) (by kernel_rfl) (fun fuel cs p hd => by
      have := array_is Tryz.underlying249 (m := 2) (by kernel_rfl) (by decide) (by kernel_rfl) (fun _ _ _ _ hd => struct_is Tryz.underlying248 (fun i f hf => by
        match i, hf with
        | 0, hf => cases hf; exact ⟨.inr (.inl ⟨_, Tryz.underlying131⟩), rfl, by kernel_rfl⟩
        | 1, hf => cases hf; exact ⟨.inr (.inl ⟨_, Tryz.underlying131⟩), rfl, by kernel_rfl⟩
        | i + 2, hf => simp at hf) (by kernel_rfl) hd) hd (by
          intro d hd
          obtain ⟨x, _, rfl⟩ := List.mem_map.1 hd
          rfl)
      rw [this, List.flatMap_map]
      rfl)
    subst hL
    exact row_of hc
  ptb := by
    obtain ⟨L, ⟨b, o, cap, rfl, hr⟩, hc⟩ := var_row (g := 7) (t := 28) (Q := fun cs => ∃ b o cap, cs = [.slice (some ⟨b, o, none⟩) 9 cap] ∧ Row W b o (powtabL.map fun (x : Nat) => .int .i64 (x : Int))) (Go.Lib.laidMet.reads h m3) (by kernel_rfl) (by kernel_rfl) (fun fuel cs p hd =>
      slice_is Tryz.underlying28 (m := 1) (by kernel_rfl) (by decide) (fun _ _ _ _ hd => (scal_is (.inr (.inl ⟨_, Tryz.underlying3⟩)) hd).2) (by decide) hd)
    exact ⟨b, o, cap, hc 0, hr⟩
  ch := by
    obtain ⟨L, ⟨b, o, cap, rfl, hr⟩, hc⟩ := var_row (g := 10) (t := 260) (Q := fun cs => ∃ b o cap, cs = [.slice (some ⟨b, o, none⟩) 61 cap] ∧ Row W b o chV) (Go.Lib.laidMet.reads h m6) (by kernel_rfl) (by kernel_rfl) (fun fuel cs p hd => by
      obtain ⟨b, o, cap, h1, h2⟩ := slice_is Tryz.underlying260 (m := 2) (by kernel_rfl) (by decide) (fun _ _ _ _ hd => struct_is Tryz.underlying259 (fun i f hf => by
        match i, hf with
        | 0, hf => cases hf; exact ⟨.inr (.inl ⟨_, Tryz.underlying3⟩), rfl, by kernel_rfl⟩
        | 1, hf => cases hf; exact ⟨.inr (.inr (.inr Tryz.underlying9)), rfl, by kernel_rfl⟩
        | i + 2, hf => simp at hf) (by kernel_rfl) hd) (by rw [List.length_map]; decide +kernel) hd
      rw [List.length_map] at h1
      rw [List.flatMap_map] at h2
      exact ⟨b, o, cap, by rw [h1, show Go.Pinned.cheatRows.length = 61 by decide +kernel], h2⟩)
    exact ⟨b, o, cap, hc 0, hr⟩
  er := by
    obtain ⟨L, ⟨u, v, rfl⟩, hc⟩ := var_row (g := 2) (t := 168) (Q := fun cs => ∃ u v, cs = [.iface u v]) (Go.Lib.laidMet.reads h m5) (by kernel_rfl) (by kernel_rfl) (fun fuel cs p hd => iface_is Tryz.underlying168 hd)
    exact ⟨u, v, hc 0⟩
end Go.Proofs.YtnoioimphcmeiaaGreatDoor
