/- How a function is entered and left; bytes and texts; copy; a slice of one, a struct. No program is named here. -/
import Derived.Test.YtnoioimphcmeiaaGreatDoorOpsN
import Derived.Laws.BytesArg
import Derived.Lib.AppendStr
namespace Go.Proofs.YtnoioimphcmeiaaGreatDoor
open Go.RowKit

def frArgs : Nat → List Value → Fr
  | _, [] => []
  | i, v :: r => (i, v) :: frArgs (i + 1) r

theorem frArgs_get : ∀ (i : Nat) (l : List Value) (s : Nat) (v : Value), fget (frArgs i l) s = some v → i ≤ s ∧ l[s - i]? = some v
  | i, [], s, v, h => by simp [frArgs, fget] at h
  | i, u :: r, s, v, h => by
    by_cases hs : i = s
    · subst hs
      have : u = v := by simpa [frArgs, fget] using h
      simp [this]
    · have hb : Nat.beq i s = false := nbeq_ne hs
      have h' : fget (frArgs (i + 1) r) s = some v := by simpa [frArgs, fget, hb] using h
      obtain ⟨h1, h2⟩ := frArgs_get (i + 1) r s v h'
      refine ⟨by omega, ?_⟩
      rw [show s - i = (s - (i + 1)) + 1 by omega, List.getElem?_cons_succ]
      exact h2

/-- What the results hold. -/
def resF (P : Program) (f : Fr) (w : World) : List ResultVar → List Value → Prop
  | [], [] => True
  | .tmp t :: r, v :: vs => fget f t = some v ∧ resF P f w r vs
  | .cell a ty :: r, v :: vs => (∃ A, fget f a = some (.pointer (some A)) ∧ (loadVar ty A).run P w = .ok v w) ∧ resF P f w r vs
  | _, _ => False

def packF : List Value → Value
  | [v] => v
  | vs => .tuple vs.toArray

def bodyF (P : Program) (n : Nat) (fn : Func) (R : Value → World → Prop) : Post := fun e f ds w =>
  match e with
  | .ret | .normal => ds = [] ∧ ∃ vs, resF P f w fn.results.toList vs ∧ R (packF vs) w
  | _ => False

section
variable {P : Program} {n : Nat} {N : Nxt} {Q : Post} {f : Fr} {ds : List Deferred} {w w' : World}
variable {d : Nat} {x y : Operand} {t yt ty : TypeId} {pos : String} {af : Array Edge} {g : Option (Nat × Bool)}

theorem run_asAddr {A : Addr} : (asAddr (.pointer (some A))).run P w = .ok A w := rfl
theorem run_results_list {a : Act} (ha : Of n f a) : ∀ (l : List ResultVar) (vs : List Value), resF P f w l vs →
    (l.mapM (m := Sem) fun (rv : ResultVar) => match rv with
      | .tmp t => pure (a.tmps.getD t undef)
      | .cell b t => do loadVar t (← asAddr (a.tmps.getD b undef))).run P w = .ok vs w
  | [], [], _ => by simp
  | [], _ :: _, h => h.elim
  | .tmp t :: r, [], h => h.elim
  | .cell _ _ :: r, [], h => h.elim
  | .tmp t :: r, v :: vs, ⟨h1, h2⟩ => by
    have hv : a.tmps.getD t undef = v := ha.ev (x := .tmp t) h1
    have ih := run_results_list ha r vs h2
    simp only [List.mapM_cons, Sem.run_bind, Sem.run_pure, Result.andThen_ok, hv]
    rw [ih]
    simp
  | .cell b ty :: r, v :: vs, ⟨⟨A, h1, h3⟩, h2⟩ => by
    have hv : a.tmps.getD b undef = .pointer (some A) := ha.ev (x := .tmp b) h1
    have ih := run_results_list ha r vs h2
    simp only [List.mapM_cons, Sem.run_bind, Sem.run_pure, Result.andThen_ok, hv, run_asAddr, h3]
    rw [ih]
    simp

theorem run_results {a : Act} {fn : Func} {vs : List Value} (ha : Of n f a) (h : resF P f w fn.results.toList vs) : (results fn a.tmps).run P w = .ok (packF vs) w := by
  have hl := run_results_list (P := P) (w := w) ha fn.results.toList vs h
  unfold results
  rw [Sem.run_bind]
  have e : (fn.results.mapM (m := Sem) fun (rv : ResultVar) => match rv with
      | .tmp t => pure (a.tmps.getD t undef)
      | .cell b t => do loadVar t (← asAddr (a.tmps.getD b undef))).run P w = .ok vs.toArray w := by
    rw [Array.mapM_eq_mapM_toList, Sem.run_map, hl]
    simp
  erw [e]
  simp only [Result.andThen_ok, Sem.run_pure]
  congr 1
  cases vs with
  | nil => simp [packF]
  | cons v r => cases r <;> simp [packF]

theorem F_enter {k : FuncId} {fn : Func} {c : Code} {args : List Value} {R : Value → World → Prop} (hf : P.funcs[k]? = some fn) (hn : fn.ntmps = n) (hl : Nat.ble args.length n = true) (hb : fn.body = some c) (h : wpF P n c (bodyF P n fn R) (frArgs 0 args) [] w) : Ret P k args w R := by
  have hl' : args.length ≤ n := Nat.le_of_ble_eq_true hl
  refine calls_of_wp hf hb ?_
  have hof : Of n (frArgs 0 args) { tmps := args.toArray ++ Array.replicate (fn.ntmps - args.toArray.size) undef, defers := [] } := by
    refine ⟨by simp [hn]; omega, fun s v hv => ?_⟩
    obtain ⟨_, h2⟩ := frArgs_get 0 args s v hv
    have hlt : s < args.length := by
      rcases Nat.lt_or_ge s args.length with hl | hl
      · exact hl
      · rw [Nat.sub_zero, List.getElem?_eq_none hl] at h2; cases h2
    rw [Array.getElem?_append_left (by simpa using hlt)]
    simpa using h2
  refine wp_mono (h _ hof rfl) ?_
  rintro e a w' ⟨f', hof', hq⟩
  cases e with
  | ret =>
    obtain ⟨hd, vs, hr, hR⟩ := hq
    exact ⟨hd, _, run_results hof' hr, _, rfl, hR⟩
  | normal =>
    obtain ⟨hd, vs, hr, hR⟩ := hq
    exact ⟨hd, _, run_results hof' hr, _, rfl, hR⟩
  | _ => exact hq.elim

theorem F_ret1 {fn : Func} {R : Value → World → Prop} {r : Nat} {v : Value} (hr : fn.results = #[.tmp r]) (hv : fget f r = some v) (h : R v w) : bodyF P n fn R .ret f [] w := ⟨rfl, [v], by rw [hr]; exact ⟨hv, trivial⟩, h⟩
theorem F_ret2 {fn : Func} {R : Value → World → Prop} {r s : Nat} {v u : Value} (hr : fn.results = #[.tmp r, .tmp s]) (hv : fget f r = some v) (hu : fget f s = some u) (h : R (.tuple #[v, u]) w) : bodyF P n fn R .ret f [] w := ⟨rfl, [v, u], by rw [hr]; exact ⟨hv, hu, trivial⟩, h⟩
theorem F_ret3 {fn : Func} {R : Value → World → Prop} {r s q : Nat} {v u z : Value} (hr : fn.results = #[.tmp r, .tmp s, .tmp q]) (hv : fget f r = some v) (hu : fget f s = some u) (hz : fget f q = some z) (h : R (.tuple #[v, u, z]) w) : bodyF P n fn R .ret f [] w := ⟨rfl, [v, u, z], by rw [hr]; exact ⟨hv, hu, hz, trivial⟩, h⟩
theorem F_ret0 {fn : Func} {R : Value → World → Prop} (hr : fn.results = #[]) (h : R (.tuple #[]) w) : bodyF P n fn R .ret f [] w := ⟨rfl, [], by rw [hr]; trivial, h⟩
theorem F_end0 {fn : Func} {R : Value → World → Prop} (hr : fn.results = #[]) (h : R (.tuple #[]) w) : bodyF P n fn R .normal f [] w := ⟨rfl, [], by rw [hr]; trivial, h⟩
/-- Results of whatever kind. -/
theorem F_ret {fn : Func} {R : Value → World → Prop} {rs : List ResultVar} (vs : List Value) (hr : fn.results = rs.toArray) (hv : resF P f w rs vs) (h : R (packF vs) w) : bodyF P n fn R .ret f [] w := ⟨rfl, vs, by rw [hr]; exact hv, h⟩

theorem run_loadVar_struct {b off m : Nat} {cs : List Value} (hs : structT P t m = true) (hr : Row w b off cs) (hm : cs.length = m) : (loadVar t ⟨b, off, none⟩).run P w = .ok (.agg cs.toArray) w := by
  subst hm
  have hl := run_loadCells_list (P := P) w ⟨b, off, none⟩ cs (fun j v hv => by rw [Addr.add_lit]; exact hr j v hv)
  simp [loadVar, (run_isAgg_struct (w := w) hs).1, (run_isAgg_struct (w := w) hs).2, hl]
theorem run_loadVar_scalar {A : Addr} {v : Value} (hs : scalarT P t = true) (hc : w.cell? A = some v) : (loadVar t A).run P w = .ok v w := by
  simp [loadVar, run_isAgg_scalar hs, run_load, hc]

/-- A byte as a value. -/
def bv (b : UInt8) : Value := .int .u8 (b.toNat : Int)
theorem bv_one (l : List UInt8) : ∀ u ∈ l.map bv, u.oneCell' = true := fun u hu => by
  obtain ⟨b, _, rfl⟩ := List.mem_map.1 hu
  rfl
theorem bv_ofNat {x : Nat} (h : x < 256) : (.int .u8 (x : Int) : Value) = bv (UInt8.ofNat x) := by
  simp only [bv, UInt8.toNat_ofNat']
  rw [Nat.mod_eq_of_lt h]
/-- A text out of bytes. -/
def str (l : List UInt8) : ByteArray := ⟨l.toArray⟩
theorem str_size (l : List UInt8) : (str l).size = l.length := by simp [str, ByteArray.size]
theorem str_inj {a b : List UInt8} (h : str a = str b) : a = b := by
  have := congrArg (fun s : ByteArray => s.data.toList) h
  simpa [str] using this
theorem str_append (a b : List UInt8) : str a ++ str b = str (a ++ b) := by
  simp only [str]
  apply ByteArray.ext
  simp
theorem str_cut {bs : List UInt8} {i j : Nat} : (str bs).extract i j = str ((bs.take j).drop i) := by
  apply ByteArray.ext
  simp only [str, ByteArray.data_extract]
  apply Array.ext'
  simp [List.extract_eq_take_drop, List.drop_take]
theorem str_idx {bs : List UInt8} {i : Nat} {c : UInt8} (h : bs[i]? = some c) : (str bs).data.toList[i]? = some c := by simpa [str] using h
theorem str_eta (s : ByteArray) : str s.data.toList = s := by cases s; simp [str]

theorem S_bytesStr {e len cap : Nat} {A : Option Addr} {l : List UInt8} (hu : P.underlying t = some (.slice e)) (he : P.underlying e = some (.int .u8)) (hd : P.underlying yt = some .string) (hx : ev f x = some (.slice A len cap)) (hr : SlR w A (l.map bv)) (hl : l.length = len)
    (h : N ((d, .string (str l)) :: f) ds w) (hn : Nat.blt d n = true := by rfl) : opF P n ⟨some d, .convert t yt x, ty, pos, af, g⟩ N Q f ds w :=
  S_val (fun a ha => by
    have hrun : (convert t yt (.slice A len cap)).run P w = .ok (.string (str l)) w := by
      rcases hr with hr | ⟨b, off, rfl, hrow⟩
      · obtain rfl : l = [] := by simpa using hr
        subst hl
        cases A with
        | none => rw [run_convert_bytes_nil w t e hu he _ _ yt hd]; rfl
        | some ad =>
          rw [run_convert_bytes_string w t yt e _ _ _ hu he hd, run_bytesToString w ad _ cap [] (by simpa using run_loadCells_list (P := P) w ad [] (by simp))]
          rfl
      · have := run_convert_bytes_arg (P := P) w t e hu he b off len cap (l.map fun b => (b.toNat : Int)) (by simpa using hl) (fun i hi => by
          have hv : (l.map bv)[i]? = some (bv l[i]) := by simp [hl ▸ hi]
          rw [hrow i _ hv, bv]
          have hi' : i < l.length := by omega
          simp [List.getD, List.getElem?_eq_getElem hi']) yt hd
        rw [this]
        congr 2
        simp only [strOfNums, List.map_map, str]
        congr 2
        have : ((fun n : Int => UInt8.ofNat n.toNat) ∘ fun b : UInt8 => (b.toNat : Int)) = id := by
          funext b; simp
        rw [this, List.map_id]
    simp [execOp, ha.ev hx, hrun]) h rfl hn

theorem strCells_eq (s : ByteArray) : Lib.strCells s = s.data.toList.map bv := rfl

/-- append(b, s...), s a text. -/
theorem S_appendT {tt ts : TypeId} {e base len : Nat} {v : Value} {xs : List Value} {s : ByteArray} (hu : P.underlying tt = some (.slice e)) (hs : P.underlying ts = some .string) (hi : tinfo P e = some (some (.int .u8 0), 1, 1)) (hx : ev f x = some v) (hown : w.ownsRow base e 1 v len xs) (hy : ev f y = some (.string s)) (hbase : base ≤ w.heap.size) (h63 : len + s.size ≤ 140737488355328)
    (h : ∀ v' w', w'.ownsRow base e 1 v' (len + s.size) (xs ++ s.data.toList.map bv) → Mv (OwnOf v) w w' → N ((d, v') :: f) ds w') (hn : Nat.blt d n = true := by rfl) :
    opF P n ⟨some d, .call { callee := .builtin .append, args := #[x, y], argTypes := #[tt, ts] }, ty, pos, af, g⟩ N Q f ds w := by
  obtain ⟨i, hi1, hi2, hi3, hi4⟩ := tinfo_parts hi
  obtain ⟨v', w', hrun, h1, h2, _⟩ := Lib.run_append_own_string (P := P) w base tt ts ty e i hu hs hi1 hi2 hi3 hi4 v len xs hown s (by unfold maxLen; omega) h63 hbase
  rw [strCells_eq] at h1
  exact S_val (fun a ha => by simp [execOp, resolve, invoke, builtin, ha.ev hx, ha.ev hy, hrun]) (h v' w' h1 (Mv.ofGrown h2)) rfl hn

/-- copy onto a slice of one's own, of the same length. -/
theorem S_copyFull {tt ts : TypeId} {e m base b len c : Nat} {A : Option Addr} {xs news : List Value} (hu : P.underlying tt = some (.slice e)) (hs : csz P e m) (hx : ev f x = some (.slice (some ⟨b, 0, none⟩) len len)) (hown : w.ownsRow base e m (.slice (some ⟨b, 0, none⟩) len len) len xs) (hy : ev f y = some (.slice A len c)) (hr : SlR w A news) (hl : news.length = len * m) (hone : ∀ u ∈ news, u.oneCell' = true)
    (h : ∀ w', w'.ownsRow base e m (.slice (some ⟨b, 0, none⟩) len len) len news → Mv (At b) w w' → N ((d, .int .i64 len) :: f) ds w') (hn : Nat.blt d n = true := by rfl) :
    opF P n ⟨some d, .call { callee := .builtin .copy, args := #[x, y], argTypes := #[tt, ts] }, ty, pos, af, g⟩ N Q f ds w := by
  obtain ⟨i, hi, him⟩ := Option.map_eq_some_iff.1 hs
  have hold := hown
  obtain ⟨h1, h2⟩ := hown
  rcases h2 with ⟨hv, _⟩ | ⟨gg, cap, cur, hv, hg, hh, hnc, hcm, hcs, ht⟩
  · cases hv
  · cases hv
    have hload : (Builtin.firstCells m len (.slice A len c)).run P w = .ok news.toArray w := by
      rcases hr with rfl | ⟨b', off, rfl, hrow⟩
      · have h0 : len * m = 0 := by simpa using hl.symm
        cases A with
        | none => simp [Builtin.firstCells]
        | some ad => simpa [Builtin.firstCells, h0] using run_loadCells_list (P := P) w ad [] (by simp)
      · have := run_loadCells_list (P := P) w ⟨b', off, none⟩ news (fun j v hv => by rw [Addr.add_lit]; exact hrow j v hv)
        simpa [Builtin.firstCells, hl] using this
    have hst := run_storeCells_at (P := P) b 0 e news 0 cur w hh (by rw [hl, hcs]; omega) hone
    simp only [Nat.add_zero, List.take_zero, List.nil_append, Nat.zero_add] at hst
    refine S_val (v := .int .i64 len) (w' := w.setRow b (news ++ cur.toList.drop news.length).toArray) (fun a ha => ?_) (h _ ?_ ?_) rfl hn
    · simp [execOp, resolve, invoke, builtin, ha.ev hx, ha.ev hy, Builtin.copy_, run_underlying hu, Builtin.lenOf, sizeOf, typeInfo, hi, him, hload, hst, goInt]
    · refine ⟨hl, .inr ⟨b, len, _, rfl, hg, setRow_heap w b cur _ e _ hh, Nat.le_refl _, hcm, ?_, ?_⟩⟩
      · simp; rw [hl, hcs]; omega
      · rw [← hl]; simp
    · exact ⟨rfl, rfl, rfl, by simp, fun k _ hk => setRow_other w b k _ hk⟩

/-- '[]T{x}', x one cell. -/
theorem S_buildSlice1 {e by_ : Nat} {z v : Value} (hu : P.underlying t = some (.slice e)) (hi : tinfo P e = some (some z, 1, by_)) (hz : z.cells.size = 1) (hx : ev f x = some v) (hone : v.oneCell' = true)
    (h : ∀ b w', Blk w' b [v] e → Mv No w w' → w.heap.size ≤ b → N ((d, .slice (some ⟨b, 0, none⟩) 1 1) :: f) ds w') (hn : Nat.blt d n = true := by rfl) : opF P n ⟨some d, .buildSlice t 1 #[(0, x)], ty, pos, af, g⟩ N Q f ds w := by
  obtain ⟨i, hi1, hi2, hi3, hi4⟩ := tinfo_parts hi
  have hvc : v.cells = #[v] := by cases v <;> first | rfl | simp [Value.oneCell'] at hone
  refine S_val (w' := w.alloc (.cells #[v] e)) (v := .slice (some ⟨w.heap.size, 0, none⟩) 1 1) (fun a ha => ?_) (h w.heap.size _ (Blk.new w [v] e) (Mv.alloc w _) (Nat.le_refl _)) rfl hn
  have hfill : ∀ c : Value, Instr.fill (fun i => some (i, 1)) #[c] [(0, v)] = some #[v] := fun c => by simp [Instr.fill, hvc]
  have hr : (Array.map (fun x => z.cells[x % z.cells.size]!) (Array.range 1)) = #[z.cells[0]!] := by
    apply Array.ext <;> simp [hz]
  simp [execOp, ha.ev hx, Instr.buildSlice, run_underlying hu, sizeOf, typeInfo, hi1, hi2, hi3, zeroValue, newRow]
  rw [hr, hfill]
  simp

/-- Of a struct type: its zero cells, and where the named fields lie (each one cell). -/
def buildInfo (P : Program) (t : TypeId) (ix : List Nat) : Option (List Value × List Nat) :=
  match P.underlying t, P.info? t with
  | some (.struct _), some i => match i.zero with
    | some z => match ix.mapM fun j => (match P.underlying t with | some (.struct fs) => (fs[j]?).bind fun fd => (P.info? fd.type).bind fun inf => if inf.size = 1 then some fd.offset else none | _ => none) with
      | some offs => bif offs.all (fun o => Nat.blt o z.cells.size) && (match P.underlying t with | some (.struct fs) => fs.toList.all (fun fd => (P.info? fd.type).isSome) | _ => false) then some (z.cells.toList, offs) else none
      | none => none
    | none => none
  | _, _ => none

def setAll : List Value → List Nat → List Value → List Value
  | zs, o :: os, v :: vs => setAll (zs.set o v) os vs
  | zs, _, _ => zs

theorem setAll_length : ∀ (zs : List Value) (os : List Nat) (vs : List Value), (setAll zs os vs).length = zs.length
  | _, [], [] => by simp [setAll]
  | _, [], _ :: _ => by simp [setAll]
  | _, _ :: _, [] => by simp [setAll]
  | zs, o :: os, v :: vs => by simp [setAll, setAll_length _ os vs]

theorem one_cells {v : Value} (h : v.oneCell' = true) : v.cells = #[v] := by cases v <;> first | rfl | simp [Value.oneCell'] at h

theorem fill_build (places : Nat → Option (Nat × Nat)) : ∀ (ix : List Nat) (os : List Nat) (vs : List Value) (cells : Array Value), ix.length = vs.length → (∀ v ∈ vs, v.oneCell' = true) → ix.map places = os.map (fun o => some (o, 1)) → (∀ o ∈ os, o < cells.size) →
    Instr.fill places cells (ix.zip vs) = some (setAll cells.toList os vs).toArray
  | [], os, [], cells, _, _, hp, _ => by
    cases os with
    | nil => simp [Instr.fill, setAll]
    | cons o os => simp at hp
  | [], _, _ :: _, _, hl, _, _, _ => by simp at hl
  | _ :: _, _, [], _, hl, _, _, _ => by simp at hl
  | j :: ix, os, v :: vs, cells, hl, h1, hp, ho => by
    cases os with
    | nil => simp at hp
    | cons o os =>
      simp only [List.map_cons, List.cons.injEq] at hp
      have hv := one_cells (h1 v (by simp))
      have hlt := ho o (by simp)
      have ih := fill_build places ix os vs (cells.setIfInBounds o v) (by simpa using hl) (fun u hu => h1 u (by simp [hu])) hp.2 (fun o' ho' => by simpa using ho o' (by simp [ho']))
      simp only [List.zip_cons_cons, Instr.fill, hp.1, hv, List.size_toArray, List.length_singleton]
      rw [if_neg (by simp; omega)]
      have e : (Array.zipIdx #[v]).foldl (fun cs (x : Value × Nat) => cs.setIfInBounds (o + x.2) x.1) cells = cells.setIfInBounds o v := by simp
      simp only [Array.zipIdx] at e ih ⊢
      erw [e, ih]
      simp [setAll]

def partsF {α : Type} : Nat → List α → List (Nat × α)
  | _, [] => []
  | k, x :: r => (k, x) :: partsF (k + 1) r
theorem partsF_map {α β : Type} (g : α → β) : ∀ (k : Nat) (l : List α), (partsF k l).map (fun p => (p.1, g p.2)) = partsF k (l.map g)
  | _, [] => rfl
  | k, x :: r => by simp [partsF, partsF_map g (k + 1) r]
theorem fill_parts : ∀ (vs : List Value) (k : Nat) (cells : Array Value), (∀ v ∈ vs, v.oneCell' = true) → cells.size = k + vs.length →
    Instr.fill (fun i => some (i, 1)) cells (partsF k vs) = some (cells.toList.take k ++ vs).toArray
  | [], k, cells, _, hs => by
    simp only [partsF, Instr.fill, List.append_nil]
    rw [List.take_of_length_le (by simp at hs; simp; omega)]
  | v :: vs, k, cells, h1, hs => by
    have hv := one_cells (h1 v (by simp))
    have hk : k < cells.size := by simp at hs; omega
    have ih := fill_parts vs (k + 1) (cells.setIfInBounds k v) (fun u hu => h1 u (by simp [hu])) (by simp at hs ⊢; omega)
    simp only [partsF, Instr.fill, hv]
    simp only [List.size_toArray, List.length_singleton]
    rw [if_neg (by simp; omega)]
    have e : (Array.zipIdx #[v]).foldl (fun cs (x : Value × Nat) => cs.setIfInBounds (k + x.2) x.1) cells = cells.setIfInBounds k v := by simp
    simp only [Array.zipIdx] at e ih ⊢
    erw [e, ih]
    congr 1
    have e3 : (cells.setIfInBounds k v).toList.take (k + 1) = cells.toList.take k ++ [v] := by
      simp only [Array.toList_setIfInBounds]
      rw [List.take_succ_eq_append_getElem (by simpa using hk), List.take_set_of_le (Nat.le_refl k)]
      simp
    rw [e3]
    simp

/-- '[]T{x0, x1, ..}', each one cell. -/
theorem S_buildSliceN {e by_ m : Nat} {z : Value} {l : List Operand} {vs : List Value} (hu : P.underlying t = some (.slice e)) (hi : tinfo P e = some (some z, 1, by_)) (hl : evs f l = some vs) (hone : ∀ v ∈ vs, v.oneCell' = true) (hm : l.length = m) (hpos : 0 < m) (hm24 : m ≤ 16777216)
    (h : ∀ b w', Blk w' b vs e → Mv No w w' → w.heap.size ≤ b → N ((d, .slice (some ⟨b, 0, none⟩) m m) :: f) ds w') (hn : Nat.blt d n = true := by rfl) : opF P n ⟨some d, .buildSlice t m (partsF 0 l).toArray, ty, pos, af, g⟩ N Q f ds w := by
  obtain ⟨i, hi1, hi2, hi3, hi4⟩ := tinfo_parts hi
  refine S_val (w' := w.alloc (.cells vs.toArray e)) (v := .slice (some ⟨w.heap.size, 0, none⟩) m m) (fun a ha => ?_) (h w.heap.size _ (Blk.new w vs e) (Mv.alloc w _) (Nat.le_refl _)) rfl hn
  have hvs := ha.evs hl
  have hlen : vs.length = m := by rw [← hvs]; simpa using hm
  have hp : (partsF 0 l).map (fun x => (x.1, a.eval x.2)) = partsF 0 vs := by rw [partsF_map, hvs]
  have hfill := fill_parts vs 0 ((Array.range m).map fun x => z.cells[x % z.cells.size]!) hone (by simp [hlen])
  simp only [List.take_zero, List.nil_append] at hfill
  have h24 : ¬ 16777216 < m := by omega
  have hm0 : m ≠ 0 := by omega
  simp only [execOp, Instr.buildSlice, Sem.run_bind, run_underlying hu, Result.andThen_ok]
  simp [sizeOf, typeInfo, hi1, hi3, h24, hm0, zeroValue, hi2, hp, hfill, newRow]

/-- A struct written out, its named fields one cell each. -/
theorem P_buildC {ix : List Nat} {l : List Operand} {vs zs : List Value} {offs : List Nat} (hbi : buildInfo P t ix = some (zs, offs)) (hl : evs f l = some vs) (hone : ∀ v ∈ vs, v.oneCell' = true) (hil : ix.length = l.length) : PureV P n ⟨some d, .build t (ix.zip l).toArray, ty, pos, af, g⟩ f (.agg (setAll zs offs vs).toArray) := fun a ha w => by
  unfold buildInfo at hbi
  split at hbi
  · rename_i fs i hu hi
    split at hbi
    · rename_i z hz
      split at hbi
      · rename_i os hos
        cases hcond : (os.all (fun o => Nat.blt o z.cells.size) && (match P.underlying t with | some (.struct fs) => fs.toList.all (fun fd => (P.info? fd.type).isSome) | _ => false)) with
        | true =>
          rw [hcond] at hbi
          simp only [cond_true, Option.some.injEq, Prod.mk.injEq] at hbi
          obtain ⟨rfl, rfl⟩ := hbi
          simp only [hu] at hos hcond
          simp only [Bool.and_eq_true] at hcond
          obtain ⟨hall, hsz⟩ := hcond
          have hvs := ha.evs hl
          have hplaces : (fs.mapM (m := Sem) fun fd => do pure (fd.offset, ← sizeOf fd.type)).run P w = .ok (fs.map fun fd => (fd.offset, ((P.info? fd.type).map (·.size)).getD 0)) w := by
            rw [Array.mapM_eq_mapM_toList, Sem.run_map]
            have : ∀ l : List Field, (l.all fun fd => (P.info? fd.type).isSome) = true → (l.mapM (m := Sem) fun fd => do pure (fd.offset, ← sizeOf fd.type)).run P w = .ok (l.map fun fd => (fd.offset, ((P.info? fd.type).map (·.size)).getD 0)) w := by
              intro l
              induction l with
              | nil => intro _; simp
              | cons fd l ih =>
                intro hl
                simp only [List.all_cons, Bool.and_eq_true] at hl
                obtain ⟨inf, hinf⟩ := Option.isSome_iff_exists.1 hl.1
                have ih' := ih hl.2
                simp only [List.mapM_cons, Sem.run_bind, Sem.run_pure, sizeOf, typeInfo, run_program, Result.andThen_ok, hinf]
                simp only [sizeOf, typeInfo] at ih'
                rw [ih']
                simp [hinf]
            rw [this _ hsz]
            simp
            exact Array.ext' (by simp)
          have hmap : ix.map (fun j => (fs.map fun fd => (fd.offset, ((P.info? fd.type).map (·.size)).getD 0))[j]?) = os.map (fun o => some (o, 1)) := by
            clear hil hall
            induction ix generalizing os with
            | nil => simp at hos; subst hos; rfl
            | cons j ix ih =>
              simp only [List.mapM_cons, Option.bind_eq_bind, Option.bind_eq_some_iff, Option.pure_def, Option.some.injEq] at hos
              obtain ⟨o, ho, os', hos', rfl⟩ := hos
              obtain ⟨fd, hfd, inf, hinf, hif⟩ := ho
              split at hif
              · rename_i h1
                obtain rfl := Option.some.inj hif
                simp only [List.map_cons]
                rw [ih _ hos']
                simp [hfd, hinf, h1]
              · cases hif
          have hfill := fill_build (fun j => (fs.map fun fd => (fd.offset, ((P.info? fd.type).map (·.size)).getD 0))[j]?) ix os vs z.cells (by rw [← hvs]; simpa using hil) hone hmap (fun o ho => by simpa using (List.all_eq_true.1 hall) o ho)
          have hparts : ((ix.zip l).toArray.map fun (x : Nat × Operand) => (x.1, a.eval x.2)).toList = ix.zip vs := by
            rw [← hvs, List.zip_map_right]; simp
          simp only [execOp, Sem.run_bind, Instr.build, zeroValue, typeInfo, run_program, Result.andThen_ok, hi, hz, Sem.run_pure, run_underlying hu]
          rw [hplaces]
          simp only [Result.andThen_ok]
          rw [hparts, hfill]
          simp
        | false => rw [hcond] at hbi; cases hbi
      · cases hbi
    · cases hbi
  · cases hbi

end
end Go.Proofs.YtnoioimphcmeiaaGreatDoor
