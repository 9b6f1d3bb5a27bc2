/- Texts of this claim, joined by a program: SSort, SPut, SPlaces, SPutI, SDel, SDrop. -/
import Derived.Test.YtnoioimphcmeiaaGreatDoorK3
set_option linter.unusedVariables false
set_option linter.unusedSimpArgs false
namespace Go.Proofs.YtnoioimphcmeiaaGreatDoor
open Go.RowKit
set_option maxRecDepth 20000
set_option maxHeartbeats 1000000

/-- The order of names. -/
def ltN (a b : List UInt8) : Bool := Op.bytesLess (str a).toList (str b).toList
section
variable {α : Type}
/-- Where a thing is put: behind the last that it is not below. -/
def plc (lt : α → α → Bool) (x : α) (l : List α) : Nat → Nat
  | 0 => 0
  | n + 1 => if (l[n]?.any fun y => lt x y) = true then plc lt x l n else n + 1
def insB (lt : α → α → Bool) (x : α) (l : List α) : List α := l.take (plc lt x l l.length) ++ x :: l.drop (plc lt x l l.length)
def y6 (lt : α → α → Bool) (l : List α) : List α := l.foldl (fun out x => insB lt x out) []
theorem plc_le (lt : α → α → Bool) (x : α) (l : List α) : ∀ n, plc lt x l n ≤ n
  | 0 => Nat.le_refl _
  | n + 1 => by
    have := plc_le lt x l n
    unfold plc
    split <;> omega
theorem insB_len (lt : α → α → Bool) (x : α) (l : List α) : (insB lt x l).length = l.length + 1 := by
  have := plc_le lt x l l.length
  unfold insB
  rw [List.length_append, List.length_cons, List.length_take, List.length_drop]
  omega
theorem sortI_snoc (lt : α → α → Bool) (l : List α) (x : α) : y6 lt (l ++ [x]) = insB lt x (y6 lt l) := by
  unfold y6; rw [List.foldl_append]; rfl
theorem ZK (lt : α → α → Bool) (l : List α) : (y6 lt l).length = l.length := by
  have key : ∀ (l acc : List α), (l.foldl (fun out x => insB lt x out) acc).length = acc.length + l.length := by
    intro l
    induction l with
    | nil => intro acc; rfl
    | cons x r ih => intro acc; rw [List.foldl_cons, ih, insB_len, List.length_cons]; omega
  have := key l []
  simpa [y6] using this
theorem mem_insB {lt : α → α → Bool} {x y : α} {l : List α} (h : y ∈ insB lt x l) : y = x ∨ y ∈ l := by
  unfold insB at h
  rcases List.mem_append.1 h with h | h
  · exact .inr (List.mem_of_mem_take h)
  · rcases List.mem_cons.1 h with h | h
    · exact .inl h
    · exact .inr (List.mem_of_mem_drop h)
theorem mem_sortI {lt : α → α → Bool} {y : α} {l : List α} (h : y ∈ y6 lt l) : y ∈ l := by
  have key : ∀ (l acc : List α), y ∈ l.foldl (fun out x => insB lt x out) acc → y ∈ acc ∨ y ∈ l := by
    intro l
    induction l with
    | nil => intro acc h; exact .inl h
    | cons x r ih =>
      intro acc h
      rw [List.foldl_cons] at h
      rcases ih _ h with h | h
      · rcases mem_insB h with h | h
        · exact .inr (by rw [h]; exact List.mem_cons_self ..)
        · exact .inl h
      · exact .inr (List.mem_cons_of_mem _ h)
  rcases key l [] h with h | h
  · simp at h
  · exact h
theorem map_insB {β : Type} {lt : α → α → Bool} {lt' : β → β → Bool} {g : α → β} (hg : ∀ a b, lt a b = lt' (g a) (g b)) (x : α) (l : List α) : (insB lt x l).map g = insB lt' (g x) (l.map g) := by
  have hp : ∀ n, plc lt x l n = plc lt' (g x) (l.map g) n := by
    intro n
    induction n with
    | zero => rfl
    | succ n ih =>
      unfold plc
      rw [ih, List.getElem?_map]
      have : (l[n]?.any fun y => lt x y) = ((l[n]?.map g).any fun y => lt' (g x) y) := by cases l[n]? <;> simp [hg]
      rw [this]
  unfold insB
  rw [List.length_map, ← hp, List.map_append, List.map_cons, List.map_take, List.map_drop]
theorem map_sortI {β : Type} {lt : α → α → Bool} {lt' : β → β → Bool} {g : α → β} (hg : ∀ a b, lt a b = lt' (g a) (g b)) (l : List α) : (y6 lt l).map g = y6 lt' (l.map g) := by
  have key : ∀ (l acc : List α), (l.foldl (fun out x => insB lt x out) acc).map g = (l.map g).foldl (fun out x => insB lt' x out) (acc.map g) := by
    intro l
    induction l with
    | nil => intro acc; rfl
    | cons x r ih => intro acc; rw [List.foldl_cons, ih, map_insB hg, List.map_cons, List.foldl_cons]
  exact key l []
theorem splice_take {cs vs : List Value} {o n : Nat} (h : o + vs.length ≤ n) (hc : o + vs.length ≤ cs.length) : (ZA cs o vs).take n = ZA (cs.take n) o vs := by
  unfold ZA
  have h1 : (cs.take o ++ vs).length = o + vs.length := by rw [List.length_append, List.length_take]; omega
  rw [List.take_append, h1, List.take_of_length_le (by omega), List.take_take, Nat.min_eq_left (by omega), List.drop_take]
theorem cellsL_splice {f : α → List Value} {m : Nat} (h : ∀ a, (f a).length = m) (l : List α) (i : Nat) (a : α) (hi : i < l.length) : ZA (zI f l) (i * m) (f a) = zI f (l.set i a) := by
  unfold ZA
  rw [h, show i * m + m = (i + 1) * m by rw [Nat.add_mul, Nat.one_mul], cellsL_take h, Yh h, List.set_eq_take_append_cons_drop, if_pos hi, yT, Yg, List.append_assoc]
theorem splice_len {cs vs : List Value} {o : Nat} (hc : o + vs.length ≤ cs.length) : (ZA cs o vs).length = cs.length := by
  unfold ZA
  simp only [List.length_append, List.length_take, List.length_drop]
  omega
end
section
variable {P : Program} {n : Nat} {N : Nxt} {Q : Post} {f : Fr} {ds : List Deferred} {w : World}
variable {d : Nat} {x y : Operand} {t ty : TypeId} {pos : String} {af : Array Edge} {g : Option (Nat × Bool)}
/-- A function value that says which of two things comes first. -/
def FnC (P : Program) (fv : Value) {α : Type} (cells : α → List Value) (lt : α → α → Bool) : Prop :=
  ∃ (k : FuncId) (first captured : List Value), fv = .func (.func k) first.toArray captured.toArray ∧ zA P k = true ∧
    ∀ (w : World) (x y : α), Ret P k (first ++ [.agg (cells x).toArray, .agg (cells y).toArray] ++ captured) w fun v w' => ∃ c : Int, v = .int .i64 c ∧ decide (c < 0) = lt x y ∧ Mv No w w'
theorem S_callC {fv : Value} {α : Type} {cells : α → List Value} {lt : α → α → Bool} {c : Operand} {l : List Operand} {ats : Array TypeId} {x y : α} {β : Bool} (hp : FnC P fv cells lt) (hβ : lt x y = β) (hf : ev f c = some fv) (hl : evs f l = some [.agg (cells x).toArray, .agg (cells y).toArray]) (h : ∀ (q : Int) w', decide (q < 0) = β → Mv No w w' → N ((d, .int .i64 q) :: f) ds w') (hn : Nat.blt d n = true := by rfl) :
    opF P n ⟨some d, .call { callee := .value c, args := l.toArray, argTypes := ats }, ty, pos, af, g⟩ N Q f ds w := by
  obtain ⟨k, a, b, rfl, h2, h3⟩ := hp
  exact S_callv h2 hf hl (h3 w x y) (fun v w' ⟨q, hv, hq, hw⟩ => by subst hv; subst hβ; exact h q w' hq hw) hn
/-- A store of a struct into a slice of one's own. -/
theorem Zc {α : Type} {cells : α → List Value} {m b i p len c base by_ : Nat} {e : TypeId} {z : Option Value} {xs : List α} {a : α} (hcl : ∀ a, (cells a).length = m) (hs : Zm P t = some (z, m, by_)) (hx : ev f x = some (.pointer (some ⟨b, p, none⟩))) (hp : p = i * m) (hv : ev f y = some (.agg (cells a).toArray)) (h1 : ∀ v ∈ cells a, v.oneCell' = true)
    (ho : w.ownsRow base e m (.slice (some ⟨b, 0, none⟩) len c) len (zI cells xs)) (hlen : xs.length = len) (hi : i < len)
    (h : ∀ w', w'.ownsRow base e m (.slice (some ⟨b, 0, none⟩) len c) len (zI cells (xs.set i a)) → Mv (At b) w w' → N f ds w') : opF P n ⟨none, .store t x y, ty, pos, af, g⟩ N Q f ds w := by
  subst hp
  obtain ⟨b', cs, hA, hb, hblk, hlc, hcm, hcs, ht⟩ := Ym ho (by omega)
  cases hA
  have hle : i * m + m ≤ len * m := by
    have := Nat.mul_le_mul_right m (show i + 1 ≤ len from hi)
    rwa [Nat.add_mul, Nat.one_mul] at this
  have hle2 := Nat.mul_le_mul_right m hlc
  refine zw hs hx hv h1 (hcl a) hblk (by have := hcl a; omega) (fun w' hb' hm' => h w' ?_ hm')
  refine own_mk hb hb' hlc hcm (by rw [splice_len (by rw [hcl]; omega), hcs]) ?_
  rw [splice_take (by rw [hcl]; omega) (by rw [hcl]; omega), ht]
  exact cellsL_splice hcl xs i a (by omega)
end
theorem mvAt {b : Nat} {w1 w2 w3 : World} (h : Mv (At b) w1 w2) (k : Mv (At b) w2 w3) : Mv (At b) w1 w3 := h.trans k fun _ _ h => h
theorem own_at {α : Type} {cells : α → List Value} {m b len c base : Nat} {e : TypeId} {w : World} (hcl : ∀ a, (cells a).length = m) {xs : List α} {i : Nat} {a : α} (ho : w.ownsRow base e m (.slice (some ⟨b, 0, none⟩) len c) len (zI cells xs)) (ha : xs[i]? = some a) : Row w b (0 + i * m) (cells a) := by
  rcases (yW ho).1 with h | ⟨b', o, hA, hr⟩
  · have h1 := yB hcl xs
    rw [h] at h1
    have hi := (List.getElem?_eq_some_iff.1 ha).1
    have h2 : xs.length * m = 0 := h1.symm
    rcases Nat.mul_eq_zero.1 h2 with h3 | h3
    · omega
    · have : cells a = [] := List.eq_nil_of_length_eq_zero (by rw [hcl, h3])
      rw [this]; exact Row.nil
  · cases hA
    exact cellsL_row hcl hr ha
section
variable {w : World}
theorem nan_ret (s : ByteArray) : Ret Tryz.prog 99 [.string s] w fun v w' => v = .bool false ∧ Mv No w w' := by
  refine zN Tryz.func99 Tryz.ntmps99 rfl rfl ?_
  refine zf (zb (L (S (zd rfl) (zg (zc (zf (zb (L (S (za rfl) (L (S (za rfl) ?_)))))))))))
  refine L (S (Z4 rfl rfl (decide_eq_false (fun h => h rfl))) ?_)
  refine L (S (zd rfl) (zg (zc (zy ?_))))
  refine zC Tryz.results99 rfl ?_
  exact ⟨rfl, Mv.refl w⟩
theorem compare_ret (a b : List UInt8) : Ret Tryz.prog 61 [.string (str a), .string (str b)] w fun v w' => ∃ c : Int, v = .int .i64 c ∧ decide (c < 0) = ltN a b ∧ Mv No w w' := by
  refine zN Tryz.func61 Tryz.ntmps61 rfl rfl ?_
  cases hlt : ltN a b with
  | true =>
    refine zf (zb (L (S (zd rfl) (zg (zc (zf (zb (L (S (za rfl) ?_)))))))))
    refine L (zq cb_99 rfl ((nan_ret _)) ?_)
    rintro _ w1 ⟨rfl, hm1⟩
    refine L (S (zd rfl) (zg (zc (zf (zb (L (S (za rfl) ?_)))))))
    refine L (zq cb_99 rfl ((nan_ret _)) ?_)
    rintro _ w2 ⟨rfl, hm2⟩
    refine L (S (zd rfl) (zg (zc (zf (zf (zb (L (S (za rfl) (zg (zc (zk rfl (zo (zc (zf (zf (zb (L (S (za rfl) (zg (zc (zk rfl (zo (zc (zf (zf (zb ?_))))))))))))))))))))))))))
    refine L (S (za rfl) (L (S (za rfl) ?_)))
    refine L (S (P_ltT rfl rfl hlt) ?_)
    refine zg (zc (zr rfl (zf (zb (L (S (zd rfl) (zg (zc (zy (zm ?_))))))))))
    refine zC Tryz.results61 rfl ?_
    exact ⟨_, rfl, rfl, hm1.no hm2⟩
  | false =>
    cases hgt : !(Op.bytesLess (str a).toList (str b).toList || (str a).toList == (str b).toList) with
    | true =>
      refine zf (zb (L (S (zd rfl) (zg (zc (zf (zb (L (S (za rfl) ?_)))))))))
      refine L (zq cb_99 rfl ((nan_ret _)) ?_)
      rintro _ w1 ⟨rfl, hm1⟩
      refine L (S (zd rfl) (zg (zc (zf (zb (L (S (za rfl) ?_)))))))
      refine L (zq cb_99 rfl ((nan_ret _)) ?_)
      rintro _ w2 ⟨rfl, hm2⟩
      refine L (S (zd rfl) (zg (zc (zf (zf (zb (L (S (za rfl) (zg (zc (zk rfl (zo (zc (zf (zf (zb (L (S (za rfl) (zg (zc (zk rfl (zo (zc (zf (zf (zb ?_))))))))))))))))))))))))))
      refine L (S (za rfl) (L (S (za rfl) ?_)))
      refine L (S (P_ltT rfl rfl hlt) ?_)
      refine zg (zc (zk rfl (zo (zc (zf (zf (zb (L (S (za rfl) (L (S (za rfl) ?_)))))))))))
      refine L (S (P_gtT rfl rfl hgt) ?_)
      refine zg (zc (zr rfl (zf (zb (L (S (zd rfl) (zg (zc (zy (zm ?_))))))))))
      refine zC Tryz.results61 rfl ?_
      exact ⟨_, rfl, rfl, hm1.no hm2⟩
    | false =>
      refine zf (zb (L (S (zd rfl) (zg (zc (zf (zb (L (S (za rfl) ?_)))))))))
      refine L (zq cb_99 rfl ((nan_ret _)) ?_)
      rintro _ w1 ⟨rfl, hm1⟩
      refine L (S (zd rfl) (zg (zc (zf (zb (L (S (za rfl) ?_)))))))
      refine L (zq cb_99 rfl ((nan_ret _)) ?_)
      rintro _ w2 ⟨rfl, hm2⟩
      refine L (S (zd rfl) (zg (zc (zf (zf (zb (L (S (za rfl) (zg (zc (zk rfl (zo (zc (zf (zf (zb (L (S (za rfl) (zg (zc (zk rfl (zo (zc (zf (zf (zb ?_))))))))))))))))))))))))))
      refine L (S (za rfl) (L (S (za rfl) ?_)))
      refine L (S (P_ltT rfl rfl hlt) ?_)
      refine zg (zc (zk rfl (zo (zc (zf (zf (zb (L (S (za rfl) (L (S (za rfl) ?_)))))))))))
      refine L (S (P_gtT rfl rfl hgt) ?_)
      refine zg (zc (zk rfl (zo (zc (zf (zb (L (S (zd rfl) (zg (zc (zy ?_)))))))))))
      refine zC Tryz.results61 rfl ?_
      exact ⟨_, rfl, rfl, hm1.no hm2⟩
theorem tab_cmp : FnC Tryz.prog (.func (.func 60) #[] #[]) yA (fun x y => ltN x.name y.name) := by
  refine ⟨_, [], [], rfl, cb_60, fun w2 x y => ?_⟩
  show Ret _ _ [.agg (yA x).toArray, .agg (yA y).toArray] w2 _
  refine zN Tryz.func60 Tryz.ntmps60 rfl rfl ?_
  refine zf (zb ?_)
  refine L (Zl rfl ?_)
  rintro b1 w1 hb1 hm1 hn1
  refine L (Zl rfl ?_)
  rintro b3 w3 hb3 hm3 hn3
  refine L (S (zd rfl) (zg (zc (zf (zb (L (S (ze yG rfl) ?_)))))))
  refine L (zi yc rfl ((hb1.no hm3).cell (i := 0) rfl) ?_)
  refine L (S (ze yG rfl) ?_)
  refine L (zi yc rfl (hb3.cell (i := 0) rfl) ?_)
  refine L (zq cb_61 rfl ((compare_ret x.name y.name)) ?_)
  rintro _ w4 ⟨c, rfl, hc, hm4⟩
  refine L (S (zd rfl) (zg (zc (zy ?_))))
  refine zC Tryz.results60 rfl ?_
  exact ⟨c, rfl, hc, (hm1.no hm3).no hm4⟩
theorem insTab_ret {xs : List Tab} {b c n base : Nat} (hn : xs.length = n) (h0 : 0 < n) (hl : n ≤ 1000) (ho : w.ownsRow base 27 5 (.slice (some ⟨b, 0, none⟩) n c) n (zI yA xs)) {fv : Value} {lt : Tab → Tab → Bool} (hf : FnC Tryz.prog fv yA lt) : Ret Tryz.prog 117 [.slice (some ⟨b, 0, none⟩) n c, .int .i64 0, .int .i64 (n : Int), fv] w fun _ w' => w'.ownsRow base 27 5 (.slice (some ⟨b, 0, none⟩) n c) n (zI yA (y6 lt xs)) ∧ Mv (At b) w w' := by
  refine zN Tryz.func117 Tryz.ntmps117 rfl rfl ?_
  refine zf (zb (L (S (za rfl) ?_)))
  refine L (S (zT rfl rfl (z1 (c := ((1 : Nat) : Int)) (by omega))) ?_)
  refine L (S (zd rfl) (zg (zc (zx ?_))))
  refine yF (γ := Nat) (fun i => [(0, .slice (some ⟨b, 0, none⟩) n c), (1, .int .i64 0), (2, .int .i64 (n : Int)), (3, fv), (8, .int .i64 (i : Int))]) (fun i wr => 1 ≤ i ∧ i ≤ n ∧ wr.ownsRow base 27 5 (.slice (some ⟨b, 0, none⟩) n c) n (zI yA (y6 lt (xs.take i) ++ xs.drop i)) ∧ Mv (At b) w wr) (fun i => n - i) 1 (.cons rfl (.cons rfl (.cons rfl (.cons rfl (.cons rfl (.nil _)))))) ⟨Nat.le_refl _, h0, ?_, Mv.refl w⟩ ?_
  · have e : y6 lt (xs.take 1) ++ xs.drop 1 = xs := by
      cases xs with
      | nil => rfl
      | cons x r => rfl
    rw [e]; exact ho
  rintro i wr ⟨h1, hi, hor, hmr⟩
  by_cases hlt : i < n
  · have ha := List.getElem?_eq_getElem (show i < xs.length by omega)
    generalize xs[i] = x at ha
    have hsl : (y6 lt (xs.take i)).length = i := by rw [ZK, List.length_take]; omega
    have hsn : y6 lt (xs.take (i + 1)) = insB lt x (y6 lt (xs.take i)) := by rw [yY ha, sortI_snoc]
    rw [drop_at ha] at hor
    have hrl : (xs.drop (i + 1)).length = n - (i + 1) := by rw [List.length_drop, hn]
    generalize y6 lt (xs.take i) = out at *
    obtain ⟨rest, hrest⟩ : ∃ r, r = xs.drop (i + 1) := ⟨_, rfl⟩
    rw [← hrest] at hor hrl
    refine zf (zf (zb (L (S (za rfl) (L (S (za rfl) ?_))))))
    refine L (S (zG rfl rfl (decide_eq_true (by omega))) ?_)
    refine zg (zc (zr rfl (zo (zc (zf (zx (zf (zb (L (S (za rfl) (L (S (zd rfl) (zg (zc (zx ?_)))))))))))))))
    refine yF (γ := Nat) (fun j => [(0, .slice (some ⟨b, 0, none⟩) n c), (1, .int .i64 0), (2, .int .i64 (n : Int)), (3, fv), (8, .int .i64 (i : Int)), (9, .int .i64 (j : Int))]) (fun j wq => j ≤ i ∧ wq.ownsRow base 27 5 (.slice (some ⟨b, 0, none⟩) n c) n (zI yA (out.take j ++ x :: out.drop j ++ rest)) ∧ plc lt x out i = plc lt x out j ∧ Mv (At b) w wq) (fun j => j) i (.cons rfl (.cons rfl (.cons rfl (.cons rfl (.cons rfl (.cons rfl (.nil _))))))) ⟨Nat.le_refl _, ?_, rfl, hmr⟩ ?_
    · rw [List.take_of_length_le (by omega), List.drop_eq_nil_of_le (by omega), List.append_assoc]; exact hor
    rintro j wq ⟨hj, hoq, hp, hmq⟩
    have hdone : plc lt x out j = j → wq.ownsRow base 27 5 (.slice (some ⟨b, 0, none⟩) n c) n (zI yA (insB lt x out ++ rest)) := fun h => by
      unfold insB
      rw [hsl, hp, h]; exact hoq
    rcases Nat.eq_zero_or_pos j with rfl | hj0
    · refine zf (zf ?_)
      refine yP 17 mixed rfl (fun hH => ?_)
      refine zp (i := 0) rfl (PureV.toS (za rfl)) ?_ (by assumption) (by decide +kernel) (by decide +kernel) (by decide +kernel) (fun _ _ _ _ h => h) rfl rfl rfl
      refine zp (i := 1) rfl (PureV.toS (za rfl)) ?_ (by assumption) (by decide +kernel) (by decide +kernel) (by decide +kernel) (fun _ _ _ _ h => h) rfl rfl rfl
      refine zp (i := 2) rfl (PureV.toS (yp rfl rfl (decide_eq_false (by omega)))) ?_ (by assumption) (by decide +kernel) (by decide +kernel) (by decide +kernel) (fun _ _ _ _ h => h) rfl rfl rfl
      refine zp (i := 3) rfl (PureV.toS (za rfl)) ?_ (by assumption) (by decide +kernel) (by decide +kernel) (by decide +kernel) (fun _ _ _ _ h => h) rfl rfl rfl
      refine ym (i := 4) (j := 3) (dj := 21) (b := true) (b' := false) rfl rfl ?_ (by assumption) (by decide +kernel) (by decide +kernel) (by decide +kernel) (fun _ _ _ _ h => h) rfl rfl rfl rfl rfl
      refine ym (i := 5) (j := 3) (dj := 21) (b := true) (b' := false) rfl rfl ?_ (by assumption) (by decide +kernel) (by decide +kernel) (by decide +kernel) (fun _ _ _ _ h => h) rfl rfl rfl rfl rfl
      refine ym (i := 6) (j := 3) (dj := 21) (b := true) (b' := false) rfl rfl ?_ (by assumption) (by decide +kernel) (by decide +kernel) (by decide +kernel) (fun _ _ _ _ h => h) rfl rfl rfl rfl rfl
      refine ym (i := 7) (j := 3) (dj := 21) (b := true) (b' := false) rfl rfl ?_ (by assumption) (by decide +kernel) (by decide +kernel) (by decide +kernel) (fun _ _ _ _ h => h) rfl rfl rfl rfl rfl
      refine ym (i := 8) (j := 3) (dj := 21) (b := true) (b' := false) rfl rfl ?_ (by assumption) (by decide +kernel) (by decide +kernel) (by decide +kernel) (fun _ _ _ _ h => h) rfl rfl rfl rfl rfl
      refine ym (i := 9) (j := 3) (dj := 21) (b := true) (b' := false) rfl rfl ?_ (by assumption) (by decide +kernel) (by decide +kernel) (by decide +kernel) (fun _ _ _ _ h => h) rfl rfl rfl rfl rfl
      refine ym (i := 10) (j := 3) (dj := 21) (b := true) (b' := false) rfl rfl ?_ (by assumption) (by decide +kernel) (by decide +kernel) (by decide +kernel) (fun _ _ _ _ h => h) rfl rfl rfl rfl rfl
      refine ym (i := 11) (j := 3) (dj := 21) (b := true) (b' := false) rfl rfl ?_ (by assumption) (by decide +kernel) (by decide +kernel) (by decide +kernel) (fun _ _ _ _ h => h) rfl rfl rfl rfl rfl
      refine ym (i := 12) (j := 3) (dj := 21) (b := true) (b' := false) rfl rfl ?_ (by assumption) (by decide +kernel) (by decide +kernel) (by decide +kernel) (fun _ _ _ _ h => h) rfl rfl rfl rfl rfl
      refine ym (i := 13) (j := 3) (dj := 21) (b := true) (b' := false) rfl rfl ?_ (by assumption) (by decide +kernel) (by decide +kernel) (by decide +kernel) (fun _ _ _ _ h => h) rfl rfl rfl rfl rfl
      refine ym (i := 14) (j := 3) (dj := 21) (b := true) (b' := false) rfl rfl ?_ (by assumption) (by decide +kernel) (by decide +kernel) (by decide +kernel) (fun _ _ _ _ h => h) rfl rfl rfl rfl rfl
      refine ym (i := 15) (j := 3) (dj := 21) (b := true) (b' := false) rfl rfl ?_ (by assumption) (by decide +kernel) (by decide +kernel) (by decide +kernel) (fun _ _ _ _ h => h) rfl rfl rfl rfl rfl
      refine zp (i := 16) rfl (PureV.toS (zj rfl rfl)) ?_ (by assumption) (by decide +kernel) (by decide +kernel) (by decide +kernel) (fun _ _ _ _ h => h) rfl rfl rfl
      refine yZ (by decide +kernel) ?_
      refine zc (zk rfl (yn (zL (zL (yK (yj (zc (zb (L (S (za rfl) ?_))))))))))
      refine L (S (zT rfl rfl (z1 (c := ((i + 1 : Nat) : Int)) (by omega))) ?_)
      refine L (S (zd rfl) (zg (zc ?_)))
      exact ⟨rfl, i + 1, (.cons rfl (.cons rfl (.cons rfl (.cons rfl (.cons rfl (.nil _)))))), ⟨by omega, by omega, by rw [hsn, ← hrest]; exact zE (hdone rfl) hH, hmq.no hH⟩, by omega⟩
    obtain ⟨k, rfl⟩ : ∃ k, j = k + 1 := ⟨j - 1, by omega⟩
    have hy := List.getElem?_eq_getElem (show k < out.length by omega)
    generalize out[k] = y at hy
    have htk := yY hy
    have hdr := drop_at hy
    have hpl : plc lt x out (k + 1) = if lt x y = true then plc lt x out k else k + 1 := by
      rw [show plc lt x out (k + 1) = if (out[k]?.any fun y => lt x y) = true then plc lt x out k else k + 1 from rfl, hy]; rfl
    have hL : (out.take (k + 1)).length = k + 1 := by rw [List.length_take]; omega
    have hLk : (out.take k).length = k := by rw [List.length_take]; omega
    have hgx : (out.take (k + 1) ++ x :: out.drop (k + 1) ++ rest)[k + 1]? = some x := by
      rw [List.append_assoc, List.getElem?_append_right (by omega), hL, Nat.sub_self]; rfl
    have hgy : (out.take (k + 1) ++ x :: out.drop (k + 1) ++ rest)[k]? = some y := by
      rw [List.append_assoc, List.getElem?_append_left (by omega), List.getElem?_take_of_lt (by omega)]; exact hy
    have hrx := own_at yI hoq hgx
    have hry := own_at yI hoq hgy
    have hlen : (out.take (k + 1) ++ x :: out.drop (k + 1) ++ rest).length = n := by
      simp only [List.length_append, List.length_cons, List.length_take, List.length_drop, hrl]
      omega
    have hset : ((out.take (k + 1) ++ x :: out.drop (k + 1) ++ rest).set (k + 1) y).set k x = out.take k ++ x :: out.drop k ++ rest := by
      rw [htk, hdr]
      simp [List.set_append, hLk]
    cases hxy : lt x y with
    | false =>
      rw [hxy, if_neg (by decide)] at hpl
      refine zf (zf ?_)
      refine yP 17 mixed rfl (fun hH => ?_)
      refine zp (i := 0) rfl (PureV.toS (za rfl)) ?_ (by assumption) (by decide +kernel) (by decide +kernel) (by decide +kernel) (fun _ _ _ _ h => h) rfl rfl rfl
      refine zp (i := 1) rfl (PureV.toS (za rfl)) ?_ (by assumption) (by decide +kernel) (by decide +kernel) (by decide +kernel) (fun _ _ _ _ h => h) rfl rfl rfl
      refine zp (i := 2) rfl (PureV.toS (yp rfl rfl (decide_eq_true (by omega)))) ?_ (by assumption) (by decide +kernel) (by decide +kernel) (by decide +kernel) (fun _ _ _ _ h => h) rfl rfl rfl
      refine zp (i := 3) rfl (PureV.toS (za rfl)) ?_ (by assumption) (by decide +kernel) (by decide +kernel) (by decide +kernel) (fun _ _ _ _ h => h) rfl rfl rfl
      refine zz (i := 4) (j := 3) (dj := 21) (b := true) rfl (PureV.toS (za rfl)) rfl ?_ (by assumption) (by decide +kernel) (by decide +kernel) (by decide +kernel) (fun _ _ _ _ h => h) rfl rfl rfl rfl
      refine zz (i := 5) (j := 3) (dj := 21) (b := true) rfl (PureV.toS (za rfl)) rfl ?_ (by assumption) (by decide +kernel) (by decide +kernel) (by decide +kernel) (fun _ _ _ _ h => h) rfl rfl rfl rfl
      refine zz (i := 6) (j := 3) (dj := 21) (b := true) rfl (PureV.toS (za rfl)) rfl ?_ (by assumption) (by decide +kernel) (by decide +kernel) (by decide +kernel) (fun _ _ _ _ h => h) rfl rfl rfl rfl
      refine zz (i := 7) (j := 3) (dj := 21) (b := true) rfl (PureV.toS (zn Tryz.underlying34 (zD yl) rfl rfl (j := k + 1) rfl (by omega) (p := 0 + (k + 1) * 5) rfl)) rfl ?_ (by assumption) (by decide +kernel) (by decide +kernel) (by decide +kernel) (fun _ _ _ _ h => h) rfl rfl rfl rfl
      refine zz (i := 8) (j := 3) (dj := 21) (b := true) rfl (yE Zo rfl (fun _ h => hrx.no h) rfl) rfl ?_ (by assumption) (by decide +kernel) (by decide +kernel) (by decide +kernel) (fun _ _ _ _ h => h) rfl rfl rfl rfl
      refine zz (i := 9) (j := 3) (dj := 21) (b := true) rfl (PureV.toS (za rfl)) rfl ?_ (by assumption) (by decide +kernel) (by decide +kernel) (by decide +kernel) (fun _ _ _ _ h => h) rfl rfl rfl rfl
      refine zz (i := 10) (j := 3) (dj := 21) (b := true) rfl (PureV.toS (za rfl)) rfl ?_ (by assumption) (by decide +kernel) (by decide +kernel) (by decide +kernel) (fun _ _ _ _ h => h) rfl rfl rfl rfl
      refine zz (i := 11) (j := 3) (dj := 21) (b := true) rfl (PureV.toS (Zd rfl rfl (z1 (c := ((k : Nat) : Int)) (by omega)))) rfl ?_ (by assumption) (by decide +kernel) (by decide +kernel) (by decide +kernel) (fun _ _ _ _ h => h) rfl rfl rfl rfl
      refine zz (i := 12) (j := 3) (dj := 21) (b := true) rfl (PureV.toS (zn Tryz.underlying34 (zD yl) rfl rfl (j := k) rfl (by omega) (p := 0 + k * 5) rfl)) rfl ?_ (by assumption) (by decide +kernel) (by decide +kernel) (by decide +kernel) (fun _ _ _ _ h => h) rfl rfl rfl rfl
      refine zz (i := 13) (j := 3) (dj := 21) (b := true) rfl (yE Zo rfl (fun _ h => hry.no h) rfl) rfl ?_ (by assumption) (by decide +kernel) (by decide +kernel) (by decide +kernel) (fun _ _ _ _ h => h) rfl rfl rfl rfl
      refine Ze (i := 14) (H_yes (j := 3) (dj := 21) (b := true) rfl rfl (S_callC hf hxy rfl rfl ?_)) (by decide +kernel)
      rintro q w2 hq hm2
      refine yh (by first | assumption | exact Mv.no (by assumption) (by assumption)) (fun hH => ?_)
      refine zz (i := 15) (j := 3) (dj := 21) (b := true) rfl (PureV.toS (zG rfl rfl (decide_eq_false (of_decide_eq_false hq)))) rfl ?_ (by assumption) (by decide +kernel) (by decide +kernel) (by decide +kernel) (fun _ _ _ _ h => h) rfl rfl rfl rfl
      refine zp (i := 16) rfl (PureV.toS (zt rfl rfl)) ?_ (by assumption) (by decide +kernel) (by decide +kernel) (by decide +kernel) (fun _ _ _ _ h => h) rfl rfl rfl
      refine yZ (by decide +kernel) ?_
      refine zc (zk rfl (yn (zL (zL (yK (yj (zc (zb (L (S (za rfl) ?_))))))))))
      refine L (S (zT rfl rfl (z1 (c := ((i + 1 : Nat) : Int)) (by omega))) ?_)
      refine L (S (zd rfl) (zg (zc ?_)))
      exact ⟨rfl, i + 1, (.cons rfl (.cons rfl (.cons rfl (.cons rfl (.cons rfl (.nil _)))))), ⟨by omega, by omega, by rw [hsn, ← hrest]; exact zE (hdone hpl) hH, hmq.no hH⟩, by omega⟩
    | true =>
      rw [hxy, if_pos rfl] at hpl
      refine zf (zf ?_)
      refine yP 17 mixed rfl (fun hH => ?_)
      refine zp (i := 0) rfl (PureV.toS (za rfl)) ?_ (by assumption) (by decide +kernel) (by decide +kernel) (by decide +kernel) (fun _ _ _ _ h => h) rfl rfl rfl
      refine zp (i := 1) rfl (PureV.toS (za rfl)) ?_ (by assumption) (by decide +kernel) (by decide +kernel) (by decide +kernel) (fun _ _ _ _ h => h) rfl rfl rfl
      refine zp (i := 2) rfl (PureV.toS (yp rfl rfl (decide_eq_true (by omega)))) ?_ (by assumption) (by decide +kernel) (by decide +kernel) (by decide +kernel) (fun _ _ _ _ h => h) rfl rfl rfl
      refine zp (i := 3) rfl (PureV.toS (za rfl)) ?_ (by assumption) (by decide +kernel) (by decide +kernel) (by decide +kernel) (fun _ _ _ _ h => h) rfl rfl rfl
      refine zz (i := 4) (j := 3) (dj := 21) (b := true) rfl (PureV.toS (za rfl)) rfl ?_ (by assumption) (by decide +kernel) (by decide +kernel) (by decide +kernel) (fun _ _ _ _ h => h) rfl rfl rfl rfl
      refine zz (i := 5) (j := 3) (dj := 21) (b := true) rfl (PureV.toS (za rfl)) rfl ?_ (by assumption) (by decide +kernel) (by decide +kernel) (by decide +kernel) (fun _ _ _ _ h => h) rfl rfl rfl rfl
      refine zz (i := 6) (j := 3) (dj := 21) (b := true) rfl (PureV.toS (za rfl)) rfl ?_ (by assumption) (by decide +kernel) (by decide +kernel) (by decide +kernel) (fun _ _ _ _ h => h) rfl rfl rfl rfl
      refine zz (i := 7) (j := 3) (dj := 21) (b := true) rfl (PureV.toS (zn Tryz.underlying34 (zD yl) rfl rfl (j := k + 1) rfl (by omega) (p := 0 + (k + 1) * 5) rfl)) rfl ?_ (by assumption) (by decide +kernel) (by decide +kernel) (by decide +kernel) (fun _ _ _ _ h => h) rfl rfl rfl rfl
      refine zz (i := 8) (j := 3) (dj := 21) (b := true) rfl (yE Zo rfl (fun _ h => hrx.no h) rfl) rfl ?_ (by assumption) (by decide +kernel) (by decide +kernel) (by decide +kernel) (fun _ _ _ _ h => h) rfl rfl rfl rfl
      refine zz (i := 9) (j := 3) (dj := 21) (b := true) rfl (PureV.toS (za rfl)) rfl ?_ (by assumption) (by decide +kernel) (by decide +kernel) (by decide +kernel) (fun _ _ _ _ h => h) rfl rfl rfl rfl
      refine zz (i := 10) (j := 3) (dj := 21) (b := true) rfl (PureV.toS (za rfl)) rfl ?_ (by assumption) (by decide +kernel) (by decide +kernel) (by decide +kernel) (fun _ _ _ _ h => h) rfl rfl rfl rfl
      refine zz (i := 11) (j := 3) (dj := 21) (b := true) rfl (PureV.toS (Zd rfl rfl (z1 (c := ((k : Nat) : Int)) (by omega)))) rfl ?_ (by assumption) (by decide +kernel) (by decide +kernel) (by decide +kernel) (fun _ _ _ _ h => h) rfl rfl rfl rfl
      refine zz (i := 12) (j := 3) (dj := 21) (b := true) rfl (PureV.toS (zn Tryz.underlying34 (zD yl) rfl rfl (j := k) rfl (by omega) (p := 0 + k * 5) rfl)) rfl ?_ (by assumption) (by decide +kernel) (by decide +kernel) (by decide +kernel) (fun _ _ _ _ h => h) rfl rfl rfl rfl
      refine zz (i := 13) (j := 3) (dj := 21) (b := true) rfl (yE Zo rfl (fun _ h => hry.no h) rfl) rfl ?_ (by assumption) (by decide +kernel) (by decide +kernel) (by decide +kernel) (fun _ _ _ _ h => h) rfl rfl rfl rfl
      refine Ze (i := 14) (H_yes (j := 3) (dj := 21) (b := true) rfl rfl (S_callC hf hxy rfl rfl ?_)) (by decide +kernel)
      rintro q w2 hq hm2
      refine yh (by first | assumption | exact Mv.no (by assumption) (by assumption)) (fun hH => ?_)
      refine zz (i := 15) (j := 3) (dj := 21) (b := true) rfl (PureV.toS (zG rfl rfl (decide_eq_true (of_decide_eq_true hq)))) rfl ?_ (by assumption) (by decide +kernel) (by decide +kernel) (by decide +kernel) (fun _ _ _ _ h => h) rfl rfl rfl rfl
      refine zp (i := 16) rfl (PureV.toS (zt rfl rfl)) ?_ (by assumption) (by decide +kernel) (by decide +kernel) (by decide +kernel) (fun _ _ _ _ h => h) rfl rfl rfl
      refine yZ (by decide +kernel) ?_
      refine zc (zr rfl (zo (zc (zf (zx ?_)))))
      have ho2 := zE hoq hH
      have hrx2 := hrx.no hH
      have hry2 := hry.no hH
      refine ZT 18 mixed rfl ?_
      refine zF (i := 0) rfl (za rfl) ?_ (by decide +kernel) (by decide +kernel) (by decide +kernel) (fun _ _ _ _ h => h) rfl rfl rfl
      refine zF (i := 1) rfl (za rfl) ?_ (by decide +kernel) (by decide +kernel) (by decide +kernel) (fun _ _ _ _ h => h) rfl rfl rfl
      refine zF (i := 2) rfl (za rfl) ?_ (by decide +kernel) (by decide +kernel) (by decide +kernel) (fun _ _ _ _ h => h) rfl rfl rfl
      refine zF (i := 3) rfl (za rfl) ?_ (by decide +kernel) (by decide +kernel) (by decide +kernel) (fun _ _ _ _ h => h) rfl rfl rfl
      refine zF (i := 4) rfl (Zd rfl rfl (z1 (c := ((k : Nat) : Int)) (by omega))) ?_ (by decide +kernel) (by decide +kernel) (by decide +kernel) (fun _ _ _ _ h => h) rfl rfl rfl
      refine zF (i := 5) rfl (za rfl) ?_ (by decide +kernel) (by decide +kernel) (by decide +kernel) (fun _ _ _ _ h => h) rfl rfl rfl
      refine zF (i := 6) rfl (za rfl) ?_ (by decide +kernel) (by decide +kernel) (by decide +kernel) (fun _ _ _ _ h => h) rfl rfl rfl
      refine zF (i := 7) rfl (Zd rfl rfl (z1 (c := ((k : Nat) : Int)) (by omega))) ?_ (by decide +kernel) (by decide +kernel) (by decide +kernel) (fun _ _ _ _ h => h) rfl rfl rfl
      refine zF (i := 8) rfl (zn Tryz.underlying34 (zD yl) rfl rfl (j := k) rfl (by omega) (p := 0 + k * 5) rfl) ?_ (by decide +kernel) (by decide +kernel) (by decide +kernel) (fun _ _ _ _ h => h) rfl rfl rfl
      refine zF (i := 10) rfl (za rfl) ?_ (by decide +kernel) (by decide +kernel) (by decide +kernel) (fun _ _ _ _ h => h) rfl rfl rfl
      refine zF (i := 11) rfl (za rfl) ?_ (by decide +kernel) (by decide +kernel) (by decide +kernel) (fun _ _ _ _ h => h) rfl rfl rfl
      refine zF (i := 12) rfl (zn Tryz.underlying34 (zD yl) rfl rfl (j := k + 1) rfl (by omega) (p := 0 + (k + 1) * 5) rfl) ?_ (by decide +kernel) (by decide +kernel) (by decide +kernel) (fun _ _ _ _ h => h) rfl rfl rfl
      refine ZL (i := 9) (i2 := 13) (zS rfl (zB Zo rfl (hry2.no (Mv.refl _).drew) rfl ?_)) (zS rfl (zB Zo rfl (hrx2.no (Mv.refl _).drew) rfl ?_)) (by decide +kernel)
      · refine zO (i := 13) (zS rfl (zB Zo rfl (hrx2.no (Mv.refl _).drew) rfl ?_)) (by decide +kernel)
        refine zF (i := 14) rfl (zn Tryz.underlying34 (zD yl) rfl rfl (j := k + 1) rfl (by omega) (p := 0 + (k + 1) * 5) rfl) ?_ (by decide +kernel) (by decide +kernel) (by decide +kernel) (fun _ _ _ _ h => h) rfl rfl rfl
        refine zO (i := 15) (zS rfl (Zc (i := k + 1) yI yl rfl (by omega) rfl (yN y) (zE ho2 (Mv.refl _).drew) hlen (by omega) ?_)) (by decide +kernel)
        rintro w3 ho3 hm3
        refine zF (i := 16) rfl (zn Tryz.underlying34 (zD yl) rfl rfl (j := k) rfl (by omega) (p := 0 + k * 5) rfl) ?_ (by decide +kernel) (by decide +kernel) (by decide +kernel) (fun _ _ _ _ h => h) rfl rfl rfl
        refine zO (i := 17) (zS rfl (Zc (i := k) yI yl rfl (by omega) rfl (yN x) ho3 (by rw [List.length_set]; exact hlen) (by omega) ?_)) (by decide +kernel)
        rintro w4 ho4 hm4
        refine yH (by decide +kernel) ?_
        refine yj (zc (zb (L (S (za rfl) ?_))))
        refine L (S (Zd rfl rfl (z1 (c := ((k : Nat) : Int)) (by omega))) ?_)
        refine L (S (zd rfl) (zg (zc ?_)))
        rw [hset] at ho4
        exact ⟨rfl, k, (.cons rfl (.cons rfl (.cons rfl (.cons rfl (.cons rfl (.cons rfl (.nil _))))))), ⟨by omega, ho4, hp.trans hpl, mvAt (mvAt ((hmq.no hH).no (Mv.refl _).drew) hm3) hm4⟩, by omega⟩
      · refine zO (i := 9) (zS rfl (zB Zo rfl (hry2.no (Mv.refl _).drew) rfl ?_)) (by decide +kernel)
        refine zF (i := 14) rfl (zn Tryz.underlying34 (zD yl) rfl rfl (j := k + 1) rfl (by omega) (p := 0 + (k + 1) * 5) rfl) ?_ (by decide +kernel) (by decide +kernel) (by decide +kernel) (fun _ _ _ _ h => h) rfl rfl rfl
        refine zO (i := 15) (zS rfl (Zc (i := k + 1) yI yl rfl (by omega) rfl (yN y) (zE ho2 (Mv.refl _).drew) hlen (by omega) ?_)) (by decide +kernel)
        rintro w3 ho3 hm3
        refine zF (i := 16) rfl (zn Tryz.underlying34 (zD yl) rfl rfl (j := k) rfl (by omega) (p := 0 + k * 5) rfl) ?_ (by decide +kernel) (by decide +kernel) (by decide +kernel) (fun _ _ _ _ h => h) rfl rfl rfl
        refine zO (i := 17) (zS rfl (Zc (i := k) yI yl rfl (by omega) rfl (yN x) ho3 (by rw [List.length_set]; exact hlen) (by omega) ?_)) (by decide +kernel)
        rintro w4 ho4 hm4
        refine yH (by decide +kernel) ?_
        refine yj (zc (zb (L (S (za rfl) ?_))))
        refine L (S (Zd rfl rfl (z1 (c := ((k : Nat) : Int)) (by omega))) ?_)
        refine L (S (zd rfl) (zg (zc ?_)))
        rw [hset] at ho4
        exact ⟨rfl, k, (.cons rfl (.cons rfl (.cons rfl (.cons rfl (.cons rfl (.cons rfl (.nil _))))))), ⟨by omega, ho4, hp.trans hpl, mvAt (mvAt ((hmq.no hH).no (Mv.refl _).drew) hm3) hm4⟩, by omega⟩
  · have e : y6 lt (xs.take i) ++ xs.drop i = y6 lt xs := by rw [List.take_of_length_le (by omega), List.drop_eq_nil_of_le (by omega), List.append_nil]
    rw [e] at hor
    refine zf (zf (zb (L (S (za rfl) (L (S (za rfl) ?_))))))
    refine L (S (zG rfl rfl (decide_eq_false (by omega))) ?_)
    refine zg (zc (zk rfl (yn (zL (zL (yK ?_))))))
    refine F_end0 Tryz.results117 ?_
    exact ⟨hor, hmr⟩
theorem stableTab_ret {xs : List Tab} {b c n base : Nat} (hn : xs.length = n) (h0 : 0 < n) (hl : n ≤ 19) (ho : w.ownsRow base 27 5 (.slice (some ⟨b, 0, none⟩) n c) n (zI yA xs)) {fv : Value} {lt : Tab → Tab → Bool} (hf : FnC Tryz.prog fv yA lt) : Ret Tryz.prog 98 [.slice (some ⟨b, 0, none⟩) n c, .int .i64 (n : Int), fv] w fun _ w' => w'.ownsRow base 27 5 (.slice (some ⟨b, 0, none⟩) n c) n (zI yA (y6 lt xs)) ∧ Mv (At b) w w' := by
  refine zN Tryz.func98 Tryz.ntmps98 rfl rfl ?_
  refine zf (zb (L (S (zd rfl) (zg (zc (zf (zb (L (S (za rfl) (L (S (zd rfl) (L (S (zd rfl) (zg (zc (zf (zx ?_)))))))))))))))))
  refine yF (γ := Unit) (fun _ => [(0, .slice (some ⟨b, 0, none⟩) n c), (1, .int .i64 (n : Int)), (2, fv), (6, .int .i64 20), (7, .int .i64 0), (8, .int .i64 20)]) (fun _ wr => wr = w) (fun _ => 0) () (.cons rfl (.cons rfl (.cons rfl (.cons rfl (.cons rfl (.cons rfl (.nil _))))))) rfl ?_
  rintro _ wr rfl
  refine zf (zf (zb (L (S (za rfl) (L (S (za rfl) ?_))))))
  refine L (S (Yd rfl rfl (decide_eq_false (by omega))) ?_)
  refine zg (zc (zk rfl (yn (zL (zL (yK (zc (zf (zb (L (S (za rfl) (L (S (za rfl) (L (S (za rfl) (L (S (za rfl) ?_)))))))))))))))))
  refine L (zq cb_117 rfl ((insTab_ret hn h0 (by omega) ho hf)) ?_)
  rintro _ w2 ⟨ho2, hm2⟩
  refine zg (zc (zx ?_))
  refine yF (γ := Unit) (fun _ => [(0, .slice (some ⟨b, 0, none⟩) n c), (1, .int .i64 (n : Int)), (2, fv), (6, .int .i64 20)]) (fun _ wq => wq = w2) (fun _ => 0) () (.cons rfl (.cons rfl (.cons rfl (.cons rfl (.nil _))))) rfl ?_
  rintro _ wq rfl
  refine zf (zf (zb (L (S (za rfl) (L (S (za rfl) ?_))))))
  refine L (S (zG rfl rfl (decide_eq_false (by omega))) ?_)
  refine zg (zc (zk rfl (yn (zL (zL (yK ?_))))))
  refine F_end0 Tryz.results98 ?_
  exact ⟨ho2, hm2⟩
theorem sortTab_ret {xs : List Tab} {b c n base : Nat} (hn : xs.length = n) (h0 : 0 < n) (hl : n ≤ 19) (ho : w.ownsRow base 27 5 (.slice (some ⟨b, 0, none⟩) n c) n (zI yA xs)) {fv : Value} {lt : Tab → Tab → Bool} (hf : FnC Tryz.prog fv yA lt) : Ret Tryz.prog 59 [.slice (some ⟨b, 0, none⟩) n c, fv] w fun _ w' => w'.ownsRow base 27 5 (.slice (some ⟨b, 0, none⟩) n c) n (zI yA (y6 lt xs)) ∧ Mv (At b) w w' := by
  refine zN Tryz.func59 Tryz.ntmps59 rfl rfl ?_
  refine zb (L (S (za rfl) (L (S (za rfl) ?_))))
  refine L (S (zH Tryz.underlying34 rfl) ?_)
  refine L (S (za rfl) ?_)
  refine L (zq cb_98 rfl ((stableTab_ret hn h0 hl ho hf)) ?_)
  rintro _ w2 ⟨ho2, hm2⟩
  refine zg ?_
  refine F_end0 Tryz.results59 ?_
  exact ⟨ho2, hm2⟩
theorem idx_cmp : FnC Tryz.prog (.func (.func 69) #[] #[]) yq (fun x y => ltN x.name y.name) := by
  refine ⟨_, [], [], rfl, cb_69, fun w2 x y => ?_⟩
  show Ret _ _ [.agg (yq x).toArray, .agg (yq y).toArray] w2 _
  refine zN Tryz.func69 Tryz.ntmps69 rfl rfl ?_
  refine zf (zb ?_)
  refine L (Zl rfl ?_)
  rintro b1 w1 hb1 hm1 hn1
  refine L (Zl rfl ?_)
  rintro b3 w3 hb3 hm3 hn3
  refine L (S (zd rfl) (zg (zc (zf (zb (L (S (ze yx rfl) ?_)))))))
  refine L (zi yc rfl ((hb1.no hm3).cell (i := 0) rfl) ?_)
  refine L (S (ze yx rfl) ?_)
  refine L (zi yc rfl (hb3.cell (i := 0) rfl) ?_)
  refine L (zq cb_61 rfl ((compare_ret x.name y.name)) ?_)
  rintro _ w4 ⟨c, rfl, hc, hm4⟩
  refine L (S (zd rfl) (zg (zc (zy ?_))))
  refine zC Tryz.results69 rfl ?_
  exact ⟨c, rfl, hc, (hm1.no hm3).no hm4⟩
theorem insIdx_ret {xs : List Idx} {b c n base : Nat} (hn : xs.length = n) (h0 : 0 < n) (hl : n ≤ 1000) (ho : w.ownsRow base 30 6 (.slice (some ⟨b, 0, none⟩) n c) n (zI yq xs)) {fv : Value} {lt : Idx → Idx → Bool} (hf : FnC Tryz.prog fv yq lt) : Ret Tryz.prog 128 [.slice (some ⟨b, 0, none⟩) n c, .int .i64 0, .int .i64 (n : Int), fv] w fun _ w' => w'.ownsRow base 30 6 (.slice (some ⟨b, 0, none⟩) n c) n (zI yq (y6 lt xs)) ∧ Mv (At b) w w' := by
  refine zN Tryz.func128 Tryz.ntmps128 rfl rfl ?_
  refine zf (zb (L (S (za rfl) ?_)))
  refine L (S (zT rfl rfl (z1 (c := ((1 : Nat) : Int)) (by omega))) ?_)
  refine L (S (zd rfl) (zg (zc (zx ?_))))
  refine yF (γ := Nat) (fun i => [(0, .slice (some ⟨b, 0, none⟩) n c), (1, .int .i64 0), (2, .int .i64 (n : Int)), (3, fv), (8, .int .i64 (i : Int))]) (fun i wr => 1 ≤ i ∧ i ≤ n ∧ wr.ownsRow base 30 6 (.slice (some ⟨b, 0, none⟩) n c) n (zI yq (y6 lt (xs.take i) ++ xs.drop i)) ∧ Mv (At b) w wr) (fun i => n - i) 1 (.cons rfl (.cons rfl (.cons rfl (.cons rfl (.cons rfl (.nil _)))))) ⟨Nat.le_refl _, h0, ?_, Mv.refl w⟩ ?_
  · have e : y6 lt (xs.take 1) ++ xs.drop 1 = xs := by
      cases xs with
      | nil => rfl
      | cons x r => rfl
    rw [e]; exact ho
  rintro i wr ⟨h1, hi, hor, hmr⟩
  by_cases hlt : i < n
  · have ha := List.getElem?_eq_getElem (show i < xs.length by omega)
    generalize xs[i] = x at ha
    have hsl : (y6 lt (xs.take i)).length = i := by rw [ZK, List.length_take]; omega
    have hsn : y6 lt (xs.take (i + 1)) = insB lt x (y6 lt (xs.take i)) := by rw [yY ha, sortI_snoc]
    rw [drop_at ha] at hor
    have hrl : (xs.drop (i + 1)).length = n - (i + 1) := by rw [List.length_drop, hn]
    generalize y6 lt (xs.take i) = out at *
    obtain ⟨rest, hrest⟩ : ∃ r, r = xs.drop (i + 1) := ⟨_, rfl⟩
    rw [← hrest] at hor hrl
    refine zf (zf (zb (L (S (za rfl) (L (S (za rfl) ?_))))))
    refine L (S (zG rfl rfl (decide_eq_true (by omega))) ?_)
    refine zg (zc (zr rfl (zo (zc (zf (zx (zf (zb (L (S (za rfl) (L (S (zd rfl) (zg (zc (zx ?_)))))))))))))))
    refine yF (γ := Nat) (fun j => [(0, .slice (some ⟨b, 0, none⟩) n c), (1, .int .i64 0), (2, .int .i64 (n : Int)), (3, fv), (8, .int .i64 (i : Int)), (9, .int .i64 (j : Int))]) (fun j wq => j ≤ i ∧ wq.ownsRow base 30 6 (.slice (some ⟨b, 0, none⟩) n c) n (zI yq (out.take j ++ x :: out.drop j ++ rest)) ∧ plc lt x out i = plc lt x out j ∧ Mv (At b) w wq) (fun j => j) i (.cons rfl (.cons rfl (.cons rfl (.cons rfl (.cons rfl (.cons rfl (.nil _))))))) ⟨Nat.le_refl _, ?_, rfl, hmr⟩ ?_
    · rw [List.take_of_length_le (by omega), List.drop_eq_nil_of_le (by omega), List.append_assoc]; exact hor
    rintro j wq ⟨hj, hoq, hp, hmq⟩
    have hdone : plc lt x out j = j → wq.ownsRow base 30 6 (.slice (some ⟨b, 0, none⟩) n c) n (zI yq (insB lt x out ++ rest)) := fun h => by
      unfold insB
      rw [hsl, hp, h]; exact hoq
    rcases Nat.eq_zero_or_pos j with rfl | hj0
    · refine zf (zf ?_)
      refine yP 17 mixed rfl (fun hH => ?_)
      refine zp (i := 0) rfl (PureV.toS (za rfl)) ?_ (by assumption) (by decide +kernel) (by decide +kernel) (by decide +kernel) (fun _ _ _ _ h => h) rfl rfl rfl
      refine zp (i := 1) rfl (PureV.toS (za rfl)) ?_ (by assumption) (by decide +kernel) (by decide +kernel) (by decide +kernel) (fun _ _ _ _ h => h) rfl rfl rfl
      refine zp (i := 2) rfl (PureV.toS (yp rfl rfl (decide_eq_false (by omega)))) ?_ (by assumption) (by decide +kernel) (by decide +kernel) (by decide +kernel) (fun _ _ _ _ h => h) rfl rfl rfl
      refine zp (i := 3) rfl (PureV.toS (za rfl)) ?_ (by assumption) (by decide +kernel) (by decide +kernel) (by decide +kernel) (fun _ _ _ _ h => h) rfl rfl rfl
      refine ym (i := 4) (j := 3) (dj := 21) (b := true) (b' := false) rfl rfl ?_ (by assumption) (by decide +kernel) (by decide +kernel) (by decide +kernel) (fun _ _ _ _ h => h) rfl rfl rfl rfl rfl
      refine ym (i := 5) (j := 3) (dj := 21) (b := true) (b' := false) rfl rfl ?_ (by assumption) (by decide +kernel) (by decide +kernel) (by decide +kernel) (fun _ _ _ _ h => h) rfl rfl rfl rfl rfl
      refine ym (i := 6) (j := 3) (dj := 21) (b := true) (b' := false) rfl rfl ?_ (by assumption) (by decide +kernel) (by decide +kernel) (by decide +kernel) (fun _ _ _ _ h => h) rfl rfl rfl rfl rfl
      refine ym (i := 7) (j := 3) (dj := 21) (b := true) (b' := false) rfl rfl ?_ (by assumption) (by decide +kernel) (by decide +kernel) (by decide +kernel) (fun _ _ _ _ h => h) rfl rfl rfl rfl rfl
      refine ym (i := 8) (j := 3) (dj := 21) (b := true) (b' := false) rfl rfl ?_ (by assumption) (by decide +kernel) (by decide +kernel) (by decide +kernel) (fun _ _ _ _ h => h) rfl rfl rfl rfl rfl
      refine ym (i := 9) (j := 3) (dj := 21) (b := true) (b' := false) rfl rfl ?_ (by assumption) (by decide +kernel) (by decide +kernel) (by decide +kernel) (fun _ _ _ _ h => h) rfl rfl rfl rfl rfl
      refine ym (i := 10) (j := 3) (dj := 21) (b := true) (b' := false) rfl rfl ?_ (by assumption) (by decide +kernel) (by decide +kernel) (by decide +kernel) (fun _ _ _ _ h => h) rfl rfl rfl rfl rfl
      refine ym (i := 11) (j := 3) (dj := 21) (b := true) (b' := false) rfl rfl ?_ (by assumption) (by decide +kernel) (by decide +kernel) (by decide +kernel) (fun _ _ _ _ h => h) rfl rfl rfl rfl rfl
      refine ym (i := 12) (j := 3) (dj := 21) (b := true) (b' := false) rfl rfl ?_ (by assumption) (by decide +kernel) (by decide +kernel) (by decide +kernel) (fun _ _ _ _ h => h) rfl rfl rfl rfl rfl
      refine ym (i := 13) (j := 3) (dj := 21) (b := true) (b' := false) rfl rfl ?_ (by assumption) (by decide +kernel) (by decide +kernel) (by decide +kernel) (fun _ _ _ _ h => h) rfl rfl rfl rfl rfl
      refine ym (i := 14) (j := 3) (dj := 21) (b := true) (b' := false) rfl rfl ?_ (by assumption) (by decide +kernel) (by decide +kernel) (by decide +kernel) (fun _ _ _ _ h => h) rfl rfl rfl rfl rfl
      refine ym (i := 15) (j := 3) (dj := 21) (b := true) (b' := false) rfl rfl ?_ (by assumption) (by decide +kernel) (by decide +kernel) (by decide +kernel) (fun _ _ _ _ h => h) rfl rfl rfl rfl rfl
      refine zp (i := 16) rfl (PureV.toS (zj rfl rfl)) ?_ (by assumption) (by decide +kernel) (by decide +kernel) (by decide +kernel) (fun _ _ _ _ h => h) rfl rfl rfl
      refine yZ (by decide +kernel) ?_
      refine zc (zk rfl (yn (zL (zL (yK (yj (zc (zb (L (S (za rfl) ?_))))))))))
      refine L (S (zT rfl rfl (z1 (c := ((i + 1 : Nat) : Int)) (by omega))) ?_)
      refine L (S (zd rfl) (zg (zc ?_)))
      exact ⟨rfl, i + 1, (.cons rfl (.cons rfl (.cons rfl (.cons rfl (.cons rfl (.nil _)))))), ⟨by omega, by omega, by rw [hsn, ← hrest]; exact zE (hdone rfl) hH, hmq.no hH⟩, by omega⟩
    obtain ⟨k, rfl⟩ : ∃ k, j = k + 1 := ⟨j - 1, by omega⟩
    have hy := List.getElem?_eq_getElem (show k < out.length by omega)
    generalize out[k] = y at hy
    have htk := yY hy
    have hdr := drop_at hy
    have hpl : plc lt x out (k + 1) = if lt x y = true then plc lt x out k else k + 1 := by
      rw [show plc lt x out (k + 1) = if (out[k]?.any fun y => lt x y) = true then plc lt x out k else k + 1 from rfl, hy]; rfl
    have hL : (out.take (k + 1)).length = k + 1 := by rw [List.length_take]; omega
    have hLk : (out.take k).length = k := by rw [List.length_take]; omega
    have hgx : (out.take (k + 1) ++ x :: out.drop (k + 1) ++ rest)[k + 1]? = some x := by
      rw [List.append_assoc, List.getElem?_append_right (by omega), hL, Nat.sub_self]; rfl
    have hgy : (out.take (k + 1) ++ x :: out.drop (k + 1) ++ rest)[k]? = some y := by
      rw [List.append_assoc, List.getElem?_append_left (by omega), List.getElem?_take_of_lt (by omega)]; exact hy
    have hrx := own_at yw hoq hgx
    have hry := own_at yw hoq hgy
    have hlen : (out.take (k + 1) ++ x :: out.drop (k + 1) ++ rest).length = n := by
      simp only [List.length_append, List.length_cons, List.length_take, List.length_drop, hrl]
      omega
    have hset : ((out.take (k + 1) ++ x :: out.drop (k + 1) ++ rest).set (k + 1) y).set k x = out.take k ++ x :: out.drop k ++ rest := by
      rw [htk, hdr]
      simp [List.set_append, hLk]
    cases hxy : lt x y with
    | false =>
      rw [hxy, if_neg (by decide)] at hpl
      refine zf (zf ?_)
      refine yP 17 mixed rfl (fun hH => ?_)
      refine zp (i := 0) rfl (PureV.toS (za rfl)) ?_ (by assumption) (by decide +kernel) (by decide +kernel) (by decide +kernel) (fun _ _ _ _ h => h) rfl rfl rfl
      refine zp (i := 1) rfl (PureV.toS (za rfl)) ?_ (by assumption) (by decide +kernel) (by decide +kernel) (by decide +kernel) (fun _ _ _ _ h => h) rfl rfl rfl
      refine zp (i := 2) rfl (PureV.toS (yp rfl rfl (decide_eq_true (by omega)))) ?_ (by assumption) (by decide +kernel) (by decide +kernel) (by decide +kernel) (fun _ _ _ _ h => h) rfl rfl rfl
      refine zp (i := 3) rfl (PureV.toS (za rfl)) ?_ (by assumption) (by decide +kernel) (by decide +kernel) (by decide +kernel) (fun _ _ _ _ h => h) rfl rfl rfl
      refine zz (i := 4) (j := 3) (dj := 21) (b := true) rfl (PureV.toS (za rfl)) rfl ?_ (by assumption) (by decide +kernel) (by decide +kernel) (by decide +kernel) (fun _ _ _ _ h => h) rfl rfl rfl rfl
      refine zz (i := 5) (j := 3) (dj := 21) (b := true) rfl (PureV.toS (za rfl)) rfl ?_ (by assumption) (by decide +kernel) (by decide +kernel) (by decide +kernel) (fun _ _ _ _ h => h) rfl rfl rfl rfl
      refine zz (i := 6) (j := 3) (dj := 21) (b := true) rfl (PureV.toS (za rfl)) rfl ?_ (by assumption) (by decide +kernel) (by decide +kernel) (by decide +kernel) (fun _ _ _ _ h => h) rfl rfl rfl rfl
      refine zz (i := 7) (j := 3) (dj := 21) (b := true) rfl (PureV.toS (zn Tryz.underlying35 (zD yb) rfl rfl (j := k + 1) rfl (by omega) (p := 0 + (k + 1) * 6) rfl)) rfl ?_ (by assumption) (by decide +kernel) (by decide +kernel) (by decide +kernel) (fun _ _ _ _ h => h) rfl rfl rfl rfl
      refine zz (i := 8) (j := 3) (dj := 21) (b := true) rfl (yE Zu rfl (fun _ h => hrx.no h) rfl) rfl ?_ (by assumption) (by decide +kernel) (by decide +kernel) (by decide +kernel) (fun _ _ _ _ h => h) rfl rfl rfl rfl
      refine zz (i := 9) (j := 3) (dj := 21) (b := true) rfl (PureV.toS (za rfl)) rfl ?_ (by assumption) (by decide +kernel) (by decide +kernel) (by decide +kernel) (fun _ _ _ _ h => h) rfl rfl rfl rfl
      refine zz (i := 10) (j := 3) (dj := 21) (b := true) rfl (PureV.toS (za rfl)) rfl ?_ (by assumption) (by decide +kernel) (by decide +kernel) (by decide +kernel) (fun _ _ _ _ h => h) rfl rfl rfl rfl
      refine zz (i := 11) (j := 3) (dj := 21) (b := true) rfl (PureV.toS (Zd rfl rfl (z1 (c := ((k : Nat) : Int)) (by omega)))) rfl ?_ (by assumption) (by decide +kernel) (by decide +kernel) (by decide +kernel) (fun _ _ _ _ h => h) rfl rfl rfl rfl
      refine zz (i := 12) (j := 3) (dj := 21) (b := true) rfl (PureV.toS (zn Tryz.underlying35 (zD yb) rfl rfl (j := k) rfl (by omega) (p := 0 + k * 6) rfl)) rfl ?_ (by assumption) (by decide +kernel) (by decide +kernel) (by decide +kernel) (fun _ _ _ _ h => h) rfl rfl rfl rfl
      refine zz (i := 13) (j := 3) (dj := 21) (b := true) rfl (yE Zu rfl (fun _ h => hry.no h) rfl) rfl ?_ (by assumption) (by decide +kernel) (by decide +kernel) (by decide +kernel) (fun _ _ _ _ h => h) rfl rfl rfl rfl
      refine Ze (i := 14) (H_yes (j := 3) (dj := 21) (b := true) rfl rfl (S_callC hf hxy rfl rfl ?_)) (by decide +kernel)
      rintro q w2 hq hm2
      refine yh (by first | assumption | exact Mv.no (by assumption) (by assumption)) (fun hH => ?_)
      refine zz (i := 15) (j := 3) (dj := 21) (b := true) rfl (PureV.toS (zG rfl rfl (decide_eq_false (of_decide_eq_false hq)))) rfl ?_ (by assumption) (by decide +kernel) (by decide +kernel) (by decide +kernel) (fun _ _ _ _ h => h) rfl rfl rfl rfl
      refine zp (i := 16) rfl (PureV.toS (zt rfl rfl)) ?_ (by assumption) (by decide +kernel) (by decide +kernel) (by decide +kernel) (fun _ _ _ _ h => h) rfl rfl rfl
      refine yZ (by decide +kernel) ?_
      refine zc (zk rfl (yn (zL (zL (yK (yj (zc (zb (L (S (za rfl) ?_))))))))))
      refine L (S (zT rfl rfl (z1 (c := ((i + 1 : Nat) : Int)) (by omega))) ?_)
      refine L (S (zd rfl) (zg (zc ?_)))
      exact ⟨rfl, i + 1, (.cons rfl (.cons rfl (.cons rfl (.cons rfl (.cons rfl (.nil _)))))), ⟨by omega, by omega, by rw [hsn, ← hrest]; exact zE (hdone hpl) hH, hmq.no hH⟩, by omega⟩
    | true =>
      rw [hxy, if_pos rfl] at hpl
      refine zf (zf ?_)
      refine yP 17 mixed rfl (fun hH => ?_)
      refine zp (i := 0) rfl (PureV.toS (za rfl)) ?_ (by assumption) (by decide +kernel) (by decide +kernel) (by decide +kernel) (fun _ _ _ _ h => h) rfl rfl rfl
      refine zp (i := 1) rfl (PureV.toS (za rfl)) ?_ (by assumption) (by decide +kernel) (by decide +kernel) (by decide +kernel) (fun _ _ _ _ h => h) rfl rfl rfl
      refine zp (i := 2) rfl (PureV.toS (yp rfl rfl (decide_eq_true (by omega)))) ?_ (by assumption) (by decide +kernel) (by decide +kernel) (by decide +kernel) (fun _ _ _ _ h => h) rfl rfl rfl
      refine zp (i := 3) rfl (PureV.toS (za rfl)) ?_ (by assumption) (by decide +kernel) (by decide +kernel) (by decide +kernel) (fun _ _ _ _ h => h) rfl rfl rfl
      refine zz (i := 4) (j := 3) (dj := 21) (b := true) rfl (PureV.toS (za rfl)) rfl ?_ (by assumption) (by decide +kernel) (by decide +kernel) (by decide +kernel) (fun _ _ _ _ h => h) rfl rfl rfl rfl
      refine zz (i := 5) (j := 3) (dj := 21) (b := true) rfl (PureV.toS (za rfl)) rfl ?_ (by assumption) (by decide +kernel) (by decide +kernel) (by decide +kernel) (fun _ _ _ _ h => h) rfl rfl rfl rfl
      refine zz (i := 6) (j := 3) (dj := 21) (b := true) rfl (PureV.toS (za rfl)) rfl ?_ (by assumption) (by decide +kernel) (by decide +kernel) (by decide +kernel) (fun _ _ _ _ h => h) rfl rfl rfl rfl
      refine zz (i := 7) (j := 3) (dj := 21) (b := true) rfl (PureV.toS (zn Tryz.underlying35 (zD yb) rfl rfl (j := k + 1) rfl (by omega) (p := 0 + (k + 1) * 6) rfl)) rfl ?_ (by assumption) (by decide +kernel) (by decide +kernel) (by decide +kernel) (fun _ _ _ _ h => h) rfl rfl rfl rfl
      refine zz (i := 8) (j := 3) (dj := 21) (b := true) rfl (yE Zu rfl (fun _ h => hrx.no h) rfl) rfl ?_ (by assumption) (by decide +kernel) (by decide +kernel) (by decide +kernel) (fun _ _ _ _ h => h) rfl rfl rfl rfl
      refine zz (i := 9) (j := 3) (dj := 21) (b := true) rfl (PureV.toS (za rfl)) rfl ?_ (by assumption) (by decide +kernel) (by decide +kernel) (by decide +kernel) (fun _ _ _ _ h => h) rfl rfl rfl rfl
      refine zz (i := 10) (j := 3) (dj := 21) (b := true) rfl (PureV.toS (za rfl)) rfl ?_ (by assumption) (by decide +kernel) (by decide +kernel) (by decide +kernel) (fun _ _ _ _ h => h) rfl rfl rfl rfl
      refine zz (i := 11) (j := 3) (dj := 21) (b := true) rfl (PureV.toS (Zd rfl rfl (z1 (c := ((k : Nat) : Int)) (by omega)))) rfl ?_ (by assumption) (by decide +kernel) (by decide +kernel) (by decide +kernel) (fun _ _ _ _ h => h) rfl rfl rfl rfl
      refine zz (i := 12) (j := 3) (dj := 21) (b := true) rfl (PureV.toS (zn Tryz.underlying35 (zD yb) rfl rfl (j := k) rfl (by omega) (p := 0 + k * 6) rfl)) rfl ?_ (by assumption) (by decide +kernel) (by decide +kernel) (by decide +kernel) (fun _ _ _ _ h => h) rfl rfl rfl rfl
      refine zz (i := 13) (j := 3) (dj := 21) (b := true) rfl (yE Zu rfl (fun _ h => hry.no h) rfl) rfl ?_ (by assumption) (by decide +kernel) (by decide +kernel) (by decide +kernel) (fun _ _ _ _ h => h) rfl rfl rfl rfl
      refine Ze (i := 14) (H_yes (j := 3) (dj := 21) (b := true) rfl rfl (S_callC hf hxy rfl rfl ?_)) (by decide +kernel)
      rintro q w2 hq hm2
      refine yh (by first | assumption | exact Mv.no (by assumption) (by assumption)) (fun hH => ?_)
      refine zz (i := 15) (j := 3) (dj := 21) (b := true) rfl (PureV.toS (zG rfl rfl (decide_eq_true (of_decide_eq_true hq)))) rfl ?_ (by assumption) (by decide +kernel) (by decide +kernel) (by decide +kernel) (fun _ _ _ _ h => h) rfl rfl rfl rfl
      refine zp (i := 16) rfl (PureV.toS (zt rfl rfl)) ?_ (by assumption) (by decide +kernel) (by decide +kernel) (by decide +kernel) (fun _ _ _ _ h => h) rfl rfl rfl
      refine yZ (by decide +kernel) ?_
      refine zc (zr rfl (zo (zc (zf (zx ?_)))))
      have ho2 := zE hoq hH
      have hrx2 := hrx.no hH
      have hry2 := hry.no hH
      refine ZT 18 mixed rfl ?_
      refine zF (i := 0) rfl (za rfl) ?_ (by decide +kernel) (by decide +kernel) (by decide +kernel) (fun _ _ _ _ h => h) rfl rfl rfl
      refine zF (i := 1) rfl (za rfl) ?_ (by decide +kernel) (by decide +kernel) (by decide +kernel) (fun _ _ _ _ h => h) rfl rfl rfl
      refine zF (i := 2) rfl (za rfl) ?_ (by decide +kernel) (by decide +kernel) (by decide +kernel) (fun _ _ _ _ h => h) rfl rfl rfl
      refine zF (i := 3) rfl (za rfl) ?_ (by decide +kernel) (by decide +kernel) (by decide +kernel) (fun _ _ _ _ h => h) rfl rfl rfl
      refine zF (i := 4) rfl (Zd rfl rfl (z1 (c := ((k : Nat) : Int)) (by omega))) ?_ (by decide +kernel) (by decide +kernel) (by decide +kernel) (fun _ _ _ _ h => h) rfl rfl rfl
      refine zF (i := 5) rfl (za rfl) ?_ (by decide +kernel) (by decide +kernel) (by decide +kernel) (fun _ _ _ _ h => h) rfl rfl rfl
      refine zF (i := 6) rfl (za rfl) ?_ (by decide +kernel) (by decide +kernel) (by decide +kernel) (fun _ _ _ _ h => h) rfl rfl rfl
      refine zF (i := 7) rfl (Zd rfl rfl (z1 (c := ((k : Nat) : Int)) (by omega))) ?_ (by decide +kernel) (by decide +kernel) (by decide +kernel) (fun _ _ _ _ h => h) rfl rfl rfl
      refine zF (i := 8) rfl (zn Tryz.underlying35 (zD yb) rfl rfl (j := k) rfl (by omega) (p := 0 + k * 6) rfl) ?_ (by decide +kernel) (by decide +kernel) (by decide +kernel) (fun _ _ _ _ h => h) rfl rfl rfl
      refine zF (i := 10) rfl (za rfl) ?_ (by decide +kernel) (by decide +kernel) (by decide +kernel) (fun _ _ _ _ h => h) rfl rfl rfl
      refine zF (i := 11) rfl (za rfl) ?_ (by decide +kernel) (by decide +kernel) (by decide +kernel) (fun _ _ _ _ h => h) rfl rfl rfl
      refine zF (i := 12) rfl (zn Tryz.underlying35 (zD yb) rfl rfl (j := k + 1) rfl (by omega) (p := 0 + (k + 1) * 6) rfl) ?_ (by decide +kernel) (by decide +kernel) (by decide +kernel) (fun _ _ _ _ h => h) rfl rfl rfl
      refine ZL (i := 9) (i2 := 13) (zS rfl (zB Zu rfl (hry2.no (Mv.refl _).drew) rfl ?_)) (zS rfl (zB Zu rfl (hrx2.no (Mv.refl _).drew) rfl ?_)) (by decide +kernel)
      · refine zO (i := 13) (zS rfl (zB Zu rfl (hrx2.no (Mv.refl _).drew) rfl ?_)) (by decide +kernel)
        refine zF (i := 14) rfl (zn Tryz.underlying35 (zD yb) rfl rfl (j := k + 1) rfl (by omega) (p := 0 + (k + 1) * 6) rfl) ?_ (by decide +kernel) (by decide +kernel) (by decide +kernel) (fun _ _ _ _ h => h) rfl rfl rfl
        refine zO (i := 15) (zS rfl (Zc (i := k + 1) yw yb rfl (by omega) rfl (yz y) (zE ho2 (Mv.refl _).drew) hlen (by omega) ?_)) (by decide +kernel)
        rintro w3 ho3 hm3
        refine zF (i := 16) rfl (zn Tryz.underlying35 (zD yb) rfl rfl (j := k) rfl (by omega) (p := 0 + k * 6) rfl) ?_ (by decide +kernel) (by decide +kernel) (by decide +kernel) (fun _ _ _ _ h => h) rfl rfl rfl
        refine zO (i := 17) (zS rfl (Zc (i := k) yw yb rfl (by omega) rfl (yz x) ho3 (by rw [List.length_set]; exact hlen) (by omega) ?_)) (by decide +kernel)
        rintro w4 ho4 hm4
        refine yH (by decide +kernel) ?_
        refine yj (zc (zb (L (S (za rfl) ?_))))
        refine L (S (Zd rfl rfl (z1 (c := ((k : Nat) : Int)) (by omega))) ?_)
        refine L (S (zd rfl) (zg (zc ?_)))
        rw [hset] at ho4
        exact ⟨rfl, k, (.cons rfl (.cons rfl (.cons rfl (.cons rfl (.cons rfl (.cons rfl (.nil _))))))), ⟨by omega, ho4, hp.trans hpl, mvAt (mvAt ((hmq.no hH).no (Mv.refl _).drew) hm3) hm4⟩, by omega⟩
      · refine zO (i := 9) (zS rfl (zB Zu rfl (hry2.no (Mv.refl _).drew) rfl ?_)) (by decide +kernel)
        refine zF (i := 14) rfl (zn Tryz.underlying35 (zD yb) rfl rfl (j := k + 1) rfl (by omega) (p := 0 + (k + 1) * 6) rfl) ?_ (by decide +kernel) (by decide +kernel) (by decide +kernel) (fun _ _ _ _ h => h) rfl rfl rfl
        refine zO (i := 15) (zS rfl (Zc (i := k + 1) yw yb rfl (by omega) rfl (yz y) (zE ho2 (Mv.refl _).drew) hlen (by omega) ?_)) (by decide +kernel)
        rintro w3 ho3 hm3
        refine zF (i := 16) rfl (zn Tryz.underlying35 (zD yb) rfl rfl (j := k) rfl (by omega) (p := 0 + k * 6) rfl) ?_ (by decide +kernel) (by decide +kernel) (by decide +kernel) (fun _ _ _ _ h => h) rfl rfl rfl
        refine zO (i := 17) (zS rfl (Zc (i := k) yw yb rfl (by omega) rfl (yz x) ho3 (by rw [List.length_set]; exact hlen) (by omega) ?_)) (by decide +kernel)
        rintro w4 ho4 hm4
        refine yH (by decide +kernel) ?_
        refine yj (zc (zb (L (S (za rfl) ?_))))
        refine L (S (Zd rfl rfl (z1 (c := ((k : Nat) : Int)) (by omega))) ?_)
        refine L (S (zd rfl) (zg (zc ?_)))
        rw [hset] at ho4
        exact ⟨rfl, k, (.cons rfl (.cons rfl (.cons rfl (.cons rfl (.cons rfl (.cons rfl (.nil _))))))), ⟨by omega, ho4, hp.trans hpl, mvAt (mvAt ((hmq.no hH).no (Mv.refl _).drew) hm3) hm4⟩, by omega⟩
  · have e : y6 lt (xs.take i) ++ xs.drop i = y6 lt xs := by rw [List.take_of_length_le (by omega), List.drop_eq_nil_of_le (by omega), List.append_nil]
    rw [e] at hor
    refine zf (zf (zb (L (S (za rfl) (L (S (za rfl) ?_))))))
    refine L (S (zG rfl rfl (decide_eq_false (by omega))) ?_)
    refine zg (zc (zk rfl (yn (zL (zL (yK ?_))))))
    refine F_end0 Tryz.results128 ?_
    exact ⟨hor, hmr⟩
theorem stableIdx_ret {xs : List Idx} {b c n base : Nat} (hn : xs.length = n) (h0 : 0 < n) (hl : n ≤ 19) (ho : w.ownsRow base 30 6 (.slice (some ⟨b, 0, none⟩) n c) n (zI yq xs)) {fv : Value} {lt : Idx → Idx → Bool} (hf : FnC Tryz.prog fv yq lt) : Ret Tryz.prog 111 [.slice (some ⟨b, 0, none⟩) n c, .int .i64 (n : Int), fv] w fun _ w' => w'.ownsRow base 30 6 (.slice (some ⟨b, 0, none⟩) n c) n (zI yq (y6 lt xs)) ∧ Mv (At b) w w' := by
  refine zN Tryz.func111 Tryz.ntmps111 rfl rfl ?_
  refine zf (zb (L (S (zd rfl) (zg (zc (zf (zb (L (S (za rfl) (L (S (zd rfl) (L (S (zd rfl) (zg (zc (zf (zx ?_)))))))))))))))))
  refine yF (γ := Unit) (fun _ => [(0, .slice (some ⟨b, 0, none⟩) n c), (1, .int .i64 (n : Int)), (2, fv), (6, .int .i64 20), (7, .int .i64 0), (8, .int .i64 20)]) (fun _ wr => wr = w) (fun _ => 0) () (.cons rfl (.cons rfl (.cons rfl (.cons rfl (.cons rfl (.cons rfl (.nil _))))))) rfl ?_
  rintro _ wr rfl
  refine zf (zf (zb (L (S (za rfl) (L (S (za rfl) ?_))))))
  refine L (S (Yd rfl rfl (decide_eq_false (by omega))) ?_)
  refine zg (zc (zk rfl (yn (zL (zL (yK (zc (zf (zb (L (S (za rfl) (L (S (za rfl) (L (S (za rfl) (L (S (za rfl) ?_)))))))))))))))))
  refine L (zq cb_128 rfl ((insIdx_ret hn h0 (by omega) ho hf)) ?_)
  rintro _ w2 ⟨ho2, hm2⟩
  refine zg (zc (zx ?_))
  refine yF (γ := Unit) (fun _ => [(0, .slice (some ⟨b, 0, none⟩) n c), (1, .int .i64 (n : Int)), (2, fv), (6, .int .i64 20)]) (fun _ wq => wq = w2) (fun _ => 0) () (.cons rfl (.cons rfl (.cons rfl (.cons rfl (.nil _))))) rfl ?_
  rintro _ wq rfl
  refine zf (zf (zb (L (S (za rfl) (L (S (za rfl) ?_))))))
  refine L (S (zG rfl rfl (decide_eq_false (by omega))) ?_)
  refine zg (zc (zk rfl (yn (zL (zL (yK ?_))))))
  refine F_end0 Tryz.results111 ?_
  exact ⟨ho2, hm2⟩
theorem sortIdx_ret {xs : List Idx} {b c n base : Nat} (hn : xs.length = n) (h0 : 0 < n) (hl : n ≤ 19) (ho : w.ownsRow base 30 6 (.slice (some ⟨b, 0, none⟩) n c) n (zI yq xs)) {fv : Value} {lt : Idx → Idx → Bool} (hf : FnC Tryz.prog fv yq lt) : Ret Tryz.prog 68 [.slice (some ⟨b, 0, none⟩) n c, fv] w fun _ w' => w'.ownsRow base 30 6 (.slice (some ⟨b, 0, none⟩) n c) n (zI yq (y6 lt xs)) ∧ Mv (At b) w w' := by
  refine zN Tryz.func68 Tryz.ntmps68 rfl rfl ?_
  refine zb (L (S (za rfl) (L (S (za rfl) ?_))))
  refine L (S (zH Tryz.underlying35 rfl) ?_)
  refine L (S (za rfl) ?_)
  refine L (zq cb_111 rfl ((stableIdx_ret hn h0 hl ho hf)) ?_)
  rintro _ w2 ⟨ho2, hm2⟩
  refine zg ?_
  refine F_end0 Tryz.results68 ?_
  exact ⟨ho2, hm2⟩
end
end Go.Proofs.YtnoioimphcmeiaaGreatDoor
namespace Go.Proofs.YtnoioimphcmeiaaGreatDoor
open Go.RowKit
set_option maxRecDepth 20000
set_option maxHeartbeats 2000000

/-- What a table says: name, columns, root, next, rows. -/
abbrev TD := List UInt8 × List Col × Int × Int × Int
/-- What an index says: name, table, places, state, root, cursor. -/
abbrev ID := List UInt8 × List UInt8 × List Int × Int × Int × Int
def tAt (ts : List TD) (nm : List UInt8) : Int := Z0 (fun x : TD => decide (x.1 = nm)) ts
def iAt (ts : List ID) (nm : List UInt8) : Int := Z0 (fun x : ID => decide (x.1 = nm)) ts
/-- Why a table may not be put. -/
def tE (ts : List TD) (t : TD) : Nat :=
  if ZD t.1 = false ∨ t.2.2.1 < 1 ∨ t.2.2.1 > 1600 ∨ t.2.2.2.1 < 1 ∨ t.2.2.2.2 < 0 then 7
  else if tAt ts t.1 < 0 ∧ 8 ≤ ts.length then 11 else colsE t.2.1
def tPut (ts : List TD) (t : TD) : List TD := if tAt ts t.1 < 0 then y6 (fun a b => ltN a.1 b.1) (ts ++ [t]) else ts.set (tAt ts t.1).toNat t
/-- Why an index may not be put. -/
def iE (ts : List TD) (is : List ID) (x : ID) : Nat :=
  if ZD x.1 = false ∨ x.2.2.2.1 < 1 ∨ x.2.2.2.1 > 3 ∨ x.2.2.2.2.1 < 1 ∨ x.2.2.2.2.1 > 1600 ∨ x.2.2.2.2.2 < 0 then 7
  else if tAt ts x.2.1 < 0 then 130
  else if iAt is x.1 < 0 ∧ 12 ≤ is.length then 11 else Z_ ((ts[(tAt ts x.2.1).toNat]?.map fun t => t.2.1.length).getD 0) x.2.2.1
def iPut (is : List ID) (x : ID) : List ID := if iAt is x.1 < 0 then y6 (fun a b => ltN a.1 b.1) (is ++ [x]) else is.set (iAt is x.1).toNat x
theorem findN_map {α β : Type} {p : β → Bool} {g : α → β} {l : List α} : Z0 (fun x => p (g x)) l = Z0 p (l.map g) := by
  unfold Z0
  rw [List.findIdx?_map]
  rfl
theorem tAt_map {l : List Tab} {nm : List UInt8} : Z0 (fun x : Tab => decide (x.name = nm)) l = tAt (l.map Tab.d) nm := findN_map (p := fun x : TD => decide (x.1 = nm)) (g := Tab.d)
theorem iAt_map {l : List Idx} {nm : List UInt8} : Z0 (fun x : Idx => decide (x.name = nm)) l = iAt (l.map Idx.d_) nm := findN_map (p := fun x : ID => decide (x.1 = nm)) (g := Idx.d_)
structure TabSm (t : Tab) : Prop where
  nm : t.name.length ≤ 1000
  cl : t.cols.length ≤ 1000
  cn : ∀ c ∈ t.cols, c.name.length ≤ 1000
structure IdxSm (t : Idx) : Prop where
  nm : t.name.length ≤ 1000
  cl : t.cols.length ≤ 1000
structure SchSm (s : Sch) : Prop where
  lt : s.tabs.length ≤ 1000
  li : s.idxs.length ≤ 1000
  tab : ∀ t ∈ s.tabs, TabSm t
  idx : ∀ t ∈ s.idxs, IdxSm t
section
variable {w0 wc w8 w9 : World} {b : Nat} {o : Sch} {ts ts' : List Tab} {is is' : List Idx}
theorem mk_of {b : Nat} {base : Nat} (mv : Mv No w0 wc) (own : SchOwn base wc o) (hb : w0.heap.size ≤ base) (hn : wc.heap.size ≤ b) (mv8 : Mv No wc w8) (hb9 : Blk w9 b (zM o) 37) (hm9 : Mv (At b) w8 w9) (ht : o.tabs.map Tab.d = ts.map Tab.d) (hi : o.idxs.map Idx.d_ = is.map Idx.d_) : Mk w0 w9 b o ts is := by
  have s0 := mv.size
  have hsep : ∀ {m n e base : Nat} {v : Value} {xs : List Value}, wc.ownsRow base e m v n xs → w9.ownsRow base e m v n xs := fun h => yo (zE h mv8) hm9 (fun k hk hk2 => by have := (ZN h hk).2; unfold At at hk2; omega)
  exact ⟨(mv.no mv8).new hm9 (by omega), hb9, by omega, ⟨Zs (hsep own.tsl) hb, fun t h => Zs (hsep (own.tab t h)) hb, Zs (hsep own.isl) hb, fun t h => Zs (hsep (own.idx t h)) hb⟩, ht, hi⟩
theorem Mk.turnT (h : Mk w0 wc b o ts is) {tabs' : List Tab} (hlen : tabs'.length = o.tabs.length) (hmem : ∀ t ∈ tabs', TabOwn w0.heap.size wc t) (hm : Mv (Zx (.slice o.A o.tabs.length o.c)) wc w8) (ho : w8.ownsRow w0.heap.size 27 5 (.slice o.A o.tabs.length o.c) o.tabs.length (zI yA tabs')) (hd : tabs'.map Tab.d = ts'.map Tab.d) : Mk w0 w8 b { o with tabs := tabs' } ts' is := by
  refine ⟨h.mv.own hm h.own.tsl (Nat.le_refl _), ?_, h.new, ⟨?_, fun t ht => yo (hmem t ht) hm (ZX (hmem t ht) h.own.tsl (by decide)), yo h.own.isl hm (ZX h.own.isl h.own.tsl (by decide)), fun t ht => yo (h.own.idx t ht) hm (ZX (h.own.idx t ht) h.own.tsl (by decide))⟩, hd, h.id⟩
  · have := h.blk.mv hm (zK h.blk h.own.tsl (by decide))
    unfold zM at this ⊢
    dsimp only
    rw [hlen]; exact this
  · dsimp only
    rw [hlen]; exact ho
theorem Mk.turnI (h : Mk w0 wc b o ts is) {idxs' : List Idx} (hlen : idxs'.length = o.idxs.length) (hmem : ∀ t ∈ idxs', IdxOwn w0.heap.size wc t) (hm : Mv (Zx (.slice o.B o.idxs.length o.d)) wc w8) (ho : w8.ownsRow w0.heap.size 30 6 (.slice o.B o.idxs.length o.d) o.idxs.length (zI yq idxs')) (hd : idxs'.map Idx.d_ = is'.map Idx.d_) : Mk w0 w8 b { o with idxs := idxs' } ts is' := by
  refine ⟨h.mv.own hm h.own.isl (Nat.le_refl _), ?_, h.new, ⟨yo h.own.tsl hm (ZX h.own.tsl h.own.isl (by decide)), fun t ht => yo (h.own.tab t ht) hm (ZX (h.own.tab t ht) h.own.isl (by decide)), ?_, fun t ht => yo (hmem t ht) hm (ZX (hmem t ht) h.own.isl (by decide))⟩, h.td, hd⟩
  · have := h.blk.mv hm (zK h.blk h.own.isl (by decide))
    unfold zM at this ⊢
    dsimp only
    rw [hlen]; exact this
  · dsimp only
    rw [hlen]; exact ho
/-- It is handed back. -/
theorem Mk.fin (h : Mk w0 wc b o ts is) {b4 : Nat} {cs : List Value} (hb4 : Blk wc b4 cs 37) (hn : w0.heap.size ≤ b4) (hm : Mv (At b4) wc w9) : SchOwn w0.heap.size w9 o ∧ Mv No w0 w9 := by
  have hsep : ∀ {m n e base : Nat} {v : Value} {xs : List Value}, wc.ownsRow base e m v n xs → 37 ≠ e → w9.ownsRow base e m v n xs := fun h he => yo h hm (fun k hk hk2 => by unfold At at hk2; subst hk2; exact zK hb4 h he hk)
  exact ⟨⟨hsep h.own.tsl (by decide), fun t ht => hsep (h.own.tab t ht) (by decide), hsep h.own.isl (by decide), fun t ht => hsep (h.own.idx t ht) (by decide)⟩, h.mv.new hm hn⟩
theorem Z5 {b n c : Nat} {w1 w2 : World} (h : Mv (At b) w1 w2) : Mv (Zx (.slice (some ⟨b, 0, none⟩) n c)) w1 w2 := h.mono fun x _ hx => by unfold At at hx; subst hx; rfl
theorem Yt {α : Type} {p : α → Bool} {l : List α} (h : ¬ Z0 p l < 0) : ∃ (i : Nat) (a : α), Z0 p l = (i : Int) ∧ l[i]? = some a ∧ i < l.length := by
  rcases findN_cases p l with ⟨h1, _⟩ | ⟨i, a, h1, h2, _⟩
  · omega
  · exact ⟨i, a, h1, h2, (List.getElem?_eq_some_iff.1 h2).1⟩
end
section
variable {w : World}
theorem put_ret (hv : Vr w) {s : Sch} {t : Tab} (hs : SchOk w s) (ht : TabOk w t) (hsm : SchSm s) (htm : TabSm t) : Ret Tryz.prog 30 [.agg (zM s).toArray, .agg (yA t).toArray] w fun v w' => ∃ o, v = .tuple #[.agg (zM o).toArray, .int .i64 (tE (s.tabs.map Tab.d) t.d : Nat)] ∧ SchOwn w.heap.size w' o ∧ (tE (s.tabs.map Tab.d) t.d ≠ 0 → o = zX) ∧ (tE (s.tabs.map Tab.d) t.d = 0 → o.tabs.map Tab.d = tPut (s.tabs.map Tab.d) t.d ∧ o.idxs.map Idx.d_ = s.idxs.map Idx.d_) ∧ Mv No w w' := by
  have hl1 := hsm.lt
  have hl2 := hsm.li
  have hc1 := htm.cl
  have hn1 := htm.nm
  have hmap : (s.tabs.map Tab.d).length = s.tabs.length := List.length_map ..
  refine zN Tryz.func30 Tryz.ntmps30 rfl rfl ?_
  refine zf (zb ?_)
  refine L (Zl rfl ?_)
  rintro b2 w2 hb2 hm2 hn2
  refine L (Zl rfl ?_)
  rintro b3 w3 hb3 hm3 hn3
  refine L (ye (zs := [(.slice none 0 0), (.slice none 0 0)]) z6 rfl ?_)
  rintro b4 w4 hb4 hm4 hn4
  refine L (S (zd rfl) (zg (zc (zf (zb ?_)))))
  refine L (zB zZ rfl ((hb2.no hm3).no hm4).row rfl ?_)
  refine L (S (ze yG rfl) ?_)
  refine L (zi yc rfl ((hb3.no hm4).cell (i := 0) rfl) ?_)
  refine L (zq cb_15 rfl ((table_ret (s := s) (((hs.tsl.no hm2).no hm3).no hm4) (by omega) t.name)) ?_)
  rintro _ w5 ⟨rfl, hm5⟩
  refine L (S (zd rfl) (zg (zc (zf (zx (zf ?_))))))
  have hm05 := ((hm2.no hm3).no hm4).no hm5
  have z2 := hm2.size
  have z3 := hm3.size
  have y4 := hb4.lt
  have y3 := hb3.lt
  have y2 := hb2.lt
  have z4 := hm4.size
  have z5 := hm5.size
  have hB2 : ∀ {wq}, Mv No w5 wq → Blk wq b2 (zM s) 37 := fun h => (((hb2.no hm3).no hm4).no hm5).no h
  have hB3 : ∀ {wq}, Mv No w5 wq → Blk wq b3 (yA t) 27 := fun h => ((hb3.no hm4).no hm5).no h
  have hB4 : ∀ {wq}, Mv No w5 wq → Blk wq b4 (zM zX) 37 := fun h => (hb4.no hm5).no h
  have hN : ∀ {β : Bool}, ZD t.name = β → _ := fun {β} h => name_is (β := β) (hv.no hm05) (show t.name.length ≤ 100000 by omega) h
  rw [tAt_map]
  have htE : tE (s.tabs.map Tab.d) t.d = if ZD t.name = false ∨ t.root < 1 ∨ t.root > 1600 ∨ t.next < 1 ∨ t.rows < 0 then 7 else if tAt (s.tabs.map Tab.d) t.name < 0 ∧ 8 ≤ s.tabs.length then 11 else colsE t.cols := by unfold tE; rw [hmap]; rfl
  have htP : tPut (s.tabs.map Tab.d) t.d = if tAt (s.tabs.map Tab.d) t.name < 0 then y6 (fun a b => ltN a.1 b.1) (s.tabs.map Tab.d ++ [t.d]) else (s.tabs.map Tab.d).set (tAt (s.tabs.map Tab.d) t.name).toNat t.d := rfl
  have hat : ¬ tAt (s.tabs.map Tab.d) t.name < 0 → ∃ i : Nat, tAt (s.tabs.map Tab.d) t.name = (i : Int) ∧ i < s.tabs.length := fun h => by
    obtain ⟨i, a, h1, _, h3⟩ := Yt h
    exact ⟨i, h1, by rw [← hmap]; exact h3⟩
  rw [htE, htP]
  generalize tAt (s.tabs.map Tab.d) t.name = at_ at *
  clear htE htP
  by_cases q1 : ZD t.name = false
  · rw [if_pos (.inl q1)]
    refine zb (L (S (ze yG rfl) ?_))
    refine L (zi yc rfl ((hB3 (Mv.refl _)).cell (i := 0) rfl) ?_)
    refine L (zq Yz rfl ((hN q1)) ?_)
    rintro _ w6 ⟨rfl, hm6⟩
    refine L (S (yu rfl rfl) (L (S (za rfl) (zl (j := 4) (dj := 18) (b := false) (b' := true) (d := 19) rfl (zl (j := 4) (dj := 18) (b := false) (b' := true) (d := 20) rfl (zl (j := 4) (dj := 18) (b := false) (b' := true) (d := 21) rfl (L (S (zt rfl rfl) (L (S (za rfl) (zl (j := 9) (dj := 23) (b := false) (b' := true) (d := 24) rfl (zl (j := 9) (dj := 23) (b := false) (b' := true) (d := 25) rfl (zl (j := 9) (dj := 23) (b := false) (b' := true) (d := 26) rfl (L (S (zt rfl rfl) (L (S (za rfl) (zl (j := 14) (dj := 28) (b := false) (b' := true) (d := 29) rfl (zl (j := 14) (dj := 28) (b := false) (b' := true) (d := 30) rfl (zl (j := 14) (dj := 28) (b := false) (b' := true) (d := 31) rfl (L (S (zt rfl rfl) (L (S (za rfl) (zl (j := 19) (dj := 33) (b := false) (b' := true) (d := 34) rfl (zl (j := 19) (dj := 33) (b := false) (b' := true) (d := 35) rfl (zl (j := 19) (dj := 33) (b := false) (b' := true) (d := 36) rfl (L (S (zt rfl rfl) (L (S (zd rfl) (zg (zc ?_)))))))))))))))))))))))))))))))))
    refine zr rfl (zf (zb ?_))
    refine L (S (zW (ix := []) (l := []) Zq rfl (by simp [Value.oneCell']) rfl) ?_)
    refine L (zw z6 rfl rfl (zJ zX) rfl (hB4 hm6) (by exact Nat.le_refl 2) ?_)
    rintro w9 hb9 hm9
    refine L (S (zd rfl) (zg (zc (zy (zP (zm ?_))))))
    have hb9' : Blk w9 b4 (zM zX) 37 := hb9
    refine yk (rs := [.cell 4 37, .tmp 5]) [.agg (zM zX).toArray, .int .i64 (7 : Nat)] Tryz.results30 ?_ ?_
    · exact ⟨⟨_, rfl, zu zZ hb9'.row rfl⟩, rfl, trivial⟩
    exact ⟨zX, rfl, Z1, fun _ => rfl, fun h => absurd h (by decide), (hm05.no hm6).new hm9 (by omega)⟩
  replace q1 : ZD t.name = true := by simpa using q1
  by_cases q2 : t.root < 1
  · rw [if_pos (.inr (.inl q2))]
    refine zb (L (S (ze yG rfl) ?_))
    refine L (zi yc rfl ((hB3 (Mv.refl _)).cell (i := 0) rfl) ?_)
    refine L (zq Yz rfl ((hN q1)) ?_)
    rintro _ w6 ⟨rfl, hm6⟩
    refine L (S (yu rfl rfl) (L (S (za rfl) (zh (j := 4) (dj := 18) (b := false) (S (ze yJ rfl) ?_) rfl))))
    refine zh (j := 4) (dj := 18) (b := false) (zi z_ rfl ((hB3 hm6).cell (i := 2) rfl) ?_) rfl
    refine zh (j := 4) (dj := 18) (b := false) (S (zG rfl rfl (decide_eq_true (by omega))) ?_) rfl
    refine L (S (zj rfl rfl) (L (S (za rfl) (zl (j := 9) (dj := 23) (b := false) (b' := true) (d := 24) rfl (zl (j := 9) (dj := 23) (b := false) (b' := true) (d := 25) rfl (zl (j := 9) (dj := 23) (b := false) (b' := true) (d := 26) rfl (L (S (zt rfl rfl) (L (S (za rfl) (zl (j := 14) (dj := 28) (b := false) (b' := true) (d := 29) rfl (zl (j := 14) (dj := 28) (b := false) (b' := true) (d := 30) rfl (zl (j := 14) (dj := 28) (b := false) (b' := true) (d := 31) rfl (L (S (zt rfl rfl) (L (S (za rfl) (zl (j := 19) (dj := 33) (b := false) (b' := true) (d := 34) rfl (zl (j := 19) (dj := 33) (b := false) (b' := true) (d := 35) rfl (zl (j := 19) (dj := 33) (b := false) (b' := true) (d := 36) rfl (L (S (zt rfl rfl) (L (S (zd rfl) (zg (zc (zr rfl (zf (zb ?_)))))))))))))))))))))))))))))
    refine L (S (zW (ix := []) (l := []) Zq rfl (by simp [Value.oneCell']) rfl) ?_)
    refine L (zw z6 rfl rfl (zJ zX) rfl (hB4 hm6) (by exact Nat.le_refl 2) ?_)
    rintro w9 hb9 hm9
    refine L (S (zd rfl) (zg (zc (zy (zP (zm ?_))))))
    have hb9' : Blk w9 b4 (zM zX) 37 := hb9
    refine yk (rs := [.cell 4 37, .tmp 5]) [.agg (zM zX).toArray, .int .i64 (7 : Nat)] Tryz.results30 ?_ ?_
    · exact ⟨⟨_, rfl, zu zZ hb9'.row rfl⟩, rfl, trivial⟩
    exact ⟨zX, rfl, Z1, fun _ => rfl, fun h => absurd h (by decide), (hm05.no hm6).new hm9 (by omega)⟩
  by_cases q3 : t.root > 1600
  · rw [if_pos (.inr (.inr (.inl q3)))]
    refine zb (L (S (ze yG rfl) ?_))
    refine L (zi yc rfl ((hB3 (Mv.refl _)).cell (i := 0) rfl) ?_)
    refine L (zq Yz rfl ((hN q1)) ?_)
    rintro _ w6 ⟨rfl, hm6⟩
    refine L (S (yu rfl rfl) (L (S (za rfl) (zh (j := 4) (dj := 18) (b := false) (S (ze yJ rfl) ?_) rfl))))
    refine zh (j := 4) (dj := 18) (b := false) (zi z_ rfl ((hB3 hm6).cell (i := 2) rfl) ?_) rfl
    refine zh (j := 4) (dj := 18) (b := false) (S (zG rfl rfl (decide_eq_false (by omega))) ?_) rfl
    refine L (S (zj rfl rfl) (L (S (za rfl) (zh (j := 9) (dj := 23) (b := false) (S (ze yJ rfl) ?_) rfl))))
    refine zh (j := 9) (dj := 23) (b := false) (zi z_ rfl ((hB3 hm6).cell (i := 2) rfl) ?_) rfl
    refine zh (j := 9) (dj := 23) (b := false) (S (yp rfl rfl (decide_eq_true (by omega))) ?_) rfl
    refine L (S (zj rfl rfl) (L (S (za rfl) (zl (j := 14) (dj := 28) (b := false) (b' := true) (d := 29) rfl (zl (j := 14) (dj := 28) (b := false) (b' := true) (d := 30) rfl (zl (j := 14) (dj := 28) (b := false) (b' := true) (d := 31) rfl (L (S (zt rfl rfl) (L (S (za rfl) (zl (j := 19) (dj := 33) (b := false) (b' := true) (d := 34) rfl (zl (j := 19) (dj := 33) (b := false) (b' := true) (d := 35) rfl (zl (j := 19) (dj := 33) (b := false) (b' := true) (d := 36) rfl (L (S (zt rfl rfl) (L (S (zd rfl) (zg (zc (zr rfl (zf (zb ?_))))))))))))))))))))))
    refine L (S (zW (ix := []) (l := []) Zq rfl (by simp [Value.oneCell']) rfl) ?_)
    refine L (zw z6 rfl rfl (zJ zX) rfl (hB4 hm6) (by exact Nat.le_refl 2) ?_)
    rintro w9 hb9 hm9
    refine L (S (zd rfl) (zg (zc (zy (zP (zm ?_))))))
    have hb9' : Blk w9 b4 (zM zX) 37 := hb9
    refine yk (rs := [.cell 4 37, .tmp 5]) [.agg (zM zX).toArray, .int .i64 (7 : Nat)] Tryz.results30 ?_ ?_
    · exact ⟨⟨_, rfl, zu zZ hb9'.row rfl⟩, rfl, trivial⟩
    exact ⟨zX, rfl, Z1, fun _ => rfl, fun h => absurd h (by decide), (hm05.no hm6).new hm9 (by omega)⟩
  by_cases q4 : t.next < 1
  · rw [if_pos (.inr (.inr (.inr (.inl q4))))]
    refine zb (L (S (ze yG rfl) ?_))
    refine L (zi yc rfl ((hB3 (Mv.refl _)).cell (i := 0) rfl) ?_)
    refine L (zq Yz rfl ((hN q1)) ?_)
    rintro _ w6 ⟨rfl, hm6⟩
    refine L (S (yu rfl rfl) (L (S (za rfl) (zh (j := 4) (dj := 18) (b := false) (S (ze yJ rfl) ?_) rfl))))
    refine zh (j := 4) (dj := 18) (b := false) (zi z_ rfl ((hB3 hm6).cell (i := 2) rfl) ?_) rfl
    refine zh (j := 4) (dj := 18) (b := false) (S (zG rfl rfl (decide_eq_false (by omega))) ?_) rfl
    refine L (S (zj rfl rfl) (L (S (za rfl) (zh (j := 9) (dj := 23) (b := false) (S (ze yJ rfl) ?_) rfl))))
    refine zh (j := 9) (dj := 23) (b := false) (zi z_ rfl ((hB3 hm6).cell (i := 2) rfl) ?_) rfl
    refine zh (j := 9) (dj := 23) (b := false) (S (yp rfl rfl (decide_eq_false (by omega))) ?_) rfl
    refine L (S (zj rfl rfl) (L (S (za rfl) (zh (j := 14) (dj := 28) (b := false) (S (ze ZB rfl) ?_) rfl))))
    refine zh (j := 14) (dj := 28) (b := false) (zi Zw rfl ((hB3 hm6).cell (i := 3) rfl) ?_) rfl
    refine zh (j := 14) (dj := 28) (b := false) (S (zG rfl rfl (decide_eq_true (by omega))) ?_) rfl
    refine L (S (zj rfl rfl) (L (S (za rfl) (zl (j := 19) (dj := 33) (b := false) (b' := true) (d := 34) rfl (zl (j := 19) (dj := 33) (b := false) (b' := true) (d := 35) rfl (zl (j := 19) (dj := 33) (b := false) (b' := true) (d := 36) rfl (L (S (zt rfl rfl) (L (S (zd rfl) (zg (zc (zr rfl (zf (zb ?_)))))))))))))))
    refine L (S (zW (ix := []) (l := []) Zq rfl (by simp [Value.oneCell']) rfl) ?_)
    refine L (zw z6 rfl rfl (zJ zX) rfl (hB4 hm6) (by exact Nat.le_refl 2) ?_)
    rintro w9 hb9 hm9
    refine L (S (zd rfl) (zg (zc (zy (zP (zm ?_))))))
    have hb9' : Blk w9 b4 (zM zX) 37 := hb9
    refine yk (rs := [.cell 4 37, .tmp 5]) [.agg (zM zX).toArray, .int .i64 (7 : Nat)] Tryz.results30 ?_ ?_
    · exact ⟨⟨_, rfl, zu zZ hb9'.row rfl⟩, rfl, trivial⟩
    exact ⟨zX, rfl, Z1, fun _ => rfl, fun h => absurd h (by decide), (hm05.no hm6).new hm9 (by omega)⟩
  by_cases q5 : t.rows < 0
  · rw [if_pos (.inr (.inr (.inr (.inr q5))))]
    refine zb (L (S (ze yG rfl) ?_))
    refine L (zi yc rfl ((hB3 (Mv.refl _)).cell (i := 0) rfl) ?_)
    refine L (zq Yz rfl ((hN q1)) ?_)
    rintro _ w6 ⟨rfl, hm6⟩
    refine L (S (yu rfl rfl) (L (S (za rfl) (zh (j := 4) (dj := 18) (b := false) (S (ze yJ rfl) ?_) rfl))))
    refine zh (j := 4) (dj := 18) (b := false) (zi z_ rfl ((hB3 hm6).cell (i := 2) rfl) ?_) rfl
    refine zh (j := 4) (dj := 18) (b := false) (S (zG rfl rfl (decide_eq_false (by omega))) ?_) rfl
    refine L (S (zj rfl rfl) (L (S (za rfl) (zh (j := 9) (dj := 23) (b := false) (S (ze yJ rfl) ?_) rfl))))
    refine zh (j := 9) (dj := 23) (b := false) (zi z_ rfl ((hB3 hm6).cell (i := 2) rfl) ?_) rfl
    refine zh (j := 9) (dj := 23) (b := false) (S (yp rfl rfl (decide_eq_false (by omega))) ?_) rfl
    refine L (S (zj rfl rfl) (L (S (za rfl) (zh (j := 14) (dj := 28) (b := false) (S (ze ZB rfl) ?_) rfl))))
    refine zh (j := 14) (dj := 28) (b := false) (zi Zw rfl ((hB3 hm6).cell (i := 3) rfl) ?_) rfl
    refine zh (j := 14) (dj := 28) (b := false) (S (zG rfl rfl (decide_eq_false (by omega))) ?_) rfl
    refine L (S (zj rfl rfl) (L (S (za rfl) (zh (j := 19) (dj := 33) (b := false) (S (ze ZV rfl) ?_) rfl))))
    refine zh (j := 19) (dj := 33) (b := false) (zi Zw rfl ((hB3 hm6).cell (i := 4) rfl) ?_) rfl
    refine zh (j := 19) (dj := 33) (b := false) (S (zG rfl rfl (decide_eq_true (by omega))) ?_) rfl
    refine L (S (zj rfl rfl) (L (S (zd rfl) (zg (zc (zr rfl (zf (zb ?_))))))))
    refine L (S (zW (ix := []) (l := []) Zq rfl (by simp [Value.oneCell']) rfl) ?_)
    refine L (zw z6 rfl rfl (zJ zX) rfl (hB4 hm6) (by exact Nat.le_refl 2) ?_)
    rintro w9 hb9 hm9
    refine L (S (zd rfl) (zg (zc (zy (zP (zm ?_))))))
    have hb9' : Blk w9 b4 (zM zX) 37 := hb9
    refine yk (rs := [.cell 4 37, .tmp 5]) [.agg (zM zX).toArray, .int .i64 (7 : Nat)] Tryz.results30 ?_ ?_
    · exact ⟨⟨_, rfl, zu zZ hb9'.row rfl⟩, rfl, trivial⟩
    exact ⟨zX, rfl, Z1, fun _ => rfl, fun h => absurd h (by decide), (hm05.no hm6).new hm9 (by omega)⟩
  rw [if_neg (by rw [q1]; simp; omega)]
  by_cases q6 : at_ < 0 ∧ 8 ≤ s.tabs.length
  · rw [if_pos q6]
    refine zb (L (S (ze yG rfl) ?_))
    refine L (zi yc rfl ((hB3 (Mv.refl _)).cell (i := 0) rfl) ?_)
    refine L (zq Yz rfl ((hN q1)) ?_)
    rintro _ w6 ⟨rfl, hm6⟩
    refine L (S (yu rfl rfl) (L (S (za rfl) (zh (j := 4) (dj := 18) (b := false) (S (ze yJ rfl) ?_) rfl))))
    refine zh (j := 4) (dj := 18) (b := false) (zi z_ rfl ((hB3 hm6).cell (i := 2) rfl) ?_) rfl
    refine zh (j := 4) (dj := 18) (b := false) (S (zG rfl rfl (decide_eq_false (by omega))) ?_) rfl
    refine L (S (zj rfl rfl) (L (S (za rfl) (zh (j := 9) (dj := 23) (b := false) (S (ze yJ rfl) ?_) rfl))))
    refine zh (j := 9) (dj := 23) (b := false) (zi z_ rfl ((hB3 hm6).cell (i := 2) rfl) ?_) rfl
    refine zh (j := 9) (dj := 23) (b := false) (S (yp rfl rfl (decide_eq_false (by omega))) ?_) rfl
    refine L (S (zj rfl rfl) (L (S (za rfl) (zh (j := 14) (dj := 28) (b := false) (S (ze ZB rfl) ?_) rfl))))
    refine zh (j := 14) (dj := 28) (b := false) (zi Zw rfl ((hB3 hm6).cell (i := 3) rfl) ?_) rfl
    refine zh (j := 14) (dj := 28) (b := false) (S (zG rfl rfl (decide_eq_false (by omega))) ?_) rfl
    refine L (S (zj rfl rfl) (L (S (za rfl) (zh (j := 19) (dj := 33) (b := false) (S (ze ZV rfl) ?_) rfl))))
    refine zh (j := 19) (dj := 33) (b := false) (zi Zw rfl ((hB3 hm6).cell (i := 4) rfl) ?_) rfl
    refine zh (j := 19) (dj := 33) (b := false) (S (zG rfl rfl (decide_eq_false (by omega))) ?_) rfl
    refine L (S (zj rfl rfl) (L (S (zd rfl) (zg (zc (zk rfl (zf (zb (L (S (za rfl) ?_))))))))))
    refine L (S (zG rfl rfl (decide_eq_true (by omega))) ?_)
    refine L (S (za rfl) (zh (j := 2) (dj := 42) (b := true) (S (ze yg rfl) ?_) rfl))
    refine zh (j := 2) (dj := 42) (b := true) (zi yX rfl ((hB2 hm6).cell (i := 0) rfl) ?_) rfl
    refine zh (j := 2) (dj := 42) (b := true) (S (zH Tryz.underlying34 rfl) ?_) rfl
    refine zh (j := 2) (dj := 42) (b := true) (S (y_ rfl rfl (decide_eq_true (by omega))) ?_) rfl
    refine L (S (zt rfl rfl) (L (S (zd rfl) (zg (zc (zr rfl (zf (zb ?_))))))))
    refine L (S (zW (ix := []) (l := []) Zq rfl (by simp [Value.oneCell']) rfl) ?_)
    refine L (zw z6 rfl rfl (zJ zX) rfl (hB4 hm6) (by exact Nat.le_refl 2) ?_)
    rintro w9 hb9 hm9
    refine L (S (zd rfl) (zg (zc (zy (zP (zm ?_))))))
    have hb9' : Blk w9 b4 (zM zX) 37 := hb9
    refine yk (rs := [.cell 4 37, .tmp 5]) [.agg (zM zX).toArray, .int .i64 (11 : Nat)] Tryz.results30 ?_ ?_
    · exact ⟨⟨_, rfl, zu zZ hb9'.row rfl⟩, rfl, trivial⟩
    exact ⟨zX, rfl, Z1, fun _ => rfl, fun h => absurd h (by decide), (hm05.no hm6).new hm9 (by omega)⟩
  rw [if_neg q6]
  have hC := fun {wq} (h : Mv No w5 wq) => columns_ret (hv.no (hm05.no h)) (l := t.cols) (A := t.A) (c := t.cap) ((ht.sl.no hm05).no h) ht.le (by omega) (fun x hx => by have := htm.cn x hx; omega)
  by_cases q7 : colsE t.cols ≠ 0
  · by_cases q8 : at_ < 0
    · refine zb (L (S (ze yG rfl) ?_))
      refine L (zi yc rfl ((hB3 (Mv.refl _)).cell (i := 0) rfl) ?_)
      refine L (zq Yz rfl ((hN q1)) ?_)
      rintro _ w6 ⟨rfl, hm6⟩
      refine L (S (yu rfl rfl) (L (S (za rfl) (zh (j := 4) (dj := 18) (b := false) (S (ze yJ rfl) ?_) rfl))))
      refine zh (j := 4) (dj := 18) (b := false) (zi z_ rfl ((hB3 hm6).cell (i := 2) rfl) ?_) rfl
      refine zh (j := 4) (dj := 18) (b := false) (S (zG rfl rfl (decide_eq_false (by omega))) ?_) rfl
      refine L (S (zj rfl rfl) (L (S (za rfl) (zh (j := 9) (dj := 23) (b := false) (S (ze yJ rfl) ?_) rfl))))
      refine zh (j := 9) (dj := 23) (b := false) (zi z_ rfl ((hB3 hm6).cell (i := 2) rfl) ?_) rfl
      refine zh (j := 9) (dj := 23) (b := false) (S (yp rfl rfl (decide_eq_false (by omega))) ?_) rfl
      refine L (S (zj rfl rfl) (L (S (za rfl) (zh (j := 14) (dj := 28) (b := false) (S (ze ZB rfl) ?_) rfl))))
      refine zh (j := 14) (dj := 28) (b := false) (zi Zw rfl ((hB3 hm6).cell (i := 3) rfl) ?_) rfl
      refine zh (j := 14) (dj := 28) (b := false) (S (zG rfl rfl (decide_eq_false (by omega))) ?_) rfl
      refine L (S (zj rfl rfl) (L (S (za rfl) (zh (j := 19) (dj := 33) (b := false) (S (ze ZV rfl) ?_) rfl))))
      refine zh (j := 19) (dj := 33) (b := false) (zi Zw rfl ((hB3 hm6).cell (i := 4) rfl) ?_) rfl
      refine zh (j := 19) (dj := 33) (b := false) (S (zG rfl rfl (decide_eq_false (by omega))) ?_) rfl
      refine L (S (zj rfl rfl) (L (S (zd rfl) (zg (zc (zk rfl (zf (zb (L (S (za rfl) ?_))))))))))
      refine L (S (zG rfl rfl (decide_eq_true (by omega))) ?_)
      refine L (S (za rfl) (zh (j := 2) (dj := 42) (b := true) (S (ze yg rfl) ?_) rfl))
      refine zh (j := 2) (dj := 42) (b := true) (zi yX rfl ((hB2 hm6).cell (i := 0) rfl) ?_) rfl
      refine zh (j := 2) (dj := 42) (b := true) (S (zH Tryz.underlying34 rfl) ?_) rfl
      refine zh (j := 2) (dj := 42) (b := true) (S (y_ rfl rfl (decide_eq_false (by omega))) ?_) rfl
      refine L (S (zt rfl rfl) (L (S (zd rfl) (zg (zc (zk rfl (zo (yj (zc (zf (zf (zb (L (S (ze yV rfl) ?_))))))))))))))
      refine L (zi ZC rfl ((hB3 hm6).cell (i := 1) rfl) ?_)
      refine L (zq cb_23 rfl ((hC hm6)) ?_)
      rintro _ w7 ⟨rfl, hm7⟩
      refine L (S (zd rfl) (zg (zc (zf (zb (L (S (za rfl) ?_)))))))
      refine L (S (Za rfl rfl (decide_eq_true (by omega))) ?_)
      refine zg (zc (zr rfl (zf (zb ?_))))
      refine L (S (zW (ix := []) (l := []) Zq rfl (by simp [Value.oneCell']) rfl) ?_)
      refine L (S (za rfl) ?_)
      refine L (zw z6 rfl rfl (zJ zX) rfl (hB4 (hm6.no hm7)) (by exact Nat.le_refl 2) ?_)
      rintro w9 hb9 hm9
      refine L (S (zd rfl) (zg (zc (zy (zm ?_)))))
      have hb9' : Blk w9 b4 (zM zX) 37 := hb9
      refine yk (rs := [.cell 4 37, .tmp 5]) [.agg (zM zX).toArray, .int .i64 (colsE t.cols : Nat)] Tryz.results30 ?_ ?_
      · exact ⟨⟨_, rfl, zu zZ hb9'.row rfl⟩, rfl, trivial⟩
      exact ⟨zX, rfl, Z1, fun _ => rfl, fun h => absurd h q7, (hm05.no (hm6.no hm7)).new hm9 (by omega)⟩
    · refine zb (L (S (ze yG rfl) ?_))
      refine L (zi yc rfl ((hB3 (Mv.refl _)).cell (i := 0) rfl) ?_)
      refine L (zq Yz rfl ((hN q1)) ?_)
      rintro _ w6 ⟨rfl, hm6⟩
      refine L (S (yu rfl rfl) (L (S (za rfl) (zh (j := 4) (dj := 18) (b := false) (S (ze yJ rfl) ?_) rfl))))
      refine zh (j := 4) (dj := 18) (b := false) (zi z_ rfl ((hB3 hm6).cell (i := 2) rfl) ?_) rfl
      refine zh (j := 4) (dj := 18) (b := false) (S (zG rfl rfl (decide_eq_false (by omega))) ?_) rfl
      refine L (S (zj rfl rfl) (L (S (za rfl) (zh (j := 9) (dj := 23) (b := false) (S (ze yJ rfl) ?_) rfl))))
      refine zh (j := 9) (dj := 23) (b := false) (zi z_ rfl ((hB3 hm6).cell (i := 2) rfl) ?_) rfl
      refine zh (j := 9) (dj := 23) (b := false) (S (yp rfl rfl (decide_eq_false (by omega))) ?_) rfl
      refine L (S (zj rfl rfl) (L (S (za rfl) (zh (j := 14) (dj := 28) (b := false) (S (ze ZB rfl) ?_) rfl))))
      refine zh (j := 14) (dj := 28) (b := false) (zi Zw rfl ((hB3 hm6).cell (i := 3) rfl) ?_) rfl
      refine zh (j := 14) (dj := 28) (b := false) (S (zG rfl rfl (decide_eq_false (by omega))) ?_) rfl
      refine L (S (zj rfl rfl) (L (S (za rfl) (zh (j := 19) (dj := 33) (b := false) (S (ze ZV rfl) ?_) rfl))))
      refine zh (j := 19) (dj := 33) (b := false) (zi Zw rfl ((hB3 hm6).cell (i := 4) rfl) ?_) rfl
      refine zh (j := 19) (dj := 33) (b := false) (S (zG rfl rfl (decide_eq_false (by omega))) ?_) rfl
      refine L (S (zj rfl rfl) (L (S (zd rfl) (zg (zc (zk rfl (zf (zb (L (S (za rfl) ?_))))))))))
      refine L (S (zG rfl rfl (decide_eq_false (by omega))) ?_)
      refine L (S (za rfl) (zl (j := 2) (dj := 42) (b := true) (b' := false) (d := 43) rfl (zl (j := 2) (dj := 42) (b := true) (b' := false) (d := 44) rfl (zl (j := 2) (dj := 42) (b := true) (b' := false) (d := 45) rfl (zl (j := 2) (dj := 42) (b := true) (b' := false) (d := 46) rfl (L (S (zj rfl rfl) (L (S (zd rfl) (zg (zc (zk rfl (zo (yj (zc (zf (zf (zb (L (S (ze yV rfl) ?_))))))))))))))))))))
      refine L (zi ZC rfl ((hB3 hm6).cell (i := 1) rfl) ?_)
      refine L (zq cb_23 rfl ((hC hm6)) ?_)
      rintro _ w7 ⟨rfl, hm7⟩
      refine L (S (zd rfl) (zg (zc (zf (zb (L (S (za rfl) ?_)))))))
      refine L (S (Za rfl rfl (decide_eq_true (by omega))) ?_)
      refine zg (zc (zr rfl (zf (zb ?_))))
      refine L (S (zW (ix := []) (l := []) Zq rfl (by simp [Value.oneCell']) rfl) ?_)
      refine L (S (za rfl) ?_)
      refine L (zw z6 rfl rfl (zJ zX) rfl (hB4 (hm6.no hm7)) (by exact Nat.le_refl 2) ?_)
      rintro w9 hb9 hm9
      refine L (S (zd rfl) (zg (zc (zy (zm ?_)))))
      have hb9' : Blk w9 b4 (zM zX) 37 := hb9
      refine yk (rs := [.cell 4 37, .tmp 5]) [.agg (zM zX).toArray, .int .i64 (colsE t.cols : Nat)] Tryz.results30 ?_ ?_
      · exact ⟨⟨_, rfl, zu zZ hb9'.row rfl⟩, rfl, trivial⟩
      exact ⟨zX, rfl, Z1, fun _ => rfl, fun h => absurd h q7, (hm05.no (hm6.no hm7)).new hm9 (by omega)⟩
  have q7' : colsE t.cols = 0 := by omega
  rw [q7']
  have hCl := fun {wq} (h : Mv No w5 wq) => Clone_ret (s := s) ((hs.no hm05).no h) (by omega) (by omega) (fun x hx => by have := (hsm.tab x hx).cl; omega) (fun x hx => by have := (hsm.idx x hx).cl; omega)
  by_cases q8 : at_ < 0
  · rw [if_pos q8]
    refine zb (L (S (ze yG rfl) ?_))
    refine L (zi yc rfl ((hB3 (Mv.refl _)).cell (i := 0) rfl) ?_)
    refine L (zq Yz rfl ((hN q1)) ?_)
    rintro _ w6 ⟨rfl, hm6⟩
    refine L (S (yu rfl rfl) (L (S (za rfl) (zh (j := 4) (dj := 18) (b := false) (S (ze yJ rfl) ?_) rfl))))
    refine zh (j := 4) (dj := 18) (b := false) (zi z_ rfl ((hB3 hm6).cell (i := 2) rfl) ?_) rfl
    refine zh (j := 4) (dj := 18) (b := false) (S (zG rfl rfl (decide_eq_false (by omega))) ?_) rfl
    refine L (S (zj rfl rfl) (L (S (za rfl) (zh (j := 9) (dj := 23) (b := false) (S (ze yJ rfl) ?_) rfl))))
    refine zh (j := 9) (dj := 23) (b := false) (zi z_ rfl ((hB3 hm6).cell (i := 2) rfl) ?_) rfl
    refine zh (j := 9) (dj := 23) (b := false) (S (yp rfl rfl (decide_eq_false (by omega))) ?_) rfl
    refine L (S (zj rfl rfl) (L (S (za rfl) (zh (j := 14) (dj := 28) (b := false) (S (ze ZB rfl) ?_) rfl))))
    refine zh (j := 14) (dj := 28) (b := false) (zi Zw rfl ((hB3 hm6).cell (i := 3) rfl) ?_) rfl
    refine zh (j := 14) (dj := 28) (b := false) (S (zG rfl rfl (decide_eq_false (by omega))) ?_) rfl
    refine L (S (zj rfl rfl) (L (S (za rfl) (zh (j := 19) (dj := 33) (b := false) (S (ze ZV rfl) ?_) rfl))))
    refine zh (j := 19) (dj := 33) (b := false) (zi Zw rfl ((hB3 hm6).cell (i := 4) rfl) ?_) rfl
    refine zh (j := 19) (dj := 33) (b := false) (S (zG rfl rfl (decide_eq_false (by omega))) ?_) rfl
    refine L (S (zj rfl rfl) (L (S (zd rfl) (zg (zc (zk rfl (zf (zb (L (S (za rfl) ?_))))))))))
    refine L (S (zG rfl rfl (decide_eq_true (by omega))) ?_)
    refine L (S (za rfl) (zh (j := 2) (dj := 42) (b := true) (S (ze yg rfl) ?_) rfl))
    refine zh (j := 2) (dj := 42) (b := true) (zi yX rfl ((hB2 hm6).cell (i := 0) rfl) ?_) rfl
    refine zh (j := 2) (dj := 42) (b := true) (S (zH Tryz.underlying34 rfl) ?_) rfl
    refine zh (j := 2) (dj := 42) (b := true) (S (y_ rfl rfl (decide_eq_false (by omega))) ?_) rfl
    refine L (S (zt rfl rfl) (L (S (zd rfl) (zg (zc (zk rfl (zo (yj (zc (zf (zf (zb (L (S (ze yV rfl) ?_))))))))))))))
    refine L (zi ZC rfl ((hB3 hm6).cell (i := 1) rfl) ?_)
    refine L (zq cb_23 rfl ((hC hm6)) ?_)
    rintro _ w7 ⟨rfl, hm7⟩
    refine L (S (zd rfl) (zg (zc (zf (zb (L (S (za rfl) ?_)))))))
    refine L (S (Za rfl rfl (decide_eq_false (by omega))) ?_)
    refine zg (zc (zk rfl (zo (zc (zf (zb ?_))))))
    refine L (zB zZ rfl (hB2 (hm6.no hm7)).row rfl ?_)
    refine L (zq cb_13 rfl ((hCl (hm6.no hm7))) ?_)
    rintro _ w8 ⟨o, rfl, ho8, hd8, he8, hm8⟩
    refine L (ye (zs := [(.slice none 0 0), (.slice none 0 0)]) z6 rfl ?_)
    rintro b8 w10 hb10 hm10 hn10
    refine L (zw z6 rfl rfl (zJ o) rfl hb10 (by exact Nat.le_refl 2) ?_)
    rintro w11 hb11 hm11
    refine zg (zc (zf (zf (zb (L (S (za rfl) ?_))))))
    refine L (S (y_ rfl rfl (decide_eq_false (by omega))) ?_)
    refine zg (zc (zk rfl (zo (zc (zf ?_)))))
    have hb11' : Blk w11 b8 (zM o) 37 := hb11
    have hm58 : Mv No w5 w8 := (hm6.no hm7).no hm8
    have hm07 := hm05.no (hm6.no hm7)
    have hk := mk_of (hm05.no hm58) ho8 hm07.size hn10 hm10 hb11' hm11 hd8 he8
    have z8 := hm58.size
    have hm511 : Mv No w5 w11 := (hm58.no hm10).new hm11 (by omega)
    have hol : o.tabs.length = s.tabs.length := by simpa using congrArg List.length hd8
    have hcl := fun {wq} (h : Mv No w11 wq) => clone_ret (t := t) (((ht.no hm05).no hm511).no h) (by omega)
    have hszk := hk.mv.size
    have hsl : ∀ wq, Mv No w11 wq → wq.cell? ⟨b8, 0, none⟩ = some (.slice o.A o.tabs.length o.c) := fun wq h => (hk.blk.no h).cell (i := 0) rfl
    refine ZG (γ := Tab × Option Addr × Nat) (fun _ => [(4, .pointer (some ⟨b4, 0, none⟩)), (8, .pointer (some ⟨b8, 0, none⟩))]) (fun q wc => Mk w wc b8 { o with tabs := o.tabs ++ [q.1], A := q.2.1, c := q.2.2 } (s.tabs ++ [t]) s.idxs ∧ Blk wc b4 (zM zX) 37) ?_ ?_
    · refine ZT 8 mixed rfl ?_
      refine zF (i := 0) rfl (ze yg rfl) ?_ (by decide +kernel) (by decide +kernel) (by decide +kernel) (fun _ _ _ _ h => h) rfl rfl rfl
      refine ZL (i := 1) (i2 := 2) (zS rfl (zi yX rfl (by first | exact hsl _ (Mv.refl _).drew | exact hsl _ ((Mv.refl _).drew.no hm12) | exact hsl _ (((Mv.refl _).drew.no hm12).no hm13)) ?_)) (zS rfl (zB Zo rfl ((hB3 hm511).no (Mv.refl _).drew).row rfl ?_)) (by decide +kernel)
      · refine zO (i := 2) (zS rfl (zB Zo rfl ((hB3 hm511).no (Mv.refl _).drew).row rfl ?_)) (by decide +kernel)
        refine zO (i := 3) (zS rfl (zq cb_40 rfl ((hcl (Mv.refl _).drew)) ?_)) (by decide +kernel)
        rintro _ w12 ⟨A6, c6, rfl, ho12, hm12⟩
        refine zO (i := 4) (zS rfl (zU (l := [.tmp 70]) (vss := [yA { t with A := A6, cap := c6 }]) Tryz.underlying34 yl (by decide) rfl (by simp [yA, yq, Zt]) rfl (by decide) (by decide) ?_)) (by decide +kernel)
        rintro b13 w13 hb13 hm13 hn13
        refine zO (i := 5) (zS rfl (y9 Tryz.underlying34 yl rfl (by decide) rfl (zE hk.own.tsl (((Mv.refl _).drew.no hm12).no hm13)) rfl (.inr ⟨b13, 0, rfl, hb13.row⟩) rfl (yN _) (by have := ((Mv.refl w11 (S := No)).drew.no hm12).size; have := hm13.size; omega) (by rw [hol]; unfold maxLen; omega) (by rw [hol]; omega) ?_)) (by decide +kernel)
        rintro A14 c14 w14 ho14 hm14
        refine zF (i := 6) rfl (ze yg rfl) ?_ (by decide +kernel) (by decide +kernel) (by decide +kernel) (fun _ _ _ _ h => h) rfl rfl rfl
        refine zO (i := 7) (zS rfl (yv ti_34 rfl rfl rfl ((hk.blk.no (((Mv.refl _).drew.no hm12).no hm13)).mv hm14 (zK (hk.blk.no (((Mv.refl _).drew.no hm12).no hm13)) (zE hk.own.tsl (((Mv.refl _).drew.no hm12).no hm13)) (by decide))) (by show 0 < 2; decide) ?_)) (by decide +kernel)
        rintro w15 hb15 hm15
        refine yH (by decide +kernel) ?_
        refine zc ?_
        have hm1113 : Mv No w11 w13 := (((Mv.refl _).drew.no hm12).no hm13)
        have hk13 := hk.keep hm1113
        exact ⟨rfl, ({ t with A := A6, cap := c6 }, A14, c14), (.cons rfl (.cons rfl (.nil _))), hk13.addT (t := t) (zE ho12 hm13) hszk rfl hm14 ho14 hb15 hm15, hk13.other (hB4 (hm511.no hm1113)) hk13.own.tsl (by decide) hm14 hm15 (by omega)⟩
      · refine ZL (i := 1) (i2 := 3) (zS rfl (zi yX rfl (by first | exact hsl _ (Mv.refl _).drew | exact hsl _ ((Mv.refl _).drew.no hm12) | exact hsl _ (((Mv.refl _).drew.no hm12).no hm13)) ?_)) (zS rfl (zq cb_40 rfl ((hcl (Mv.refl _).drew)) ?_)) (by decide +kernel)
        · refine zO (i := 3) (zS rfl (zq cb_40 rfl ((hcl (Mv.refl _).drew)) ?_)) (by decide +kernel)
          rintro _ w12 ⟨A6, c6, rfl, ho12, hm12⟩
          refine zO (i := 4) (zS rfl (zU (l := [.tmp 70]) (vss := [yA { t with A := A6, cap := c6 }]) Tryz.underlying34 yl (by decide) rfl (by simp [yA, yq, Zt]) rfl (by decide) (by decide) ?_)) (by decide +kernel)
          rintro b13 w13 hb13 hm13 hn13
          refine zO (i := 5) (zS rfl (y9 Tryz.underlying34 yl rfl (by decide) rfl (zE hk.own.tsl (((Mv.refl _).drew.no hm12).no hm13)) rfl (.inr ⟨b13, 0, rfl, hb13.row⟩) rfl (yN _) (by have := ((Mv.refl w11 (S := No)).drew.no hm12).size; have := hm13.size; omega) (by rw [hol]; unfold maxLen; omega) (by rw [hol]; omega) ?_)) (by decide +kernel)
          rintro A14 c14 w14 ho14 hm14
          refine zF (i := 6) rfl (ze yg rfl) ?_ (by decide +kernel) (by decide +kernel) (by decide +kernel) (fun _ _ _ _ h => h) rfl rfl rfl
          refine zO (i := 7) (zS rfl (yv ti_34 rfl rfl rfl ((hk.blk.no (((Mv.refl _).drew.no hm12).no hm13)).mv hm14 (zK (hk.blk.no (((Mv.refl _).drew.no hm12).no hm13)) (zE hk.own.tsl (((Mv.refl _).drew.no hm12).no hm13)) (by decide))) (by show 0 < 2; decide) ?_)) (by decide +kernel)
          rintro w15 hb15 hm15
          refine yH (by decide +kernel) ?_
          refine zc ?_
          have hm1113 : Mv No w11 w13 := (((Mv.refl _).drew.no hm12).no hm13)
          have hk13 := hk.keep hm1113
          exact ⟨rfl, ({ t with A := A6, cap := c6 }, A14, c14), (.cons rfl (.cons rfl (.nil _))), hk13.addT (t := t) (zE ho12 hm13) hszk rfl hm14 ho14 hb15 hm15, hk13.other (hB4 (hm511.no hm1113)) hk13.own.tsl (by decide) hm14 hm15 (by omega)⟩
        · rintro _ w12 ⟨A6, c6, rfl, ho12, hm12⟩
          refine ZL (i := 1) (i2 := 4) (zS rfl (zi yX rfl (by first | exact hsl _ (Mv.refl _).drew | exact hsl _ ((Mv.refl _).drew.no hm12) | exact hsl _ (((Mv.refl _).drew.no hm12).no hm13)) ?_)) (zS rfl (zU (l := [.tmp 70]) (vss := [yA { t with A := A6, cap := c6 }]) Tryz.underlying34 yl (by decide) rfl (by simp [yA, yq, Zt]) rfl (by decide) (by decide) ?_)) (by decide +kernel)
          · refine zO (i := 4) (zS rfl (zU (l := [.tmp 70]) (vss := [yA { t with A := A6, cap := c6 }]) Tryz.underlying34 yl (by decide) rfl (by simp [yA, yq, Zt]) rfl (by decide) (by decide) ?_)) (by decide +kernel)
            rintro b13 w13 hb13 hm13 hn13
            refine zO (i := 5) (zS rfl (y9 Tryz.underlying34 yl rfl (by decide) rfl (zE hk.own.tsl (((Mv.refl _).drew.no hm12).no hm13)) rfl (.inr ⟨b13, 0, rfl, hb13.row⟩) rfl (yN _) (by have := ((Mv.refl w11 (S := No)).drew.no hm12).size; have := hm13.size; omega) (by rw [hol]; unfold maxLen; omega) (by rw [hol]; omega) ?_)) (by decide +kernel)
            rintro A14 c14 w14 ho14 hm14
            refine zF (i := 6) rfl (ze yg rfl) ?_ (by decide +kernel) (by decide +kernel) (by decide +kernel) (fun _ _ _ _ h => h) rfl rfl rfl
            refine zO (i := 7) (zS rfl (yv ti_34 rfl rfl rfl ((hk.blk.no (((Mv.refl _).drew.no hm12).no hm13)).mv hm14 (zK (hk.blk.no (((Mv.refl _).drew.no hm12).no hm13)) (zE hk.own.tsl (((Mv.refl _).drew.no hm12).no hm13)) (by decide))) (by show 0 < 2; decide) ?_)) (by decide +kernel)
            rintro w15 hb15 hm15
            refine yH (by decide +kernel) ?_
            refine zc ?_
            have hm1113 : Mv No w11 w13 := (((Mv.refl _).drew.no hm12).no hm13)
            have hk13 := hk.keep hm1113
            exact ⟨rfl, ({ t with A := A6, cap := c6 }, A14, c14), (.cons rfl (.cons rfl (.nil _))), hk13.addT (t := t) (zE ho12 hm13) hszk rfl hm14 ho14 hb15 hm15, hk13.other (hB4 (hm511.no hm1113)) hk13.own.tsl (by decide) hm14 hm15 (by omega)⟩
          · rintro b13 w13 hb13 hm13 hn13
            refine zO (i := 1) (zS rfl (zi yX rfl (by first | exact hsl _ (Mv.refl _).drew | exact hsl _ ((Mv.refl _).drew.no hm12) | exact hsl _ (((Mv.refl _).drew.no hm12).no hm13)) ?_)) (by decide +kernel)
            refine zO (i := 5) (zS rfl (y9 Tryz.underlying34 yl rfl (by decide) rfl (zE hk.own.tsl (((Mv.refl _).drew.no hm12).no hm13)) rfl (.inr ⟨b13, 0, rfl, hb13.row⟩) rfl (yN _) (by have := ((Mv.refl w11 (S := No)).drew.no hm12).size; have := hm13.size; omega) (by rw [hol]; unfold maxLen; omega) (by rw [hol]; omega) ?_)) (by decide +kernel)
            rintro A14 c14 w14 ho14 hm14
            refine zF (i := 6) rfl (ze yg rfl) ?_ (by decide +kernel) (by decide +kernel) (by decide +kernel) (fun _ _ _ _ h => h) rfl rfl rfl
            refine zO (i := 7) (zS rfl (yv ti_34 rfl rfl rfl ((hk.blk.no (((Mv.refl _).drew.no hm12).no hm13)).mv hm14 (zK (hk.blk.no (((Mv.refl _).drew.no hm12).no hm13)) (zE hk.own.tsl (((Mv.refl _).drew.no hm12).no hm13)) (by decide))) (by show 0 < 2; decide) ?_)) (by decide +kernel)
            rintro w15 hb15 hm15
            refine yH (by decide +kernel) ?_
            refine zc ?_
            have hm1113 : Mv No w11 w13 := (((Mv.refl _).drew.no hm12).no hm13)
            have hk13 := hk.keep hm1113
            exact ⟨rfl, ({ t with A := A6, cap := c6 }, A14, c14), (.cons rfl (.cons rfl (.nil _))), hk13.addT (t := t) (zE ho12 hm13) hszk rfl hm14 ho14 hb15 hm15, hk13.other (hB4 (hm511.no hm1113)) hk13.own.tsl (by decide) hm14 hm15 (by omega)⟩
    rintro ⟨t', A14, c14⟩ w15 ⟨hk15, hB4'⟩ f' hf'
    dsimp only at hk15
    refine Zb hf' ?_
    clear hf' f'
    have htd : (o.tabs ++ [t']).map Tab.d = s.tabs.map Tab.d ++ [t.d] := hk15.td.trans (by rw [List.map_append]; rfl)
    generalize hto : o.tabs ++ [t'] = tn at hk15 htd
    have htl : tn.length = s.tabs.length + 1 := by rw [← hto]; simp [hol]
    obtain ⟨bt, cst, hAt, hbt, -⟩ := Ym hk15.own.tsl (by show 0 < tn.length; omega)
    dsimp only at hAt
    subst hAt
    have hsort := fun {wq} (h : Mv No w15 wq) => sortTab_ret (xs := tn) (n := tn.length) rfl (by omega) (by omega) (zE hk15.own.tsl h) tab_cmp
    refine zf (zb (L (S (ze yg rfl) ?_)))
    refine L (zi yX rfl (hk15.blk.cell (i := 0) rfl) ?_)
    refine L (zq cb_59 rfl ((hsort (Mv.refl _))) ?_)
    rintro _ w16 ⟨ho16, hm16⟩
    refine zg (zc (zf (zb ?_)))
    refine L (zB zZ rfl (hk15.blk.mv (Z5 hm16 (n := tn.length) (c := c14)) (zK hk15.blk hk15.own.tsl (by decide))).row rfl ?_)
    refine L (zw z6 rfl rfl (zJ { o with tabs := tn, A := some ⟨bt, 0, none⟩, c := c14 }) rfl (hB4'.mv (Z5 hm16 (n := tn.length) (c := c14)) (zK hB4' hk15.own.tsl (by decide))) (by exact Nat.le_refl 2) ?_)
    rintro w17 hb17 hm17
    refine L (S (zd rfl) (zg (zc (zy ?_))))
    have hk16 := hk15.turnT (tabs' := y6 (fun x y => ltN x.name y.name) tn) (ts' := y6 (fun x y => ltN x.name y.name) tn) (ZK _ _) (fun x hx => hk15.own.tab x (mem_sortI hx)) (Z5 hm16) ho16 rfl
    have hf := hk16.fin (hB4'.mv (Z5 hm16 (n := tn.length) (c := c14)) (zK hB4' hk15.own.tsl (by decide))) (by omega) hm17
    have hb17' : Blk w17 b4 (zM { o with tabs := y6 (fun x y => ltN x.name y.name) tn, A := some ⟨bt, 0, none⟩, c := c14 }) 37 := by have h9 := hb17; unfold zM at h9 ⊢; dsimp only at h9 ⊢; rw [ZK]; exact h9
    refine yk (rs := [.cell 4 37, .tmp 5]) [.agg (zM { o with tabs := y6 (fun x y => ltN x.name y.name) tn, A := some ⟨bt, 0, none⟩, c := c14 }).toArray, .int .i64 ((0 : Nat) : Int)] Tryz.results30 ?_ ?_
    · exact ⟨⟨_, rfl, zu zZ hb17'.row rfl⟩, rfl, trivial⟩
    exact ⟨_, rfl, hf.1, fun h => absurd rfl h, fun _ => ⟨(map_sortI (lt' := fun a b : TD => ltN a.1 b.1) (g := Tab.d) (fun _ _ => rfl) tn).trans (by rw [htd]), he8⟩, hf.2⟩
  · rw [if_neg q8]
    obtain ⟨i, hi, hil⟩ := hat q8
    refine zb (L (S (ze yG rfl) ?_))
    refine L (zi yc rfl ((hB3 (Mv.refl _)).cell (i := 0) rfl) ?_)
    refine L (zq Yz rfl ((hN q1)) ?_)
    rintro _ w6 ⟨rfl, hm6⟩
    refine L (S (yu rfl rfl) (L (S (za rfl) (zh (j := 4) (dj := 18) (b := false) (S (ze yJ rfl) ?_) rfl))))
    refine zh (j := 4) (dj := 18) (b := false) (zi z_ rfl ((hB3 hm6).cell (i := 2) rfl) ?_) rfl
    refine zh (j := 4) (dj := 18) (b := false) (S (zG rfl rfl (decide_eq_false (by omega))) ?_) rfl
    refine L (S (zj rfl rfl) (L (S (za rfl) (zh (j := 9) (dj := 23) (b := false) (S (ze yJ rfl) ?_) rfl))))
    refine zh (j := 9) (dj := 23) (b := false) (zi z_ rfl ((hB3 hm6).cell (i := 2) rfl) ?_) rfl
    refine zh (j := 9) (dj := 23) (b := false) (S (yp rfl rfl (decide_eq_false (by omega))) ?_) rfl
    refine L (S (zj rfl rfl) (L (S (za rfl) (zh (j := 14) (dj := 28) (b := false) (S (ze ZB rfl) ?_) rfl))))
    refine zh (j := 14) (dj := 28) (b := false) (zi Zw rfl ((hB3 hm6).cell (i := 3) rfl) ?_) rfl
    refine zh (j := 14) (dj := 28) (b := false) (S (zG rfl rfl (decide_eq_false (by omega))) ?_) rfl
    refine L (S (zj rfl rfl) (L (S (za rfl) (zh (j := 19) (dj := 33) (b := false) (S (ze ZV rfl) ?_) rfl))))
    refine zh (j := 19) (dj := 33) (b := false) (zi Zw rfl ((hB3 hm6).cell (i := 4) rfl) ?_) rfl
    refine zh (j := 19) (dj := 33) (b := false) (S (zG rfl rfl (decide_eq_false (by omega))) ?_) rfl
    refine L (S (zj rfl rfl) (L (S (zd rfl) (zg (zc (zk rfl (zf (zb (L (S (za rfl) ?_))))))))))
    refine L (S (zG rfl rfl (decide_eq_false (by omega))) ?_)
    refine L (S (za rfl) (zl (j := 2) (dj := 42) (b := true) (b' := false) (d := 43) rfl (zl (j := 2) (dj := 42) (b := true) (b' := false) (d := 44) rfl (zl (j := 2) (dj := 42) (b := true) (b' := false) (d := 45) rfl (zl (j := 2) (dj := 42) (b := true) (b' := false) (d := 46) rfl (L (S (zj rfl rfl) (L (S (zd rfl) (zg (zc (zk rfl (zo (yj (zc (zf (zf (zb (L (S (ze yV rfl) ?_))))))))))))))))))))
    refine L (zi ZC rfl ((hB3 hm6).cell (i := 1) rfl) ?_)
    refine L (zq cb_23 rfl ((hC hm6)) ?_)
    rintro _ w7 ⟨rfl, hm7⟩
    refine L (S (zd rfl) (zg (zc (zf (zb (L (S (za rfl) ?_)))))))
    refine L (S (Za rfl rfl (decide_eq_false (by omega))) ?_)
    refine zg (zc (zk rfl (zo (zc (zf (zb ?_))))))
    refine L (zB zZ rfl (hB2 (hm6.no hm7)).row rfl ?_)
    refine L (zq cb_13 rfl ((hCl (hm6.no hm7))) ?_)
    rintro _ w8 ⟨o, rfl, ho8, hd8, he8, hm8⟩
    refine L (ye (zs := [(.slice none 0 0), (.slice none 0 0)]) z6 rfl ?_)
    rintro b8 w10 hb10 hm10 hn10
    refine L (zw z6 rfl rfl (zJ o) rfl hb10 (by exact Nat.le_refl 2) ?_)
    rintro w11 hb11 hm11
    refine zg (zc (zf (zf (zb (L (S (za rfl) ?_))))))
    refine L (S (y_ rfl rfl (decide_eq_true (by omega))) ?_)
    refine zg (zc (zr rfl (zf ?_)))
    have hb11' : Blk w11 b8 (zM o) 37 := hb11
    have hm58 : Mv No w5 w8 := (hm6.no hm7).no hm8
    have hm07 := hm05.no (hm6.no hm7)
    have hk := mk_of (hm05.no hm58) ho8 hm07.size hn10 hm10 hb11' hm11 hd8 he8
    have z8 := hm58.size
    have hm511 : Mv No w5 w11 := (hm58.no hm10).new hm11 (by omega)
    have hol : o.tabs.length = s.tabs.length := by simpa using congrArg List.length hd8
    have hcl := fun {wq} (h : Mv No w11 wq) => clone_ret (t := t) (((ht.no hm05).no hm511).no h) (by omega)
    have hszk := hk.mv.size
    obtain ⟨bt, cst, hAt, hbt, -⟩ := Ym hk.own.tsl (by omega)
    have hot : w11.ownsRow w.heap.size 27 5 (.slice (some ⟨bt, 0, none⟩) o.tabs.length o.c) o.tabs.length (zI yA o.tabs) := by rw [← hAt]; exact hk.own.tsl
    have hsl : ∀ wq, Mv No w11 wq → wq.cell? ⟨b8, 0, none⟩ = some (.slice (some ⟨bt, 0, none⟩) o.tabs.length o.c) := fun wq h => by rw [← hAt]; exact (hk.blk.no h).cell (i := 0) rfl
    refine ZG (γ := Tab) (fun _ => [(4, .pointer (some ⟨b4, 0, none⟩)), (8, .pointer (some ⟨b8, 0, none⟩))]) (fun q wc => Mk w wc b8 { o with tabs := o.tabs.set i q } (s.tabs.set i t) s.idxs ∧ Blk wc b4 (zM zX) 37) ?_ ?_
    · refine ZT 7 mixed rfl ?_
      refine zF (i := 0) rfl (ze yg rfl) ?_ (by decide +kernel) (by decide +kernel) (by decide +kernel) (fun _ _ _ _ h => h) rfl rfl rfl
      refine zF (i := 2) rfl (za rfl) ?_ (by decide +kernel) (by decide +kernel) (by decide +kernel) (fun _ _ _ _ h => h) rfl rfl rfl
      refine ZL (i := 1) (i2 := 3) (zS rfl (zi yX rfl (by first | exact hsl _ (Mv.refl _).drew | exact hsl _ ((Mv.refl _).drew.no hm12)) ?_)) (zS rfl (zB Zo rfl ((hB3 hm511).no (Mv.refl _).drew).row rfl ?_)) (by decide +kernel)
      · refine zO (i := 3) (zS rfl (zB Zo rfl ((hB3 hm511).no (Mv.refl _).drew).row rfl ?_)) (by decide +kernel)
        refine zO (i := 4) (zS rfl (zq cb_40 rfl ((hcl (Mv.refl _).drew)) ?_)) (by decide +kernel)
        rintro _ w12 ⟨A6, c6, rfl, ho12, hm12⟩
        refine zF (i := 5) rfl (zn Tryz.underlying34 (zD yl) rfl rfl (j := i) hi (by omega) (p := 0 + i * 5) rfl) ?_ (by decide +kernel) (by decide +kernel) (by decide +kernel) (fun _ _ _ _ h => h) rfl rfl rfl
        refine zO (i := 6) (zS rfl (Zc (i := i) yI yl rfl (by omega) rfl (yN _) (zE hot ((Mv.refl _).drew.no hm12)) rfl (by omega) ?_)) (by decide +kernel)
        rintro w13 ho13 hm13
        refine yH (by decide +kernel) ?_
        refine zc ?_
        have hm1112 : Mv No w11 w12 := ((Mv.refl _).drew.no hm12)
        have hk12 := hk.keep hm1112
        have hmo : Mv (Zx (.slice o.A o.tabs.length o.c)) w12 w13 := by rw [hAt]; exact Z5 hm13
        refine ⟨rfl, { t with A := A6, cap := c6 }, (.cons rfl (.cons rfl (.nil _))), hk12.turnT (tabs' := o.tabs.set i { t with A := A6, cap := c6 }) (List.length_set ..) (fun x hx => ?_) hmo (by rw [hAt]; exact ho13) ?_, (hB4 (hm511.no hm1112)).mv hmo (zK (hB4 (hm511.no hm1112)) hk12.own.tsl (by decide))⟩
        · exact (List.mem_or_eq_of_mem_set hx).elim (fun hx => hk12.own.tab x hx) (fun hx => by subst hx; exact Zs ho12 hszk)
        · rw [List.map_set, List.map_set, hd8]; rfl
      · refine ZL (i := 1) (i2 := 4) (zS rfl (zi yX rfl (by first | exact hsl _ (Mv.refl _).drew | exact hsl _ ((Mv.refl _).drew.no hm12)) ?_)) (zS rfl (zq cb_40 rfl ((hcl (Mv.refl _).drew)) ?_)) (by decide +kernel)
        · refine zO (i := 4) (zS rfl (zq cb_40 rfl ((hcl (Mv.refl _).drew)) ?_)) (by decide +kernel)
          rintro _ w12 ⟨A6, c6, rfl, ho12, hm12⟩
          refine zF (i := 5) rfl (zn Tryz.underlying34 (zD yl) rfl rfl (j := i) hi (by omega) (p := 0 + i * 5) rfl) ?_ (by decide +kernel) (by decide +kernel) (by decide +kernel) (fun _ _ _ _ h => h) rfl rfl rfl
          refine zO (i := 6) (zS rfl (Zc (i := i) yI yl rfl (by omega) rfl (yN _) (zE hot ((Mv.refl _).drew.no hm12)) rfl (by omega) ?_)) (by decide +kernel)
          rintro w13 ho13 hm13
          refine yH (by decide +kernel) ?_
          refine zc ?_
          have hm1112 : Mv No w11 w12 := ((Mv.refl _).drew.no hm12)
          have hk12 := hk.keep hm1112
          have hmo : Mv (Zx (.slice o.A o.tabs.length o.c)) w12 w13 := by rw [hAt]; exact Z5 hm13
          refine ⟨rfl, { t with A := A6, cap := c6 }, (.cons rfl (.cons rfl (.nil _))), hk12.turnT (tabs' := o.tabs.set i { t with A := A6, cap := c6 }) (List.length_set ..) (fun x hx => ?_) hmo (by rw [hAt]; exact ho13) ?_, (hB4 (hm511.no hm1112)).mv hmo (zK (hB4 (hm511.no hm1112)) hk12.own.tsl (by decide))⟩
          · exact (List.mem_or_eq_of_mem_set hx).elim (fun hx => hk12.own.tab x hx) (fun hx => by subst hx; exact Zs ho12 hszk)
          · rw [List.map_set, List.map_set, hd8]; rfl
        · rintro _ w12 ⟨A6, c6, rfl, ho12, hm12⟩
          refine zO (i := 1) (zS rfl (zi yX rfl (by first | exact hsl _ (Mv.refl _).drew | exact hsl _ ((Mv.refl _).drew.no hm12)) ?_)) (by decide +kernel)
          refine zF (i := 5) rfl (zn Tryz.underlying34 (zD yl) rfl rfl (j := i) hi (by omega) (p := 0 + i * 5) rfl) ?_ (by decide +kernel) (by decide +kernel) (by decide +kernel) (fun _ _ _ _ h => h) rfl rfl rfl
          refine zO (i := 6) (zS rfl (Zc (i := i) yI yl rfl (by omega) rfl (yN _) (zE hot ((Mv.refl _).drew.no hm12)) rfl (by omega) ?_)) (by decide +kernel)
          rintro w13 ho13 hm13
          refine yH (by decide +kernel) ?_
          refine zc ?_
          have hm1112 : Mv No w11 w12 := ((Mv.refl _).drew.no hm12)
          have hk12 := hk.keep hm1112
          have hmo : Mv (Zx (.slice o.A o.tabs.length o.c)) w12 w13 := by rw [hAt]; exact Z5 hm13
          refine ⟨rfl, { t with A := A6, cap := c6 }, (.cons rfl (.cons rfl (.nil _))), hk12.turnT (tabs' := o.tabs.set i { t with A := A6, cap := c6 }) (List.length_set ..) (fun x hx => ?_) hmo (by rw [hAt]; exact ho13) ?_, (hB4 (hm511.no hm1112)).mv hmo (zK (hB4 (hm511.no hm1112)) hk12.own.tsl (by decide))⟩
          · exact (List.mem_or_eq_of_mem_set hx).elim (fun hx => hk12.own.tab x hx) (fun hx => by subst hx; exact Zs ho12 hszk)
          · rw [List.map_set, List.map_set, hd8]; rfl
    rintro t' w15 ⟨hk15, hB4'⟩ f' hf'
    refine Zb hf' ?_
    clear hf' f'
    refine zf (zb ?_)
    refine L (zB zZ rfl hk15.blk.row rfl ?_)
    refine L (zw z6 rfl rfl (zJ { o with tabs := o.tabs.set i t' }) rfl hB4' (by exact Nat.le_refl 2) ?_)
    rintro w17 hb17 hm17
    refine L (S (zd rfl) (zg (zc (zy (zm ?_)))))
    have hb17' : Blk w17 b4 (zM { o with tabs := o.tabs.set i t' }) 37 := hb17
    have hf := hk15.fin hB4' (by omega) hm17
    refine yk (rs := [.cell 4 37, .tmp 5]) [.agg (zM { o with tabs := o.tabs.set i t' }).toArray, .int .i64 ((0 : Nat) : Int)] Tryz.results30 ?_ ?_
    · exact ⟨⟨_, rfl, zu zZ hb17'.row rfl⟩, rfl, trivial⟩
    exact ⟨_, rfl, hf.1, fun h => absurd rfl h, fun _ => ⟨by rw [hi]; exact hk15.td.trans (List.map_set ..), he8⟩, hf.2⟩
end
end Go.Proofs.YtnoioimphcmeiaaGreatDoor
namespace Go.Proofs.YtnoioimphcmeiaaGreatDoor
open Go.RowKit
set_option maxRecDepth 20000
set_option maxHeartbeats 1000000

section
variable {w : World}
theorem idxInt_ret {xs : List Int} {A : Option Addr} {c k : Nat} (hk : xs.length = k) (hA : SlR w A (zI intC xs)) (hl : xs.length ≤ 1000000) (v : Int) : Ret Tryz.prog 77 [.slice A k c, .int .i64 v] w fun r w' => r = .int .i64 (Z0 (fun x => decide (x = v)) xs) ∧ Mv No w w' := by
  subst hk
  refine zN Tryz.func77 Tryz.ntmps77 rfl rfl ?_
  refine zf (zb (L (S (zd rfl) (zg (zc (zf (zf (zb (L (S (za rfl) ?_))))))))))
  refine L (S (zH Tryz.underlying28 rfl) ?_)
  refine L (S (za rfl) (zg (zc (zx ?_))))
  refine yF (γ := Nat) (fun i => [(0, .slice A xs.length c), (1, .int .i64 v), (7, .int .i64 (xs.length : Int)), (8, .int .i64 (i : Int))]) (fun i wr => Mv No w wr ∧ i ≤ xs.length ∧ ∀ x ∈ xs.take i, decide (x = v) = false) (fun i => xs.length - i) 0 (.cons rfl (.cons rfl (.cons rfl (.cons rfl (.nil _))))) ⟨Mv.refl w, Nat.zero_le _, by simp⟩ ?_
  rintro i wr ⟨hmr, hi, hb⟩
  by_cases hlt : i < xs.length
  · have ha := List.getElem?_eq_getElem hlt
    generalize xs[i] = a at ha
    obtain ⟨b, o, rfl, -, hrow⟩ := yr Ys (by decide) (hA.no hmr) ha
    by_cases hq : a = v
    · refine zf (zb ?_)
      refine L (S (zG rfl rfl (decide_eq_true (by omega))) ?_)
      refine zg (zc (zf (zr rfl (zo (zc (zf (zx (zf (zb (L (S (za rfl) (L (S (zd rfl) (zg (zc (zf (zb (L (S (za rfl) (L (S (za rfl) (L (S (za rfl) ?_)))))))))))))))))))))))
      refine L (S (zn Tryz.underlying28 (zD Yf) rfl rfl (j := i) rfl (by omega) (p := o + i * 1) (by omega)) ?_)
      refine L (zi z_ rfl (hrow 0 _ rfl) ?_)
      refine L (S (zR rfl rfl (decide_eq_true hq.symm)) ?_)
      refine zg (zc (zr rfl (zf (zb (L (S (za rfl) (L (S (zd rfl) (zg (zc (zy (zP (zm (zm (zP (zm ?_))))))))))))))))
      refine zC Tryz.results77 rfl ?_
      exact ⟨by rw [Yj ha (decide_eq_true hq) hb], hmr⟩
    · refine zf (zb ?_)
      refine L (S (zG rfl rfl (decide_eq_true (by omega))) ?_)
      refine zg (zc (zf (zr rfl (zo (zc (zf (zx (zf (zb (L (S (za rfl) (L (S (zd rfl) (zg (zc (zf (zb (L (S (za rfl) (L (S (za rfl) (L (S (za rfl) ?_)))))))))))))))))))))))
      refine L (S (zn Tryz.underlying28 (zD Yf) rfl rfl (j := i) rfl (by omega) (p := o + i * 1) (by omega)) ?_)
      refine L (zi z_ rfl (hrow 0 _ rfl) ?_)
      refine L (S (zR rfl rfl (decide_eq_false (fun h => hq h.symm))) ?_)
      refine zg (zc (zk rfl (zo (yj (zc (zb ?_))))))
      refine L (S (zT rfl rfl (z1 (c := ((i + 1 : Nat) : Int)) (by omega))) ?_)
      refine L (S (za rfl) (zg (zc ?_)))
      refine ⟨rfl, i + 1, (.cons rfl (.cons rfl (.cons rfl (.cons rfl (.nil _))))), ⟨hmr, by omega, fun x hx => ?_⟩, by omega⟩
      rw [yY ha, List.mem_append] at hx
      rcases hx with hx | hx
      · exact hb x hx
      · have : x = a := by simpa using hx
        rw [this]; exact decide_eq_false hq
  · refine zf (zb ?_)
    refine L (S (zG rfl rfl (decide_eq_false (by omega))) ?_)
    refine zg (zc (zf (zk rfl (yn (zL (zL (yK (zc (zf (zb (L (S (zd rfl) (zg (zc (zy ?_)))))))))))))))
    refine zC Tryz.results77 rfl ?_
    refine ⟨by rw [Yk fun x hx => hb x (by rw [List.take_of_length_le (by omega)]; exact hx)], hmr⟩
theorem hasInt_ret {xs : List Int} {A : Option Addr} {c k : Nat} (hk : xs.length = k) (hA : SlR w A (zI intC xs)) (hl : xs.length ≤ 1000000) {v : Int} {β : Bool} (hβ : xs.any (fun x => decide (x = v)) = β) : Ret Tryz.prog 51 [.slice A k c, .int .i64 v] w fun r w' => r = .bool β ∧ Mv No w w' := by
  refine zN Tryz.func51 Tryz.ntmps51 rfl rfl ?_
  refine zf (zb (L (S (zd rfl) (zg (zc (zf (zb (L (S (za rfl) (L (S (za rfl) ?_)))))))))))
  refine L (zq cb_77 rfl ((idxInt_ret hk hA hl v)) ?_)
  rintro _ w1 ⟨rfl, hm1⟩
  refine L (S (y_ rfl rfl (findN_any.trans hβ)) ?_)
  refine L (S (zd rfl) (zg (zc (zy ?_))))
  refine zC Tryz.results51 rfl ?_
  exact ⟨rfl, hm1⟩
theorem places_ret {t : Tab} {l : List Int} {A : Option Addr} {c : Nat} (hA : SlR w A (zI intC l)) (hc : l.length ≤ c) (hl : l.length ≤ 1000000) (ht : t.cols.length ≤ 1000000) : Ret Tryz.prog 25 [.agg (yA t).toArray, .slice A l.length c] w fun v w' => v = .int .i64 (Z_ t.cols.length l : Nat) ∧ Mv No w w' := by
  unfold Z_
  refine zN Tryz.func25 Tryz.ntmps25 rfl rfl ?_
  refine zf (zb ?_)
  refine L (Zl rfl ?_)
  rintro b2 w2 hb2 hm2 hn2
  refine L (S (zd rfl) (zg (zc (zf (zf ?_)))))
  by_cases h0 : l.length = 0
  · rw [if_pos h0]
    refine zb (L (S (za rfl) ?_))
    refine L (S (zH Tryz.underlying28 rfl) ?_)
    refine L (S (zR rfl rfl (decide_eq_true (by omega))) ?_)
    refine zg (zc (zr rfl (zf (zb (L (S (zd rfl) (zg (zc (zy (zm ?_))))))))))
    refine zC Tryz.results25 rfl ?_
    exact ⟨rfl, hm2⟩
  rw [if_neg h0]
  by_cases h6 : 3 < l.length
  · rw [if_pos h6]
    refine zb (L (S (za rfl) ?_))
    refine L (S (zH Tryz.underlying28 rfl) ?_)
    refine L (S (zR rfl rfl (decide_eq_false (by omega))) ?_)
    refine zg (zc (zk rfl (zo (zc (zf (zf (zb (L (S (za rfl) ?_)))))))))
    refine L (S (zH Tryz.underlying28 rfl) ?_)
    refine L (S (yp rfl rfl (decide_eq_true (by omega))) ?_)
    refine zg (zc (zr rfl (zf (zb (L (S (zd rfl) (zg (zc (zy (zm ?_))))))))))
    refine zC Tryz.results25 rfl ?_
    exact ⟨rfl, hm2⟩
  rw [if_neg h6]
  refine zb (L (S (za rfl) ?_))
  refine L (S (zH Tryz.underlying28 rfl) ?_)
  refine L (S (zR rfl rfl (decide_eq_false (by omega))) ?_)
  refine zg (zc (zk rfl (zo (zc (zf (zf (zb (L (S (za rfl) ?_)))))))))
  refine L (S (zH Tryz.underlying28 rfl) ?_)
  refine L (S (yp rfl rfl (decide_eq_false (by omega))) ?_)
  refine zg (zc (zk rfl (zo (zc (zf (zf (zb (L (S (za rfl) ?_)))))))))
  refine L (S (zH Tryz.underlying28 rfl) ?_)
  refine L (S (za rfl) (zg (zc (zx ?_))))
  refine yF (γ := Nat) (fun i => [(1, .slice A l.length c), (2, .pointer (some ⟨b2, 0, none⟩)), (13, .slice A l.length c), (14, .int .i64 (l.length : Int)), (15, .int .i64 (i : Int))]) (fun i wr => Mv No w2 wr ∧ i ≤ l.length ∧ Yu t.cols.length [] l = Yu t.cols.length (l.take i) (l.drop i)) (fun i => l.length - i) 0 (.cons rfl (.cons rfl (.cons rfl (.cons rfl (.cons rfl (.nil _)))))) ⟨Mv.refl w2, Nat.zero_le _, rfl⟩ ?_
  rintro i wr ⟨hmr, hi, hg⟩
  rw [hg]
  have hA2 := hA.no hm2
  by_cases hlt : i < l.length
  · have ha := List.getElem?_eq_getElem hlt
    generalize l[i] = x at ha
    obtain ⟨b, o, hAe, -, hrow⟩ := yr Ys (by decide) (hA2.no hmr) ha
    have hpre := SlR.pre Ys (hA2.no hmr) hc i
    subst hAe
    have hgs : Yu t.cols.length (l.take i) (l.drop i) = if x < 0 ∨ (t.cols.length : Int) ≤ x then 131 else if (l.take i).any (fun d => decide (d = x)) = true then 8 else Yu t.cols.length (l.take (i + 1)) (l.drop (i + 1)) := by rw [drop_at ha, yY ha]; rfl
    have hcell : wr.cell? ⟨b2, 1, none⟩ = some (.slice t.A t.cols.length t.cap) := (hb2.no hmr).cell (i := 1) rfl
    by_cases q1 : x < 0
    · rw [hgs, if_pos (.inl q1)]
      refine zf (zb ?_)
      refine L (S (zG rfl rfl (decide_eq_true (by omega))) ?_)
      refine zg (zc (zf (zr rfl (zo (zc (zf (zx (zf (zb (L (S (za rfl) ?_)))))))))))
      refine L (S (zn Tryz.underlying28 (zD Yf) rfl rfl (j := i) rfl (by omega) (p := o + i * 1) (by omega)) ?_)
      refine L (zi z_ rfl (hrow 0 _ rfl) ?_)
      refine L (S (zd rfl) (L (S (zd rfl) (zg (zc (zf (zf (zb (L (S (za rfl) ?_))))))))))
      refine L (S (zG rfl rfl (decide_eq_true (by omega))) ?_)
      refine L (S (za rfl) (zl (j := 2) (dj := 22) (b := false) (b' := true) (d := 23) rfl (zl (j := 2) (dj := 22) (b := false) (b' := true) (d := 24) rfl (zl (j := 2) (dj := 22) (b := false) (b' := true) (d := 25) rfl (zl (j := 2) (dj := 22) (b := false) (b' := true) (d := 26) rfl (zl (j := 2) (dj := 22) (b := false) (b' := true) (d := 27) rfl (L (S (zt rfl rfl) (zg (zc (zr rfl (zf (zb (L (S (zd rfl) (zg (zc (zy (zm (zP (zm (zm (zP (zm ?_))))))))))))))))))))))))
      refine zC Tryz.results25 rfl ?_
      exact ⟨rfl, hm2.no hmr⟩
    by_cases q2 : (t.cols.length : Int) ≤ x
    · rw [hgs, if_pos (.inr q2)]
      refine zf (zb ?_)
      refine L (S (zG rfl rfl (decide_eq_true (by omega))) ?_)
      refine zg (zc (zf (zr rfl (zo (zc (zf (zx (zf (zb (L (S (za rfl) ?_)))))))))))
      refine L (S (zn Tryz.underlying28 (zD Yf) rfl rfl (j := i) rfl (by omega) (p := o + i * 1) (by omega)) ?_)
      refine L (zi z_ rfl (hrow 0 _ rfl) ?_)
      refine L (S (zd rfl) (L (S (zd rfl) (zg (zc (zf (zf (zb (L (S (za rfl) ?_))))))))))
      refine L (S (zG rfl rfl (decide_eq_false (by omega))) ?_)
      refine L (S (za rfl) (zh (j := 2) (dj := 22) (b := false) (S (za rfl) (zh (j := 2) (dj := 22) (b := false) (S (ze yV rfl) ?_) rfl)) rfl))
      refine zh (j := 2) (dj := 22) (b := false) (zi ZC rfl hcell ?_) rfl
      refine zh (j := 2) (dj := 22) (b := false) (S (zH Tryz.underlying25 rfl) ?_) rfl
      refine zh (j := 2) (dj := 22) (b := false) (S (y_ rfl rfl (decide_eq_true (by omega))) ?_) rfl
      refine L (S (zj rfl rfl) (zg (zc (zr rfl (zf (zb (L (S (zd rfl) (zg (zc (zy (zm (zP (zm (zm (zP (zm ?_)))))))))))))))))
      refine zC Tryz.results25 rfl ?_
      exact ⟨rfl, hm2.no hmr⟩
    rw [if_neg (by omega)] at hgs
    have hlen : (l.take i).length = i - 0 := by rw [List.length_take]; omega
    by_cases q4 : (l.take i).any (fun d => decide (d = x)) = true
    · rw [hgs, if_pos q4]
      refine zf (zb ?_)
      refine L (S (zG rfl rfl (decide_eq_true (by omega))) ?_)
      refine zg (zc (zf (zr rfl (zo (zc (zf (zx (zf (zb (L (S (za rfl) ?_)))))))))))
      refine L (S (zn Tryz.underlying28 (zD Yf) rfl rfl (j := i) rfl (by omega) (p := o + i * 1) (by omega)) ?_)
      refine L (zi z_ rfl (hrow 0 _ rfl) ?_)
      refine L (S (zd rfl) (L (S (zd rfl) (zg (zc (zf (zf (zb (L (S (za rfl) ?_))))))))))
      refine L (S (zG rfl rfl (decide_eq_false (by omega))) ?_)
      refine L (S (za rfl) (zh (j := 2) (dj := 22) (b := false) (S (za rfl) (zh (j := 2) (dj := 22) (b := false) (S (ze yV rfl) ?_) rfl)) rfl))
      refine zh (j := 2) (dj := 22) (b := false) (zi ZC rfl hcell ?_) rfl
      refine zh (j := 2) (dj := 22) (b := false) (S (zH Tryz.underlying25 rfl) ?_) rfl
      refine zh (j := 2) (dj := 22) (b := false) (S (y_ rfl rfl (decide_eq_false (by omega))) ?_) rfl
      refine L (S (zj rfl rfl) (zg (zc (zk rfl (zo (zc (zf (zb (L (S (za rfl) (L (S (za rfl) ?_))))))))))))
      refine L (S (YC Tryz.underlying28 (zD Yf) rfl yU (zV (j := i) rfl rfl) (Nat.zero_le _) (by omega)) ?_)
      refine L (S (za rfl) ?_)
      refine L (zq cb_51 rfl ((hasInt_ret hlen hpre (by omega) q4)) ?_)
      rintro _ w7 ⟨rfl, hm7⟩
      refine zg (zc (zr rfl (zf (zb (L (S (zd rfl) (zg (zc (zy (zP (zm (zm (zP (zm ?_))))))))))))))
      refine zC Tryz.results25 rfl ?_
      exact ⟨rfl, (hm2.no hmr).no hm7⟩
    · have q4' : (l.take i).any (fun d => decide (d = x)) = false := Bool.eq_false_iff.2 q4
      rw [if_neg q4] at hgs
      refine zf (zb ?_)
      refine L (S (zG rfl rfl (decide_eq_true (by omega))) ?_)
      refine zg (zc (zf (zr rfl (zo (zc (zf (zx (zf (zb (L (S (za rfl) ?_)))))))))))
      refine L (S (zn Tryz.underlying28 (zD Yf) rfl rfl (j := i) rfl (by omega) (p := o + i * 1) (by omega)) ?_)
      refine L (zi z_ rfl (hrow 0 _ rfl) ?_)
      refine L (S (zd rfl) (L (S (zd rfl) (zg (zc (zf (zf (zb (L (S (za rfl) ?_))))))))))
      refine L (S (zG rfl rfl (decide_eq_false (by omega))) ?_)
      refine L (S (za rfl) (zh (j := 2) (dj := 22) (b := false) (S (za rfl) (zh (j := 2) (dj := 22) (b := false) (S (ze yV rfl) ?_) rfl)) rfl))
      refine zh (j := 2) (dj := 22) (b := false) (zi ZC rfl hcell ?_) rfl
      refine zh (j := 2) (dj := 22) (b := false) (S (zH Tryz.underlying25 rfl) ?_) rfl
      refine zh (j := 2) (dj := 22) (b := false) (S (y_ rfl rfl (decide_eq_false (by omega))) ?_) rfl
      refine L (S (zj rfl rfl) (zg (zc (zk rfl (zo (zc (zf (zb (L (S (za rfl) (L (S (za rfl) ?_))))))))))))
      refine L (S (YC Tryz.underlying28 (zD Yf) rfl yU (zV (j := i) rfl rfl) (Nat.zero_le _) (by omega)) ?_)
      refine L (S (za rfl) ?_)
      refine L (zq cb_51 rfl ((hasInt_ret hlen hpre (by omega) q4')) ?_)
      rintro _ w7 ⟨rfl, hm7⟩
      refine zg (zc (zk rfl (zo (yj (zc (zb ?_))))))
      refine L (S (zT rfl rfl (z1 (c := ((i + 1 : Nat) : Int)) (by omega))) ?_)
      refine L (S (za rfl) (zg (zc ?_)))
      exact ⟨rfl, i + 1, (.cons rfl (.cons rfl (.cons rfl (.cons rfl (.cons rfl (.nil _)))))), ⟨hmr.no hm7, by omega, hgs⟩, by omega⟩
  · have e : Yu t.cols.length (l.take i) (l.drop i) = 0 := by rw [List.drop_eq_nil_of_le (by omega)]; rfl
    rw [e]
    refine zf (zb ?_)
    refine L (S (zG rfl rfl (decide_eq_false (by omega))) ?_)
    refine zg (zc (zf (zk rfl (yn (zL (zL (yK (zc (zf (zb (L (S (zd rfl) (zg (zc (zy ?_)))))))))))))))
    refine zC Tryz.results25 rfl ?_
    exact ⟨rfl, hm2.no hmr⟩
theorem refplaces_ret {t : Tab} {l : List Int} {A : Option Addr} {c : Nat} (hA : SlR w A (zI intC l)) (hl : l.length ≤ 1000000) (ht : t.cols.length ≤ 1000000) : Ret Tryz.prog 26 [.agg (yA t).toArray, .slice A l.length c] w fun v w' => v = .int .i64 (Z_ t.cols.length l : Nat) ∧ Mv No w w' := by
  unfold Z_
  refine zN Tryz.func26 Tryz.ntmps26 rfl rfl ?_
  refine zf (zb ?_)
  refine L (Zl rfl ?_)
  rintro b2 w2 hb2 hm2 hn2
  refine L (S (zd rfl) (zg (zc (zf (zf ?_)))))
  by_cases h0 : l.length = 0
  · rw [if_pos h0]
    refine zb (L (S (za rfl) ?_))
    refine L (S (zH Tryz.underlying28 rfl) ?_)
    refine L (S (zR rfl rfl (decide_eq_true (by omega))) ?_)
    refine zg (zc (zr rfl (zf (zb (L (S (zd rfl) (zg (zc (zy (zm ?_))))))))))
    refine zC Tryz.results26 rfl ?_
    exact ⟨rfl, hm2⟩
  rw [if_neg h0]
  by_cases h6 : 3 < l.length
  · rw [if_pos h6]
    refine zb (L (S (za rfl) ?_))
    refine L (S (zH Tryz.underlying28 rfl) ?_)
    refine L (S (zR rfl rfl (decide_eq_false (by omega))) ?_)
    refine zg (zc (zk rfl (zo (zc (zf (zf (zb (L (S (za rfl) ?_)))))))))
    refine L (S (zH Tryz.underlying28 rfl) ?_)
    refine L (S (yp rfl rfl (decide_eq_true (by omega))) ?_)
    refine zg (zc (zr rfl (zf (zb (L (S (zd rfl) (zg (zc (zy (zm ?_))))))))))
    refine zC Tryz.results26 rfl ?_
    exact ⟨rfl, hm2⟩
  rw [if_neg h6]
  refine zb (L (S (za rfl) ?_))
  refine L (S (zH Tryz.underlying28 rfl) ?_)
  refine L (S (zR rfl rfl (decide_eq_false (by omega))) ?_)
  refine zg (zc (zk rfl (zo (zc (zf (zf (zb (L (S (za rfl) ?_)))))))))
  refine L (S (zH Tryz.underlying28 rfl) ?_)
  refine L (S (yp rfl rfl (decide_eq_false (by omega))) ?_)
  refine zg (zc (zk rfl (zo (zc (zf (zf (zb (L (S (zd rfl) (zg (zc (zx ?_))))))))))))
  refine yF (γ := Nat) (fun i => [(1, .slice A l.length c), (2, .pointer (some ⟨b2, 0, none⟩)), (5, .int .i64 (i : Int))]) (fun i wr => Mv No w2 wr ∧ i ≤ l.length ∧ Yu t.cols.length [] l = Yu t.cols.length (l.take i) (l.drop i)) (fun i => l.length - i) 0 (.cons rfl (.cons rfl (.cons rfl (.nil _)))) ⟨Mv.refl w2, Nat.zero_le _, rfl⟩ ?_
  rintro i wr ⟨hmr, hi, hg⟩
  rw [hg]
  have hA2 := hA.no hm2
  by_cases hlt : i < l.length
  · have ha := List.getElem?_eq_getElem hlt
    generalize l[i] = x at ha
    obtain ⟨b, o, hAe, hall, hrow⟩ := yr Ys (by decide) (hA2.no hmr) ha
    subst hAe
    have hgs : Yu t.cols.length (l.take i) (l.drop i) = if x < 0 ∨ (t.cols.length : Int) ≤ x then 131 else if (l.take i).any (fun d => decide (d = x)) = true then 8 else Yu t.cols.length (l.take (i + 1)) (l.drop (i + 1)) := by rw [drop_at ha, yY ha]; rfl
    have hcell : ∀ {wq}, Mv No wr wq → wq.cell? ⟨b2, 1, none⟩ = some (.slice t.A t.cols.length t.cap) := fun h => ((hb2.no hmr).no h).cell (i := 1) rfl
    by_cases q1 : x < 0
    · rw [hgs, if_pos (.inl q1)]
      refine zf (zf (zb (L (S (za rfl) (L (S (za rfl) ?_))))))
      refine L (S (zH Tryz.underlying28 rfl) ?_)
      refine L (S (zG rfl rfl (decide_eq_true (by omega))) ?_)
      refine zg (zc (zr rfl (zo (zc (zf (zx (zf (zf ?_))))))))
      refine yP 15 mixed rfl (fun hH => ?_)
      refine zp (i := 0) rfl (PureV.toS (za rfl)) ?_ (by assumption) (by decide +kernel) (by decide +kernel) (by decide +kernel) (fun _ _ _ _ h => h) rfl rfl rfl
      refine zp (i := 1) rfl (PureV.toS (za rfl)) ?_ (by assumption) (by decide +kernel) (by decide +kernel) (by decide +kernel) (fun _ _ _ _ h => h) rfl rfl rfl
      refine zp (i := 2) rfl (PureV.toS (zn Tryz.underlying28 (zD Yf) rfl rfl (j := i) rfl (by omega) (p := o + i * 1) (by omega))) ?_ (by assumption) (by decide +kernel) (by decide +kernel) (by decide +kernel) (fun _ _ _ _ h => h) rfl rfl rfl
      refine zp (i := 3) rfl (ya z_ rfl (fun _ h => (hrow.no h) 0 _ rfl)) ?_ (by assumption) (by decide +kernel) (by decide +kernel) (by decide +kernel) (fun _ _ _ _ h => h) rfl rfl rfl
      refine zp (i := 4) rfl (PureV.toS (zG rfl rfl (decide_eq_true (by omega)))) ?_ (by assumption) (by decide +kernel) (by decide +kernel) (by decide +kernel) (fun _ _ _ _ h => h) rfl rfl rfl
      refine zp (i := 5) rfl (PureV.toS (za rfl)) ?_ (by assumption) (by decide +kernel) (by decide +kernel) (by decide +kernel) (fun _ _ _ _ h => h) rfl rfl rfl
      refine ym (i := 6) (j := 5) (dj := 24) (b := false) (b' := true) rfl rfl ?_ (by assumption) (by decide +kernel) (by decide +kernel) (by decide +kernel) (fun _ _ _ _ h => h) rfl rfl rfl rfl rfl
      refine ym (i := 7) (j := 5) (dj := 24) (b := false) (b' := true) rfl rfl ?_ (by assumption) (by decide +kernel) (by decide +kernel) (by decide +kernel) (fun _ _ _ _ h => h) rfl rfl rfl rfl rfl
      refine ym (i := 8) (j := 5) (dj := 24) (b := false) (b' := true) rfl rfl ?_ (by assumption) (by decide +kernel) (by decide +kernel) (by decide +kernel) (fun _ _ _ _ h => h) rfl rfl rfl rfl rfl
      refine ym (i := 9) (j := 5) (dj := 24) (b := false) (b' := true) rfl rfl ?_ (by assumption) (by decide +kernel) (by decide +kernel) (by decide +kernel) (fun _ _ _ _ h => h) rfl rfl rfl rfl rfl
      refine ym (i := 10) (j := 5) (dj := 24) (b := false) (b' := true) rfl rfl ?_ (by assumption) (by decide +kernel) (by decide +kernel) (by decide +kernel) (fun _ _ _ _ h => h) rfl rfl rfl rfl rfl
      refine ym (i := 11) (j := 5) (dj := 24) (b := false) (b' := true) rfl rfl ?_ (by assumption) (by decide +kernel) (by decide +kernel) (by decide +kernel) (fun _ _ _ _ h => h) rfl rfl rfl rfl rfl
      refine ym (i := 12) (j := 5) (dj := 24) (b := false) (b' := true) rfl rfl ?_ (by assumption) (by decide +kernel) (by decide +kernel) (by decide +kernel) (fun _ _ _ _ h => h) rfl rfl rfl rfl rfl
      refine ym (i := 13) (j := 5) (dj := 24) (b := false) (b' := true) rfl rfl ?_ (by assumption) (by decide +kernel) (by decide +kernel) (by decide +kernel) (fun _ _ _ _ h => h) rfl rfl rfl rfl rfl
      refine zp (i := 14) rfl (PureV.toS (zt rfl rfl)) ?_ (by assumption) (by decide +kernel) (by decide +kernel) (by decide +kernel) (fun _ _ _ _ h => h) rfl rfl rfl
      refine yZ (by decide +kernel) ?_
      refine zc (zr rfl (zf (zb (L (S (zd rfl) (zg (zc (zy (zm (zP (zm (zm (zP (zm ?_))))))))))))))
      refine zC Tryz.results26 rfl ?_
      exact ⟨rfl, (hm2.no hmr).no hH⟩
    by_cases q2 : (t.cols.length : Int) ≤ x
    · rw [hgs, if_pos (.inr q2)]
      refine zf (zf (zb (L (S (za rfl) (L (S (za rfl) ?_))))))
      refine L (S (zH Tryz.underlying28 rfl) ?_)
      refine L (S (zG rfl rfl (decide_eq_true (by omega))) ?_)
      refine zg (zc (zr rfl (zo (zc (zf (zx (zf (zf ?_))))))))
      refine yP 15 mixed rfl (fun hH => ?_)
      refine zp (i := 0) rfl (PureV.toS (za rfl)) ?_ (by assumption) (by decide +kernel) (by decide +kernel) (by decide +kernel) (fun _ _ _ _ h => h) rfl rfl rfl
      refine zp (i := 1) rfl (PureV.toS (za rfl)) ?_ (by assumption) (by decide +kernel) (by decide +kernel) (by decide +kernel) (fun _ _ _ _ h => h) rfl rfl rfl
      refine zp (i := 2) rfl (PureV.toS (zn Tryz.underlying28 (zD Yf) rfl rfl (j := i) rfl (by omega) (p := o + i * 1) (by omega))) ?_ (by assumption) (by decide +kernel) (by decide +kernel) (by decide +kernel) (fun _ _ _ _ h => h) rfl rfl rfl
      refine zp (i := 3) rfl (ya z_ rfl (fun _ h => (hrow.no h) 0 _ rfl)) ?_ (by assumption) (by decide +kernel) (by decide +kernel) (by decide +kernel) (fun _ _ _ _ h => h) rfl rfl rfl
      refine zp (i := 4) rfl (PureV.toS (zG rfl rfl (decide_eq_false (by omega)))) ?_ (by assumption) (by decide +kernel) (by decide +kernel) (by decide +kernel) (fun _ _ _ _ h => h) rfl rfl rfl
      refine zp (i := 5) rfl (PureV.toS (za rfl)) ?_ (by assumption) (by decide +kernel) (by decide +kernel) (by decide +kernel) (fun _ _ _ _ h => h) rfl rfl rfl
      refine zz (i := 6) (j := 5) (dj := 24) (b := false) rfl (PureV.toS (za rfl)) rfl ?_ (by assumption) (by decide +kernel) (by decide +kernel) (by decide +kernel) (fun _ _ _ _ h => h) rfl rfl rfl rfl
      refine zz (i := 7) (j := 5) (dj := 24) (b := false) rfl (PureV.toS (za rfl)) rfl ?_ (by assumption) (by decide +kernel) (by decide +kernel) (by decide +kernel) (fun _ _ _ _ h => h) rfl rfl rfl rfl
      refine zz (i := 8) (j := 5) (dj := 24) (b := false) rfl (PureV.toS (zn Tryz.underlying28 (zD Yf) rfl rfl (j := i) rfl (by omega) (p := o + i * 1) (by omega))) rfl ?_ (by assumption) (by decide +kernel) (by decide +kernel) (by decide +kernel) (fun _ _ _ _ h => h) rfl rfl rfl rfl
      refine zz (i := 9) (j := 5) (dj := 24) (b := false) rfl (ya z_ rfl (fun _ h => (hrow.no h) 0 _ rfl)) rfl ?_ (by assumption) (by decide +kernel) (by decide +kernel) (by decide +kernel) (fun _ _ _ _ h => h) rfl rfl rfl rfl
      refine zz (i := 10) (j := 5) (dj := 24) (b := false) rfl (PureV.toS (ze yV rfl)) rfl ?_ (by assumption) (by decide +kernel) (by decide +kernel) (by decide +kernel) (fun _ _ _ _ h => h) rfl rfl rfl rfl
      refine zz (i := 11) (j := 5) (dj := 24) (b := false) rfl (ya ZC rfl (fun _ h => hcell h)) rfl ?_ (by assumption) (by decide +kernel) (by decide +kernel) (by decide +kernel) (fun _ _ _ _ h => h) rfl rfl rfl rfl
      refine zz (i := 12) (j := 5) (dj := 24) (b := false) rfl (PureV.toS (zH Tryz.underlying25 rfl)) rfl ?_ (by assumption) (by decide +kernel) (by decide +kernel) (by decide +kernel) (fun _ _ _ _ h => h) rfl rfl rfl rfl
      refine zz (i := 13) (j := 5) (dj := 24) (b := false) rfl (PureV.toS (y_ rfl rfl (decide_eq_true (by omega)))) rfl ?_ (by assumption) (by decide +kernel) (by decide +kernel) (by decide +kernel) (fun _ _ _ _ h => h) rfl rfl rfl rfl
      refine zp (i := 14) rfl (PureV.toS (zj rfl rfl)) ?_ (by assumption) (by decide +kernel) (by decide +kernel) (by decide +kernel) (fun _ _ _ _ h => h) rfl rfl rfl
      refine yZ (by decide +kernel) ?_
      refine zc (zr rfl (zf (zb (L (S (zd rfl) (zg (zc (zy (zm (zP (zm (zm (zP (zm ?_))))))))))))))
      refine zC Tryz.results26 rfl ?_
      exact ⟨rfl, (hm2.no hmr).no hH⟩
    rw [if_neg (by omega)] at hgs
    refine zf (zf (zb (L (S (za rfl) (L (S (za rfl) ?_))))))
    refine L (S (zH Tryz.underlying28 rfl) ?_)
    refine L (S (zG rfl rfl (decide_eq_true (by omega))) ?_)
    refine zg (zc (zr rfl (zo (zc (zf (zx (zf (zf ?_))))))))
    refine yP 15 mixed rfl (fun hH => ?_)
    refine zp (i := 0) rfl (PureV.toS (za rfl)) ?_ (by assumption) (by decide +kernel) (by decide +kernel) (by decide +kernel) (fun _ _ _ _ h => h) rfl rfl rfl
    refine zp (i := 1) rfl (PureV.toS (za rfl)) ?_ (by assumption) (by decide +kernel) (by decide +kernel) (by decide +kernel) (fun _ _ _ _ h => h) rfl rfl rfl
    refine zp (i := 2) rfl (PureV.toS (zn Tryz.underlying28 (zD Yf) rfl rfl (j := i) rfl (by omega) (p := o + i * 1) (by omega))) ?_ (by assumption) (by decide +kernel) (by decide +kernel) (by decide +kernel) (fun _ _ _ _ h => h) rfl rfl rfl
    refine zp (i := 3) rfl (ya z_ rfl (fun _ h => (hrow.no h) 0 _ rfl)) ?_ (by assumption) (by decide +kernel) (by decide +kernel) (by decide +kernel) (fun _ _ _ _ h => h) rfl rfl rfl
    refine zp (i := 4) rfl (PureV.toS (zG rfl rfl (decide_eq_false (by omega)))) ?_ (by assumption) (by decide +kernel) (by decide +kernel) (by decide +kernel) (fun _ _ _ _ h => h) rfl rfl rfl
    refine zp (i := 5) rfl (PureV.toS (za rfl)) ?_ (by assumption) (by decide +kernel) (by decide +kernel) (by decide +kernel) (fun _ _ _ _ h => h) rfl rfl rfl
    refine zz (i := 6) (j := 5) (dj := 24) (b := false) rfl (PureV.toS (za rfl)) rfl ?_ (by assumption) (by decide +kernel) (by decide +kernel) (by decide +kernel) (fun _ _ _ _ h => h) rfl rfl rfl rfl
    refine zz (i := 7) (j := 5) (dj := 24) (b := false) rfl (PureV.toS (za rfl)) rfl ?_ (by assumption) (by decide +kernel) (by decide +kernel) (by decide +kernel) (fun _ _ _ _ h => h) rfl rfl rfl rfl
    refine zz (i := 8) (j := 5) (dj := 24) (b := false) rfl (PureV.toS (zn Tryz.underlying28 (zD Yf) rfl rfl (j := i) rfl (by omega) (p := o + i * 1) (by omega))) rfl ?_ (by assumption) (by decide +kernel) (by decide +kernel) (by decide +kernel) (fun _ _ _ _ h => h) rfl rfl rfl rfl
    refine zz (i := 9) (j := 5) (dj := 24) (b := false) rfl (ya z_ rfl (fun _ h => (hrow.no h) 0 _ rfl)) rfl ?_ (by assumption) (by decide +kernel) (by decide +kernel) (by decide +kernel) (fun _ _ _ _ h => h) rfl rfl rfl rfl
    refine zz (i := 10) (j := 5) (dj := 24) (b := false) rfl (PureV.toS (ze yV rfl)) rfl ?_ (by assumption) (by decide +kernel) (by decide +kernel) (by decide +kernel) (fun _ _ _ _ h => h) rfl rfl rfl rfl
    refine zz (i := 11) (j := 5) (dj := 24) (b := false) rfl (ya ZC rfl (fun _ h => hcell h)) rfl ?_ (by assumption) (by decide +kernel) (by decide +kernel) (by decide +kernel) (fun _ _ _ _ h => h) rfl rfl rfl rfl
    refine zz (i := 12) (j := 5) (dj := 24) (b := false) rfl (PureV.toS (zH Tryz.underlying25 rfl)) rfl ?_ (by assumption) (by decide +kernel) (by decide +kernel) (by decide +kernel) (fun _ _ _ _ h => h) rfl rfl rfl rfl
    refine zz (i := 13) (j := 5) (dj := 24) (b := false) rfl (PureV.toS (y_ rfl rfl (decide_eq_false (by omega)))) rfl ?_ (by assumption) (by decide +kernel) (by decide +kernel) (by decide +kernel) (fun _ _ _ _ h => h) rfl rfl rfl rfl
    refine zp (i := 14) rfl (PureV.toS (zj rfl rfl)) ?_ (by assumption) (by decide +kernel) (by decide +kernel) (by decide +kernel) (fun _ _ _ _ h => h) rfl rfl rfl
    refine yZ (by decide +kernel) ?_
    refine zc (zk rfl (zo (zc (zf (zb (L (S (zd rfl) (zg (zc (zx ?_))))))))))
    refine yF (γ := Nat) (fun k => [(1, .slice (some ⟨b, o, none⟩) l.length c), (2, .pointer (some ⟨b2, 0, none⟩)), (5, .int .i64 (i : Int)), (6, .int .i64 (k : Int))]) (fun k wq => Mv No wr wq ∧ k ≤ i ∧ ∀ d ∈ l.take k, decide (d = x) = false) (fun k => i - k) 0 (.cons rfl (.cons rfl (.cons rfl (.cons rfl (.nil _))))) ⟨hH, Nat.zero_le _, by simp⟩ ?_
    rintro k wq ⟨hmq, hk, hb⟩
    by_cases hki : k < i
    · have hy := List.getElem?_eq_getElem (show k < l.length by omega)
      generalize l[k] = y at hy
      have hrx := hrow.no hmq
      have hry := cellsL_row Ys (hall.no hmq) hy
      by_cases hxy : y = x
      · have q4 : (l.take i).any (fun d => decide (d = x)) = true := List.any_eq_true.2 ⟨y, List.mem_of_getElem? (i := k) (by rw [List.getElem?_take_of_lt hki]; exact hy), decide_eq_true hxy⟩
        rw [hgs, if_pos q4]
        refine zf (zf (zb (L (S (za rfl) (L (S (za rfl) ?_))))))
        refine L (S (zG rfl rfl (decide_eq_true (by omega))) ?_)
        refine zg (zc (zr rfl (zo (zc (zf (zx (zf ?_)))))))
        refine yP 9 mixed rfl (fun hH => ?_)
        refine zp (i := 0) rfl (PureV.toS (za rfl)) ?_ (by assumption) (by decide +kernel) (by decide +kernel) (by decide +kernel) (fun _ _ _ _ h => h) rfl rfl rfl
        refine zp (i := 1) rfl (PureV.toS (za rfl)) ?_ (by assumption) (by decide +kernel) (by decide +kernel) (by decide +kernel) (fun _ _ _ _ h => h) rfl rfl rfl
        refine zp (i := 2) rfl (PureV.toS (zn Tryz.underlying28 (zD Yf) rfl rfl (j := k) rfl (by omega) (p := o + k * 1) (by omega))) ?_ (by assumption) (by decide +kernel) (by decide +kernel) (by decide +kernel) (fun _ _ _ _ h => h) rfl rfl rfl
        refine zp (i := 3) rfl (ya z_ rfl (fun _ h => (hry.no h) 0 _ rfl)) ?_ (by assumption) (by decide +kernel) (by decide +kernel) (by decide +kernel) (fun _ _ _ _ h => h) rfl rfl rfl
        refine zp (i := 4) rfl (PureV.toS (za rfl)) ?_ (by assumption) (by decide +kernel) (by decide +kernel) (by decide +kernel) (fun _ _ _ _ h => h) rfl rfl rfl
        refine zp (i := 5) rfl (PureV.toS (za rfl)) ?_ (by assumption) (by decide +kernel) (by decide +kernel) (by decide +kernel) (fun _ _ _ _ h => h) rfl rfl rfl
        refine zp (i := 6) rfl (PureV.toS (zn Tryz.underlying28 (zD Yf) rfl rfl (j := i) rfl (by omega) (p := o + i * 1) (by omega))) ?_ (by assumption) (by decide +kernel) (by decide +kernel) (by decide +kernel) (fun _ _ _ _ h => h) rfl rfl rfl
        refine zp (i := 7) rfl (ya z_ rfl (fun _ h => (hrx.no h) 0 _ rfl)) ?_ (by assumption) (by decide +kernel) (by decide +kernel) (by decide +kernel) (fun _ _ _ _ h => h) rfl rfl rfl
        refine zp (i := 8) rfl (PureV.toS (zR rfl rfl (decide_eq_true hxy))) ?_ (by assumption) (by decide +kernel) (by decide +kernel) (by decide +kernel) (fun _ _ _ _ h => h) rfl rfl rfl
        refine yZ (by decide +kernel) ?_
        refine zc (zr rfl (zf (zb (L (S (zd rfl) (zg (zc (zy (zP (zm (zm (zP (zP (zm (zm (zP (zm ?_)))))))))))))))))
        refine zC Tryz.results26 rfl ?_
        exact ⟨rfl, ((hm2.no hmr).no hmq).no hH⟩
      · refine zf (zf (zb (L (S (za rfl) (L (S (za rfl) ?_))))))
        refine L (S (zG rfl rfl (decide_eq_true (by omega))) ?_)
        refine zg (zc (zr rfl (zo (zc (zf (zx (zf ?_)))))))
        refine yP 9 mixed rfl (fun hH => ?_)
        refine zp (i := 0) rfl (PureV.toS (za rfl)) ?_ (by assumption) (by decide +kernel) (by decide +kernel) (by decide +kernel) (fun _ _ _ _ h => h) rfl rfl rfl
        refine zp (i := 1) rfl (PureV.toS (za rfl)) ?_ (by assumption) (by decide +kernel) (by decide +kernel) (by decide +kernel) (fun _ _ _ _ h => h) rfl rfl rfl
        refine zp (i := 2) rfl (PureV.toS (zn Tryz.underlying28 (zD Yf) rfl rfl (j := k) rfl (by omega) (p := o + k * 1) (by omega))) ?_ (by assumption) (by decide +kernel) (by decide +kernel) (by decide +kernel) (fun _ _ _ _ h => h) rfl rfl rfl
        refine zp (i := 3) rfl (ya z_ rfl (fun _ h => (hry.no h) 0 _ rfl)) ?_ (by assumption) (by decide +kernel) (by decide +kernel) (by decide +kernel) (fun _ _ _ _ h => h) rfl rfl rfl
        refine zp (i := 4) rfl (PureV.toS (za rfl)) ?_ (by assumption) (by decide +kernel) (by decide +kernel) (by decide +kernel) (fun _ _ _ _ h => h) rfl rfl rfl
        refine zp (i := 5) rfl (PureV.toS (za rfl)) ?_ (by assumption) (by decide +kernel) (by decide +kernel) (by decide +kernel) (fun _ _ _ _ h => h) rfl rfl rfl
        refine zp (i := 6) rfl (PureV.toS (zn Tryz.underlying28 (zD Yf) rfl rfl (j := i) rfl (by omega) (p := o + i * 1) (by omega))) ?_ (by assumption) (by decide +kernel) (by decide +kernel) (by decide +kernel) (fun _ _ _ _ h => h) rfl rfl rfl
        refine zp (i := 7) rfl (ya z_ rfl (fun _ h => (hrx.no h) 0 _ rfl)) ?_ (by assumption) (by decide +kernel) (by decide +kernel) (by decide +kernel) (fun _ _ _ _ h => h) rfl rfl rfl
        refine zp (i := 8) rfl (PureV.toS (zR rfl rfl (decide_eq_false hxy))) ?_ (by assumption) (by decide +kernel) (by decide +kernel) (by decide +kernel) (fun _ _ _ _ h => h) rfl rfl rfl
        refine yZ (by decide +kernel) ?_
        refine zc (zk rfl (zo (yj (zc (zb (L (S (za rfl) ?_)))))))
        refine L (S (zT rfl rfl (z1 (c := ((k + 1 : Nat) : Int)) (by omega))) ?_)
        refine L (S (zd rfl) (zg (zc ?_)))
        refine ⟨rfl, k + 1, (.cons rfl (.cons rfl (.cons rfl (.cons rfl (.nil _))))), ⟨hmq.no hH, by omega, fun d hd => ?_⟩, by omega⟩
        rw [yY hy, List.mem_append] at hd
        rcases hd with hd | hd
        · exact hb d hd
        · have : d = y := by simpa using hd
          rw [this]; exact decide_eq_false hxy
    · have hki' : k = i := by omega
      subst hki'
      have q4 : ¬ (l.take k).any (fun d => decide (d = x)) = true := fun h => by
        obtain ⟨d, hd, he⟩ := List.any_eq_true.1 h
        rw [hb d hd] at he; cases he
      rw [if_neg q4] at hgs
      refine zf (zf (zb (L (S (za rfl) (L (S (za rfl) ?_))))))
      refine L (S (zG rfl rfl (decide_eq_false (by omega))) ?_)
      refine zg (zc (zk rfl (yn (zL (zL (yK (yj (zc (zb (L (S (za rfl) ?_)))))))))))
      refine L (S (zT rfl rfl (z1 (c := ((k + 1 : Nat) : Int)) (by omega))) ?_)
      refine L (S (zd rfl) (zg (zc ?_)))
      exact ⟨rfl, k + 1, (.cons rfl (.cons rfl (.cons rfl (.nil _)))), ⟨hmr.no hmq, by omega, hgs⟩, by omega⟩
  · have e : Yu t.cols.length (l.take i) (l.drop i) = 0 := by rw [List.drop_eq_nil_of_le (by omega)]; rfl
    rw [e]
    refine zf (zf (zb (L (S (za rfl) (L (S (za rfl) ?_))))))
    refine L (S (zH Tryz.underlying28 rfl) ?_)
    refine L (S (zG rfl rfl (decide_eq_false (by omega))) ?_)
    refine zg (zc (zk rfl (yn (zL (zL (yK (zc (zf (zb (L (S (zd rfl) (zg (zc (zy ?_))))))))))))))
    refine zC Tryz.results26 rfl ?_
    exact ⟨rfl, hm2.no hmr⟩
end
end Go.Proofs.YtnoioimphcmeiaaGreatDoor
namespace Go.Proofs.YtnoioimphcmeiaaGreatDoor
open Go.RowKit
set_option maxRecDepth 20000
set_option maxHeartbeats 2000000

section
variable {w : World}
theorem puti_ret (hv : Vr w) {s : Sch} {t : Idx} (hs : SchOk w s) (ht : IdxOk w t) (hsm : SchSm s) (htm : IdxSm t) : Ret Tryz.prog 34 [.agg (zM s).toArray, .agg (yq t).toArray] w fun v w' => ∃ o, v = .tuple #[.agg (zM o).toArray, .int .i64 (iE (s.tabs.map Tab.d) (s.idxs.map Idx.d_) t.d_ : Nat)] ∧ SchOwn w.heap.size w' o ∧ (iE (s.tabs.map Tab.d) (s.idxs.map Idx.d_) t.d_ ≠ 0 → o = zX) ∧ (iE (s.tabs.map Tab.d) (s.idxs.map Idx.d_) t.d_ = 0 → o.tabs.map Tab.d = s.tabs.map Tab.d ∧ o.idxs.map Idx.d_ = iPut (s.idxs.map Idx.d_) t.d_) ∧ Mv No w w' := by
  have hl1 := hsm.lt
  have hl2 := hsm.li
  have hc1 := htm.cl
  have hn1 := htm.nm
  have hmap : (s.tabs.map Tab.d).length = s.tabs.length := List.length_map ..
  have hmapi : (s.idxs.map Idx.d_).length = s.idxs.length := List.length_map ..
  refine zN Tryz.func34 Tryz.ntmps34 rfl rfl ?_
  refine zf (zb ?_)
  refine L (Zl rfl ?_)
  rintro b2 w2 hb2 hm2 hn2
  refine L (Zl rfl ?_)
  rintro b3 w3 hb3 hm3 hn3
  refine L (ye (zs := [(.slice none 0 0), (.slice none 0 0)]) z6 rfl ?_)
  rintro b4 w4 hb4 hm4 hn4
  refine L (S (zd rfl) (zg (zc (zf ?_))))
  refine yP 10 mixed rfl (fun hH => ?_)
  refine zp (i := 0) rfl (yE zZ rfl (fun _ h => (((hb2.no hm3).no hm4).no h).row) rfl) ?_ (by assumption) (by decide +kernel) (by decide +kernel) (by decide +kernel) (fun _ _ _ _ h => h) rfl rfl rfl
  refine zp (i := 1) rfl (PureV.toS (ze yx rfl)) ?_ (by assumption) (by decide +kernel) (by decide +kernel) (by decide +kernel) (fun _ _ _ _ h => h) rfl rfl rfl
  refine zp (i := 2) rfl (ya yc rfl (fun _ h => ((hb3.no hm4).no h).cell (i := 0) rfl)) ?_ (by assumption) (by decide +kernel) (by decide +kernel) (by decide +kernel) (fun _ _ _ _ h => h) rfl rfl rfl
  refine zp (i := 4) rfl (yE zZ rfl (fun _ h => (((hb2.no hm3).no hm4).no h).row) rfl) ?_ (by assumption) (by decide +kernel) (by decide +kernel) (by decide +kernel) (fun _ _ _ _ h => h) rfl rfl rfl
  refine zp (i := 5) rfl (PureV.toS (ze Zp rfl)) ?_ (by assumption) (by decide +kernel) (by decide +kernel) (by decide +kernel) (fun _ _ _ _ h => h) rfl rfl rfl
  refine zp (i := 6) rfl (ya yc rfl (fun _ h => ((hb3.no hm4).no h).cell (i := 1) rfl)) ?_ (by assumption) (by decide +kernel) (by decide +kernel) (by decide +kernel) (fun _ _ _ _ h => h) rfl rfl rfl
  refine Ze (i := 3) (Z8 rfl (zq cb_17 rfl ((index_ret (s := s) ((((hs.isl.no hm2).no hm3).no hm4).no hH) (by omega) t.name)) ?_)) (by decide +kernel)
  rintro _ w4' ⟨rfl, hm4'⟩
  refine yh (by first | assumption | exact Mv.no (by assumption) (by assumption)) (fun hH => ?_)
  refine Ze (i := 7) (Z8 rfl (zq cb_15 rfl ((table_ret (s := s) ((((hs.tsl.no hm2).no hm3).no hm4).no hH) (by omega) t.table)) ?_)) (by decide +kernel)
  rintro _ w5 ⟨rfl, hm5'⟩
  refine yh (by first | assumption | exact Mv.no (by assumption) (by assumption)) (fun hH => ?_)
  refine zp (i := 8) rfl (PureV.toS (zd rfl)) ?_ (by assumption) (by decide +kernel) (by decide +kernel) (by decide +kernel) (fun _ _ _ _ h => h) rfl rfl rfl
  refine zp (i := 9) rfl (PureV.toS (zd rfl)) ?_ (by assumption) (by decide +kernel) (by decide +kernel) (by decide +kernel) (fun _ _ _ _ h => h) rfl rfl rfl
  refine yZ (by decide +kernel) ?_
  refine zc (zf (zx (zf ?_)))
  have hm5 := hH
  have hm05 := ((hm2.no hm3).no hm4).no hm5
  have z2 := hm2.size
  have z3 := hm3.size
  have y4 := hb4.lt
  have y3 := hb3.lt
  have y2 := hb2.lt
  have z4 := hm4.size
  have z5 := hm5.size
  have hB2 : ∀ {wq}, Mv No w5 wq → Blk wq b2 (zM s) 37 := fun h => (((hb2.no hm3).no hm4).no hm5).no h
  have hB3 : ∀ {wq}, Mv No w5 wq → Blk wq b3 (yq t) 30 := fun h => ((hb3.no hm4).no hm5).no h
  have hB4 : ∀ {wq}, Mv No w5 wq → Blk wq b4 (zM zX) 37 := fun h => (hb4.no hm5).no h
  have hN : ∀ {β : Bool}, ZD t.name = β → _ := fun {β} h => name_is (β := β) (hv.no hm05) (show t.name.length ≤ 100000 by omega) h
  rw [tAt_map, iAt_map]
  have htE : iE (s.tabs.map Tab.d) (s.idxs.map Idx.d_) t.d_ = if ZD t.name = false ∨ t.state < 1 ∨ t.state > 3 ∨ t.root < 1 ∨ t.root > 1600 ∨ t.cursor < 0 then 7 else if tAt (s.tabs.map Tab.d) t.table < 0 then 130 else if iAt (s.idxs.map Idx.d_) t.name < 0 ∧ 12 ≤ s.idxs.length then 11 else Z_ (((s.tabs.map Tab.d)[(tAt (s.tabs.map Tab.d) t.table).toNat]?.map fun t => t.2.1.length).getD 0) t.cols := by unfold iE; rw [hmapi]; rfl
  have htP : iPut (s.idxs.map Idx.d_) t.d_ = if iAt (s.idxs.map Idx.d_) t.name < 0 then y6 (fun a b => ltN a.1 b.1) (s.idxs.map Idx.d_ ++ [t.d_]) else (s.idxs.map Idx.d_).set (iAt (s.idxs.map Idx.d_) t.name).toNat t.d_ := rfl
  have hat : ¬ iAt (s.idxs.map Idx.d_) t.name < 0 → ∃ i : Nat, iAt (s.idxs.map Idx.d_) t.name = (i : Int) ∧ i < s.idxs.length := fun h => by
    obtain ⟨i, a, h1, _, h3⟩ := Yt h
    exact ⟨i, h1, by rw [← hmapi]; exact h3⟩
  have hof : ¬ tAt (s.tabs.map Tab.d) t.table < 0 → ∃ (j : Nat) (tj : Tab), tAt (s.tabs.map Tab.d) t.table = (j : Int) ∧ s.tabs[j]? = some tj ∧ j < s.tabs.length ∧ ((s.tabs.map Tab.d)[(tAt (s.tabs.map Tab.d) t.table).toNat]?.map fun t => t.2.1.length).getD 0 = tj.cols.length := fun h => by
    obtain ⟨j, a, h1, h2, h3⟩ := Yt h
    rw [List.getElem?_map] at h2
    obtain ⟨tj, htj, rfl⟩ := Option.map_eq_some_iff.1 h2
    refine ⟨j, tj, h1, htj, by rw [← hmap]; exact h3, ?_⟩
    rw [show (tAt (s.tabs.map Tab.d) t.table).toNat = j by rw [show tAt (s.tabs.map Tab.d) t.table = (j : Int) from h1]; rfl, List.getElem?_map, htj]
    rfl
  rw [htE, htP]
  generalize ((s.tabs.map Tab.d)[(tAt (s.tabs.map Tab.d) t.table).toNat]?.map fun t => t.2.1.length).getD 0 = pl at *
  generalize tAt (s.tabs.map Tab.d) t.table = of_ at *
  generalize iAt (s.idxs.map Idx.d_) t.name = at_ at *
  clear htE htP
  by_cases q1 : ZD t.name = false
  · rw [if_pos (.inl q1)]
    refine zb (L (S (ze yx rfl) ?_))
    refine L (zi yc rfl ((hB3 (Mv.refl _)).cell (i := 0) rfl) ?_)
    refine L (zq Yz rfl ((hN q1)) ?_)
    rintro _ w6 ⟨rfl, hm6⟩
    refine L (S (yu rfl rfl) (L (S (za rfl) (zl (j := 4) (dj := 23) (b := false) (b' := true) (d := 24) rfl (zl (j := 4) (dj := 23) (b := false) (b' := true) (d := 25) rfl (zl (j := 4) (dj := 23) (b := false) (b' := true) (d := 26) rfl (L (S (zt rfl rfl) (L (S (za rfl) (zl (j := 9) (dj := 28) (b := false) (b' := true) (d := 29) rfl (zl (j := 9) (dj := 28) (b := false) (b' := true) (d := 30) rfl (zl (j := 9) (dj := 28) (b := false) (b' := true) (d := 31) rfl (L (S (zt rfl rfl) (L (S (za rfl) (zl (j := 14) (dj := 33) (b := false) (b' := true) (d := 34) rfl (zl (j := 14) (dj := 33) (b := false) (b' := true) (d := 35) rfl (zl (j := 14) (dj := 33) (b := false) (b' := true) (d := 36) rfl (L (S (zt rfl rfl) (L (S (za rfl) (zl (j := 19) (dj := 38) (b := false) (b' := true) (d := 39) rfl (zl (j := 19) (dj := 38) (b := false) (b' := true) (d := 40) rfl (zl (j := 19) (dj := 38) (b := false) (b' := true) (d := 41) rfl (L (S (zt rfl rfl) (L (S (za rfl) (zl (j := 24) (dj := 43) (b := false) (b' := true) (d := 44) rfl (zl (j := 24) (dj := 43) (b := false) (b' := true) (d := 45) rfl ?_)))))))))))))))))))))))))))))))))
    refine zl (j := 24) (dj := 43) (b := false) (b' := true) (d := 46) rfl (L (S (zt rfl rfl) (L (S (zd rfl) (zg (zc (zr rfl (zf (zb ?_)))))))))
    refine L (S (zW (ix := []) (l := []) Zq rfl (by simp [Value.oneCell']) rfl) ?_)
    refine L (zw z6 rfl rfl (zJ zX) rfl (hB4 hm6) (by exact Nat.le_refl 2) ?_)
    rintro w9 hb9 hm9
    refine L (S (zd rfl) (zg (zc (zy (zP (zm ?_))))))
    have hb9' : Blk w9 b4 (zM zX) 37 := hb9
    refine yk (rs := [.cell 4 37, .tmp 5]) [.agg (zM zX).toArray, .int .i64 (7 : Nat)] Tryz.results34 ?_ ?_
    · exact ⟨⟨_, rfl, zu zZ hb9'.row rfl⟩, rfl, trivial⟩
    exact ⟨zX, rfl, Z1, fun _ => rfl, fun h => absurd h (by decide), (hm05.no hm6).new hm9 (by omega)⟩
  replace q1 : ZD t.name = true := by simpa using q1
  by_cases q2 : t.state < 1
  · rw [if_pos (.inr (.inl q2))]
    refine zb (L (S (ze yx rfl) ?_))
    refine L (zi yc rfl ((hB3 (Mv.refl _)).cell (i := 0) rfl) ?_)
    refine L (zq Yz rfl ((hN q1)) ?_)
    rintro _ w6 ⟨rfl, hm6⟩
    refine L (S (yu rfl rfl) (L (S (za rfl) (zh (j := 4) (dj := 23) (b := false) (S (ze yy rfl) ?_) rfl))))
    refine zh (j := 4) (dj := 23) (b := false) (zi z_ rfl ((hB3 hm6).cell (i := 3) rfl) ?_) rfl
    refine zh (j := 4) (dj := 23) (b := false) (S (zG rfl rfl (decide_eq_true (by omega))) ?_) rfl
    refine L (S (zj rfl rfl) (L (S (za rfl) (zl (j := 9) (dj := 28) (b := false) (b' := true) (d := 29) rfl (zl (j := 9) (dj := 28) (b := false) (b' := true) (d := 30) rfl (zl (j := 9) (dj := 28) (b := false) (b' := true) (d := 31) rfl (L (S (zt rfl rfl) (L (S (za rfl) (zl (j := 14) (dj := 33) (b := false) (b' := true) (d := 34) rfl (zl (j := 14) (dj := 33) (b := false) (b' := true) (d := 35) rfl (zl (j := 14) (dj := 33) (b := false) (b' := true) (d := 36) rfl (L (S (zt rfl rfl) (L (S (za rfl) (zl (j := 19) (dj := 38) (b := false) (b' := true) (d := 39) rfl (zl (j := 19) (dj := 38) (b := false) (b' := true) (d := 40) rfl (zl (j := 19) (dj := 38) (b := false) (b' := true) (d := 41) rfl (L (S (zt rfl rfl) (L (S (za rfl) (zl (j := 24) (dj := 43) (b := false) (b' := true) (d := 44) rfl (zl (j := 24) (dj := 43) (b := false) (b' := true) (d := 45) rfl (zl (j := 24) (dj := 43) (b := false) (b' := true) (d := 46) rfl (L (S (zt rfl rfl) (L (S (zd rfl) (zg (zc ?_)))))))))))))))))))))))))))))))))
    refine zr rfl (zf (zb ?_))
    refine L (S (zW (ix := []) (l := []) Zq rfl (by simp [Value.oneCell']) rfl) ?_)
    refine L (zw z6 rfl rfl (zJ zX) rfl (hB4 hm6) (by exact Nat.le_refl 2) ?_)
    rintro w9 hb9 hm9
    refine L (S (zd rfl) (zg (zc (zy (zP (zm ?_))))))
    have hb9' : Blk w9 b4 (zM zX) 37 := hb9
    refine yk (rs := [.cell 4 37, .tmp 5]) [.agg (zM zX).toArray, .int .i64 (7 : Nat)] Tryz.results34 ?_ ?_
    · exact ⟨⟨_, rfl, zu zZ hb9'.row rfl⟩, rfl, trivial⟩
    exact ⟨zX, rfl, Z1, fun _ => rfl, fun h => absurd h (by decide), (hm05.no hm6).new hm9 (by omega)⟩
  by_cases q3 : t.state > 3
  · rw [if_pos (.inr (.inr (.inl q3)))]
    refine zb (L (S (ze yx rfl) ?_))
    refine L (zi yc rfl ((hB3 (Mv.refl _)).cell (i := 0) rfl) ?_)
    refine L (zq Yz rfl ((hN q1)) ?_)
    rintro _ w6 ⟨rfl, hm6⟩
    refine L (S (yu rfl rfl) (L (S (za rfl) (zh (j := 4) (dj := 23) (b := false) (S (ze yy rfl) ?_) rfl))))
    refine zh (j := 4) (dj := 23) (b := false) (zi z_ rfl ((hB3 hm6).cell (i := 3) rfl) ?_) rfl
    refine zh (j := 4) (dj := 23) (b := false) (S (zG rfl rfl (decide_eq_false (by omega))) ?_) rfl
    refine L (S (zj rfl rfl) (L (S (za rfl) (zh (j := 9) (dj := 28) (b := false) (S (ze yy rfl) ?_) rfl))))
    refine zh (j := 9) (dj := 28) (b := false) (zi z_ rfl ((hB3 hm6).cell (i := 3) rfl) ?_) rfl
    refine zh (j := 9) (dj := 28) (b := false) (S (yp rfl rfl (decide_eq_true (by omega))) ?_) rfl
    refine L (S (zj rfl rfl) (L (S (za rfl) (zl (j := 14) (dj := 33) (b := false) (b' := true) (d := 34) rfl (zl (j := 14) (dj := 33) (b := false) (b' := true) (d := 35) rfl (zl (j := 14) (dj := 33) (b := false) (b' := true) (d := 36) rfl (L (S (zt rfl rfl) (L (S (za rfl) (zl (j := 19) (dj := 38) (b := false) (b' := true) (d := 39) rfl (zl (j := 19) (dj := 38) (b := false) (b' := true) (d := 40) rfl (zl (j := 19) (dj := 38) (b := false) (b' := true) (d := 41) rfl (L (S (zt rfl rfl) (L (S (za rfl) (zl (j := 24) (dj := 43) (b := false) (b' := true) (d := 44) rfl (zl (j := 24) (dj := 43) (b := false) (b' := true) (d := 45) rfl (zl (j := 24) (dj := 43) (b := false) (b' := true) (d := 46) rfl (L (S (zt rfl rfl) (L (S (zd rfl) (zg (zc (zr rfl (zf (zb ?_)))))))))))))))))))))))))))))
    refine L (S (zW (ix := []) (l := []) Zq rfl (by simp [Value.oneCell']) rfl) ?_)
    refine L (zw z6 rfl rfl (zJ zX) rfl (hB4 hm6) (by exact Nat.le_refl 2) ?_)
    rintro w9 hb9 hm9
    refine L (S (zd rfl) (zg (zc (zy (zP (zm ?_))))))
    have hb9' : Blk w9 b4 (zM zX) 37 := hb9
    refine yk (rs := [.cell 4 37, .tmp 5]) [.agg (zM zX).toArray, .int .i64 (7 : Nat)] Tryz.results34 ?_ ?_
    · exact ⟨⟨_, rfl, zu zZ hb9'.row rfl⟩, rfl, trivial⟩
    exact ⟨zX, rfl, Z1, fun _ => rfl, fun h => absurd h (by decide), (hm05.no hm6).new hm9 (by omega)⟩
  by_cases q4 : t.root < 1
  · rw [if_pos (.inr (.inr (.inr (.inl q4))))]
    refine zb (L (S (ze yx rfl) ?_))
    refine L (zi yc rfl ((hB3 (Mv.refl _)).cell (i := 0) rfl) ?_)
    refine L (zq Yz rfl ((hN q1)) ?_)
    rintro _ w6 ⟨rfl, hm6⟩
    refine L (S (yu rfl rfl) (L (S (za rfl) (zh (j := 4) (dj := 23) (b := false) (S (ze yy rfl) ?_) rfl))))
    refine zh (j := 4) (dj := 23) (b := false) (zi z_ rfl ((hB3 hm6).cell (i := 3) rfl) ?_) rfl
    refine zh (j := 4) (dj := 23) (b := false) (S (zG rfl rfl (decide_eq_false (by omega))) ?_) rfl
    refine L (S (zj rfl rfl) (L (S (za rfl) (zh (j := 9) (dj := 28) (b := false) (S (ze yy rfl) ?_) rfl))))
    refine zh (j := 9) (dj := 28) (b := false) (zi z_ rfl ((hB3 hm6).cell (i := 3) rfl) ?_) rfl
    refine zh (j := 9) (dj := 28) (b := false) (S (yp rfl rfl (decide_eq_false (by omega))) ?_) rfl
    refine L (S (zj rfl rfl) (L (S (za rfl) (zh (j := 14) (dj := 33) (b := false) (S (ze yO rfl) ?_) rfl))))
    refine zh (j := 14) (dj := 33) (b := false) (zi z_ rfl ((hB3 hm6).cell (i := 4) rfl) ?_) rfl
    refine zh (j := 14) (dj := 33) (b := false) (S (zG rfl rfl (decide_eq_true (by omega))) ?_) rfl
    refine L (S (zj rfl rfl) (L (S (za rfl) (zl (j := 19) (dj := 38) (b := false) (b' := true) (d := 39) rfl (zl (j := 19) (dj := 38) (b := false) (b' := true) (d := 40) rfl (zl (j := 19) (dj := 38) (b := false) (b' := true) (d := 41) rfl (L (S (zt rfl rfl) (L (S (za rfl) (zl (j := 24) (dj := 43) (b := false) (b' := true) (d := 44) rfl (zl (j := 24) (dj := 43) (b := false) (b' := true) (d := 45) rfl (zl (j := 24) (dj := 43) (b := false) (b' := true) (d := 46) rfl (L (S (zt rfl rfl) (L (S (zd rfl) (zg (zc (zr rfl (zf (zb ?_))))))))))))))))))))))
    refine L (S (zW (ix := []) (l := []) Zq rfl (by simp [Value.oneCell']) rfl) ?_)
    refine L (zw z6 rfl rfl (zJ zX) rfl (hB4 hm6) (by exact Nat.le_refl 2) ?_)
    rintro w9 hb9 hm9
    refine L (S (zd rfl) (zg (zc (zy (zP (zm ?_))))))
    have hb9' : Blk w9 b4 (zM zX) 37 := hb9
    refine yk (rs := [.cell 4 37, .tmp 5]) [.agg (zM zX).toArray, .int .i64 (7 : Nat)] Tryz.results34 ?_ ?_
    · exact ⟨⟨_, rfl, zu zZ hb9'.row rfl⟩, rfl, trivial⟩
    exact ⟨zX, rfl, Z1, fun _ => rfl, fun h => absurd h (by decide), (hm05.no hm6).new hm9 (by omega)⟩
  by_cases q5 : t.root > 1600
  · rw [if_pos (.inr (.inr (.inr (.inr (.inl q5)))))]
    refine zb (L (S (ze yx rfl) ?_))
    refine L (zi yc rfl ((hB3 (Mv.refl _)).cell (i := 0) rfl) ?_)
    refine L (zq Yz rfl ((hN q1)) ?_)
    rintro _ w6 ⟨rfl, hm6⟩
    refine L (S (yu rfl rfl) (L (S (za rfl) (zh (j := 4) (dj := 23) (b := false) (S (ze yy rfl) ?_) rfl))))
    refine zh (j := 4) (dj := 23) (b := false) (zi z_ rfl ((hB3 hm6).cell (i := 3) rfl) ?_) rfl
    refine zh (j := 4) (dj := 23) (b := false) (S (zG rfl rfl (decide_eq_false (by omega))) ?_) rfl
    refine L (S (zj rfl rfl) (L (S (za rfl) (zh (j := 9) (dj := 28) (b := false) (S (ze yy rfl) ?_) rfl))))
    refine zh (j := 9) (dj := 28) (b := false) (zi z_ rfl ((hB3 hm6).cell (i := 3) rfl) ?_) rfl
    refine zh (j := 9) (dj := 28) (b := false) (S (yp rfl rfl (decide_eq_false (by omega))) ?_) rfl
    refine L (S (zj rfl rfl) (L (S (za rfl) (zh (j := 14) (dj := 33) (b := false) (S (ze yO rfl) ?_) rfl))))
    refine zh (j := 14) (dj := 33) (b := false) (zi z_ rfl ((hB3 hm6).cell (i := 4) rfl) ?_) rfl
    refine zh (j := 14) (dj := 33) (b := false) (S (zG rfl rfl (decide_eq_false (by omega))) ?_) rfl
    refine L (S (zj rfl rfl) (L (S (za rfl) (zh (j := 19) (dj := 38) (b := false) (S (ze yO rfl) ?_) rfl))))
    refine zh (j := 19) (dj := 38) (b := false) (zi z_ rfl ((hB3 hm6).cell (i := 4) rfl) ?_) rfl
    refine zh (j := 19) (dj := 38) (b := false) (S (yp rfl rfl (decide_eq_true (by omega))) ?_) rfl
    refine L (S (zj rfl rfl) (L (S (za rfl) (zl (j := 24) (dj := 43) (b := false) (b' := true) (d := 44) rfl (zl (j := 24) (dj := 43) (b := false) (b' := true) (d := 45) rfl (zl (j := 24) (dj := 43) (b := false) (b' := true) (d := 46) rfl (L (S (zt rfl rfl) (L (S (zd rfl) (zg (zc (zr rfl (zf (zb ?_)))))))))))))))
    refine L (S (zW (ix := []) (l := []) Zq rfl (by simp [Value.oneCell']) rfl) ?_)
    refine L (zw z6 rfl rfl (zJ zX) rfl (hB4 hm6) (by exact Nat.le_refl 2) ?_)
    rintro w9 hb9 hm9
    refine L (S (zd rfl) (zg (zc (zy (zP (zm ?_))))))
    have hb9' : Blk w9 b4 (zM zX) 37 := hb9
    refine yk (rs := [.cell 4 37, .tmp 5]) [.agg (zM zX).toArray, .int .i64 (7 : Nat)] Tryz.results34 ?_ ?_
    · exact ⟨⟨_, rfl, zu zZ hb9'.row rfl⟩, rfl, trivial⟩
    exact ⟨zX, rfl, Z1, fun _ => rfl, fun h => absurd h (by decide), (hm05.no hm6).new hm9 (by omega)⟩
  by_cases q9 : t.cursor < 0
  · rw [if_pos (.inr (.inr (.inr (.inr (.inr q9)))))]
    refine zb (L (S (ze yx rfl) ?_))
    refine L (zi yc rfl ((hB3 (Mv.refl _)).cell (i := 0) rfl) ?_)
    refine L (zq Yz rfl ((hN q1)) ?_)
    rintro _ w6 ⟨rfl, hm6⟩
    refine L (S (yu rfl rfl) (L (S (za rfl) (zh (j := 4) (dj := 23) (b := false) (S (ze yy rfl) ?_) rfl))))
    refine zh (j := 4) (dj := 23) (b := false) (zi z_ rfl ((hB3 hm6).cell (i := 3) rfl) ?_) rfl
    refine zh (j := 4) (dj := 23) (b := false) (S (zG rfl rfl (decide_eq_false (by omega))) ?_) rfl
    refine L (S (zj rfl rfl) (L (S (za rfl) (zh (j := 9) (dj := 28) (b := false) (S (ze yy rfl) ?_) rfl))))
    refine zh (j := 9) (dj := 28) (b := false) (zi z_ rfl ((hB3 hm6).cell (i := 3) rfl) ?_) rfl
    refine zh (j := 9) (dj := 28) (b := false) (S (yp rfl rfl (decide_eq_false (by omega))) ?_) rfl
    refine L (S (zj rfl rfl) (L (S (za rfl) (zh (j := 14) (dj := 33) (b := false) (S (ze yO rfl) ?_) rfl))))
    refine zh (j := 14) (dj := 33) (b := false) (zi z_ rfl ((hB3 hm6).cell (i := 4) rfl) ?_) rfl
    refine zh (j := 14) (dj := 33) (b := false) (S (zG rfl rfl (decide_eq_false (by omega))) ?_) rfl
    refine L (S (zj rfl rfl) (L (S (za rfl) (zh (j := 19) (dj := 38) (b := false) (S (ze yO rfl) ?_) rfl))))
    refine zh (j := 19) (dj := 38) (b := false) (zi z_ rfl ((hB3 hm6).cell (i := 4) rfl) ?_) rfl
    refine zh (j := 19) (dj := 38) (b := false) (S (yp rfl rfl (decide_eq_false (by omega))) ?_) rfl
    refine L (S (zj rfl rfl) (L (S (za rfl) (zh (j := 24) (dj := 43) (b := false) (S (ze ZI rfl) ?_) rfl))))
    refine zh (j := 24) (dj := 43) (b := false) (zi Zw rfl ((hB3 hm6).cell (i := 5) rfl) ?_) rfl
    refine zh (j := 24) (dj := 43) (b := false) (S (zG rfl rfl (decide_eq_true (by omega))) ?_) rfl
    refine L (S (zj rfl rfl) (L (S (zd rfl) (zg (zc (zr rfl (zf (zb ?_))))))))
    refine L (S (zW (ix := []) (l := []) Zq rfl (by simp [Value.oneCell']) rfl) ?_)
    refine L (zw z6 rfl rfl (zJ zX) rfl (hB4 hm6) (by exact Nat.le_refl 2) ?_)
    rintro w9 hb9 hm9
    refine L (S (zd rfl) (zg (zc (zy (zP (zm ?_))))))
    have hb9' : Blk w9 b4 (zM zX) 37 := hb9
    refine yk (rs := [.cell 4 37, .tmp 5]) [.agg (zM zX).toArray, .int .i64 (7 : Nat)] Tryz.results34 ?_ ?_
    · exact ⟨⟨_, rfl, zu zZ hb9'.row rfl⟩, rfl, trivial⟩
    exact ⟨zX, rfl, Z1, fun _ => rfl, fun h => absurd h (by decide), (hm05.no hm6).new hm9 (by omega)⟩
  rw [if_neg (by rw [q1]; simp; omega)]
  by_cases q10 : of_ < 0
  · rw [if_pos q10]
    refine zb (L (S (ze yx rfl) ?_))
    refine L (zi yc rfl ((hB3 (Mv.refl _)).cell (i := 0) rfl) ?_)
    refine L (zq Yz rfl ((hN q1)) ?_)
    rintro _ w6 ⟨rfl, hm6⟩
    refine L (S (yu rfl rfl) (L (S (za rfl) (zh (j := 4) (dj := 23) (b := false) (S (ze yy rfl) ?_) rfl))))
    refine zh (j := 4) (dj := 23) (b := false) (zi z_ rfl ((hB3 hm6).cell (i := 3) rfl) ?_) rfl
    refine zh (j := 4) (dj := 23) (b := false) (S (zG rfl rfl (decide_eq_false (by omega))) ?_) rfl
    refine L (S (zj rfl rfl) (L (S (za rfl) (zh (j := 9) (dj := 28) (b := false) (S (ze yy rfl) ?_) rfl))))
    refine zh (j := 9) (dj := 28) (b := false) (zi z_ rfl ((hB3 hm6).cell (i := 3) rfl) ?_) rfl
    refine zh (j := 9) (dj := 28) (b := false) (S (yp rfl rfl (decide_eq_false (by omega))) ?_) rfl
    refine L (S (zj rfl rfl) (L (S (za rfl) (zh (j := 14) (dj := 33) (b := false) (S (ze yO rfl) ?_) rfl))))
    refine zh (j := 14) (dj := 33) (b := false) (zi z_ rfl ((hB3 hm6).cell (i := 4) rfl) ?_) rfl
    refine zh (j := 14) (dj := 33) (b := false) (S (zG rfl rfl (decide_eq_false (by omega))) ?_) rfl
    refine L (S (zj rfl rfl) (L (S (za rfl) (zh (j := 19) (dj := 38) (b := false) (S (ze yO rfl) ?_) rfl))))
    refine zh (j := 19) (dj := 38) (b := false) (zi z_ rfl ((hB3 hm6).cell (i := 4) rfl) ?_) rfl
    refine zh (j := 19) (dj := 38) (b := false) (S (yp rfl rfl (decide_eq_false (by omega))) ?_) rfl
    refine L (S (zj rfl rfl) (L (S (za rfl) (zh (j := 24) (dj := 43) (b := false) (S (ze ZI rfl) ?_) rfl))))
    refine zh (j := 24) (dj := 43) (b := false) (zi Zw rfl ((hB3 hm6).cell (i := 5) rfl) ?_) rfl
    refine zh (j := 24) (dj := 43) (b := false) (S (zG rfl rfl (decide_eq_false (by omega))) ?_) rfl
    refine L (S (zj rfl rfl) (L (S (zd rfl) (zg (zc (zk rfl (zf (zb (L (S (za rfl) ?_))))))))))
    refine L (S (zG rfl rfl (decide_eq_true (by omega))) ?_)
    refine L (S (zd rfl) (zg (zc (zr rfl (zf (zb ?_))))))
    refine L (S (zW (ix := []) (l := []) Zq rfl (by simp [Value.oneCell']) rfl) ?_)
    refine L (zw z6 rfl rfl (zJ zX) rfl (hB4 hm6) (by exact Nat.le_refl 2) ?_)
    rintro w9 hb9 hm9
    refine L (S (zd rfl) (zg (zc (zy (zP (zm ?_))))))
    have hb9' : Blk w9 b4 (zM zX) 37 := hb9
    refine yk (rs := [.cell 4 37, .tmp 5]) [.agg (zM zX).toArray, .int .i64 (130 : Nat)] Tryz.results34 ?_ ?_
    · exact ⟨⟨_, rfl, zu zZ hb9'.row rfl⟩, rfl, trivial⟩
    exact ⟨zX, rfl, Z1, fun _ => rfl, fun h => absurd h (by decide), (hm05.no hm6).new hm9 (by omega)⟩
  rw [if_neg q10]
  by_cases q6 : at_ < 0 ∧ 12 ≤ s.idxs.length
  · rw [if_pos q6]
    refine zb (L (S (ze yx rfl) ?_))
    refine L (zi yc rfl ((hB3 (Mv.refl _)).cell (i := 0) rfl) ?_)
    refine L (zq Yz rfl ((hN q1)) ?_)
    rintro _ w6 ⟨rfl, hm6⟩
    refine L (S (yu rfl rfl) (L (S (za rfl) (zh (j := 4) (dj := 23) (b := false) (S (ze yy rfl) ?_) rfl))))
    refine zh (j := 4) (dj := 23) (b := false) (zi z_ rfl ((hB3 hm6).cell (i := 3) rfl) ?_) rfl
    refine zh (j := 4) (dj := 23) (b := false) (S (zG rfl rfl (decide_eq_false (by omega))) ?_) rfl
    refine L (S (zj rfl rfl) (L (S (za rfl) (zh (j := 9) (dj := 28) (b := false) (S (ze yy rfl) ?_) rfl))))
    refine zh (j := 9) (dj := 28) (b := false) (zi z_ rfl ((hB3 hm6).cell (i := 3) rfl) ?_) rfl
    refine zh (j := 9) (dj := 28) (b := false) (S (yp rfl rfl (decide_eq_false (by omega))) ?_) rfl
    refine L (S (zj rfl rfl) (L (S (za rfl) (zh (j := 14) (dj := 33) (b := false) (S (ze yO rfl) ?_) rfl))))
    refine zh (j := 14) (dj := 33) (b := false) (zi z_ rfl ((hB3 hm6).cell (i := 4) rfl) ?_) rfl
    refine zh (j := 14) (dj := 33) (b := false) (S (zG rfl rfl (decide_eq_false (by omega))) ?_) rfl
    refine L (S (zj rfl rfl) (L (S (za rfl) (zh (j := 19) (dj := 38) (b := false) (S (ze yO rfl) ?_) rfl))))
    refine zh (j := 19) (dj := 38) (b := false) (zi z_ rfl ((hB3 hm6).cell (i := 4) rfl) ?_) rfl
    refine zh (j := 19) (dj := 38) (b := false) (S (yp rfl rfl (decide_eq_false (by omega))) ?_) rfl
    refine L (S (zj rfl rfl) (L (S (za rfl) (zh (j := 24) (dj := 43) (b := false) (S (ze ZI rfl) ?_) rfl))))
    refine zh (j := 24) (dj := 43) (b := false) (zi Zw rfl ((hB3 hm6).cell (i := 5) rfl) ?_) rfl
    refine zh (j := 24) (dj := 43) (b := false) (S (zG rfl rfl (decide_eq_false (by omega))) ?_) rfl
    refine L (S (zj rfl rfl) (L (S (zd rfl) (zg (zc (zk rfl (zf (zb (L (S (za rfl) ?_))))))))))
    refine L (S (zG rfl rfl (decide_eq_false (by omega))) ?_)
    refine L (S (zd rfl) (zg (zc (zk rfl (zf (zb (L (S (za rfl) ?_))))))))
    refine L (S (zG rfl rfl (decide_eq_true (by omega))) ?_)
    refine L (S (za rfl) (zh (j := 2) (dj := 56) (b := true) (S (ze yf rfl) ?_) rfl))
    refine zh (j := 2) (dj := 56) (b := true) (zi yS rfl ((hB2 hm6).cell (i := 1) rfl) ?_) rfl
    refine zh (j := 2) (dj := 56) (b := true) (S (zH Tryz.underlying35 rfl) ?_) rfl
    refine zh (j := 2) (dj := 56) (b := true) (S (y_ rfl rfl (decide_eq_true (by omega))) ?_) rfl
    refine L (S (zt rfl rfl) (L (S (zd rfl) (zg (zc (zr rfl (zf (zb ?_))))))))
    refine L (S (zW (ix := []) (l := []) Zq rfl (by simp [Value.oneCell']) rfl) ?_)
    refine L (zw z6 rfl rfl (zJ zX) rfl (hB4 hm6) (by exact Nat.le_refl 2) ?_)
    rintro w9 hb9 hm9
    refine L (S (zd rfl) (zg (zc (zy (zP (zm ?_))))))
    have hb9' : Blk w9 b4 (zM zX) 37 := hb9
    refine yk (rs := [.cell 4 37, .tmp 5]) [.agg (zM zX).toArray, .int .i64 (11 : Nat)] Tryz.results34 ?_ ?_
    · exact ⟨⟨_, rfl, zu zZ hb9'.row rfl⟩, rfl, trivial⟩
    exact ⟨zX, rfl, Z1, fun _ => rfl, fun h => absurd h (by decide), (hm05.no hm6).new hm9 (by omega)⟩
  rw [if_neg q6]
  obtain ⟨j, tj, hj, htj, hjl, hpl⟩ := hof q10
  rw [hpl]
  have hjm := List.mem_of_getElem? htj
  obtain ⟨bj, oj, hAj, -, hrj0⟩ := yr yI (by decide) (hs.tsl.no hm05) htj
  have hrj : ∀ {wq}, Mv No w5 wq → Row wq bj (oj + j * 5) (yA tj) := fun h => hrj0.no h
  have hcj : ∀ {wq}, Mv No w5 wq → wq.cell? ⟨b2, 0, none⟩ = some (.slice (some ⟨bj, oj, none⟩) s.tabs.length s.c) := fun h => by rw [← hAj]; exact (hB2 h).cell (i := 0) rfl
  have hC := fun {wq} (h : Mv No w5 wq) => places_ret (t := tj) (l := t.cols) (A := t.A) (c := t.cap) ((ht.sl.no hm05).no h) ht.le (by omega) (by have := (hsm.tab tj hjm).cl; omega)
  by_cases q7 : Z_ tj.cols.length t.cols ≠ 0
  · by_cases q8 : at_ < 0
    · refine zb (L (S (ze yx rfl) ?_))
      refine L (zi yc rfl ((hB3 (Mv.refl _)).cell (i := 0) rfl) ?_)
      refine L (zq Yz rfl ((hN q1)) ?_)
      rintro _ w6 ⟨rfl, hm6⟩
      refine L (S (yu rfl rfl) (L (S (za rfl) (zh (j := 4) (dj := 23) (b := false) (S (ze yy rfl) ?_) rfl))))
      refine zh (j := 4) (dj := 23) (b := false) (zi z_ rfl ((hB3 hm6).cell (i := 3) rfl) ?_) rfl
      refine zh (j := 4) (dj := 23) (b := false) (S (zG rfl rfl (decide_eq_false (by omega))) ?_) rfl
      refine L (S (zj rfl rfl) (L (S (za rfl) (zh (j := 9) (dj := 28) (b := false) (S (ze yy rfl) ?_) rfl))))
      refine zh (j := 9) (dj := 28) (b := false) (zi z_ rfl ((hB3 hm6).cell (i := 3) rfl) ?_) rfl
      refine zh (j := 9) (dj := 28) (b := false) (S (yp rfl rfl (decide_eq_false (by omega))) ?_) rfl
      refine L (S (zj rfl rfl) (L (S (za rfl) (zh (j := 14) (dj := 33) (b := false) (S (ze yO rfl) ?_) rfl))))
      refine zh (j := 14) (dj := 33) (b := false) (zi z_ rfl ((hB3 hm6).cell (i := 4) rfl) ?_) rfl
      refine zh (j := 14) (dj := 33) (b := false) (S (zG rfl rfl (decide_eq_false (by omega))) ?_) rfl
      refine L (S (zj rfl rfl) (L (S (za rfl) (zh (j := 19) (dj := 38) (b := false) (S (ze yO rfl) ?_) rfl))))
      refine zh (j := 19) (dj := 38) (b := false) (zi z_ rfl ((hB3 hm6).cell (i := 4) rfl) ?_) rfl
      refine zh (j := 19) (dj := 38) (b := false) (S (yp rfl rfl (decide_eq_false (by omega))) ?_) rfl
      refine L (S (zj rfl rfl) (L (S (za rfl) (zh (j := 24) (dj := 43) (b := false) (S (ze ZI rfl) ?_) rfl))))
      refine zh (j := 24) (dj := 43) (b := false) (zi Zw rfl ((hB3 hm6).cell (i := 5) rfl) ?_) rfl
      refine zh (j := 24) (dj := 43) (b := false) (S (zG rfl rfl (decide_eq_false (by omega))) ?_) rfl
      refine L (S (zj rfl rfl) (L (S (zd rfl) (zg (zc (zk rfl (zf (zb (L (S (za rfl) ?_))))))))))
      refine L (S (zG rfl rfl (decide_eq_false (by omega))) ?_)
      refine L (S (zd rfl) (zg (zc (zk rfl (zf (zb (L (S (za rfl) ?_))))))))
      refine L (S (zG rfl rfl (decide_eq_true (by omega))) ?_)
      refine L (S (za rfl) (zh (j := 2) (dj := 56) (b := true) (S (ze yf rfl) ?_) rfl))
      refine zh (j := 2) (dj := 56) (b := true) (zi yS rfl ((hB2 hm6).cell (i := 1) rfl) ?_) rfl
      refine zh (j := 2) (dj := 56) (b := true) (S (zH Tryz.underlying35 rfl) ?_) rfl
      refine zh (j := 2) (dj := 56) (b := true) (S (y_ rfl rfl (decide_eq_false (by omega))) ?_) rfl
      refine L (S (zt rfl rfl) (L (S (zd rfl) (zg (zc (zk rfl (zo (yj (zc (zf (zf ?_)))))))))))
      refine yP 9 mixed rfl (fun hH => ?_)
      refine zp (i := 0) rfl (PureV.toS (ze yg rfl)) ?_ (by assumption) (by decide +kernel) (by decide +kernel) (by decide +kernel) (fun _ _ _ _ h => h) rfl rfl rfl
      refine zp (i := 1) rfl (ya yX rfl (fun _ h => hcj (hm6.no h))) ?_ (by assumption) (by decide +kernel) (by decide +kernel) (by decide +kernel) (fun _ _ _ _ h => h) rfl rfl rfl
      refine zp (i := 2) rfl (PureV.toS (za rfl)) ?_ (by assumption) (by decide +kernel) (by decide +kernel) (by decide +kernel) (fun _ _ _ _ h => h) rfl rfl rfl
      refine zp (i := 3) rfl (PureV.toS (zn Tryz.underlying34 (zD yl) rfl rfl (j := j) hj (by omega) (p := oj + j * 5) (by omega))) ?_ (by assumption) (by decide +kernel) (by decide +kernel) (by decide +kernel) (fun _ _ _ _ h => h) rfl rfl rfl
      refine zp (i := 4) rfl (yE Zo rfl (fun _ h => hrj (hm6.no h)) rfl) ?_ (by assumption) (by decide +kernel) (by decide +kernel) (by decide +kernel) (fun _ _ _ _ h => h) rfl rfl rfl
      refine zp (i := 5) rfl (PureV.toS (ze Zj rfl)) ?_ (by assumption) (by decide +kernel) (by decide +kernel) (by decide +kernel) (fun _ _ _ _ h => h) rfl rfl rfl
      refine zp (i := 6) rfl (ya Z6 rfl (fun _ h => (hB3 (hm6.no h)).cell (i := 2) rfl)) ?_ (by assumption) (by decide +kernel) (by decide +kernel) (by decide +kernel) (fun _ _ _ _ h => h) rfl rfl rfl
      refine Ze (i := 7) (Z8 rfl (zq cb_25 rfl ((hC (hm6.no hH))) ?_)) (by decide +kernel)
      rintro _ w7 ⟨rfl, hm7⟩
      refine yh (by first | assumption | exact Mv.no (by assumption) (by assumption)) (fun hH => ?_)
      refine zp (i := 8) rfl (PureV.toS (zd rfl)) ?_ (by assumption) (by decide +kernel) (by decide +kernel) (by decide +kernel) (fun _ _ _ _ h => h) rfl rfl rfl
      refine yZ (by decide +kernel) ?_
      refine zc (zf (zb (L (S (za rfl) ?_))))
      refine L (S (Za rfl rfl (decide_eq_true (by omega))) ?_)
      refine zg (zc (zr rfl (zf (zb ?_))))
      refine L (S (zW (ix := []) (l := []) Zq rfl (by simp [Value.oneCell']) rfl) ?_)
      refine L (S (za rfl) ?_)
      refine L (zw z6 rfl rfl (zJ zX) rfl (hB4 (hm6.no hH)) (by exact Nat.le_refl 2) ?_)
      rintro w9 hb9 hm9
      refine L (S (zd rfl) (zg (zc (zy (zm ?_)))))
      have hb9' : Blk w9 b4 (zM zX) 37 := hb9
      refine yk (rs := [.cell 4 37, .tmp 5]) [.agg (zM zX).toArray, .int .i64 (Z_ tj.cols.length t.cols : Nat)] Tryz.results34 ?_ ?_
      · exact ⟨⟨_, rfl, zu zZ hb9'.row rfl⟩, rfl, trivial⟩
      exact ⟨zX, rfl, Z1, fun _ => rfl, fun h => absurd h q7, (hm05.no (hm6.no hH)).new hm9 (by omega)⟩
    · refine zb (L (S (ze yx rfl) ?_))
      refine L (zi yc rfl ((hB3 (Mv.refl _)).cell (i := 0) rfl) ?_)
      refine L (zq Yz rfl ((hN q1)) ?_)
      rintro _ w6 ⟨rfl, hm6⟩
      refine L (S (yu rfl rfl) (L (S (za rfl) (zh (j := 4) (dj := 23) (b := false) (S (ze yy rfl) ?_) rfl))))
      refine zh (j := 4) (dj := 23) (b := false) (zi z_ rfl ((hB3 hm6).cell (i := 3) rfl) ?_) rfl
      refine zh (j := 4) (dj := 23) (b := false) (S (zG rfl rfl (decide_eq_false (by omega))) ?_) rfl
      refine L (S (zj rfl rfl) (L (S (za rfl) (zh (j := 9) (dj := 28) (b := false) (S (ze yy rfl) ?_) rfl))))
      refine zh (j := 9) (dj := 28) (b := false) (zi z_ rfl ((hB3 hm6).cell (i := 3) rfl) ?_) rfl
      refine zh (j := 9) (dj := 28) (b := false) (S (yp rfl rfl (decide_eq_false (by omega))) ?_) rfl
      refine L (S (zj rfl rfl) (L (S (za rfl) (zh (j := 14) (dj := 33) (b := false) (S (ze yO rfl) ?_) rfl))))
      refine zh (j := 14) (dj := 33) (b := false) (zi z_ rfl ((hB3 hm6).cell (i := 4) rfl) ?_) rfl
      refine zh (j := 14) (dj := 33) (b := false) (S (zG rfl rfl (decide_eq_false (by omega))) ?_) rfl
      refine L (S (zj rfl rfl) (L (S (za rfl) (zh (j := 19) (dj := 38) (b := false) (S (ze yO rfl) ?_) rfl))))
      refine zh (j := 19) (dj := 38) (b := false) (zi z_ rfl ((hB3 hm6).cell (i := 4) rfl) ?_) rfl
      refine zh (j := 19) (dj := 38) (b := false) (S (yp rfl rfl (decide_eq_false (by omega))) ?_) rfl
      refine L (S (zj rfl rfl) (L (S (za rfl) (zh (j := 24) (dj := 43) (b := false) (S (ze ZI rfl) ?_) rfl))))
      refine zh (j := 24) (dj := 43) (b := false) (zi Zw rfl ((hB3 hm6).cell (i := 5) rfl) ?_) rfl
      refine zh (j := 24) (dj := 43) (b := false) (S (zG rfl rfl (decide_eq_false (by omega))) ?_) rfl
      refine L (S (zj rfl rfl) (L (S (zd rfl) (zg (zc (zk rfl (zf (zb (L (S (za rfl) ?_))))))))))
      refine L (S (zG rfl rfl (decide_eq_false (by omega))) ?_)
      refine L (S (zd rfl) (zg (zc (zk rfl (zf (zb (L (S (za rfl) ?_))))))))
      refine L (S (zG rfl rfl (decide_eq_false (by omega))) ?_)
      refine L (S (za rfl) (zl (j := 2) (dj := 56) (b := true) (b' := false) (d := 57) rfl (zl (j := 2) (dj := 56) (b := true) (b' := false) (d := 58) rfl (zl (j := 2) (dj := 56) (b := true) (b' := false) (d := 59) rfl (zl (j := 2) (dj := 56) (b := true) (b' := false) (d := 60) rfl (L (S (zj rfl rfl) (L (S (zd rfl) (zg (zc (zk rfl (zo (yj (zc (zf (zf ?_)))))))))))))))))
      refine yP 9 mixed rfl (fun hH => ?_)
      refine zp (i := 0) rfl (PureV.toS (ze yg rfl)) ?_ (by assumption) (by decide +kernel) (by decide +kernel) (by decide +kernel) (fun _ _ _ _ h => h) rfl rfl rfl
      refine zp (i := 1) rfl (ya yX rfl (fun _ h => hcj (hm6.no h))) ?_ (by assumption) (by decide +kernel) (by decide +kernel) (by decide +kernel) (fun _ _ _ _ h => h) rfl rfl rfl
      refine zp (i := 2) rfl (PureV.toS (za rfl)) ?_ (by assumption) (by decide +kernel) (by decide +kernel) (by decide +kernel) (fun _ _ _ _ h => h) rfl rfl rfl
      refine zp (i := 3) rfl (PureV.toS (zn Tryz.underlying34 (zD yl) rfl rfl (j := j) hj (by omega) (p := oj + j * 5) (by omega))) ?_ (by assumption) (by decide +kernel) (by decide +kernel) (by decide +kernel) (fun _ _ _ _ h => h) rfl rfl rfl
      refine zp (i := 4) rfl (yE Zo rfl (fun _ h => hrj (hm6.no h)) rfl) ?_ (by assumption) (by decide +kernel) (by decide +kernel) (by decide +kernel) (fun _ _ _ _ h => h) rfl rfl rfl
      refine zp (i := 5) rfl (PureV.toS (ze Zj rfl)) ?_ (by assumption) (by decide +kernel) (by decide +kernel) (by decide +kernel) (fun _ _ _ _ h => h) rfl rfl rfl
      refine zp (i := 6) rfl (ya Z6 rfl (fun _ h => (hB3 (hm6.no h)).cell (i := 2) rfl)) ?_ (by assumption) (by decide +kernel) (by decide +kernel) (by decide +kernel) (fun _ _ _ _ h => h) rfl rfl rfl
      refine Ze (i := 7) (Z8 rfl (zq cb_25 rfl ((hC (hm6.no hH))) ?_)) (by decide +kernel)
      rintro _ w7 ⟨rfl, hm7⟩
      refine yh (by first | assumption | exact Mv.no (by assumption) (by assumption)) (fun hH => ?_)
      refine zp (i := 8) rfl (PureV.toS (zd rfl)) ?_ (by assumption) (by decide +kernel) (by decide +kernel) (by decide +kernel) (fun _ _ _ _ h => h) rfl rfl rfl
      refine yZ (by decide +kernel) ?_
      refine zc (zf (zb (L (S (za rfl) ?_))))
      refine L (S (Za rfl rfl (decide_eq_true (by omega))) ?_)
      refine zg (zc (zr rfl (zf (zb ?_))))
      refine L (S (zW (ix := []) (l := []) Zq rfl (by simp [Value.oneCell']) rfl) ?_)
      refine L (S (za rfl) ?_)
      refine L (zw z6 rfl rfl (zJ zX) rfl (hB4 (hm6.no hH)) (by exact Nat.le_refl 2) ?_)
      rintro w9 hb9 hm9
      refine L (S (zd rfl) (zg (zc (zy (zm ?_)))))
      have hb9' : Blk w9 b4 (zM zX) 37 := hb9
      refine yk (rs := [.cell 4 37, .tmp 5]) [.agg (zM zX).toArray, .int .i64 (Z_ tj.cols.length t.cols : Nat)] Tryz.results34 ?_ ?_
      · exact ⟨⟨_, rfl, zu zZ hb9'.row rfl⟩, rfl, trivial⟩
      exact ⟨zX, rfl, Z1, fun _ => rfl, fun h => absurd h q7, (hm05.no (hm6.no hH)).new hm9 (by omega)⟩
  have q7' : Z_ tj.cols.length t.cols = 0 := by omega
  rw [q7']
  have hCl := fun {wq} (h : Mv No w5 wq) => Clone_ret (s := s) ((hs.no hm05).no h) (by omega) (by omega) (fun x hx => by have := (hsm.tab x hx).cl; omega) (fun x hx => by have := (hsm.idx x hx).cl; omega)
  by_cases q8 : at_ < 0
  · rw [if_pos q8]
    refine zb (L (S (ze yx rfl) ?_))
    refine L (zi yc rfl ((hB3 (Mv.refl _)).cell (i := 0) rfl) ?_)
    refine L (zq Yz rfl ((hN q1)) ?_)
    rintro _ w6 ⟨rfl, hm6⟩
    refine L (S (yu rfl rfl) (L (S (za rfl) (zh (j := 4) (dj := 23) (b := false) (S (ze yy rfl) ?_) rfl))))
    refine zh (j := 4) (dj := 23) (b := false) (zi z_ rfl ((hB3 hm6).cell (i := 3) rfl) ?_) rfl
    refine zh (j := 4) (dj := 23) (b := false) (S (zG rfl rfl (decide_eq_false (by omega))) ?_) rfl
    refine L (S (zj rfl rfl) (L (S (za rfl) (zh (j := 9) (dj := 28) (b := false) (S (ze yy rfl) ?_) rfl))))
    refine zh (j := 9) (dj := 28) (b := false) (zi z_ rfl ((hB3 hm6).cell (i := 3) rfl) ?_) rfl
    refine zh (j := 9) (dj := 28) (b := false) (S (yp rfl rfl (decide_eq_false (by omega))) ?_) rfl
    refine L (S (zj rfl rfl) (L (S (za rfl) (zh (j := 14) (dj := 33) (b := false) (S (ze yO rfl) ?_) rfl))))
    refine zh (j := 14) (dj := 33) (b := false) (zi z_ rfl ((hB3 hm6).cell (i := 4) rfl) ?_) rfl
    refine zh (j := 14) (dj := 33) (b := false) (S (zG rfl rfl (decide_eq_false (by omega))) ?_) rfl
    refine L (S (zj rfl rfl) (L (S (za rfl) (zh (j := 19) (dj := 38) (b := false) (S (ze yO rfl) ?_) rfl))))
    refine zh (j := 19) (dj := 38) (b := false) (zi z_ rfl ((hB3 hm6).cell (i := 4) rfl) ?_) rfl
    refine zh (j := 19) (dj := 38) (b := false) (S (yp rfl rfl (decide_eq_false (by omega))) ?_) rfl
    refine L (S (zj rfl rfl) (L (S (za rfl) (zh (j := 24) (dj := 43) (b := false) (S (ze ZI rfl) ?_) rfl))))
    refine zh (j := 24) (dj := 43) (b := false) (zi Zw rfl ((hB3 hm6).cell (i := 5) rfl) ?_) rfl
    refine zh (j := 24) (dj := 43) (b := false) (S (zG rfl rfl (decide_eq_false (by omega))) ?_) rfl
    refine L (S (zj rfl rfl) (L (S (zd rfl) (zg (zc (zk rfl (zf (zb (L (S (za rfl) ?_))))))))))
    refine L (S (zG rfl rfl (decide_eq_false (by omega))) ?_)
    refine L (S (zd rfl) (zg (zc (zk rfl (zf (zb (L (S (za rfl) ?_))))))))
    refine L (S (zG rfl rfl (decide_eq_true (by omega))) ?_)
    refine L (S (za rfl) (zh (j := 2) (dj := 56) (b := true) (S (ze yf rfl) ?_) rfl))
    refine zh (j := 2) (dj := 56) (b := true) (zi yS rfl ((hB2 hm6).cell (i := 1) rfl) ?_) rfl
    refine zh (j := 2) (dj := 56) (b := true) (S (zH Tryz.underlying35 rfl) ?_) rfl
    refine zh (j := 2) (dj := 56) (b := true) (S (y_ rfl rfl (decide_eq_false (by omega))) ?_) rfl
    refine L (S (zt rfl rfl) (L (S (zd rfl) (zg (zc (zk rfl (zo (yj (zc (zf (zf ?_)))))))))))
    refine yP 9 mixed rfl (fun hH => ?_)
    refine zp (i := 0) rfl (PureV.toS (ze yg rfl)) ?_ (by assumption) (by decide +kernel) (by decide +kernel) (by decide +kernel) (fun _ _ _ _ h => h) rfl rfl rfl
    refine zp (i := 1) rfl (ya yX rfl (fun _ h => hcj (hm6.no h))) ?_ (by assumption) (by decide +kernel) (by decide +kernel) (by decide +kernel) (fun _ _ _ _ h => h) rfl rfl rfl
    refine zp (i := 2) rfl (PureV.toS (za rfl)) ?_ (by assumption) (by decide +kernel) (by decide +kernel) (by decide +kernel) (fun _ _ _ _ h => h) rfl rfl rfl
    refine zp (i := 3) rfl (PureV.toS (zn Tryz.underlying34 (zD yl) rfl rfl (j := j) hj (by omega) (p := oj + j * 5) (by omega))) ?_ (by assumption) (by decide +kernel) (by decide +kernel) (by decide +kernel) (fun _ _ _ _ h => h) rfl rfl rfl
    refine zp (i := 4) rfl (yE Zo rfl (fun _ h => hrj (hm6.no h)) rfl) ?_ (by assumption) (by decide +kernel) (by decide +kernel) (by decide +kernel) (fun _ _ _ _ h => h) rfl rfl rfl
    refine zp (i := 5) rfl (PureV.toS (ze Zj rfl)) ?_ (by assumption) (by decide +kernel) (by decide +kernel) (by decide +kernel) (fun _ _ _ _ h => h) rfl rfl rfl
    refine zp (i := 6) rfl (ya Z6 rfl (fun _ h => (hB3 (hm6.no h)).cell (i := 2) rfl)) ?_ (by assumption) (by decide +kernel) (by decide +kernel) (by decide +kernel) (fun _ _ _ _ h => h) rfl rfl rfl
    refine Ze (i := 7) (Z8 rfl (zq cb_25 rfl ((hC (hm6.no hH))) ?_)) (by decide +kernel)
    rintro _ w7 ⟨rfl, hm7⟩
    refine yh (by first | assumption | exact Mv.no (by assumption) (by assumption)) (fun hH => ?_)
    refine zp (i := 8) rfl (PureV.toS (zd rfl)) ?_ (by assumption) (by decide +kernel) (by decide +kernel) (by decide +kernel) (fun _ _ _ _ h => h) rfl rfl rfl
    refine yZ (by decide +kernel) ?_
    refine zc (zf (zb (L (S (za rfl) ?_))))
    refine L (S (Za rfl rfl (decide_eq_false (by omega))) ?_)
    refine zg (zc (zk rfl (zo (zc (zf (zb ?_))))))
    refine L (zB zZ rfl (hB2 (hm6.no hH)).row rfl ?_)
    refine L (zq cb_13 rfl ((hCl (hm6.no hH))) ?_)
    rintro _ w8 ⟨o, rfl, ho8, hd8, he8, hm8⟩
    refine L (ye (zs := [(.slice none 0 0), (.slice none 0 0)]) z6 rfl ?_)
    rintro b8 w10 hb10 hm10 hn10
    refine L (zw z6 rfl rfl (zJ o) rfl hb10 (by exact Nat.le_refl 2) ?_)
    rintro w11 hb11 hm11
    refine zg (zc (zf (zf (zb (L (S (za rfl) ?_))))))
    refine L (S (y_ rfl rfl (decide_eq_false (by omega))) ?_)
    refine zg (zc (zk rfl (zo (zc (zf ?_)))))
    have hb11' : Blk w11 b8 (zM o) 37 := hb11
    have hm58 : Mv No w5 w8 := (hm6.no hH).no hm8
    have hm07 := hm05.no (hm6.no hH)
    have hk := mk_of (hm05.no hm58) ho8 hm07.size hn10 hm10 hb11' hm11 hd8 he8
    have z8 := hm58.size
    have hm511 : Mv No w5 w11 := (hm58.no hm10).new hm11 (by omega)
    have hol : o.idxs.length = s.idxs.length := by simpa using congrArg List.length he8
    have hcl := fun {wq} (h : Mv No w11 wq) => cloneIdx_ret (t := t) (((ht.no hm05).no hm511).no h) (by omega)
    have hszk := hk.mv.size
    have hsl : ∀ wq, Mv No w11 wq → wq.cell? ⟨b8, 1, none⟩ = some (.slice o.B o.idxs.length o.d) := fun wq h => (hk.blk.no h).cell (i := 1) rfl
    refine ZG (γ := Idx × Option Addr × Nat) (fun _ => [(4, .pointer (some ⟨b4, 0, none⟩)), (9, .pointer (some ⟨b8, 0, none⟩))]) (fun q wc => Mk w wc b8 { o with idxs := o.idxs ++ [q.1], B := q.2.1, d := q.2.2 } s.tabs (s.idxs ++ [t]) ∧ Blk wc b4 (zM zX) 37) ?_ ?_
    · refine ZT 8 mixed rfl ?_
      refine zF (i := 0) rfl (ze yf rfl) ?_ (by decide +kernel) (by decide +kernel) (by decide +kernel) (fun _ _ _ _ h => h) rfl rfl rfl
      refine ZL (i := 1) (i2 := 2) (zS rfl (zi yS rfl (by first | exact hsl _ (Mv.refl _).drew | exact hsl _ ((Mv.refl _).drew.no hm12) | exact hsl _ (((Mv.refl _).drew.no hm12).no hm13)) ?_)) (zS rfl (zB Zu rfl ((hB3 hm511).no (Mv.refl _).drew).row rfl ?_)) (by decide +kernel)
      · refine zO (i := 2) (zS rfl (zB Zu rfl ((hB3 hm511).no (Mv.refl _).drew).row rfl ?_)) (by decide +kernel)
        refine zO (i := 3) (zS rfl (zq cb_41 rfl ((hcl (Mv.refl _).drew)) ?_)) (by decide +kernel)
        rintro _ w12 ⟨A6, c6, rfl, ho12, hm12⟩
        refine zO (i := 4) (zS rfl (zU (l := [.tmp 89]) (vss := [yq { t with A := A6, cap := c6 }]) Tryz.underlying35 yb (by decide) rfl (by simp [yA, yq, Zt]) rfl (by decide) (by decide) ?_)) (by decide +kernel)
        rintro b13 w13 hb13 hm13 hn13
        refine zO (i := 5) (zS rfl (y9 Tryz.underlying35 yb rfl (by decide) rfl (zE hk.own.isl (((Mv.refl _).drew.no hm12).no hm13)) rfl (.inr ⟨b13, 0, rfl, hb13.row⟩) rfl (yz _) (by have := ((Mv.refl w11 (S := No)).drew.no hm12).size; have := hm13.size; omega) (by rw [hol]; unfold maxLen; omega) (by rw [hol]; omega) ?_)) (by decide +kernel)
        rintro A14 c14 w14 ho14 hm14
        refine zF (i := 6) rfl (ze yf rfl) ?_ (by decide +kernel) (by decide +kernel) (by decide +kernel) (fun _ _ _ _ h => h) rfl rfl rfl
        refine zO (i := 7) (zS rfl (yv ti_35 rfl rfl rfl ((hk.blk.no (((Mv.refl _).drew.no hm12).no hm13)).mv hm14 (zK (hk.blk.no (((Mv.refl _).drew.no hm12).no hm13)) (zE hk.own.isl (((Mv.refl _).drew.no hm12).no hm13)) (by decide))) (by show 1 < 2; decide) ?_)) (by decide +kernel)
        rintro w15 hb15 hm15
        refine yH (by decide +kernel) ?_
        refine zc ?_
        have hm1113 : Mv No w11 w13 := (((Mv.refl _).drew.no hm12).no hm13)
        have hk13 := hk.keep hm1113
        exact ⟨rfl, ({ t with A := A6, cap := c6 }, A14, c14), (.cons rfl (.cons rfl (.nil _))), hk13.addI (t := t) (zE ho12 hm13) hszk rfl hm14 ho14 hb15 hm15, hk13.other (hB4 (hm511.no hm1113)) hk13.own.isl (by decide) hm14 hm15 (by omega)⟩
      · refine ZL (i := 1) (i2 := 3) (zS rfl (zi yS rfl (by first | exact hsl _ (Mv.refl _).drew | exact hsl _ ((Mv.refl _).drew.no hm12) | exact hsl _ (((Mv.refl _).drew.no hm12).no hm13)) ?_)) (zS rfl (zq cb_41 rfl ((hcl (Mv.refl _).drew)) ?_)) (by decide +kernel)
        · refine zO (i := 3) (zS rfl (zq cb_41 rfl ((hcl (Mv.refl _).drew)) ?_)) (by decide +kernel)
          rintro _ w12 ⟨A6, c6, rfl, ho12, hm12⟩
          refine zO (i := 4) (zS rfl (zU (l := [.tmp 89]) (vss := [yq { t with A := A6, cap := c6 }]) Tryz.underlying35 yb (by decide) rfl (by simp [yA, yq, Zt]) rfl (by decide) (by decide) ?_)) (by decide +kernel)
          rintro b13 w13 hb13 hm13 hn13
          refine zO (i := 5) (zS rfl (y9 Tryz.underlying35 yb rfl (by decide) rfl (zE hk.own.isl (((Mv.refl _).drew.no hm12).no hm13)) rfl (.inr ⟨b13, 0, rfl, hb13.row⟩) rfl (yz _) (by have := ((Mv.refl w11 (S := No)).drew.no hm12).size; have := hm13.size; omega) (by rw [hol]; unfold maxLen; omega) (by rw [hol]; omega) ?_)) (by decide +kernel)
          rintro A14 c14 w14 ho14 hm14
          refine zF (i := 6) rfl (ze yf rfl) ?_ (by decide +kernel) (by decide +kernel) (by decide +kernel) (fun _ _ _ _ h => h) rfl rfl rfl
          refine zO (i := 7) (zS rfl (yv ti_35 rfl rfl rfl ((hk.blk.no (((Mv.refl _).drew.no hm12).no hm13)).mv hm14 (zK (hk.blk.no (((Mv.refl _).drew.no hm12).no hm13)) (zE hk.own.isl (((Mv.refl _).drew.no hm12).no hm13)) (by decide))) (by show 1 < 2; decide) ?_)) (by decide +kernel)
          rintro w15 hb15 hm15
          refine yH (by decide +kernel) ?_
          refine zc ?_
          have hm1113 : Mv No w11 w13 := (((Mv.refl _).drew.no hm12).no hm13)
          have hk13 := hk.keep hm1113
          exact ⟨rfl, ({ t with A := A6, cap := c6 }, A14, c14), (.cons rfl (.cons rfl (.nil _))), hk13.addI (t := t) (zE ho12 hm13) hszk rfl hm14 ho14 hb15 hm15, hk13.other (hB4 (hm511.no hm1113)) hk13.own.isl (by decide) hm14 hm15 (by omega)⟩
        · rintro _ w12 ⟨A6, c6, rfl, ho12, hm12⟩
          refine ZL (i := 1) (i2 := 4) (zS rfl (zi yS rfl (by first | exact hsl _ (Mv.refl _).drew | exact hsl _ ((Mv.refl _).drew.no hm12) | exact hsl _ (((Mv.refl _).drew.no hm12).no hm13)) ?_)) (zS rfl (zU (l := [.tmp 89]) (vss := [yq { t with A := A6, cap := c6 }]) Tryz.underlying35 yb (by decide) rfl (by simp [yA, yq, Zt]) rfl (by decide) (by decide) ?_)) (by decide +kernel)
          · refine zO (i := 4) (zS rfl (zU (l := [.tmp 89]) (vss := [yq { t with A := A6, cap := c6 }]) Tryz.underlying35 yb (by decide) rfl (by simp [yA, yq, Zt]) rfl (by decide) (by decide) ?_)) (by decide +kernel)
            rintro b13 w13 hb13 hm13 hn13
            refine zO (i := 5) (zS rfl (y9 Tryz.underlying35 yb rfl (by decide) rfl (zE hk.own.isl (((Mv.refl _).drew.no hm12).no hm13)) rfl (.inr ⟨b13, 0, rfl, hb13.row⟩) rfl (yz _) (by have := ((Mv.refl w11 (S := No)).drew.no hm12).size; have := hm13.size; omega) (by rw [hol]; unfold maxLen; omega) (by rw [hol]; omega) ?_)) (by decide +kernel)
            rintro A14 c14 w14 ho14 hm14
            refine zF (i := 6) rfl (ze yf rfl) ?_ (by decide +kernel) (by decide +kernel) (by decide +kernel) (fun _ _ _ _ h => h) rfl rfl rfl
            refine zO (i := 7) (zS rfl (yv ti_35 rfl rfl rfl ((hk.blk.no (((Mv.refl _).drew.no hm12).no hm13)).mv hm14 (zK (hk.blk.no (((Mv.refl _).drew.no hm12).no hm13)) (zE hk.own.isl (((Mv.refl _).drew.no hm12).no hm13)) (by decide))) (by show 1 < 2; decide) ?_)) (by decide +kernel)
            rintro w15 hb15 hm15
            refine yH (by decide +kernel) ?_
            refine zc ?_
            have hm1113 : Mv No w11 w13 := (((Mv.refl _).drew.no hm12).no hm13)
            have hk13 := hk.keep hm1113
            exact ⟨rfl, ({ t with A := A6, cap := c6 }, A14, c14), (.cons rfl (.cons rfl (.nil _))), hk13.addI (t := t) (zE ho12 hm13) hszk rfl hm14 ho14 hb15 hm15, hk13.other (hB4 (hm511.no hm1113)) hk13.own.isl (by decide) hm14 hm15 (by omega)⟩
          · rintro b13 w13 hb13 hm13 hn13
            refine zO (i := 1) (zS rfl (zi yS rfl (by first | exact hsl _ (Mv.refl _).drew | exact hsl _ ((Mv.refl _).drew.no hm12) | exact hsl _ (((Mv.refl _).drew.no hm12).no hm13)) ?_)) (by decide +kernel)
            refine zO (i := 5) (zS rfl (y9 Tryz.underlying35 yb rfl (by decide) rfl (zE hk.own.isl (((Mv.refl _).drew.no hm12).no hm13)) rfl (.inr ⟨b13, 0, rfl, hb13.row⟩) rfl (yz _) (by have := ((Mv.refl w11 (S := No)).drew.no hm12).size; have := hm13.size; omega) (by rw [hol]; unfold maxLen; omega) (by rw [hol]; omega) ?_)) (by decide +kernel)
            rintro A14 c14 w14 ho14 hm14
            refine zF (i := 6) rfl (ze yf rfl) ?_ (by decide +kernel) (by decide +kernel) (by decide +kernel) (fun _ _ _ _ h => h) rfl rfl rfl
            refine zO (i := 7) (zS rfl (yv ti_35 rfl rfl rfl ((hk.blk.no (((Mv.refl _).drew.no hm12).no hm13)).mv hm14 (zK (hk.blk.no (((Mv.refl _).drew.no hm12).no hm13)) (zE hk.own.isl (((Mv.refl _).drew.no hm12).no hm13)) (by decide))) (by show 1 < 2; decide) ?_)) (by decide +kernel)
            rintro w15 hb15 hm15
            refine yH (by decide +kernel) ?_
            refine zc ?_
            have hm1113 : Mv No w11 w13 := (((Mv.refl _).drew.no hm12).no hm13)
            have hk13 := hk.keep hm1113
            exact ⟨rfl, ({ t with A := A6, cap := c6 }, A14, c14), (.cons rfl (.cons rfl (.nil _))), hk13.addI (t := t) (zE ho12 hm13) hszk rfl hm14 ho14 hb15 hm15, hk13.other (hB4 (hm511.no hm1113)) hk13.own.isl (by decide) hm14 hm15 (by omega)⟩
    rintro ⟨t', A14, c14⟩ w15 ⟨hk15, hB4'⟩ f' hf'
    dsimp only at hk15
    refine Zb hf' ?_
    clear hf' f'
    have htd : (o.idxs ++ [t']).map Idx.d_ = s.idxs.map Idx.d_ ++ [t.d_] := hk15.id.trans (by rw [List.map_append]; rfl)
    generalize hto : o.idxs ++ [t'] = tn at hk15 htd
    have htl : tn.length = s.idxs.length + 1 := by rw [← hto]; simp [hol]
    obtain ⟨bt, cst, hAt, hbt, -⟩ := Ym hk15.own.isl (by show 0 < tn.length; omega)
    dsimp only at hAt
    subst hAt
    have hsort := fun {wq} (h : Mv No w15 wq) => sortIdx_ret (xs := tn) (n := tn.length) rfl (by omega) (by omega) (zE hk15.own.isl h) idx_cmp
    refine zf (zb (L (S (ze yf rfl) ?_)))
    refine L (zi yS rfl (hk15.blk.cell (i := 1) rfl) ?_)
    refine L (zq cb_68 rfl ((hsort (Mv.refl _))) ?_)
    rintro _ w16 ⟨ho16, hm16⟩
    refine zg (zc (zf (zb ?_)))
    refine L (zB zZ rfl (hk15.blk.mv (Z5 hm16 (n := tn.length) (c := c14)) (zK hk15.blk hk15.own.isl (by decide))).row rfl ?_)
    refine L (zw z6 rfl rfl (zJ { o with idxs := tn, B := some ⟨bt, 0, none⟩, d := c14 }) rfl (hB4'.mv (Z5 hm16 (n := tn.length) (c := c14)) (zK hB4' hk15.own.isl (by decide))) (by exact Nat.le_refl 2) ?_)
    rintro w17 hb17 hm17
    refine L (S (zd rfl) (zg (zc (zy ?_))))
    have hk16 := hk15.turnI (idxs' := y6 (fun x y => ltN x.name y.name) tn) (is' := y6 (fun x y => ltN x.name y.name) tn) (ZK _ _) (fun x hx => hk15.own.idx x (mem_sortI hx)) (Z5 hm16) ho16 rfl
    have hf := hk16.fin (hB4'.mv (Z5 hm16 (n := tn.length) (c := c14)) (zK hB4' hk15.own.isl (by decide))) (by omega) hm17
    have hb17' : Blk w17 b4 (zM { o with idxs := y6 (fun x y => ltN x.name y.name) tn, B := some ⟨bt, 0, none⟩, d := c14 }) 37 := by have h9 := hb17; unfold zM at h9 ⊢; dsimp only at h9 ⊢; rw [ZK]; exact h9
    refine yk (rs := [.cell 4 37, .tmp 5]) [.agg (zM { o with idxs := y6 (fun x y => ltN x.name y.name) tn, B := some ⟨bt, 0, none⟩, d := c14 }).toArray, .int .i64 ((0 : Nat) : Int)] Tryz.results34 ?_ ?_
    · exact ⟨⟨_, rfl, zu zZ hb17'.row rfl⟩, rfl, trivial⟩
    exact ⟨_, rfl, hf.1, fun h => absurd rfl h, fun _ => ⟨hd8, (map_sortI (lt' := fun a b : ID => ltN a.1 b.1) (g := Idx.d_) (fun _ _ => rfl) tn).trans (by rw [htd])⟩, hf.2⟩
  · rw [if_neg q8]
    obtain ⟨i, hi, hil⟩ := hat q8
    refine zb (L (S (ze yx rfl) ?_))
    refine L (zi yc rfl ((hB3 (Mv.refl _)).cell (i := 0) rfl) ?_)
    refine L (zq Yz rfl ((hN q1)) ?_)
    rintro _ w6 ⟨rfl, hm6⟩
    refine L (S (yu rfl rfl) (L (S (za rfl) (zh (j := 4) (dj := 23) (b := false) (S (ze yy rfl) ?_) rfl))))
    refine zh (j := 4) (dj := 23) (b := false) (zi z_ rfl ((hB3 hm6).cell (i := 3) rfl) ?_) rfl
    refine zh (j := 4) (dj := 23) (b := false) (S (zG rfl rfl (decide_eq_false (by omega))) ?_) rfl
    refine L (S (zj rfl rfl) (L (S (za rfl) (zh (j := 9) (dj := 28) (b := false) (S (ze yy rfl) ?_) rfl))))
    refine zh (j := 9) (dj := 28) (b := false) (zi z_ rfl ((hB3 hm6).cell (i := 3) rfl) ?_) rfl
    refine zh (j := 9) (dj := 28) (b := false) (S (yp rfl rfl (decide_eq_false (by omega))) ?_) rfl
    refine L (S (zj rfl rfl) (L (S (za rfl) (zh (j := 14) (dj := 33) (b := false) (S (ze yO rfl) ?_) rfl))))
    refine zh (j := 14) (dj := 33) (b := false) (zi z_ rfl ((hB3 hm6).cell (i := 4) rfl) ?_) rfl
    refine zh (j := 14) (dj := 33) (b := false) (S (zG rfl rfl (decide_eq_false (by omega))) ?_) rfl
    refine L (S (zj rfl rfl) (L (S (za rfl) (zh (j := 19) (dj := 38) (b := false) (S (ze yO rfl) ?_) rfl))))
    refine zh (j := 19) (dj := 38) (b := false) (zi z_ rfl ((hB3 hm6).cell (i := 4) rfl) ?_) rfl
    refine zh (j := 19) (dj := 38) (b := false) (S (yp rfl rfl (decide_eq_false (by omega))) ?_) rfl
    refine L (S (zj rfl rfl) (L (S (za rfl) (zh (j := 24) (dj := 43) (b := false) (S (ze ZI rfl) ?_) rfl))))
    refine zh (j := 24) (dj := 43) (b := false) (zi Zw rfl ((hB3 hm6).cell (i := 5) rfl) ?_) rfl
    refine zh (j := 24) (dj := 43) (b := false) (S (zG rfl rfl (decide_eq_false (by omega))) ?_) rfl
    refine L (S (zj rfl rfl) (L (S (zd rfl) (zg (zc (zk rfl (zf (zb (L (S (za rfl) ?_))))))))))
    refine L (S (zG rfl rfl (decide_eq_false (by omega))) ?_)
    refine L (S (zd rfl) (zg (zc (zk rfl (zf (zb (L (S (za rfl) ?_))))))))
    refine L (S (zG rfl rfl (decide_eq_false (by omega))) ?_)
    refine L (S (za rfl) (zl (j := 2) (dj := 56) (b := true) (b' := false) (d := 57) rfl (zl (j := 2) (dj := 56) (b := true) (b' := false) (d := 58) rfl (zl (j := 2) (dj := 56) (b := true) (b' := false) (d := 59) rfl (zl (j := 2) (dj := 56) (b := true) (b' := false) (d := 60) rfl (L (S (zj rfl rfl) (L (S (zd rfl) (zg (zc (zk rfl (zo (yj (zc (zf (zf ?_)))))))))))))))))
    refine yP 9 mixed rfl (fun hH => ?_)
    refine zp (i := 0) rfl (PureV.toS (ze yg rfl)) ?_ (by assumption) (by decide +kernel) (by decide +kernel) (by decide +kernel) (fun _ _ _ _ h => h) rfl rfl rfl
    refine zp (i := 1) rfl (ya yX rfl (fun _ h => hcj (hm6.no h))) ?_ (by assumption) (by decide +kernel) (by decide +kernel) (by decide +kernel) (fun _ _ _ _ h => h) rfl rfl rfl
    refine zp (i := 2) rfl (PureV.toS (za rfl)) ?_ (by assumption) (by decide +kernel) (by decide +kernel) (by decide +kernel) (fun _ _ _ _ h => h) rfl rfl rfl
    refine zp (i := 3) rfl (PureV.toS (zn Tryz.underlying34 (zD yl) rfl rfl (j := j) hj (by omega) (p := oj + j * 5) (by omega))) ?_ (by assumption) (by decide +kernel) (by decide +kernel) (by decide +kernel) (fun _ _ _ _ h => h) rfl rfl rfl
    refine zp (i := 4) rfl (yE Zo rfl (fun _ h => hrj (hm6.no h)) rfl) ?_ (by assumption) (by decide +kernel) (by decide +kernel) (by decide +kernel) (fun _ _ _ _ h => h) rfl rfl rfl
    refine zp (i := 5) rfl (PureV.toS (ze Zj rfl)) ?_ (by assumption) (by decide +kernel) (by decide +kernel) (by decide +kernel) (fun _ _ _ _ h => h) rfl rfl rfl
    refine zp (i := 6) rfl (ya Z6 rfl (fun _ h => (hB3 (hm6.no h)).cell (i := 2) rfl)) ?_ (by assumption) (by decide +kernel) (by decide +kernel) (by decide +kernel) (fun _ _ _ _ h => h) rfl rfl rfl
    refine Ze (i := 7) (Z8 rfl (zq cb_25 rfl ((hC (hm6.no hH))) ?_)) (by decide +kernel)
    rintro _ w7 ⟨rfl, hm7⟩
    refine yh (by first | assumption | exact Mv.no (by assumption) (by assumption)) (fun hH => ?_)
    refine zp (i := 8) rfl (PureV.toS (zd rfl)) ?_ (by assumption) (by decide +kernel) (by decide +kernel) (by decide +kernel) (fun _ _ _ _ h => h) rfl rfl rfl
    refine yZ (by decide +kernel) ?_
    refine zc (zf (zb (L (S (za rfl) ?_))))
    refine L (S (Za rfl rfl (decide_eq_false (by omega))) ?_)
    refine zg (zc (zk rfl (zo (zc (zf (zb ?_))))))
    refine L (zB zZ rfl (hB2 (hm6.no hH)).row rfl ?_)
    refine L (zq cb_13 rfl ((hCl (hm6.no hH))) ?_)
    rintro _ w8 ⟨o, rfl, ho8, hd8, he8, hm8⟩
    refine L (ye (zs := [(.slice none 0 0), (.slice none 0 0)]) z6 rfl ?_)
    rintro b8 w10 hb10 hm10 hn10
    refine L (zw z6 rfl rfl (zJ o) rfl hb10 (by exact Nat.le_refl 2) ?_)
    rintro w11 hb11 hm11
    refine zg (zc (zf (zf (zb (L (S (za rfl) ?_))))))
    refine L (S (y_ rfl rfl (decide_eq_true (by omega))) ?_)
    refine zg (zc (zr rfl (zf ?_)))
    have hb11' : Blk w11 b8 (zM o) 37 := hb11
    have hm58 : Mv No w5 w8 := (hm6.no hH).no hm8
    have hm07 := hm05.no (hm6.no hH)
    have hk := mk_of (hm05.no hm58) ho8 hm07.size hn10 hm10 hb11' hm11 hd8 he8
    have z8 := hm58.size
    have hm511 : Mv No w5 w11 := (hm58.no hm10).new hm11 (by omega)
    have hol : o.idxs.length = s.idxs.length := by simpa using congrArg List.length he8
    have hcl := fun {wq} (h : Mv No w11 wq) => cloneIdx_ret (t := t) (((ht.no hm05).no hm511).no h) (by omega)
    have hszk := hk.mv.size
    obtain ⟨bt, cst, hAt, hbt, -⟩ := Ym hk.own.isl (by omega)
    have hot : w11.ownsRow w.heap.size 30 6 (.slice (some ⟨bt, 0, none⟩) o.idxs.length o.d) o.idxs.length (zI yq o.idxs) := by rw [← hAt]; exact hk.own.isl
    have hsl : ∀ wq, Mv No w11 wq → wq.cell? ⟨b8, 1, none⟩ = some (.slice (some ⟨bt, 0, none⟩) o.idxs.length o.d) := fun wq h => by rw [← hAt]; exact (hk.blk.no h).cell (i := 1) rfl
    refine ZG (γ := Idx) (fun _ => [(4, .pointer (some ⟨b4, 0, none⟩)), (9, .pointer (some ⟨b8, 0, none⟩))]) (fun q wc => Mk w wc b8 { o with idxs := o.idxs.set i q } s.tabs (s.idxs.set i t) ∧ Blk wc b4 (zM zX) 37) ?_ ?_
    · refine ZT 7 mixed rfl ?_
      refine zF (i := 0) rfl (ze yf rfl) ?_ (by decide +kernel) (by decide +kernel) (by decide +kernel) (fun _ _ _ _ h => h) rfl rfl rfl
      refine zF (i := 2) rfl (za rfl) ?_ (by decide +kernel) (by decide +kernel) (by decide +kernel) (fun _ _ _ _ h => h) rfl rfl rfl
      refine ZL (i := 1) (i2 := 3) (zS rfl (zi yS rfl (by first | exact hsl _ (Mv.refl _).drew | exact hsl _ ((Mv.refl _).drew.no hm12)) ?_)) (zS rfl (zB Zu rfl ((hB3 hm511).no (Mv.refl _).drew).row rfl ?_)) (by decide +kernel)
      · refine zO (i := 3) (zS rfl (zB Zu rfl ((hB3 hm511).no (Mv.refl _).drew).row rfl ?_)) (by decide +kernel)
        refine zO (i := 4) (zS rfl (zq cb_41 rfl ((hcl (Mv.refl _).drew)) ?_)) (by decide +kernel)
        rintro _ w12 ⟨A6, c6, rfl, ho12, hm12⟩
        refine zF (i := 5) rfl (zn Tryz.underlying35 (zD yb) rfl rfl (j := i) hi (by omega) (p := 0 + i * 6) rfl) ?_ (by decide +kernel) (by decide +kernel) (by decide +kernel) (fun _ _ _ _ h => h) rfl rfl rfl
        refine zO (i := 6) (zS rfl (Zc (i := i) yw yb rfl (by omega) rfl (yz _) (zE hot ((Mv.refl _).drew.no hm12)) rfl (by omega) ?_)) (by decide +kernel)
        rintro w13 ho13 hm13
        refine yH (by decide +kernel) ?_
        refine zc ?_
        have hm1112 : Mv No w11 w12 := ((Mv.refl _).drew.no hm12)
        have hk12 := hk.keep hm1112
        have hmo : Mv (Zx (.slice o.B o.idxs.length o.d)) w12 w13 := by rw [hAt]; exact Z5 hm13
        refine ⟨rfl, { t with A := A6, cap := c6 }, (.cons rfl (.cons rfl (.nil _))), hk12.turnI (idxs' := o.idxs.set i { t with A := A6, cap := c6 }) (List.length_set ..) (fun x hx => ?_) hmo (by rw [hAt]; exact ho13) ?_, (hB4 (hm511.no hm1112)).mv hmo (zK (hB4 (hm511.no hm1112)) hk12.own.isl (by decide))⟩
        · exact (List.mem_or_eq_of_mem_set hx).elim (fun hx => hk12.own.idx x hx) (fun hx => by subst hx; exact Zs ho12 hszk)
        · rw [List.map_set, List.map_set, he8]; rfl
      · refine ZL (i := 1) (i2 := 4) (zS rfl (zi yS rfl (by first | exact hsl _ (Mv.refl _).drew | exact hsl _ ((Mv.refl _).drew.no hm12)) ?_)) (zS rfl (zq cb_41 rfl ((hcl (Mv.refl _).drew)) ?_)) (by decide +kernel)
        · refine zO (i := 4) (zS rfl (zq cb_41 rfl ((hcl (Mv.refl _).drew)) ?_)) (by decide +kernel)
          rintro _ w12 ⟨A6, c6, rfl, ho12, hm12⟩
          refine zF (i := 5) rfl (zn Tryz.underlying35 (zD yb) rfl rfl (j := i) hi (by omega) (p := 0 + i * 6) rfl) ?_ (by decide +kernel) (by decide +kernel) (by decide +kernel) (fun _ _ _ _ h => h) rfl rfl rfl
          refine zO (i := 6) (zS rfl (Zc (i := i) yw yb rfl (by omega) rfl (yz _) (zE hot ((Mv.refl _).drew.no hm12)) rfl (by omega) ?_)) (by decide +kernel)
          rintro w13 ho13 hm13
          refine yH (by decide +kernel) ?_
          refine zc ?_
          have hm1112 : Mv No w11 w12 := ((Mv.refl _).drew.no hm12)
          have hk12 := hk.keep hm1112
          have hmo : Mv (Zx (.slice o.B o.idxs.length o.d)) w12 w13 := by rw [hAt]; exact Z5 hm13
          refine ⟨rfl, { t with A := A6, cap := c6 }, (.cons rfl (.cons rfl (.nil _))), hk12.turnI (idxs' := o.idxs.set i { t with A := A6, cap := c6 }) (List.length_set ..) (fun x hx => ?_) hmo (by rw [hAt]; exact ho13) ?_, (hB4 (hm511.no hm1112)).mv hmo (zK (hB4 (hm511.no hm1112)) hk12.own.isl (by decide))⟩
          · exact (List.mem_or_eq_of_mem_set hx).elim (fun hx => hk12.own.idx x hx) (fun hx => by subst hx; exact Zs ho12 hszk)
          · rw [List.map_set, List.map_set, he8]; rfl
        · rintro _ w12 ⟨A6, c6, rfl, ho12, hm12⟩
          refine zO (i := 1) (zS rfl (zi yS rfl (by first | exact hsl _ (Mv.refl _).drew | exact hsl _ ((Mv.refl _).drew.no hm12)) ?_)) (by decide +kernel)
          refine zF (i := 5) rfl (zn Tryz.underlying35 (zD yb) rfl rfl (j := i) hi (by omega) (p := 0 + i * 6) rfl) ?_ (by decide +kernel) (by decide +kernel) (by decide +kernel) (fun _ _ _ _ h => h) rfl rfl rfl
          refine zO (i := 6) (zS rfl (Zc (i := i) yw yb rfl (by omega) rfl (yz _) (zE hot ((Mv.refl _).drew.no hm12)) rfl (by omega) ?_)) (by decide +kernel)
          rintro w13 ho13 hm13
          refine yH (by decide +kernel) ?_
          refine zc ?_
          have hm1112 : Mv No w11 w12 := ((Mv.refl _).drew.no hm12)
          have hk12 := hk.keep hm1112
          have hmo : Mv (Zx (.slice o.B o.idxs.length o.d)) w12 w13 := by rw [hAt]; exact Z5 hm13
          refine ⟨rfl, { t with A := A6, cap := c6 }, (.cons rfl (.cons rfl (.nil _))), hk12.turnI (idxs' := o.idxs.set i { t with A := A6, cap := c6 }) (List.length_set ..) (fun x hx => ?_) hmo (by rw [hAt]; exact ho13) ?_, (hB4 (hm511.no hm1112)).mv hmo (zK (hB4 (hm511.no hm1112)) hk12.own.isl (by decide))⟩
          · exact (List.mem_or_eq_of_mem_set hx).elim (fun hx => hk12.own.idx x hx) (fun hx => by subst hx; exact Zs ho12 hszk)
          · rw [List.map_set, List.map_set, he8]; rfl
    rintro t' w15 ⟨hk15, hB4'⟩ f' hf'
    refine Zb hf' ?_
    clear hf' f'
    refine zf (zb ?_)
    refine L (zB zZ rfl hk15.blk.row rfl ?_)
    refine L (zw z6 rfl rfl (zJ { o with idxs := o.idxs.set i t' }) rfl hB4' (by exact Nat.le_refl 2) ?_)
    rintro w17 hb17 hm17
    refine L (S (zd rfl) (zg (zc (zy (zm ?_)))))
    have hb17' : Blk w17 b4 (zM { o with idxs := o.idxs.set i t' }) 37 := hb17
    have hf := hk15.fin hB4' (by omega) hm17
    refine yk (rs := [.cell 4 37, .tmp 5]) [.agg (zM { o with idxs := o.idxs.set i t' }).toArray, .int .i64 ((0 : Nat) : Int)] Tryz.results34 ?_ ?_
    · exact ⟨⟨_, rfl, zu zZ hb17'.row rfl⟩, rfl, trivial⟩
    exact ⟨_, rfl, hf.1, fun h => absurd rfl h, fun _ => ⟨hd8, by rw [hi]; exact hk15.id.trans (List.map_set ..)⟩, hf.2⟩
end
end Go.Proofs.YtnoioimphcmeiaaGreatDoor
namespace Go.Proofs.YtnoioimphcmeiaaGreatDoor
open Go.RowKit
set_option maxRecDepth 20000
set_option maxHeartbeats 1000000

theorem splice_lo {cs vs : List Value} {o : Nat} (h : o ≤ cs.length) : (ZA cs o vs).take o = cs.take o := by
  unfold ZA
  rw [List.append_assoc, List.take_append_of_le_length (by rw [List.length_take]; omega), List.take_take, Nat.min_self]
theorem splice_hi {cs vs : List Value} {o : Nat} (h : o ≤ cs.length) : (ZA cs o vs).take (o + vs.length) = cs.take o ++ vs := by
  unfold ZA
  rw [List.take_append_of_le_length (by rw [List.length_append, List.length_take]; omega), List.take_of_length_le (by rw [List.length_append, List.length_take]; omega)]
section
variable {P : Program} {n : Nat} {N : Nxt} {Q : Post} {f : Fr} {ds : List Deferred} {w : World}
variable {d : Nat} {ty : TypeId} {pos : String} {af : Array Edge} {g : Option (Nat × Bool)}
/-- The same of a function value while some blocks may turn. -/
def FnS (P : Program) (S : Nat → Prop) (w0 : World) (fv : Value) {α : Type} (cells : α → List Value) (p : α → Bool) : Prop :=
  ∃ (k : FuncId) (first captured : List Value), fv = .func (.func k) first.toArray captured.toArray ∧ zA P k = true ∧
    ∀ (w : World) (x : α), Mv S w0 w → Ret P k (first ++ [.agg (cells x).toArray] ++ captured) w fun v w' => v = .bool (p x) ∧ Mv No w w'
theorem FnS.fnB {S : Nat → Prop} {w0 : World} {fv : Value} {α : Type} {cells : α → List Value} {p : α → Bool} (h : FnS P S w0 fv cells p) : FnB P w0 fv cells p := by
  obtain ⟨k, a, b, h1, h2, h3⟩ := h
  exact ⟨k, a, b, h1, h2, fun w x hw => h3 w x hw.ofNo⟩
theorem S_callS {S : Nat → Prop} {fv : Value} {α : Type} {cells : α → List Value} {p : α → Bool} {c : Operand} {l : List Operand} {ats : Array TypeId} {x : α} {w0 : World} {β : Bool} (hp : FnS P S w0 fv cells p) (hβ : p x = β) (hf : ev f c = some fv) (hl : evs f l = some [.agg (cells x).toArray]) (hm : Mv S w0 w) (h : ∀ w', Mv No w w' → N ((d, .bool β) :: f) ds w') (hn : Nat.blt d n = true := by rfl) :
    opF P n ⟨some d, .call { callee := .value c, args := l.toArray, argTypes := ats }, ty, pos, af, g⟩ N Q f ds w := by
  obtain ⟨k, a, b, rfl, h2, h3⟩ := hp
  exact S_callv h2 hf hl (h3 w x hm) (fun v w' ⟨hv, hw⟩ => by subst hv; subst hβ; exact h w' hw) hn
end
section
variable {w : World}
theorem delTab_ret {xs : List Tab} {b c n base : Nat} (hn : xs.length = n) (hl : n ≤ 1000) (ho : w.ownsRow base 27 5 (.slice (some ⟨b, 0, none⟩) n c) n (zI yA xs)) {i : Nat} (hi : i < n) : Ret Tryz.prog 71 [.slice (some ⟨b, 0, none⟩) n c, .int .i64 (i : Int), .int .i64 ((i + 1 : Nat) : Int)] w fun v w' => v = .slice (some ⟨b, 0, none⟩) (n - 1) c ∧ w'.ownsRow base 27 5 (.slice (some ⟨b, 0, none⟩) (n - 1) c) (n - 1) (zI yA (xs.eraseIdx i)) ∧ Mv (At b) w w' := by
  obtain ⟨b', cs, hA, hb, hblk, hlc, hcm, hcs, ht⟩ := Ym ho (by omega)
  cases hA
  have hsl := (yW ho).1
  have hcut : ∀ {wq}, Mv No w wq → SlR wq (cutA (some ⟨b, 0, none⟩) (i + 1) 5 c) (zI yA (xs.drop (i + 1))) := fun h => by
    have h1 := (hsl.no h).cut (l := i + 1) (m := 5) (cap := c) (by rw [yB yI, hn]; omega)
    rwa [Yh yI] at h1
  have hnl : (zI yA (xs.drop (i + 1))).length = (n - (i + 1)) * 5 := by rw [yB yI, List.length_drop, hn]
  have hsp : (ZA cs (i * 5) (zI yA (xs.drop (i + 1)))).length = cs.length := splice_len (by omega)
  have hone := Zn yN (xs.drop (i + 1))
  refine zN Tryz.func71 Tryz.ntmps71 rfl rfl ?_
  refine zf (zb (L (S (zd rfl) (zg (zc (zf (zb (L (S (za rfl) (L (S (za rfl) (L (S (za rfl) (L (S (za rfl) ?_)))))))))))))))
  refine L (S (zH Tryz.underlying34 rfl) ?_)
  refine L (S (P_slice3 Tryz.underlying34 (zD yl) rfl (zV (j := i) rfl rfl) (zV (j := i + 1) rfl rfl) (zV (j := n) rfl rfl) (by omega) (by omega) (by omega)) ?_)
  refine zg (zc (zf (zf (zb (L (S (za rfl) (L (S (za rfl) ?_))))))))
  refine L (S (zR rfl rfl (decide_eq_false (by omega))) ?_)
  refine zg (zc (zk rfl (zo (zc (zf (zb (L (S (za rfl) ?_))))))))
  refine L (S (zH Tryz.underlying34 rfl) ?_)
  refine L (S (zd rfl) (zg (zc (zf ?_))))
  refine ZT 8 mixed rfl ?_
  refine zF (i := 0) rfl (za rfl) ?_ (by decide +kernel) (by decide +kernel) (by decide +kernel) (fun _ _ _ _ h => h) rfl rfl rfl
  refine zF (i := 1) rfl (za rfl) ?_ (by decide +kernel) (by decide +kernel) (by decide +kernel) (fun _ _ _ _ h => h) rfl rfl rfl
  refine zF (i := 2) rfl (P_sliceE Tryz.underlying34 (zD yl) rfl yU (zV (j := i) rfl rfl) (Nat.zero_le _) (by omega) cutA_zero (Nat.sub_zero _) (Nat.sub_zero _)) ?_ (by decide +kernel) (by decide +kernel) (by decide +kernel) (fun _ _ _ _ h => h) rfl rfl rfl
  refine zF (i := 3) rfl (za rfl) ?_ (by decide +kernel) (by decide +kernel) (by decide +kernel) (fun _ _ _ _ h => h) rfl rfl rfl
  refine zF (i := 4) rfl (za rfl) ?_ (by decide +kernel) (by decide +kernel) (by decide +kernel) (fun _ _ _ _ h => h) rfl rfl rfl
  refine zF (i := 5) rfl (YC Tryz.underlying34 (zD yl) rfl (zV (j := i + 1) rfl rfl) yU (by omega) (by omega)) ?_ (by decide +kernel) (by decide +kernel) (by decide +kernel) (fun _ _ _ _ h => h) rfl rfl rfl
  refine zO (i := 6) (zS rfl (S_appendIn Tryz.underlying34 yl rfl (hblk.no (Mv.refl _).drew) hcs rfl (hcut (Mv.refl _).drew) hnl hone (by omega) ?_)) (by decide +kernel)
  rintro w2 hb2 hm2
  refine zF (i := 7) rfl (zd rfl) ?_ (by decide +kernel) (by decide +kernel) (by decide +kernel) (fun _ _ _ _ h => h) rfl rfl rfl
  refine yH (by decide +kernel) ?_
  refine zc (zf (zb (L (S (za rfl) (L (S (za rfl) ?_))))))
  refine L (S (zH Tryz.underlying34 rfl) ?_)
  refine L (S (za rfl) ?_)
  refine L (S (P_sliceE Tryz.underlying34 (zD yl) rfl (k' := 1) (zV (j := n - 1) rfl (by omega)) (zV (j := n) rfl rfl) (by omega) (by omega) (cutA_some (by omega)) (by omega) rfl) ?_)
  refine L (S_clear rfl Tryz.underlying34 yl rfl (by decide) (by decide) rfl hb2 (by rw [hsp, hcs]; omega) ?_)
  rintro zs w3 hzl hb3 hm3
  refine zg (zc (zf (zb (L (S (za rfl) (L (S (zd rfl) (zg (zc (zy ?_))))))))))
  refine zC Tryz.results71 rfl ?_
  refine ⟨by rw [show i + (n - (i + 1)) = n - 1 by omega], own_mk hb hb3 (by omega) hcm (by rw [splice_len (by rw [hsp, hcs, hzl]; omega), hsp, hcs]) ?_, (mvAt ((Mv.refl _).drew.trans hm2 (fun _ _ h => h)) hm3)⟩
  rw [splice_lo (by rw [hsp, hcs]; omega), show (n - 1) * 5 = i * 5 + (zI yA (xs.drop (i + 1))).length by rw [hnl]; omega, splice_hi (by omega), List.eraseIdx_eq_take_drop_succ, yT, ← cellsL_take yI xs i, ← ht, List.take_take, Nat.min_eq_left (by omega)]
theorem delIdx_ret {xs : List Idx} {b c n base : Nat} (hn : xs.length = n) (hl : n ≤ 1000) (ho : w.ownsRow base 30 6 (.slice (some ⟨b, 0, none⟩) n c) n (zI yq xs)) {i : Nat} (hi : i < n) : Ret Tryz.prog 74 [.slice (some ⟨b, 0, none⟩) n c, .int .i64 (i : Int), .int .i64 ((i + 1 : Nat) : Int)] w fun v w' => v = .slice (some ⟨b, 0, none⟩) (n - 1) c ∧ w'.ownsRow base 30 6 (.slice (some ⟨b, 0, none⟩) (n - 1) c) (n - 1) (zI yq (xs.eraseIdx i)) ∧ Mv (At b) w w' := by
  obtain ⟨b', cs, hA, hb, hblk, hlc, hcm, hcs, ht⟩ := Ym ho (by omega)
  cases hA
  have hsl := (yW ho).1
  have hcut : ∀ {wq}, Mv No w wq → SlR wq (cutA (some ⟨b, 0, none⟩) (i + 1) 6 c) (zI yq (xs.drop (i + 1))) := fun h => by
    have h1 := (hsl.no h).cut (l := i + 1) (m := 6) (cap := c) (by rw [yB yw, hn]; omega)
    rwa [Yh yw] at h1
  have hnl : (zI yq (xs.drop (i + 1))).length = (n - (i + 1)) * 6 := by rw [yB yw, List.length_drop, hn]
  have hsp : (ZA cs (i * 6) (zI yq (xs.drop (i + 1)))).length = cs.length := splice_len (by omega)
  have hone := Zn yz (xs.drop (i + 1))
  refine zN Tryz.func74 Tryz.ntmps74 rfl rfl ?_
  refine zf (zb (L (S (zd rfl) (zg (zc (zf (zb (L (S (za rfl) (L (S (za rfl) (L (S (za rfl) (L (S (za rfl) ?_)))))))))))))))
  refine L (S (zH Tryz.underlying35 rfl) ?_)
  refine L (S (P_slice3 Tryz.underlying35 (zD yb) rfl (zV (j := i) rfl rfl) (zV (j := i + 1) rfl rfl) (zV (j := n) rfl rfl) (by omega) (by omega) (by omega)) ?_)
  refine zg (zc (zf (zf (zb (L (S (za rfl) (L (S (za rfl) ?_))))))))
  refine L (S (zR rfl rfl (decide_eq_false (by omega))) ?_)
  refine zg (zc (zk rfl (zo (zc (zf (zb (L (S (za rfl) ?_))))))))
  refine L (S (zH Tryz.underlying35 rfl) ?_)
  refine L (S (zd rfl) (zg (zc (zf ?_))))
  refine ZT 8 mixed rfl ?_
  refine zF (i := 0) rfl (za rfl) ?_ (by decide +kernel) (by decide +kernel) (by decide +kernel) (fun _ _ _ _ h => h) rfl rfl rfl
  refine zF (i := 1) rfl (za rfl) ?_ (by decide +kernel) (by decide +kernel) (by decide +kernel) (fun _ _ _ _ h => h) rfl rfl rfl
  refine zF (i := 2) rfl (P_sliceE Tryz.underlying35 (zD yb) rfl yU (zV (j := i) rfl rfl) (Nat.zero_le _) (by omega) cutA_zero (Nat.sub_zero _) (Nat.sub_zero _)) ?_ (by decide +kernel) (by decide +kernel) (by decide +kernel) (fun _ _ _ _ h => h) rfl rfl rfl
  refine zF (i := 3) rfl (za rfl) ?_ (by decide +kernel) (by decide +kernel) (by decide +kernel) (fun _ _ _ _ h => h) rfl rfl rfl
  refine zF (i := 4) rfl (za rfl) ?_ (by decide +kernel) (by decide +kernel) (by decide +kernel) (fun _ _ _ _ h => h) rfl rfl rfl
  refine zF (i := 5) rfl (YC Tryz.underlying35 (zD yb) rfl (zV (j := i + 1) rfl rfl) yU (by omega) (by omega)) ?_ (by decide +kernel) (by decide +kernel) (by decide +kernel) (fun _ _ _ _ h => h) rfl rfl rfl
  refine zO (i := 6) (zS rfl (S_appendIn Tryz.underlying35 yb rfl (hblk.no (Mv.refl _).drew) hcs rfl (hcut (Mv.refl _).drew) hnl hone (by omega) ?_)) (by decide +kernel)
  rintro w2 hb2 hm2
  refine zF (i := 7) rfl (zd rfl) ?_ (by decide +kernel) (by decide +kernel) (by decide +kernel) (fun _ _ _ _ h => h) rfl rfl rfl
  refine yH (by decide +kernel) ?_
  refine zc (zf (zb (L (S (za rfl) (L (S (za rfl) ?_))))))
  refine L (S (zH Tryz.underlying35 rfl) ?_)
  refine L (S (za rfl) ?_)
  refine L (S (P_sliceE Tryz.underlying35 (zD yb) rfl (k' := 1) (zV (j := n - 1) rfl (by omega)) (zV (j := n) rfl rfl) (by omega) (by omega) (cutA_some (by omega)) (by omega) rfl) ?_)
  refine L (S_clear rfl Tryz.underlying35 yb rfl (by decide) (by decide) rfl hb2 (by rw [hsp, hcs]; omega) ?_)
  rintro zs w3 hzl hb3 hm3
  refine zg (zc (zf (zb (L (S (za rfl) (L (S (zd rfl) (zg (zc (zy ?_))))))))))
  refine zC Tryz.results74 rfl ?_
  refine ⟨by rw [show i + (n - (i + 1)) = n - 1 by omega], own_mk hb hb3 (by omega) hcm (by rw [splice_len (by rw [hsp, hcs, hzl]; omega), hsp, hcs]) ?_, (mvAt ((Mv.refl _).drew.trans hm2 (fun _ _ h => h)) hm3)⟩
  rw [splice_lo (by rw [hsp, hcs]; omega), show (n - 1) * 6 = i * 6 + (zI yq (xs.drop (i + 1))).length by rw [hnl]; omega, splice_hi (by omega), List.eraseIdx_eq_take_drop_succ, yT, ← cellsL_take yw xs i, ← ht, List.take_take, Nat.min_eq_left (by omega)]
theorem filter_first {α : Type} {q : α → Bool} {l : List α} {i : Nat} {a : α} (ha : l[i]? = some a) (hp : q a = false) (hb : ∀ x ∈ l.take i, q x = true) : (l.take (i + 1)).filter q = l.take i := by
  rw [yY ha, List.filter_append, List.filter_eq_self.2 hb]
  simp [hp]
theorem delF_ret {xs : List Idx} {A : Option Addr} {c n base : Nat} (hn : xs.length = n) (hl : n ≤ 1000) (ho : w.ownsRow base 30 6 (.slice A n c) n (zI yq xs)) {fv : Value} {p : Idx → Bool} (hp : FnS Tryz.prog (Zx (.slice A n c)) w fv yq p) : Ret Tryz.prog 72 [.slice A n c, fv] w fun v w' => v = .slice A (xs.filter fun x => !p x).length c ∧ w'.ownsRow base 30 6 (.slice A (xs.filter fun x => !p x).length c) (xs.filter fun x => !p x).length (zI yq (xs.filter fun x => !p x)) ∧ Mv (Zx (.slice A n c)) w w' := by
  have hix := ixIdx_ret (c := c) hn (yW ho).1 (by omega) hp.fnB
  refine zN Tryz.func72 Tryz.ntmps72 rfl rfl ?_
  rcases findN_cases p xs with ⟨h1, hb⟩ | ⟨i0, a, h1, ha, hpa, hb⟩
  · rw [h1] at hix
    have e : (xs.filter fun x => !p x) = xs := List.filter_eq_self.2 fun x hx => by rw [hb x hx]; rfl
    rw [e, hn]
    refine zf (zb (L (S (zd rfl) (zg (zc (zf (zb (L (S (za rfl) (L (S (za rfl) ?_)))))))))))
    refine L (zq cb_44 rfl (hix) ?_)
    rintro _ w1 ⟨rfl, hm1⟩
    refine L (S (zd rfl) (zg (zc (zf (zf (zb (L (S (za rfl) ?_))))))))
    refine L (S (zR rfl rfl (decide_eq_true rfl)) ?_)
    refine zg (zc (zr rfl (zf (zb (L (S (za rfl) (L (S (zd rfl) (zg (zc (zy (zm ?_))))))))))))
    refine zC Tryz.results72 rfl ?_
    exact ⟨rfl, zE ho hm1, hm1.ofNo⟩
  rw [h1] at hix
  have hi0 := (List.getElem?_eq_some_iff.1 ha).1
  obtain ⟨b, cs0, hA, hbb, -, hlc, hcm, -⟩ := Ym ho (by omega)
  subst hA
  refine zf (zb (L (S (zd rfl) (zg (zc (zf (zb (L (S (za rfl) (L (S (za rfl) ?_)))))))))))
  refine L (zq cb_44 rfl (hix) ?_)
  rintro _ w1 ⟨rfl, hm1⟩
  refine L (S (zd rfl) (zg (zc (zf (zf (zb (L (S (za rfl) ?_))))))))
  refine L (S (zR rfl rfl (decide_eq_false (by omega))) ?_)
  refine zg (zc (zk rfl (zo (zc (zf (zf (zb (L (S (za rfl) ?_)))))))))
  refine L (S (zT rfl rfl (z1 (c := ((i0 + 1 : Nat) : Int)) (by omega))) ?_)
  refine L (S (zd rfl) (zg (zc (zx ?_))))
  refine yF (γ := Nat × Nat × List Idx) (fun q => [(0, .slice (some ⟨b, 0, none⟩) n c), (1, fv), (5, .int .i64 (q.1 : Int)), (6, .int .i64 (q.2.1 : Int))]) (fun q wr => q.1 < q.2.1 ∧ q.2.1 ≤ n ∧ q.2.2.length = n ∧ wr.ownsRow base 30 6 (.slice (some ⟨b, 0, none⟩) n c) n (zI yq q.2.2) ∧ q.2.2.take q.1 = (xs.take q.2.1).filter (fun x => !p x) ∧ q.2.2.drop q.2.1 = xs.drop q.2.1 ∧ Mv (At b) w wr) (fun q => n - q.2.1) (i0, i0 + 1, xs) (.cons rfl (.cons rfl (.cons rfl (.cons rfl (.nil _))))) ⟨Nat.lt_succ_self _, show i0 + 1 ≤ n by omega, hn, zE ho hm1, (filter_first ha (by rw [hpa]; rfl) (fun x hx => by rw [hb x hx]; rfl)).symm, rfl, hm1.ofNo⟩ ?_
  rintro ⟨i, j, ys⟩ wr ⟨hij, hj, hyl, hor, htk, hdr, hmr⟩
  dsimp only at hij hj hyl hor htk hdr hmr
  dsimp only
  by_cases hlt : j < n
  · have hx := List.getElem?_eq_getElem (show j < xs.length by omega)
    generalize xs[j] = x at hx
    have hy : ys[j]? = some x := by
      have := congrArg (·[0]?) hdr
      simpa [hx] using this
    have hrow := own_at yw hor hy
    have hdr' : ys.drop (j + 1) = xs.drop (j + 1) := by
      have := congrArg List.tail hdr
      simpa using this
    refine zf (zf (zb (L (S (za rfl) (L (S (za rfl) ?_))))))
    refine L (S (zH Tryz.underlying35 rfl) ?_)
    refine L (S (zG rfl rfl (decide_eq_true (by omega))) ?_)
    refine zg (zc (zr rfl (zo (zc (zf (zx (zf (zb (L (S (za rfl) (L (S (za rfl) ?_))))))))))))
    refine L (S (zn Tryz.underlying35 (zD yb) rfl rfl (j := j) rfl (by omega) (p := 0 + j * 6) rfl) ?_)
    refine L (zB Zu rfl hrow rfl ?_)
    refine L (ye (zs := [(.string (ByteArray.mk #[])), (.string (ByteArray.mk #[])), (.slice none 0 0), (.int .i64 0), (.int .i64 0), (.int .i64 0)]) yb rfl ?_)
    rintro b5 w4 hb4 hm4 hn4
    refine L (zw yb rfl rfl (yz x) rfl hb4 (by exact Nat.le_refl 6) ?_)
    rintro w5 hb5 hm5
    refine zg (zc (zf ?_))
    have hb5' : Blk w5 b5 (yq x) 30 := hb5
    have hm45 : Mv No wr w5 := hm4.new hm5 hn4
    have hm05 : Mv (At b) w w5 := hmr.no hm45
    cases hq : p x with
    | true =>
      refine zb (L (S (za rfl) ?_))
      refine L (zB Zu rfl hb5'.row rfl ?_)
      refine L (S_callS hp hq rfl rfl (Z5 hm05) ?_)
      rintro w6 hm6
      refine L (S (yu rfl rfl) (zg (zc (zk rfl (zo (yj (zc (zb (L (S (za rfl) ?_))))))))))
      refine L (S (zT rfl rfl (z1 (c := ((j + 1 : Nat) : Int)) (by omega))) ?_)
      refine L (S (zd rfl) (zg (zc ?_)))
      exact ⟨rfl, (i, j + 1, ys), (.cons rfl (.cons rfl (.cons rfl (.cons rfl (.nil _))))), ⟨by dsimp only; omega, hlt, hyl, zE hor (hm45.no hm6), by rw [yY hx, List.filter_append, htk]; simp [hq], hdr', hm05.no hm6⟩, by dsimp only; omega⟩
    | false =>
      refine zb (L (S (za rfl) ?_))
      refine L (zB Zu rfl hb5'.row rfl ?_)
      refine L (S_callS hp hq rfl rfl (Z5 hm05) ?_)
      rintro w6 hm6
      refine L (S (yu rfl rfl) (zg (zc (zr rfl (zf (zb (L (S (za rfl) (L (S (za rfl) ?_))))))))))
      refine L (zB Zu rfl ((hb5'.no hm6).row) rfl ?_)
      refine L (S (zn Tryz.underlying35 (zD yb) rfl rfl (j := i) rfl (by omega) (p := 0 + i * 6) rfl) ?_)
      refine L (Zc (i := i) yw yb rfl (by omega) rfl (yz x) (zE hor (hm45.no hm6)) hyl (by omega) ?_)
      rintro w7 ho7 hm7
      refine zg (zc (zb (L (S (za rfl) ?_))))
      refine L (S (zT rfl rfl (z1 (c := ((i + 1 : Nat) : Int)) (by omega))) ?_)
      refine L (S (zd rfl) (zg (yj (zc (zb (L (S (za rfl) ?_)))))))
      refine L (S (zT rfl rfl (z1 (c := ((j + 1 : Nat) : Int)) (by omega))) ?_)
      refine L (S (zd rfl) (zg (zc ?_)))
      refine ⟨rfl, (i + 1, j + 1, ys.set i x), (.cons rfl (.cons rfl (.cons rfl (.cons rfl (.nil _))))), ⟨by dsimp only; omega, hlt, by dsimp only; rw [List.length_set]; exact hyl, ho7, ?_, ?_, mvAt (hm05.no hm6) hm7⟩, by dsimp only; omega⟩
      · dsimp only
        rw [yY hx, List.filter_append, ← htk, List.set_eq_take_append_cons_drop, if_pos (by omega)]
        have hil : (ys.take i).length = i := by rw [List.length_take]; omega
        rw [List.take_append, hil, List.take_of_length_le (by omega)]
        simp [hq]
      · dsimp only
        rw [List.drop_set_of_lt (by omega)]; exact hdr'
  · have hxj : xs.take j = xs := List.take_of_length_le (by omega)
    rw [hxj] at htk
    have hjn : j = n := by omega
    subst hjn
    obtain ⟨b', cs, hA, hb3, hblk, _, _, hcs, ht⟩ := Ym hor (by omega)
    cases hA
    have hfl : (xs.filter fun x => !p x).length = i := by rw [← htk, List.length_take]; omega
    rw [hfl]
    refine zf (zf (zb (L (S (za rfl) (L (S (za rfl) ?_))))))
    refine L (S (zH Tryz.underlying35 rfl) ?_)
    refine L (S (zG rfl rfl (decide_eq_false (by omega))) ?_)
    refine zg (zc (zk rfl (yn (zL (zL (yK (zc (zf (zb (L (S (za rfl) (L (S (za rfl) ?_)))))))))))))
    refine L (S (P_sliceE Tryz.underlying35 (zD yb) rfl (zV (j := i) rfl rfl) yU (by omega) (by omega) (cutA_some (by omega)) rfl rfl) ?_)
    refine L (S_clear rfl Tryz.underlying35 yb rfl (by decide) (by decide) rfl hblk (by rw [hcs]; omega) ?_)
    rintro zs w3 hzl hb4 hm3
    refine zg (zc (zf (zb (L (S (za rfl) (L (S (za rfl) ?_)))))))
    refine L (S (P_sliceE Tryz.underlying35 (zD yb) rfl yU (zV (j := i) rfl rfl) (Nat.zero_le _) (by omega) cutA_zero (Nat.sub_zero _) (Nat.sub_zero _)) ?_)
    refine L (S (zd rfl) (zg (zc (zy ?_))))
    refine zC Tryz.results72 rfl ?_
    refine ⟨rfl, own_mk hbb hb4 (by omega) hcm (by rw [splice_len (by rw [hcs, hzl]; omega), hcs]) ?_, Z5 (mvAt hmr hm3)⟩
    rw [splice_lo (by rw [hcs]; omega), ← htk, ← cellsL_take yw ys i, ← ht, List.take_take, Nat.min_eq_left (by omega)]
theorem drop_fn {b : Nat} {nm : List UInt8} {Z : Nat → Prop} (hb : Blk w b [.string (str nm)] 9) (hS : ¬ Z b) : FnS Tryz.prog Z w (.func (.func 73) #[] #[.pointer (some ⟨b, 0, none⟩)]) yq (fun x => decide (x.table = nm)) := by
  refine ⟨_, [], [_], rfl, cb_73, fun w2 x hm => ?_⟩
  show Ret _ _ [.agg (yq x).toArray, .pointer (some ⟨b, 0, none⟩)] w2 _
  refine zN Tryz.func73 Tryz.ntmps73 rfl rfl ?_
  refine zf (zb ?_)
  refine L (Zl rfl ?_)
  rintro b1 w1 hb1 hm1 hn1
  refine L (S (zd rfl) (zg (zc (zf (zb (L (S (ze Zp rfl) ?_)))))))
  refine L (zi yc rfl (hb1.cell (i := 1) rfl) ?_)
  refine L (zi yc rfl (((hb.mv hm hS).no hm1).cell (i := 0) rfl) ?_)
  refine L (S (ZR rfl rfl str_dec) ?_)
  refine L (S (zd rfl) (zg (zc (zy ?_))))
  refine zC Tryz.results73 rfl ?_
  exact ⟨rfl, hm1⟩
end
end Go.Proofs.YtnoioimphcmeiaaGreatDoor
namespace Go.Proofs.YtnoioimphcmeiaaGreatDoor
open Go.RowKit
set_option maxRecDepth 20000
set_option maxHeartbeats 1000000

def tDropE (ts : List TD) (nm : List UInt8) : Nat := if tAt ts nm < 0 then 130 else 0
def iDropE (is : List ID) (nm : List UInt8) : Nat := if iAt is nm < 0 then 2 else 0
def iOff (is : List ID) (nm : List UInt8) : List ID := is.filter fun x => !decide (x.2.1 = nm)
section
variable {w0 wc w8 w9 : World} {b : Nat} {o : Sch} {ts ts' : List Tab} {is is' : List Idx}
theorem Mk.setT (h : Mk w0 wc b o ts is) {tabs' : List Tab} {A : Option Addr} {k c : Nat} (hl : tabs'.length = k) (hmem : ∀ t ∈ tabs', TabOwn w0.heap.size wc t) (hd : tabs'.map Tab.d = ts'.map Tab.d)
    (hm8 : Mv (Zx (.slice o.A o.tabs.length o.c)) wc w8) (ho8 : w8.ownsRow w0.heap.size 27 5 (.slice A k c) k (zI yA tabs'))
    (hb9 : Blk w9 b ((zM o).set 0 (.slice A k c)) 37) (hm9 : Mv (At b) w8 w9) : Mk w0 w9 b { o with tabs := tabs', A := A, c := c } ts' is := by
  subst hl
  have hb8 : Blk w8 b (zM o) 37 := h.blk.mv hm8 (zK h.blk h.own.tsl (by decide))
  have hcol : ∀ {base : Nat} {t : Tab}, TabOwn base wc t → TabOwn base w9 t := fun {base t} ht => by
    have h1 : TabOwn base w8 t := yo ht hm8 (ZX ht h.own.tsl (by decide))
    exact yo h1 hm9 (fun k hk hk2 => by unfold At at hk2; subst hk2; exact zK hb8 h1 (by decide) hk)
  have hint : ∀ {base : Nat} {t : Idx}, IdxOwn base wc t → IdxOwn base w9 t := fun {base t} ht => by
    have h1 : IdxOwn base w8 t := yo ht hm8 (ZX ht h.own.tsl (by decide))
    exact yo h1 hm9 (fun k hk hk2 => by unfold At at hk2; subst hk2; exact zK hb8 h1 (by decide) hk)
  refine ⟨(h.mv.own hm8 h.own.tsl (Nat.le_refl _)).new hm9 h.new, hb9, h.new, ⟨?_, fun x hx => hcol (hmem x hx), ?_, fun x hx => hint (h.own.idx x hx)⟩, hd, h.id⟩
  · exact yo ho8 hm9 (fun k hk hk2 => by unfold At at hk2; subst hk2; exact zK hb8 ho8 (by decide) hk)
  · have h1 := yo h.own.isl hm8 (ZX h.own.isl h.own.tsl (by decide))
    exact yo h1 hm9 (fun k hk hk2 => by unfold At at hk2; subst hk2; exact zK hb8 h1 (by decide) hk)
theorem Mk.setI (h : Mk w0 wc b o ts is) {idxs' : List Idx} {A : Option Addr} {k c : Nat} (hl : idxs'.length = k) (hmem : ∀ t ∈ idxs', IdxOwn w0.heap.size wc t) (hd : idxs'.map Idx.d_ = is'.map Idx.d_)
    (hm8 : Mv (Zx (.slice o.B o.idxs.length o.d)) wc w8) (ho8 : w8.ownsRow w0.heap.size 30 6 (.slice A k c) k (zI yq idxs'))
    (hb9 : Blk w9 b ((zM o).set 1 (.slice A k c)) 37) (hm9 : Mv (At b) w8 w9) : Mk w0 w9 b { o with idxs := idxs', B := A, d := c } ts is' := by
  subst hl
  have hb8 : Blk w8 b (zM o) 37 := h.blk.mv hm8 (zK h.blk h.own.isl (by decide))
  have hcol : ∀ {base : Nat} {t : Tab}, TabOwn base wc t → TabOwn base w9 t := fun {base t} ht => by
    have h1 : TabOwn base w8 t := yo ht hm8 (ZX ht h.own.isl (by decide))
    exact yo h1 hm9 (fun k hk hk2 => by unfold At at hk2; subst hk2; exact zK hb8 h1 (by decide) hk)
  have hint : ∀ {base : Nat} {t : Idx}, IdxOwn base wc t → IdxOwn base w9 t := fun {base t} ht => by
    have h1 : IdxOwn base w8 t := yo ht hm8 (ZX ht h.own.isl (by decide))
    exact yo h1 hm9 (fun k hk hk2 => by unfold At at hk2; subst hk2; exact zK hb8 h1 (by decide) hk)
  refine ⟨(h.mv.own hm8 h.own.isl (Nat.le_refl _)).new hm9 h.new, hb9, h.new, ⟨?_, fun x hx => hcol (h.own.tab x hx), ?_, fun x hx => hint (hmem x hx)⟩, h.td, hd⟩
  · have h1 := yo h.own.tsl hm8 (ZX h.own.tsl h.own.isl (by decide))
    exact yo h1 hm9 (fun k hk hk2 => by unfold At at hk2; subst hk2; exact zK hb8 h1 (by decide) hk)
  · exact yo ho8 hm9 (fun k hk hk2 => by unfold At at hk2; subst hk2; exact zK hb8 ho8 (by decide) hk)
theorem ZP {α β : Type} {f : α → β} : ∀ (l : List α) (i : Nat), (l.eraseIdx i).map f = (l.map f).eraseIdx i
  | [], _ => rfl
  | _ :: _, 0 => rfl
  | a :: l, i + 1 => by
    have := ZP (f := f) l i
    simp only [List.eraseIdx_cons_succ, List.map_cons, this]
theorem off_map (l : List Idx) (nm : List UInt8) : (l.filter fun x => !decide (x.table = nm)).map Idx.d_ = iOff (l.map Idx.d_) nm := by
  unfold iOff
  rw [List.filter_map]
  rfl
end
section
variable {w : World}
theorem drop_ret {s : Sch} (hs : SchOk w s) (hsm : SchSm s) (nm : List UInt8) : Ret Tryz.prog 36 [.agg (zM s).toArray, .string (str nm)] w fun v w' => ∃ o, v = .tuple #[.agg (zM o).toArray, .int .i64 (tDropE (s.tabs.map Tab.d) nm : Nat)] ∧ SchOwn w.heap.size w' o ∧ (tDropE (s.tabs.map Tab.d) nm ≠ 0 → o = zX) ∧ (tDropE (s.tabs.map Tab.d) nm = 0 → o.tabs.map Tab.d = (s.tabs.map Tab.d).eraseIdx (tAt (s.tabs.map Tab.d) nm).toNat ∧ o.idxs.map Idx.d_ = iOff (s.idxs.map Idx.d_) nm) ∧ Mv No w w' := by
  have hl1 := hsm.lt
  have hl2 := hsm.li
  refine zN Tryz.func36 Tryz.ntmps36 rfl rfl ?_
  refine zf (zb ?_)
  refine L (Zl rfl ?_)
  rintro b2 w2 hb2 hm2 hn2
  refine L (Zl rfl ?_)
  rintro b3 w3 hb3 hm3 hn3
  refine L (ye (zs := [(.slice none 0 0), (.slice none 0 0)]) z6 rfl ?_)
  rintro b4 w4 hb4 hm4 hn4
  refine L (S (zd rfl) (zg (zc (zf (zb ?_)))))
  refine L (zB zZ rfl ((hb2.no hm3).no hm4).row rfl ?_)
  refine L (zi yc rfl ((hb3.no hm4).cell (i := 0) rfl) ?_)
  refine L (zq cb_15 rfl ((table_ret (s := s) (((hs.tsl.no hm2).no hm3).no hm4) (by omega) nm)) ?_)
  rintro _ w5 ⟨rfl, hm5⟩
  refine L (S (zd rfl) (zg (zc (zf (zf ?_)))))
  have hm05 := ((hm2.no hm3).no hm4).no hm5
  have z3 := hm3.size
  have y3 := hb3.lt
  have hm45 := (hm3.no hm4).no hm5
  have hB3 : ∀ {wq}, Mv No w5 wq → Blk wq b3 [.string (str nm)] 9 := fun h => ((hb3.no hm4).no hm5).no h
  have z2 := hm2.size
  have y4 := hb4.lt
  have y2 := hb2.lt
  have z4 := hm4.size
  have z5 := hm5.size
  have hB2 : Blk w5 b2 (zM s) 37 := hb2.no hm45
  have hB4 : ∀ {wq}, Mv No w5 wq → Blk wq b4 (zM zX) 37 := fun h => (hb4.no hm5).no h
  rw [tAt_map]
  have hmap : (s.tabs.map Tab.d).length = s.tabs.length := List.length_map ..
  have hat : ¬ tAt (s.tabs.map Tab.d) nm < 0 → ∃ i : Nat, tAt (s.tabs.map Tab.d) nm = (i : Int) ∧ i < s.tabs.length := fun h => by
    obtain ⟨i, a, h1, _, h3⟩ := Yt h
    exact ⟨i, h1, by rw [← hmap]; exact h3⟩
  unfold tDropE
  generalize tAt (s.tabs.map Tab.d) nm = at_ at *
  by_cases q : at_ < 0
  · rw [if_pos q]
    refine zb (L (S (za rfl) ?_))
    refine L (S (zG rfl rfl (decide_eq_true (by omega))) ?_)
    refine zg (zc (zr rfl (zf (zb ?_))))
    refine L (S (zW (ix := []) (l := []) Zq rfl (by simp [Value.oneCell']) rfl) ?_)
    refine L (zw z6 rfl rfl (zJ zX) rfl (hB4 (Mv.refl _)) (by exact Nat.le_refl 2) ?_)
    rintro w9 hb9 hm9
    refine L (S (zd rfl) (zg (zc (zy (zm ?_)))))
    have hb9' : Blk w9 b4 (zM zX) 37 := hb9
    refine yk (rs := [.cell 4 37, .tmp 5]) [.agg (zM zX).toArray, .int .i64 ((130 : Nat) : Int)] Tryz.results36 ?_ ?_
    · exact ⟨⟨_, rfl, zu zZ hb9'.row rfl⟩, rfl, trivial⟩
    exact ⟨zX, rfl, Z1, fun _ => rfl, fun h => absurd h (by decide), hm05.new hm9 (by omega)⟩
  rw [if_neg q]
  obtain ⟨i, hi, hil⟩ := hat q
  have hCl := Clone_ret (s := s) (hs.no hm05) (by omega) (by omega) (fun x hx => by have := (hsm.tab x hx).cl; omega) (fun x hx => by have := (hsm.idx x hx).cl; omega)
  refine zb (L (S (za rfl) ?_))
  refine L (S (zG rfl rfl (decide_eq_false (by omega))) ?_)
  refine zg (zc (zk rfl (zo (zc (zf (zb ?_))))))
  refine L (zB zZ rfl hB2.row rfl ?_)
  refine L (zq cb_13 rfl (hCl) ?_)
  rintro _ w8 ⟨o, rfl, ho8, hd8, he8, hm8⟩
  refine L (ye (zs := [(.slice none 0 0), (.slice none 0 0)]) z6 rfl ?_)
  rintro b8 w10 hb10 hm10 hn10
  refine L (zw z6 rfl rfl (zJ o) rfl hb10 (by exact Nat.le_refl 2) ?_)
  rintro w11 hb11 hm11
  refine zg (zc (zf ?_))
  have hb11' : Blk w11 b8 (zM o) 37 := hb11
  have hk := mk_of (hm05.no hm8) ho8 hm05.size hn10 hm10 hb11' hm11 hd8 he8
  have z8 := hm8.size
  have hm511 : Mv No w5 w11 := (hm8.no hm10).new hm11 (by omega)
  have hol : o.tabs.length = s.tabs.length := by simpa using congrArg List.length hd8
  obtain ⟨bt, cst, hAt, hbt, -⟩ := Ym hk.own.tsl (by omega)
  have hot := hk.own.tsl
  rw [hAt] at hot
  have hsl : w11.cell? ⟨b8, 0, none⟩ = some (.slice (some ⟨bt, 0, none⟩) o.tabs.length o.c) := by rw [← hAt]; exact hk.blk.cell (i := 0) rfl
  have hdel := delTab_ret (i := i) rfl (by omega) hot (by omega)
  rw [hi]
  refine zb (L (S (ze yg rfl) ?_))
  refine L (zi yX rfl hsl ?_)
  refine L (S (za rfl) (L (S (za rfl) ?_)))
  refine L (S (zT rfl rfl (z1 (c := ((i + 1 : Nat) : Int)) (by omega))) ?_)
  refine L (zq cb_71 rfl (hdel) ?_)
  rintro _ w12 ⟨rfl, ho12, hm12⟩
  refine L (S (ze yg rfl) ?_)
  refine L (yv ti_34 rfl rfl rfl (hk.blk.mv (by rw [hAt]; exact Z5 hm12) (zK hk.blk hk.own.tsl (by decide))) (by show 0 < 2; decide) ?_)
  rintro w13 hb13 hm13
  refine zg (zc (zf ?_))
  have hmo : Mv (Zx (.slice o.A o.tabs.length o.c)) w11 w12 := by rw [hAt]; exact Z5 hm12
  have hk13 := hk.setT (tabs' := o.tabs.eraseIdx i) (ts' := s.tabs.eraseIdx i) (by rw [List.length_eraseIdx, if_pos (by omega)]) (fun x hx => hk.own.tab x (List.mem_of_mem_eraseIdx hx)) (by rw [ZP, ZP, hd8]) hmo ho12 hb13 hm13
  have hB4' : Blk w13 b4 (zM zX) 37 := hk.other (hB4 hm511) hk.own.tsl (by decide) hmo hm13 (by omega)

  have hB3' : Blk w13 b3 [.string (str nm)] 9 := ((hB3 hm511).mv hmo (zK (hB3 hm511) hk.own.tsl (by decide))).ne hm13 (by omega)
  have hof := delF_ret (xs := o.idxs) rfl (by have : o.idxs.length = s.idxs.length := by simpa using congrArg List.length he8
                                              omega) hk13.own.isl (drop_fn hB3' (zK hB3' hk13.own.isl (by decide)))
  refine zb (L (S (ze yf rfl) ?_))
  refine L (zi yS rfl (hk13.blk.cell (i := 1) rfl) ?_)
  refine L (S (P_makeFunc rfl rfl) ?_)
  refine L (zq cb_72 rfl (hof) ?_)
  rintro _ w14 ⟨rfl, ho14, hm14⟩
  refine L (S (ze yf rfl) ?_)
  refine L (yv ti_35 rfl rfl rfl (hk13.blk.mv hm14 (zK hk13.blk hk13.own.isl (by decide))) (by show 1 < 2; decide) ?_)
  rintro w15 hb15 hm15
  refine zg (zc (zf (zb ?_)))
  refine L (zB zZ rfl hb15.row rfl ?_)
  refine L (zw z6 rfl rfl (zJ { o with tabs := o.tabs.eraseIdx i, A := some ⟨bt, 0, none⟩, idxs := o.idxs.filter fun x => !decide (x.table = nm) }) rfl (hk13.other hB4' hk13.own.isl (by decide) hm14 hm15 (by omega)) (by exact Nat.le_refl 2) ?_)
  rintro w17 hb17 hm17
  refine L (S (zd rfl) (zg (zc (zy ?_))))
  have hk15 := hk13.setI (idxs' := o.idxs.filter fun x => !decide (x.table = nm)) (is' := s.idxs.filter fun x => !decide (x.table = nm)) rfl (fun x hx => hk13.own.idx x (List.mem_filter.1 hx).1) (by rw [off_map, off_map, he8]) hm14 ho14 hb15 hm15
  have hf := hk15.fin (hk13.other hB4' hk13.own.isl (by decide) hm14 hm15 (by omega)) (by omega) hm17
  have hb17' : Blk w17 b4 (zM { o with tabs := o.tabs.eraseIdx i, A := some ⟨bt, 0, none⟩, idxs := o.idxs.filter fun x => !decide (x.table = nm) }) 37 := by have h9 := hb17; unfold zM at h9 ⊢; dsimp only at h9 ⊢; exact h9
  refine yk (rs := [.cell 4 37, .tmp 5]) [.agg (zM { o with tabs := o.tabs.eraseIdx i, A := some ⟨bt, 0, none⟩, idxs := o.idxs.filter fun x => !decide (x.table = nm) }).toArray, .int .i64 ((0 : Nat) : Int)] Tryz.results36 ?_ ?_
  · exact ⟨⟨_, rfl, zu zZ hb17'.row rfl⟩, rfl, trivial⟩
  exact ⟨_, rfl, hf.1, fun h => absurd rfl h, fun _ => ⟨hk15.td.trans (by rw [ZP]; rfl), hk15.id.trans (off_map _ _)⟩, hf.2⟩
theorem dropi_ret {s : Sch} (hs : SchOk w s) (hsm : SchSm s) (nm : List UInt8) : Ret Tryz.prog 38 [.agg (zM s).toArray, .string (str nm)] w fun v w' => ∃ o, v = .tuple #[.agg (zM o).toArray, .int .i64 (iDropE (s.idxs.map Idx.d_) nm : Nat)] ∧ SchOwn w.heap.size w' o ∧ (iDropE (s.idxs.map Idx.d_) nm ≠ 0 → o = zX) ∧ (iDropE (s.idxs.map Idx.d_) nm = 0 → o.tabs.map Tab.d = s.tabs.map Tab.d ∧ o.idxs.map Idx.d_ = (s.idxs.map Idx.d_).eraseIdx (iAt (s.idxs.map Idx.d_) nm).toNat) ∧ Mv No w w' := by
  have hl1 := hsm.lt
  have hl2 := hsm.li
  refine zN Tryz.func38 Tryz.ntmps38 rfl rfl ?_
  refine zf (zb ?_)
  refine L (Zl rfl ?_)
  rintro b2 w2 hb2 hm2 hn2
  refine L (ye (zs := [(.slice none 0 0), (.slice none 0 0)]) z6 rfl ?_)
  rintro b4 w4 hb4 hm4 hn4
  refine L (S (zd rfl) (zg (zc (zf (zb ?_)))))
  refine L (zB zZ rfl (hb2.no hm4).row rfl ?_)
  refine L (S (za rfl) ?_)
  refine L (zq cb_17 rfl ((index_ret (s := s) ((hs.isl.no hm2).no hm4) (by omega) nm)) ?_)
  rintro _ w5 ⟨rfl, hm5⟩
  refine L (S (zd rfl) (zg (zc (zf (zf ?_)))))
  have hm05 := (hm2.no hm4).no hm5
  have hm45 := hm4.no hm5
  have z2 := hm2.size
  have y4 := hb4.lt
  have y2 := hb2.lt
  have z4 := hm4.size
  have z5 := hm5.size
  have hB2 : Blk w5 b2 (zM s) 37 := hb2.no hm45
  have hB4 : ∀ {wq}, Mv No w5 wq → Blk wq b4 (zM zX) 37 := fun h => (hb4.no hm5).no h
  rw [iAt_map]
  have hmap : (s.idxs.map Idx.d_).length = s.idxs.length := List.length_map ..
  have hat : ¬ iAt (s.idxs.map Idx.d_) nm < 0 → ∃ i : Nat, iAt (s.idxs.map Idx.d_) nm = (i : Int) ∧ i < s.idxs.length := fun h => by
    obtain ⟨i, a, h1, _, h3⟩ := Yt h
    exact ⟨i, h1, by rw [← hmap]; exact h3⟩
  unfold iDropE
  generalize iAt (s.idxs.map Idx.d_) nm = at_ at *
  by_cases q : at_ < 0
  · rw [if_pos q]
    refine zb (L (S (za rfl) ?_))
    refine L (S (zG rfl rfl (decide_eq_true (by omega))) ?_)
    refine zg (zc (zr rfl (zf (zb ?_))))
    refine L (S (zW (ix := []) (l := []) Zq rfl (by simp [Value.oneCell']) rfl) ?_)
    refine L (zw z6 rfl rfl (zJ zX) rfl (hB4 (Mv.refl _)) (by exact Nat.le_refl 2) ?_)
    rintro w9 hb9 hm9
    refine L (S (zd rfl) (zg (zc (zy (zm ?_)))))
    have hb9' : Blk w9 b4 (zM zX) 37 := hb9
    refine yk (rs := [.cell 4 37, .tmp 5]) [.agg (zM zX).toArray, .int .i64 ((2 : Nat) : Int)] Tryz.results38 ?_ ?_
    · exact ⟨⟨_, rfl, zu zZ hb9'.row rfl⟩, rfl, trivial⟩
    exact ⟨zX, rfl, Z1, fun _ => rfl, fun h => absurd h (by decide), hm05.new hm9 (by omega)⟩
  rw [if_neg q]
  obtain ⟨i, hi, hil⟩ := hat q
  have hCl := Clone_ret (s := s) (hs.no hm05) (by omega) (by omega) (fun x hx => by have := (hsm.tab x hx).cl; omega) (fun x hx => by have := (hsm.idx x hx).cl; omega)
  refine zb (L (S (za rfl) ?_))
  refine L (S (zG rfl rfl (decide_eq_false (by omega))) ?_)
  refine zg (zc (zk rfl (zo (zc (zf (zb ?_))))))
  refine L (zB zZ rfl hB2.row rfl ?_)
  refine L (zq cb_13 rfl (hCl) ?_)
  rintro _ w8 ⟨o, rfl, ho8, hd8, he8, hm8⟩
  refine L (ye (zs := [(.slice none 0 0), (.slice none 0 0)]) z6 rfl ?_)
  rintro b8 w10 hb10 hm10 hn10
  refine L (zw z6 rfl rfl (zJ o) rfl hb10 (by exact Nat.le_refl 2) ?_)
  rintro w11 hb11 hm11
  refine zg (zc (zf ?_))
  have hb11' : Blk w11 b8 (zM o) 37 := hb11
  have hk := mk_of (hm05.no hm8) ho8 hm05.size hn10 hm10 hb11' hm11 hd8 he8
  have z8 := hm8.size
  have hm511 : Mv No w5 w11 := (hm8.no hm10).new hm11 (by omega)
  have hol : o.idxs.length = s.idxs.length := by simpa using congrArg List.length he8
  obtain ⟨bt, cst, hAt, hbt, -⟩ := Ym hk.own.isl (by omega)
  have hot := hk.own.isl
  rw [hAt] at hot
  have hsl : w11.cell? ⟨b8, 1, none⟩ = some (.slice (some ⟨bt, 0, none⟩) o.idxs.length o.d) := by rw [← hAt]; exact hk.blk.cell (i := 1) rfl
  have hdel := delIdx_ret (i := i) rfl (by omega) hot (by omega)
  rw [hi]
  refine zb (L (S (ze yf rfl) ?_))
  refine L (zi yS rfl hsl ?_)
  refine L (S (za rfl) (L (S (za rfl) ?_)))
  refine L (S (zT rfl rfl (z1 (c := ((i + 1 : Nat) : Int)) (by omega))) ?_)
  refine L (zq cb_74 rfl (hdel) ?_)
  rintro _ w12 ⟨rfl, ho12, hm12⟩
  refine L (S (ze yf rfl) ?_)
  refine L (yv ti_35 rfl rfl rfl (hk.blk.mv (by rw [hAt]; exact Z5 hm12) (zK hk.blk hk.own.isl (by decide))) (by show 1 < 2; decide) ?_)
  rintro w13 hb13 hm13
  refine zg (zc (zf ?_))
  have hmo : Mv (Zx (.slice o.B o.idxs.length o.d)) w11 w12 := by rw [hAt]; exact Z5 hm12
  have hk13 := hk.setI (idxs' := o.idxs.eraseIdx i) (is' := s.idxs.eraseIdx i) (by rw [List.length_eraseIdx, if_pos (by omega)]) (fun x hx => hk.own.idx x (List.mem_of_mem_eraseIdx hx)) (by rw [ZP, ZP, he8]) hmo ho12 hb13 hm13
  have hB4' : Blk w13 b4 (zM zX) 37 := hk.other (hB4 hm511) hk.own.isl (by decide) hmo hm13 (by omega)

  refine zb ?_
  refine L (zB zZ rfl hk13.blk.row rfl ?_)
  refine L (zw z6 rfl rfl (zJ { o with idxs := o.idxs.eraseIdx i, B := some ⟨bt, 0, none⟩ }) rfl hB4' (by exact Nat.le_refl 2) ?_)
  rintro w17 hb17 hm17
  refine L (S (zd rfl) (zg (zc (zy ?_))))
  have hf := hk13.fin hB4' (by omega) hm17
  have hb17' : Blk w17 b4 (zM { o with idxs := o.idxs.eraseIdx i, B := some ⟨bt, 0, none⟩ }) 37 := hb17
  refine yk (rs := [.cell 4 37, .tmp 5]) [.agg (zM { o with idxs := o.idxs.eraseIdx i, B := some ⟨bt, 0, none⟩ }).toArray, .int .i64 ((0 : Nat) : Int)] Tryz.results38 ?_ ?_
  · exact ⟨⟨_, rfl, zu zZ hb17'.row rfl⟩, rfl, trivial⟩
  exact ⟨_, rfl, hf.1, fun h => absurd rfl h, fun _ => ⟨hd8, hk13.id.trans (by rw [ZP]; rfl)⟩, hf.2⟩
end
end Go.Proofs.YtnoioimphcmeiaaGreatDoor
