/- Rules for slices: against nil; 'append' within a row's room; 'clear'; and what lies in blocks of unlike types. -/
import Derived.Test.YtnoioimphcmeiaaGreatDoorSColsR
import Derived.Test.YtnoioimphcmeiaaGreatDoorOwn
namespace Go.Proofs.YtnoioimphcmeiaaGreatDoor
open Go.RowKit
set_option maxRecDepth 20000

section
variable {P : Program} {n : Nat} {N : Nxt} {Q : Post} {f : Fr} {ds : List Deferred} {w w' : World}
variable {d : Nat} {x y : Operand} {t yt ty : TypeId} {pos : String} {af : Array Edge} {g : Option (Nat × Bool)}
theorem run_equalS {e : TypeId} (hu : P.underlying t = some (.slice e)) (A : Option Addr) (l c : Nat) : (Op.equal t (.slice A l c) (.slice none 0 0)).run P w = .ok A.isNone w := by
  have key : ∀ d, (Op.equalIn (d + 1) t (.slice A l c) (.slice none 0 0)).run P w = .ok A.isNone w := fun d => by cases A <;> simp [Op.equalIn, run_underlying hu]
  exact key 9999
theorem run_guardS {op : BinOp} {a b : Option Addr} {l c l' c' : Nat} : (eqGuard op t x y (.slice a l c) (.slice b l' c')).run P w = .ok () w := by cases op <;> simp [eqGuard]
theorem P_eqSlN {A : Option Addr} {l c : Nat} {e : TypeId} {β : Bool} (hu : P.underlying t = some (.slice e)) (hx : ev f x = some (.slice A l c)) (hβ : A.isNone = β) : PureV P n ⟨some d, .binOp .eql t x (.const (.slice none 0 0)) yt, ty, pos, af, g⟩ f (.bool β) :=
  fun z hz w => by
    subst hβ
    have hb : binOp .eql t (.slice A l c) (.slice none 0 0) = (do pure (.bool (← Op.equal t (.slice A l c) (.slice none 0 0)))) := by cases A <;> rfl
    have hy : z.eval (.const (.slice none 0 0)) = .slice none 0 0 := rfl
    simp only [execOp, hz.ev hx, hy, Sem.run_bind, run_guardS, Result.andThen_ok, hb, run_equalS hu, Sem.run_pure]

/-- A slice of the call's own, by its block. -/
theorem own_blk {base m len : Nat} {e : TypeId} {A : Option Addr} {c : Nat} {xs : List Value} (h : w.ownsRow base e m (.slice A len c) len xs) (hn : 0 < len) : ∃ b cs, A = some ⟨b, 0, none⟩ ∧ base ≤ b ∧ Blk w b cs e ∧ len ≤ c ∧ c ≤ maxLen ∧ cs.length = c * m ∧ cs.take (len * m) = xs := by
  obtain ⟨h1, h2⟩ := h
  rcases h2 with ⟨_, h0⟩ | ⟨b, cap, cur, hv, hb, hh, hnc, hcm, hcs, ht⟩
  · omega
  · cases hv
    refine ⟨b, cur.toList, rfl, hb, ?_, hnc, hcm, by simpa using hcs, ht⟩
    unfold Blk; simpa using hh
theorem own_mk {base m len b c : Nat} {e : TypeId} {cs xs : List Value} (hb : base ≤ b) (h : Blk w b cs e) (hc : len ≤ c) (hm : c ≤ maxLen) (hl : cs.length = c * m) (ht : cs.take (len * m) = xs) : w.ownsRow base e m (.slice (some ⟨b, 0, none⟩) len c) len xs := by
  subst ht
  refine ⟨?_, .inr ⟨b, c, cs.toArray, rfl, hb, h, hc, hm, by simpa using hl, by simp⟩⟩
  rw [List.length_take, hl]
  exact Nat.min_eq_left (Nat.mul_le_mul_right m hc)
/-- What is of one kind lies apart from what is of another. -/
theorem own_sep {b1 b2 e1 e2 m1 m2 n1 n2 : Nat} {v1 v2 : Value} {x1 x2 : List Value} (h1 : w.ownsRow b1 e1 m1 v1 n1 x1) (h2 : w.ownsRow b2 e2 m2 v2 n2 x2) (he : e1 ≠ e2) : ∀ k, OwnOf v1 k → ¬ OwnOf v2 k := by
  intro k hk1 hk2
  obtain ⟨_, h1⟩ := h1
  obtain ⟨_, h2⟩ := h2
  rcases h1 with ⟨rfl, _⟩ | ⟨g, c, cur, rfl, _, hh, _⟩
  · cases hk1
  · rcases h2 with ⟨rfl, _⟩ | ⟨g', c', cur', rfl, _, hh', _⟩
    · cases hk2
    · cases hk1; cases hk2
      rw [hh] at hh'
      cases hh'
      exact he rfl
theorem blk_sep {b b2 e1 e2 m2 n2 : Nat} {cs : List Value} {v2 : Value} {x2 : List Value} (h1 : Blk w b cs e1) (h2 : w.ownsRow b2 e2 m2 v2 n2 x2) (he : e1 ≠ e2) : ¬ OwnOf v2 b := by
  intro hk2
  obtain ⟨_, h2⟩ := h2
  rcases h2 with ⟨rfl, _⟩ | ⟨g', c', cur', rfl, _, hh', _⟩
  · cases hk2
  · cases hk2
    unfold Blk at h1
    rw [h1] at hh'
    cases hh'
    exact he rfl
/-- 'append' of some of what there is room for. -/
theorem S_appendIn {e : TypeId} {z : Value} {m by_ b len cap k c : Nat} {cs news : List Value} {A : Option Addr}
    (hu : P.underlying t = some (.slice e)) (hi : tinfo P e = some (some z, m, by_)) (hx : ev f x = some (.slice (some ⟨b, 0, none⟩) len cap)) (hb : Blk w b cs e) (hcs : cs.length = cap * m) (hy : ev f y = some (.slice A k c)) (hr : SlR w A news) (hl : news.length = k * m)
    (hone : ∀ u ∈ news, u.oneCell' = true) (hroom : len + k ≤ cap)
    (h : ∀ w', Blk w' b (splice cs (len * m) news) e → Mv (At b) w w' → N ((d, .slice (some ⟨b, 0, none⟩) (len + k) cap) :: f) ds w') (hn : Nat.blt d n = true := by rfl) :
    opF P n ⟨some d, .call { callee := .builtin .append, args := #[x, y], argTypes := #[t, t] }, ty, pos, af, g⟩ N Q f ds w := by
  obtain ⟨i, hi1, hi2, hi3, hi4⟩ := tinfo_parts hi
  have hfit : len * m + 0 + news.length ≤ cs.toArray.size := by
    have := Nat.mul_le_mul_right m hroom
    rw [Nat.add_mul] at this
    simp [hl, hcs]; omega
  have hst := run_storeCells_at P b (len * m) e news 0 cs.toArray w hb hfit hone
  rw [Nat.add_zero] at hst
  have hsp : (cs.toArray.toList.take (len * m) ++ news ++ cs.toArray.toList.drop (len * m + news.length)).toArray = (splice cs (len * m) news).toArray := by simp [splice]
  rw [hsp] at hst
  obtain ⟨h1, h2⟩ := setRow_mv w b cs (splice cs (len * m) news) e hb
  have hload : (Builtin.firstCells m k (.slice A k c)).run P w = .ok news.toArray w := by
    cases A with
    | none =>
      have : news = [] := by
        rcases hr with h | ⟨_, _, h, _⟩
        · exact h
        · cases h
      subst this
      simp [Builtin.firstCells]
    | some ad =>
      have hnews : ∀ j u, news[j]? = some u → w.cell? (ad.add j) = some u := fun j u hu' => by
        rcases hr with rfl | ⟨b', off, hA, hrow⟩
        · simp at hu'
        · obtain rfl := Option.some.inj hA
          rw [Addr.add_lit]; exact hrow j u hu'
      have := run_loadCells_list (P := P) w ad news hnews
      rw [hl] at this
      simpa [Builtin.firstCells] using this
  have hrun : (Builtin.append_ #[t, t] ty #[.slice (some ⟨b, 0, none⟩) len cap, .slice A k c]).run P w = .ok (.slice (some ⟨b, 0, none⟩) (len + k) cap) (w.setRow b (splice cs (len * m) news).toArray) := by
    simp [Builtin.append_, run_underlying hu, sizeOf, typeInfo, hi1, hi3, Builtin.lenOf, hroom, hload, Addr.add_lit, hst]
  exact S_val (fun a ha => by simp [execOp, resolve, invoke, builtin, ha.ev hx, ha.ev hy, hrun]) (h _ h1 h2) rfl hn
theorem S_drop {o : Oper} {v : Value} (hrun : ∀ a, Of n f a → (execOp a.eval o).run P w = .ok (.value v) w') (h : N f ds w') (hd : o.dst = none := by rfl) : opF P n o N Q f ds w := fun a ha hds K hK => by
  unfold Oper.wp
  rw [hrun a ha]
  simp only [Oper.upon, hd]
  exact hK _ _ _ ha (by subst hds; exact h)
/-- 's[i:j:k]'. -/
theorem P_slice3 {e : TypeId} {m len cap l hh mx : Nat} {A : Option Addr} {lo hi mo : Operand} (hu : P.underlying t = some (.slice e)) (hs : csz P e m) (hx : ev f x = some (.slice A len cap)) (hl : bnd f (some lo) 0 l) (hhi : bnd f (some hi) len hh) (hmx : bnd f (some mo) cap mx) (h1 : l ≤ hh) (h2 : hh ≤ mx) (h3 : mx ≤ cap)
    : PureV P n ⟨some d, .slice t x (some lo) (some hi) (some mo), ty, pos, af, g⟩ f (.slice (cutA A l m mx) (hh - l) (mx - l)) :=
  fun a ha w => by
    obtain ⟨k1, v1, e1, j1⟩ := hl
    obtain ⟨k2, v2, e2, j2⟩ := hhi
    obtain ⟨k3, v3, e3, j3⟩ := hmx
    have hb : (Instr.sliceBounds true len cap (some (a.eval lo)) (some (a.eval hi)) (some (a.eval mo))).run P w = .ok (l, hh, mx) w := by
      simp [Instr.sliceBounds, ha.ev e1, ha.ev e2, ha.ev e3, run_sliceBound j1 h1, run_sliceBound j2 h2, run_sliceBound j3 h3]
    simp [execOp, ha.ev hx, Instr.sliceAt, Instr.slice, run_underlying hu, hb, run_csz hs, cutA]
theorem P_sliceE {e : TypeId} {m len cap l hh k' c' : Nat} {A A' : Option Addr} {lo hi : Option Operand} (hu : P.underlying t = some (.slice e)) (hs : csz P e m) (hx : ev f x = some (.slice A len cap)) (hl : bnd f lo 0 l) (hhi : bnd f hi len hh) (h1 : l ≤ hh) (h2 : hh ≤ cap) (hA : cutA A l m cap = A') (hk : hh - l = k') (hc : cap - l = c')
    : PureV P n ⟨some d, .slice t x lo hi none, ty, pos, af, g⟩ f (.slice A' k' c') := by
  subst hA; subst hk; subst hc; exact P_slice hu hs hx hl hhi h1 h2
theorem cutA_zero {b m cap : Nat} : cutA (some ⟨b, 0, none⟩) 0 m cap = some ⟨b, 0, none⟩ := by
  unfold cutA; split <;> simp [Addr.add_lit]
theorem cutA_some {b l m cap : Nat} (h : l < cap) : cutA (some ⟨b, 0, none⟩) l m cap = some ⟨b, l * m, none⟩ := by
  unfold cutA; rw [if_neg (by omega)]; simp [Addr.add_lit]
/-- 'clear' of a part of a row. -/
theorem S_clear {e : TypeId} {z : Value} {m by_ b o k c : Nat} {cs : List Value} {ats : Array TypeId} (hats : ats = #[t])
    (hu : P.underlying t = some (.slice e)) (hi : tinfo P e = some (some z, m, by_)) (hz : z.cells.size = m) (hz1 : ∀ v ∈ z.cells.toList, v.oneCell' = true) (hm : 0 < m) (hx : ev f x = some (.slice (some ⟨b, o, none⟩) k c)) (hb : Blk w b cs e) (hfit : o + k * m ≤ cs.length)
    (h : ∀ zs w', zs.length = k * m → Blk w' b (splice cs o zs) e → Mv (At b) w w' → N f ds w') :
    opF P n ⟨none, .call { callee := .builtin .clear, args := #[x], argTypes := ats }, ty, pos, af, g⟩ N Q f ds w := by
  subst hats
  obtain ⟨i, hi1, hi2, hi3, hi4⟩ := tinfo_parts hi
  rcases Nat.eq_zero_or_pos k with rfl | hk
  · have hsp : splice cs o [] = cs := by simp [splice]
    have hrun : (Builtin.clear_ #[t] ty #[.slice (some ⟨b, o, none⟩) 0 c]).run P w = .ok (.tuple #[]) w := by
      simp [Builtin.clear_, run_underlying hu]
    exact S_drop (v := .tuple #[]) (fun a ha => by simp [execOp, resolve, invoke, builtin, ha.ev hx, hrun]) (h [] w (by simp) (by rw [hsp]; exact hb) (Mv.refl w))
  · have hzl : (Builtin.zeroCells z.cells k).toList.length = k * m := by simp [Builtin.zeroCells, hz]
    have hone : ∀ v ∈ (Builtin.zeroCells z.cells k).toList, v.oneCell' = true := by
      intro v hv
      simp only [Builtin.zeroCells, Array.toList_map, List.mem_map] at hv
      obtain ⟨q, hq, rfl⟩ := hv
      have hlt : q % z.cells.size < z.cells.size := Nat.mod_lt _ (by omega)
      rw [getElem!_pos z.cells _ hlt]
      exact hz1 _ (by simp)
    have hst := run_storeCells_at P b o e (Builtin.zeroCells z.cells k).toList 0 cs.toArray w hb (by rw [hzl]; simpa using hfit) hone
    rw [Nat.add_zero] at hst
    have hsp : (cs.toArray.toList.take o ++ (Builtin.zeroCells z.cells k).toList ++ cs.toArray.toList.drop (o + (Builtin.zeroCells z.cells k).toList.length)).toArray = (splice cs o (Builtin.zeroCells z.cells k).toList).toArray := by simp [splice]
    rw [hsp] at hst
    obtain ⟨h1, h2⟩ := setRow_mv w b cs (splice cs o (Builtin.zeroCells z.cells k).toList) e hb
    have hrun : (Builtin.clear_ #[t] ty #[.slice (some ⟨b, o, none⟩) k c]).run P w = .ok (.tuple #[]) (w.setRow b (splice cs o (Builtin.zeroCells z.cells k).toList).toArray) := by
      obtain ⟨q, rfl⟩ : ∃ q, k = q + 1 := ⟨k - 1, by omega⟩
      simp [Builtin.clear_, run_underlying hu, zeroValue, typeInfo, hi1, hi2, hst]
    exact S_drop (v := .tuple #[]) (fun a ha => by simp [execOp, resolve, invoke, builtin, ha.ev hx, hrun]) (h _ _ hzl h1 h2)
end
end Go.Proofs.YtnoioimphcmeiaaGreatDoor
