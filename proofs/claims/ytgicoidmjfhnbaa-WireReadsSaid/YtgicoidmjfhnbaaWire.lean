import Derived.Test.YtgicoidmjfhnbaaNum
namespace Go.Proofs.Ytgicoidmjfhnbaa
open Go.RowKit

/-- A reader at block g: what is left, its error; its bytes are nobody else's, from block lo on. -/
structure IsR (w : World) (lo g : Nat) (bs : List UInt8) (err : Int) : Prop where
  ex : ∃ A cap, Blk w g [.slice A bs.length cap, .int .i64 err] 57 ∧ SlR w A (bs.map bv) ∧ bs.length ≤ cap ∧ cap ≤ maxLen ∧ (∀ a, A = some a → a.block < g ∧ lo ≤ a.block)
  lo : lo ≤ g

theorem IsR.mv {w w' : World} {lo g : Nat} {bs : List UInt8} {err : Int} {S : Nat → Prop} (h : IsR w lo g bs err) (hm : Mv S w w') (hs : ∀ k, lo ≤ k → k ≤ g → ¬ S k) : IsR w' lo g bs err := by
  obtain ⟨⟨A, cap, hb, hr, h1, h2, h3⟩, hl⟩ := h
  refine ⟨⟨A, cap, hb.mv hm (hs g hl (Nat.le_refl _)), ?_, h1, h2, h3⟩, hl⟩
  rcases hr with hr | ⟨b, off, rfl, hrow⟩
  · exact .inl hr
  · rcases hbs : bs with _ | ⟨c, r⟩
    · exact .inl rfl
    · rw [← hbs]
      refine .inr ⟨b, off, rfl, hrow.mv hm (hs b (h3 _ rfl).2 ?_)⟩
      exact Nat.le_of_lt (h3 _ rfl).1
theorem IsR.no {w w' : World} {lo g : Nat} {bs : List UInt8} {err : Int} (h : IsR w lo g bs err) (hm : Mv No w w') : IsR w' lo g bs err := h.mv hm fun _ _ _ hf => hf.elim
theorem IsR.lt {w : World} {lo g : Nat} {bs : List UInt8} {err : Int} (h : IsR w lo g bs err) : g < w.heap.size := by
  obtain ⟨⟨A, cap, hb, _⟩, _⟩ := h
  exact hb.lt
/-- Its two cells put anew. -/
theorem IsR.put {w w' : World} {lo g : Nat} {bs' : List UInt8} {err' : Int} {A' : Option Addr} {cap : Nat} (hlo : lo ≤ g) (hb : Blk w' g [.slice A' bs'.length cap, .int .i64 err'] 57) (hm : Mv (At g) w w') (hr : SlR w A' (bs'.map bv)) (h1 : bs'.length ≤ cap) (h2 : cap ≤ maxLen)
    (hA : ∀ a, A' = some a → a.block < g ∧ lo ≤ a.block) : IsR w' lo g bs' err' :=
  ⟨⟨A', cap, hb, hr.mv hm (fun a ha => Nat.ne_of_lt (hA a ha).1), h1, h2, hA⟩, hlo⟩

theorem rerr_ret {w : World} {lo g : Nat} {bs : List UInt8} {err : Int} (h : IsR w lo g bs err) :
    Ret Try.prog 16 [.pointer (some ⟨g, 0, none⟩)] w fun v w' => v = .int .i64 err ∧ w = w' := by
  obtain ⟨⟨A, cap, hb, hr, h1, h2, h3⟩, hl⟩ := h
  refine F_enter Try.func16 Try.ntmps16 rfl rfl ?_
  refine C_seq ?_
  refine C_region ?_
  refine L (S (P_assign rfl) ?_)
  refine L_nil ?_
  refine then_n ?_
  refine C_seq ?_
  refine C_seq ?_
  refine C_region ?_
  refine L (S (P_move rfl) ?_)
  refine L (S (P_eqNil Try.underlying26 rfl rfl rfl) ?_)
  refine L_nil ?_
  refine then_n ?_
  refine C_false rfl ?_
  refine C_skip ?_
  refine then_n ?_
  refine C_seq ?_
  refine C_region ?_
  refine L (S (P_move rfl) ?_)
  refine L (S (P_nilCheck rfl) ?_)
  refine L (S (P_fieldAddr fo_57_1 rfl) ?_)
  refine L (S_load sc_31 rfl (hb.cell (i := 1) rfl) ?_)
  refine L (S (P_assign rfl) ?_)
  refine L_nil ?_
  refine then_n ?_
  refine C_ret ?_
  refine F_ret1 Try.results16 rfl ?_
  exact ⟨rfl, rfl⟩
theorem rerr_nil {w : World} : Ret Try.prog 16 [.pointer none] w fun v w' => v = .int .i64 1 ∧ w = w' := by
  refine F_enter Try.func16 Try.ntmps16 rfl rfl ?_
  refine C_seq ?_
  refine C_region ?_
  refine L (S (P_assign rfl) ?_)
  refine L_nil ?_
  refine then_n ?_
  refine C_seq ?_
  refine C_seq ?_
  refine C_region ?_
  refine L (S (P_move rfl) ?_)
  refine L (S (P_eqNil Try.underlying26 rfl rfl rfl) ?_)
  refine L_nil ?_
  refine then_n ?_
  refine C_true rfl ?_
  refine C_seq ?_
  refine C_region ?_
  refine L (S (P_assign rfl) ?_)
  refine L_nil ?_
  refine then_n ?_
  refine C_ret ?_
  refine then_r ?_
  refine F_ret1 Try.results16 rfl ?_
  exact ⟨rfl, rfl⟩

theorem rleft_ret {w : World} {lo g : Nat} {bs : List UInt8} {err : Int} (h : IsR w lo g bs err) :
    Ret Try.prog 15 [.pointer (some ⟨g, 0, none⟩)] w fun v w' => v = .int .i64 bs.length ∧ w = w' := by
  obtain ⟨⟨A, cap, hb, hr, h1, h2, h3⟩, hl⟩ := h
  refine F_enter Try.func15 Try.ntmps15 rfl rfl ?_
  refine C_seq ?_
  refine C_region ?_
  refine L (S (P_assign rfl) ?_)
  refine L_nil ?_
  refine then_n ?_
  refine C_seq ?_
  refine C_seq ?_
  refine C_region ?_
  refine L (S (P_move rfl) ?_)
  refine L (S (P_eqNil Try.underlying26 rfl rfl rfl) ?_)
  refine L_nil ?_
  refine then_n ?_
  refine C_false rfl ?_
  refine C_skip ?_
  refine then_n ?_
  refine C_seq ?_
  refine C_region ?_
  refine L (S (P_move rfl) ?_)
  refine L (S (P_nilCheck rfl) ?_)
  refine L (S (P_fieldAddr fo_57_0 rfl) ?_)
  refine L (S_load sc_23 rfl (hb.cell (i := 0) rfl) ?_)
  refine L (S (P_lenS Try.underlying23 rfl) ?_)
  refine L (S (P_assign rfl) ?_)
  refine L_nil ?_
  refine then_n ?_
  refine C_ret ?_
  refine F_ret1 Try.results15 rfl ?_
  exact ⟨rfl, rfl⟩
theorem rleft_nil {w : World} : Ret Try.prog 15 [.pointer none] w fun v w' => v = .int .i64 0 ∧ w = w' := by
  refine F_enter Try.func15 Try.ntmps15 rfl rfl ?_
  refine C_seq ?_
  refine C_region ?_
  refine L (S (P_assign rfl) ?_)
  refine L_nil ?_
  refine then_n ?_
  refine C_seq ?_
  refine C_seq ?_
  refine C_region ?_
  refine L (S (P_move rfl) ?_)
  refine L (S (P_eqNil Try.underlying26 rfl rfl rfl) ?_)
  refine L_nil ?_
  refine then_n ?_
  refine C_true rfl ?_
  refine C_seq ?_
  refine C_region ?_
  refine L (S (P_assign rfl) ?_)
  refine L_nil ?_
  refine then_n ?_
  refine C_ret ?_
  refine then_r ?_
  refine F_ret1 Try.results15 rfl ?_
  exact ⟨rfl, rfl⟩

theorem rfail_ret {w : World} {lo g : Nat} {bs : List UInt8} {err : Int} (e : Int) (h : IsR w lo g bs err) :
    Ret Try.prog 29 [.pointer (some ⟨g, 0, none⟩), .int .i64 e] w fun v w' => v = .int .u64 0 ∧ IsR w' lo g bs e ∧ Mv (At g) w w' := by
  obtain ⟨⟨A, cap, hb, hr, h1, h2, h3⟩, hl⟩ := h
  refine F_enter Try.func29 Try.ntmps29 rfl rfl ?_
  refine C_seq ?_
  refine C_region ?_
  refine L (S (P_assign rfl) ?_)
  refine L_nil ?_
  refine then_n ?_
  refine C_seq ?_
  refine C_region ?_
  refine L (S (P_move rfl) ?_)
  refine L (S (P_move rfl) ?_)
  refine L (S (P_nilCheck rfl) ?_)
  refine L (S (P_fieldAddr fo_57_1 rfl) ?_)
  refine L (S_store ti_31 rfl rfl rfl hb (by simp) ?_)
  rintro w1 hb1 hm1
  refine L_nil ?_
  refine then_n ?_
  refine C_seq ?_
  refine C_region ?_
  refine L (S (P_assign rfl) ?_)
  refine L_nil ?_
  refine then_n ?_
  refine C_ret ?_
  refine F_ret1 Try.results29 rfl ?_
  exact ⟨rfl, IsR.put hl hb1 hm1 hr h1 h2 h3, hm1⟩

theorem rFail_ret {w : World} {lo g : Nat} {bs : List UInt8} {err : Int} (e : Int) (h : IsR w lo g bs err) :
    Ret Try.prog 22 [.pointer (some ⟨g, 0, none⟩), .int .i64 e] w fun _ w' => IsR w' lo g bs (rFail err e) ∧ Mv (At g) w w' := by
  obtain ⟨⟨A, cap, hb, hr, h1, h2, h3⟩, hl⟩ := h
  by_cases he : err = 0
  · refine F_enter Try.func22 Try.ntmps22 rfl rfl ?_
    refine C_seq ?_
    refine C_region ?_
    refine L (S (P_move rfl) ?_)
    refine L (S (P_neNil Try.underlying26 rfl rfl rfl) ?_)
    refine L (S (P_move rfl) ?_)
    refine L_yes (j := 2) (dj := 6) (b := true) (S (P_move rfl) ?_) rfl
    refine L_yes (j := 2) (dj := 6) (b := true) (S (P_nilCheck rfl) ?_) rfl
    refine L_yes (j := 2) (dj := 6) (b := true) (S (P_fieldAddr fo_57_1 rfl) ?_) rfl
    refine L_yes (j := 2) (dj := 6) (b := true) (S_load sc_31 rfl (hb.cell (i := 1) rfl) ?_) rfl
    refine L_yes (j := 2) (dj := 6) (b := true) (S (P_eq rfl rfl (decide_eq_true he)) ?_) rfl
    refine L (S (P_pickT rfl rfl) ?_)
    refine L_nil ?_
    refine then_n ?_
    refine C_true rfl ?_
    refine C_region ?_
    refine L (S (P_move rfl) ?_)
    refine L (S (P_move rfl) ?_)
    refine L (S (P_nilCheck rfl) ?_)
    refine L (S (P_fieldAddr fo_57_1 rfl) ?_)
    refine L (S_store ti_31 rfl rfl rfl hb (by simp) ?_)
    rintro w1 hb1 hm1
    refine L_nil ?_
    refine F_end0 Try.results22 ?_
    simp only [rFail, if_pos he]
    exact ⟨IsR.put hl hb1 hm1 hr h1 h2 h3, hm1⟩
  · refine F_enter Try.func22 Try.ntmps22 rfl rfl ?_
    refine C_seq ?_
    refine C_region ?_
    refine L (S (P_move rfl) ?_)
    refine L (S (P_neNil Try.underlying26 rfl rfl rfl) ?_)
    refine L (S (P_move rfl) ?_)
    refine L_yes (j := 2) (dj := 6) (b := true) (S (P_move rfl) ?_) rfl
    refine L_yes (j := 2) (dj := 6) (b := true) (S (P_nilCheck rfl) ?_) rfl
    refine L_yes (j := 2) (dj := 6) (b := true) (S (P_fieldAddr fo_57_1 rfl) ?_) rfl
    refine L_yes (j := 2) (dj := 6) (b := true) (S_load sc_31 rfl (hb.cell (i := 1) rfl) ?_) rfl
    refine L_yes (j := 2) (dj := 6) (b := true) (S (P_eq rfl rfl (decide_eq_false he)) ?_) rfl
    refine L (S (P_pickT rfl rfl) ?_)
    refine L_nil ?_
    refine then_n ?_
    refine C_false rfl ?_
    refine C_skip ?_
    refine F_end0 Try.results22 ?_
    simp only [rFail, if_neg he]
    exact ⟨⟨⟨A, cap, hb, hr, h1, h2, h3⟩, hl⟩, Mv.refl w⟩
theorem rFail_nil {w : World} (e : Int) : Ret Try.prog 22 [.pointer none, .int .i64 e] w fun _ w' => w = w' := by
  refine F_enter Try.func22 Try.ntmps22 rfl rfl ?_
  refine C_seq ?_
  refine C_region ?_
  refine L (S (P_move rfl) ?_)
  refine L (S (P_neNil Try.underlying26 rfl rfl rfl) ?_)
  refine L (S (P_move rfl) ?_)
  refine L_no (j := 2) (dj := 6) (b := true) (b' := false) (d := 7) rfl ?_
  refine L_no (j := 2) (dj := 6) (b := true) (b' := false) (d := 8) rfl ?_
  refine L_no (j := 2) (dj := 6) (b := true) (b' := false) (d := 9) rfl ?_
  refine L_no (j := 2) (dj := 6) (b := true) (b' := false) (d := 10) rfl ?_
  refine L_no (j := 2) (dj := 6) (b := true) (b' := false) (d := 11) rfl ?_
  refine L (S (P_pickF rfl rfl) ?_)
  refine L_nil ?_
  refine then_n ?_
  refine C_false rfl ?_
  refine C_skip ?_
  refine F_end0 Try.results22 ?_
  rfl

theorem rend_ret {w : World} {lo g : Nat} {bs : List UInt8} {err : Int} (h : IsR w lo g bs err) :
    Ret Try.prog 20 [.pointer (some ⟨g, 0, none⟩)] w fun v w' => v = .int .i64 (rEnd bs err) ∧ IsR w' lo g bs (rEnd bs err) ∧ Mv (At g) w w' := by
  have H := h
  obtain ⟨⟨A, cap, hb, hr, h1, h2, h3⟩, hl⟩ := h
  by_cases he : err = 0
  · by_cases hn : 0 < bs.length
    · have hR : rEnd bs err = 12 := by simp only [rEnd]; rw [if_pos ⟨he, hn⟩]
      rw [hR]
      refine F_enter Try.func20 Try.ntmps20 rfl rfl ?_
      refine C_seq ?_
      refine C_region ?_
      refine L (S (P_assign rfl) ?_)
      refine L_nil ?_
      refine then_n ?_
      refine C_seq ?_
      refine C_seq ?_
      refine C_region ?_
      refine L (S (P_move rfl) ?_)
      refine L (S_call cb_16 rfl (rerr_ret H) ?_)
      rintro _ _ ⟨rfl, rfl⟩
      refine L (S (P_eq rfl rfl (decide_eq_true he)) ?_)
      refine L (S (P_move rfl) ?_)
      refine L_yes (j := 3) (dj := 6) (b := true) (S (P_move rfl) ?_) rfl
      refine L_yes (j := 3) (dj := 6) (b := true) (S (P_nilCheck rfl) ?_) rfl
      refine L_yes (j := 3) (dj := 6) (b := true) (S (P_fieldAddr fo_57_0 rfl) ?_) rfl
      refine L_yes (j := 3) (dj := 6) (b := true) (S_load sc_23 rfl (hb.cell (i := 0) rfl) ?_) rfl
      refine L_yes (j := 3) (dj := 6) (b := true) (S (P_lenS Try.underlying23 rfl) ?_) rfl
      refine L_yes (j := 3) (dj := 6) (b := true) (S (P_gt rfl rfl (decide_eq_true (by omega))) ?_) rfl
      refine L (S (P_pickT rfl rfl) ?_)
      refine L_nil ?_
      refine then_n ?_
      refine C_true rfl ?_
      refine C_region ?_
      refine L (S (P_move rfl) ?_)
      refine L (S (P_nilCheck rfl) ?_)
      refine L (S (P_fieldAddr fo_57_1 rfl) ?_)
      refine L (S_store ti_31 rfl rfl rfl hb (by simp) ?_)
      rintro w1 hb1 hm1
      refine L_nil ?_
      refine then_n ?_
      refine C_seq ?_
      refine C_region ?_
      refine L (S (P_move rfl) ?_)
      refine L (S_call cb_16 rfl (rerr_ret (IsR.put (bs' := bs) hl hb1 hm1 hr h1 h2 h3)) ?_)
      rintro _ _ ⟨rfl, rfl⟩
      refine L (S (P_assign rfl) ?_)
      refine L_nil ?_
      refine then_n ?_
      refine C_ret ?_
      refine F_ret1 Try.results20 rfl ?_
      exact ⟨rfl, IsR.put hl hb1 hm1 hr h1 h2 h3, hm1⟩
    · have hR : rEnd bs err = err := by simp only [rEnd]; rw [if_neg (fun hh => hn hh.2)]
      rw [hR]
      refine F_enter Try.func20 Try.ntmps20 rfl rfl ?_
      refine C_seq ?_
      refine C_region ?_
      refine L (S (P_assign rfl) ?_)
      refine L_nil ?_
      refine then_n ?_
      refine C_seq ?_
      refine C_seq ?_
      refine C_region ?_
      refine L (S (P_move rfl) ?_)
      refine L (S_call cb_16 rfl (rerr_ret H) ?_)
      rintro _ _ ⟨rfl, rfl⟩
      refine L (S (P_eq rfl rfl (decide_eq_true he)) ?_)
      refine L (S (P_move rfl) ?_)
      refine L_yes (j := 3) (dj := 6) (b := true) (S (P_move rfl) ?_) rfl
      refine L_yes (j := 3) (dj := 6) (b := true) (S (P_nilCheck rfl) ?_) rfl
      refine L_yes (j := 3) (dj := 6) (b := true) (S (P_fieldAddr fo_57_0 rfl) ?_) rfl
      refine L_yes (j := 3) (dj := 6) (b := true) (S_load sc_23 rfl (hb.cell (i := 0) rfl) ?_) rfl
      refine L_yes (j := 3) (dj := 6) (b := true) (S (P_lenS Try.underlying23 rfl) ?_) rfl
      refine L_yes (j := 3) (dj := 6) (b := true) (S (P_gt rfl rfl (decide_eq_false (by omega))) ?_) rfl
      refine L (S (P_pickT rfl rfl) ?_)
      refine L_nil ?_
      refine then_n ?_
      refine C_false rfl ?_
      refine C_skip ?_
      refine then_n ?_
      refine C_seq ?_
      refine C_region ?_
      refine L (S (P_move rfl) ?_)
      refine L (S_call cb_16 rfl (rerr_ret H) ?_)
      rintro _ _ ⟨rfl, rfl⟩
      refine L (S (P_assign rfl) ?_)
      refine L_nil ?_
      refine then_n ?_
      refine C_ret ?_
      refine F_ret1 Try.results20 rfl ?_
      exact ⟨rfl, H, Mv.refl w⟩
  · have hR : rEnd bs err = err := by simp only [rEnd]; rw [if_neg (fun hh => he hh.1)]
    rw [hR]
    refine F_enter Try.func20 Try.ntmps20 rfl rfl ?_
    refine C_seq ?_
    refine C_region ?_
    refine L (S (P_assign rfl) ?_)
    refine L_nil ?_
    refine then_n ?_
    refine C_seq ?_
    refine C_seq ?_
    refine C_region ?_
    refine L (S (P_move rfl) ?_)
    refine L (S_call cb_16 rfl (rerr_ret H) ?_)
    rintro _ _ ⟨rfl, rfl⟩
    refine L (S (P_eq rfl rfl (decide_eq_false he)) ?_)
    refine L (S (P_move rfl) ?_)
    refine L_no (j := 3) (dj := 6) (b := true) (b' := false) (d := 7) rfl ?_
    refine L_no (j := 3) (dj := 6) (b := true) (b' := false) (d := 8) rfl ?_
    refine L_no (j := 3) (dj := 6) (b := true) (b' := false) (d := 9) rfl ?_
    refine L_no (j := 3) (dj := 6) (b := true) (b' := false) (d := 10) rfl ?_
    refine L_no (j := 3) (dj := 6) (b := true) (b' := false) (d := 11) rfl ?_
    refine L_no (j := 3) (dj := 6) (b := true) (b' := false) (d := 12) rfl ?_
    refine L (S (P_pickF rfl rfl) ?_)
    refine L_nil ?_
    refine then_n ?_
    refine C_false rfl ?_
    refine C_skip ?_
    refine then_n ?_
    refine C_seq ?_
    refine C_region ?_
    refine L (S (P_move rfl) ?_)
    refine L (S_call cb_16 rfl (rerr_ret H) ?_)
    rintro _ _ ⟨rfl, rfl⟩
    refine L (S (P_assign rfl) ?_)
    refine L_nil ?_
    refine then_n ?_
    refine C_ret ?_
    refine F_ret1 Try.results20 rfl ?_
    exact ⟨rfl, H, Mv.refl w⟩
theorem rend_nil {w : World} : Ret Try.prog 20 [.pointer none] w fun v w' => v = .int .i64 1 ∧ w = w' := by
  refine F_enter Try.func20 Try.ntmps20 rfl rfl ?_
  refine C_seq ?_
  refine C_region ?_
  refine L (S (P_assign rfl) ?_)
  refine L_nil ?_
  refine then_n ?_
  refine C_seq ?_
  refine C_seq ?_
  refine C_region ?_
  refine L (S (P_move rfl) ?_)
  refine L (S_call cb_16 rfl (rerr_nil) ?_)
  rintro _ _ ⟨rfl, rfl⟩
  refine L (S (P_eq rfl rfl (decide_eq_false (by decide))) ?_)
  refine L (S (P_move rfl) ?_)
  refine L_no (j := 3) (dj := 6) (b := true) (b' := false) (d := 7) rfl ?_
  refine L_no (j := 3) (dj := 6) (b := true) (b' := false) (d := 8) rfl ?_
  refine L_no (j := 3) (dj := 6) (b := true) (b' := false) (d := 9) rfl ?_
  refine L_no (j := 3) (dj := 6) (b := true) (b' := false) (d := 10) rfl ?_
  refine L_no (j := 3) (dj := 6) (b := true) (b' := false) (d := 11) rfl ?_
  refine L_no (j := 3) (dj := 6) (b := true) (b' := false) (d := 12) rfl ?_
  refine L (S (P_pickF rfl rfl) ?_)
  refine L_nil ?_
  refine then_n ?_
  refine C_false rfl ?_
  refine C_skip ?_
  refine then_n ?_
  refine C_seq ?_
  refine C_region ?_
  refine L (S (P_move rfl) ?_)
  refine L (S_call cb_16 rfl (rerr_nil) ?_)
  rintro _ _ ⟨rfl, rfl⟩
  refine L (S (P_assign rfl) ?_)
  refine L_nil ?_
  refine then_n ?_
  refine C_ret ?_
  refine F_ret1 Try.results20 rfl ?_
  exact ⟨rfl, rfl⟩

theorem rbool_ret {w : World} {lo g : Nat} {bs : List UInt8} {err : Int} (h : IsR w lo g bs err) :
    Ret Try.prog 25 [.pointer (some ⟨g, 0, none⟩)] w fun v w' => v = .bool (rBool bs err).1 ∧ IsR w' lo g (rBool bs err).2.1 (rBool bs err).2.2 ∧ Mv (At g) w w' := by
  have H := h
  obtain ⟨⟨A, cap, hb, hr, h1, h2, h3⟩, hl⟩ := h
  by_cases he : err = 0
  · rcases hbs : bs with _ | ⟨c, r⟩
    · have hR : rBool [] err = (false, [], 10) := by simp [rBool, he]
      rw [hR]
      subst hbs
      refine F_enter Try.func25 Try.ntmps25 rfl rfl ?_
      refine C_seq ?_
      refine C_region ?_
      refine L (S (P_assign rfl) ?_)
      refine L_nil ?_
      refine then_n ?_
      refine C_seq ?_
      refine C_seq ?_
      refine C_region ?_
      refine L (S (P_move rfl) ?_)
      refine L (S_call cb_16 rfl (rerr_ret H) ?_)
      rintro _ _ ⟨rfl, rfl⟩
      refine L (S (P_ne rfl rfl (decide_eq_false (by simpa using he))) ?_)
      refine L_nil ?_
      refine then_n ?_
      refine C_false rfl ?_
      refine C_skip ?_
      refine then_n ?_
      refine C_seq ?_
      refine C_seq ?_
      refine C_region ?_
      refine L (S (P_move rfl) ?_)
      refine L (S (P_nilCheck rfl) ?_)
      refine L (S (P_fieldAddr fo_57_0 rfl) ?_)
      refine L (S_load sc_23 rfl (hb.cell (i := 0) rfl) ?_)
      refine L (S (P_lenS Try.underlying23 rfl) ?_)
      refine L (S (P_eq rfl rfl (decide_eq_true (by simp))) ?_)
      refine L_nil ?_
      refine then_n ?_
      refine C_true rfl ?_
      refine C_seq ?_
      refine C_region ?_
      refine L (S (P_move rfl) ?_)
      refine L (S (P_nilCheck rfl) ?_)
      refine L (S (P_fieldAddr fo_57_1 rfl) ?_)
      refine L (S_store ti_31 rfl rfl rfl hb (by simp) ?_)
      rintro w1 hb1 hm1
      refine L_nil ?_
      refine then_n ?_
      refine C_seq ?_
      refine C_region ?_
      refine L (S (P_assign rfl) ?_)
      refine L_nil ?_
      refine then_n ?_
      refine C_ret ?_
      refine then_r ?_
      refine F_ret1 Try.results25 rfl ?_
      exact ⟨rfl, IsR.put (bs' := []) hl hb1 hm1 hr h1 h2 h3, hm1⟩
    · subst hbs
      obtain ⟨b, off, rfl, hrow⟩ := hr.form (i := 0) (by simp)
      have hc : w.cell? ⟨b, off + 0 * 1, none⟩ = some (bv c) := hrow 0 _ rfl
      have hcl : (c :: r).length = r.length + 1 := rfl
      by_cases h1c : 1 < c.toNat
      · have hR : rBool (c :: r) err = (false, c :: r, 7) := by simp [rBool, he, h1c]
        rw [hR]
        refine F_enter Try.func25 Try.ntmps25 rfl rfl ?_
        refine C_seq ?_
        refine C_region ?_
        refine L (S (P_assign rfl) ?_)
        refine L_nil ?_
        refine then_n ?_
        refine C_seq ?_
        refine C_seq ?_
        refine C_region ?_
        refine L (S (P_move rfl) ?_)
        refine L (S_call cb_16 rfl (rerr_ret H) ?_)
        rintro _ _ ⟨rfl, rfl⟩
        refine L (S (P_ne rfl rfl (decide_eq_false (by simpa using he))) ?_)
        refine L_nil ?_
        refine then_n ?_
        refine C_false rfl ?_
        refine C_skip ?_
        refine then_n ?_
        refine C_seq ?_
        refine C_seq ?_
        refine C_region ?_
        refine L (S (P_move rfl) ?_)
        refine L (S (P_nilCheck rfl) ?_)
        refine L (S (P_fieldAddr fo_57_0 rfl) ?_)
        refine L (S_load sc_23 rfl (hb.cell (i := 0) rfl) ?_)
        refine L (S (P_lenS Try.underlying23 rfl) ?_)
        refine L (S (P_eq rfl rfl (decide_eq_false (by omega))) ?_)
        refine L_nil ?_
        refine then_n ?_
        refine C_false rfl ?_
        refine C_skip ?_
        refine then_n ?_
        refine C_seq ?_
        refine C_seq ?_
        refine C_region ?_
        refine L (S (P_move rfl) ?_)
        refine L (S (P_nilCheck rfl) ?_)
        refine L (S (P_fieldAddr fo_57_0 rfl) ?_)
        refine L (S_load sc_23 rfl (hb.cell (i := 0) rfl) ?_)
        refine L (S (P_indexAddr Try.underlying23 (csz_of ti_5) rfl rfl (j := 0) rfl (by omega) rfl) ?_)
        refine L (S_load sc_5 rfl hc ?_)
        refine L (S (P_gt rfl rfl (decide_eq_true (by omega))) ?_)
        refine L_nil ?_
        refine then_n ?_
        refine C_true rfl ?_
        refine C_seq ?_
        refine C_region ?_
        refine L (S (P_move rfl) ?_)
        refine L (S (P_nilCheck rfl) ?_)
        refine L (S (P_fieldAddr fo_57_1 rfl) ?_)
        refine L (S_store ti_31 rfl rfl rfl hb (by simp) ?_)
        rintro w1 hb1 hm1
        refine L_nil ?_
        refine then_n ?_
        refine C_seq ?_
        refine C_region ?_
        refine L (S (P_assign rfl) ?_)
        refine L_nil ?_
        refine then_n ?_
        refine C_ret ?_
        refine then_r ?_
        refine F_ret1 Try.results25 rfl ?_
        exact ⟨rfl, IsR.put (bs' := c :: r) hl hb1 hm1 hr h1 h2 h3, hm1⟩
      · have hR : rBool (c :: r) err = (decide (c.toNat = 1), r, 0) := by simp [rBool, he, h1c]
        rw [hR]
        refine F_enter Try.func25 Try.ntmps25 rfl rfl ?_
        refine C_seq ?_
        refine C_region ?_
        refine L (S (P_assign rfl) ?_)
        refine L_nil ?_
        refine then_n ?_
        refine C_seq ?_
        refine C_seq ?_
        refine C_region ?_
        refine L (S (P_move rfl) ?_)
        refine L (S_call cb_16 rfl (rerr_ret H) ?_)
        rintro _ _ ⟨rfl, rfl⟩
        refine L (S (P_ne rfl rfl (decide_eq_false (by simpa using he))) ?_)
        refine L_nil ?_
        refine then_n ?_
        refine C_false rfl ?_
        refine C_skip ?_
        refine then_n ?_
        refine C_seq ?_
        refine C_seq ?_
        refine C_region ?_
        refine L (S (P_move rfl) ?_)
        refine L (S (P_nilCheck rfl) ?_)
        refine L (S (P_fieldAddr fo_57_0 rfl) ?_)
        refine L (S_load sc_23 rfl (hb.cell (i := 0) rfl) ?_)
        refine L (S (P_lenS Try.underlying23 rfl) ?_)
        refine L (S (P_eq rfl rfl (decide_eq_false (by omega))) ?_)
        refine L_nil ?_
        refine then_n ?_
        refine C_false rfl ?_
        refine C_skip ?_
        refine then_n ?_
        refine C_seq ?_
        refine C_seq ?_
        refine C_region ?_
        refine L (S (P_move rfl) ?_)
        refine L (S (P_nilCheck rfl) ?_)
        refine L (S (P_fieldAddr fo_57_0 rfl) ?_)
        refine L (S_load sc_23 rfl (hb.cell (i := 0) rfl) ?_)
        refine L (S (P_indexAddr Try.underlying23 (csz_of ti_5) rfl rfl (j := 0) rfl (by omega) rfl) ?_)
        refine L (S_load sc_5 rfl hc ?_)
        refine L (S (P_gt rfl rfl (decide_eq_false (by omega))) ?_)
        refine L_nil ?_
        refine then_n ?_
        refine C_false rfl ?_
        refine C_skip ?_
        refine then_n ?_
        refine C_seq ?_
        refine C_region ?_
        refine L (S (P_move rfl) ?_)
        refine L (S (P_nilCheck rfl) ?_)
        refine L (S (P_fieldAddr fo_57_0 rfl) ?_)
        refine L (S_load sc_23 rfl (hb.cell (i := 0) rfl) ?_)
        refine L (S (P_indexAddr Try.underlying23 (csz_of ti_5) rfl rfl (j := 0) rfl (by omega) rfl) ?_)
        refine L (S_load sc_5 rfl hc ?_)
        refine L (S (P_eq rfl rfl rfl) ?_)
        refine L (S (P_assign rfl) ?_)
        refine L_nil ?_
        refine then_n ?_
        refine C_seq ?_
        refine C_region ?_
        refine L (S (P_move rfl) ?_)
        refine L (S (P_move rfl) ?_)
        refine L (S (P_nilCheck rfl) ?_)
        refine L (S (P_fieldAddr fo_57_0 rfl) ?_)
        refine L (S_load sc_23 rfl (hb.cell (i := 0) rfl) ?_)
        refine L (S (P_slice Try.underlying23 (csz_of ti_5) rfl (bnd_some (j := 1) rfl rfl) bnd_none (by omega) (by omega)) ?_)
        refine L (S (P_nilCheck rfl) ?_)
        refine L (S (P_fieldAddr fo_57_0 rfl) ?_)
        refine L (S_store ti_23 rfl rfl rfl hb (by simp) ?_)
        rintro w1 hb1 hm1
        refine L_nil ?_
        refine then_n ?_
        refine C_seq ?_
        refine C_region ?_
        refine L (S (P_move rfl) ?_)
        refine L (S (P_assign rfl) ?_)
        refine L_nil ?_
        refine then_n ?_
        refine C_ret ?_
        refine F_ret1 Try.results25 rfl ?_
        refine ⟨?_, IsR.put (bs' := r) (err' := 0) hl (by rw [← he]; exact hb1) hm1 (SlR.cut (m := 1) (l := 1) hr (by simpa using h1)) (by omega) (by omega) ?_, hm1⟩
        · congr 1
          have : ((c.toNat : Int) = 1) ↔ c.toNat = 1 := by omega
          simp only [this]
        · intro a ha
          obtain ⟨a', ha', hab⟩ := cutA_block ha
          rw [← hab]
          exact h3 a' ha'
  · have hR : rBool bs err = (false, bs, err) := by simp [rBool, he]
    rw [hR]
    refine F_enter Try.func25 Try.ntmps25 rfl rfl ?_
    refine C_seq ?_
    refine C_region ?_
    refine L (S (P_assign rfl) ?_)
    refine L_nil ?_
    refine then_n ?_
    refine C_seq ?_
    refine C_seq ?_
    refine C_region ?_
    refine L (S (P_move rfl) ?_)
    refine L (S_call cb_16 rfl (rerr_ret H) ?_)
    rintro _ _ ⟨rfl, rfl⟩
    refine L (S (P_ne rfl rfl (decide_eq_true he)) ?_)
    refine L_nil ?_
    refine then_n ?_
    refine C_true rfl ?_
    refine C_seq ?_
    refine C_region ?_
    refine L (S (P_assign rfl) ?_)
    refine L_nil ?_
    refine then_n ?_
    refine C_ret ?_
    refine then_r ?_
    refine F_ret1 Try.results25 rfl ?_
    exact ⟨rfl, H, Mv.refl w⟩
theorem rbool_nil {w : World} : Ret Try.prog 25 [.pointer none] w fun v w' => v = .bool false ∧ w = w' := by
  refine F_enter Try.func25 Try.ntmps25 rfl rfl ?_
  refine C_seq ?_
  refine C_region ?_
  refine L (S (P_assign rfl) ?_)
  refine L_nil ?_
  refine then_n ?_
  refine C_seq ?_
  refine C_seq ?_
  refine C_region ?_
  refine L (S (P_move rfl) ?_)
  refine L (S_call cb_16 rfl (rerr_nil) ?_)
  rintro _ _ ⟨rfl, rfl⟩
  refine L (S (P_ne rfl rfl (decide_eq_true (by decide))) ?_)
  refine L_nil ?_
  refine then_n ?_
  refine C_true rfl ?_
  refine C_seq ?_
  refine C_region ?_
  refine L (S (P_assign rfl) ?_)
  refine L_nil ?_
  refine then_n ?_
  refine C_ret ?_
  refine then_r ?_
  refine F_ret1 Try.results25 rfl ?_
  exact ⟨rfl, rfl⟩

end Go.Proofs.Ytgicoidmjfhnbaa
