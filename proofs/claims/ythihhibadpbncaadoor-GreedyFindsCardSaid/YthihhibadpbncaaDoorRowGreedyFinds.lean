/- For every case: the set that is found is the document's, and a case that cannot be searched in answers ErrArg and no set; the call returns true. The table of math/bits is laid as the program's text lays it (the card ties it). -/
import Derived.Test.YthihhibadpbncaaDoorRows
import Derived.Test.YthihhibadpbncaaDoorGFindsL
import Derived.Test.YthihhibadpbncaaDoorRowLib
import Derived.Test.YthihhibadpbncaaDoorTie
import Derived.Test.YthihhibadpbncaaDoorCards
import Derived.WalkKit
import Derived.ProofKit
import Derived.OpenShut
import Derived.ShutString
import Derived.ChangeOld
import Derived.Below
import Derived.SizedLaws
import Derived.Carry
import Derived.LaidLaws
import Derived.SevenTiedAt
namespace Go.Proofs.YthihhibadpbncaaDoor.greedyFinds
open Go.ChangeShapes Go.WideShapes Go.ChangeAt Go.RowKit
open Go.ChangeMaps (open_string shut_string)
set_option linter.unusedVariables false
theorem own : ownKnob Tryd.prog.godebug = none := by kernel_rfl
theorem laidOut : laidOutB Tryd.prog = true := by kernel_rfl
set_option maxRecDepth 100000 in
theorem lifted (os : Os) (started : os.Started) (H : Type) (enc : TypeId × Value → H) :
    ReturnsInHanded {} Tryd.checked os 3 .any (fun w args => (Rows.greedyFindsSpec.pre enc Tryd.prog Tryd.f3 Rows.greedyFindsRow.domain false w args ∧ laidMet Tryd.prog Rows.greedyFindsRow.laid w) ∧ sizedMet enc Tryd.prog Tryd.f3 (OpenSpec.ofChange Rows.greedyFindsSpec) false w args) (Rows.greedyFindsSpec.post enc Tryd.prog Tryd.f3 false true false false) := by
  refine returnsInHanded_of_change_and (C := Tryd.checked) (X := fun w _ => laidMet Tryd.prog Rows.greedyFindsRow.laid w) (fun _ _ _ hh h => h.of_heap hh) own started (by kernel_rfl) Tryd.func3
    (ChangeSpec.witness_at (enc := enc) (C := Tryd.checked) (os := os) (X := fun w _ => laidMet Tryd.prog Rows.greedyFindsRow.laid w) false (laidWorld os) #[.agg #[.slice none 0 0, .int .i64 0, .int .i64 0, .int .i64 0, .int .i64 0, .slice none 0 0, .slice none 0 0]] 8 rfl (by kernel_rfl) (by kernel_rfl) (by kernel_rfl) (by kernel_rfl) (by kernel_rfl) (laid_met os _)) ?_
  intro W base args ds gs before hval0 hW hcnd hsz0 hL _
  have hT := tab_of_laid hL
  have hsz : (DataW.weightsEach Tryd.prog (Tryd.f3.params.toList ++ Rows.greedyFindsSpec.plain.varTypes Tryd.prog) (ds ++ gs)).all (· ≤ reachBytes) = true := hsz0
  have hval : ∀ (j : Nat) t v, Tryd.f3.params[j]? = some t → args[j]? = some v → Value.okWide Tryd.prog W .any base t v := hval0
  have hW' := hW
  obtain ⟨p, q, hA0, hV, rfl, hfz, hnd⟩ := hW
  have hA : DataW.TrodAll enc Tryd.prog W 0 (fun _ => true) true Tryd.f3.params.toList args.toList ds p := hA0
  rw [Tryd.params3] at hA hval hsz
  obtain ⟨v0, vs0, d0, ds0, p0, q0, hargs, rfl, rfl, h0, r0⟩ := trodAll_cons hA
  obtain ⟨rfl, rfl, rfl⟩ := trodAll_nil r0
  obtain rfl : args = #[v0] := by cases args; simp_all
  obtain ⟨rfl, rfl⟩ := trodVars_none hV
  have k0 := h0
  have lt0 : ∀ x ∈ p0, x.block < W.heap.size := by obtain ⟨m, hm⟩ := k0; exact DataW.trod_lt m _ _ _ hm
  obtain ⟨cA0, ccap0, cb0, cm0, ck0, cs0, cA50, cc50, cA60, cc60, csz0, cof0, ctw0, hc0⟩ := open_case (hval 0 25 v0 rfl rfl) h0
  clear hA0 hval0 hsz0 hsz
  refine Calls.mono (greedyFinds_ret hT hc0) fun e W' ⟨v, he, hv, mv⟩ => ?_
  have bel := mv.below
  subst hv
  subst he
  exact ⟨_, rfl, _, _, _, [], _, [], hW', trodAll_mk1 (shut_bool Tryd.underlying4 _), (trodAll_cons_mk (Below.trod laidOut (by kernel_rfl) (of_decide_eq_true (by kernel_rfl)) k0 bel lt0) trodAll_mk0), rfl, bel.frame _, fun h => by cases h⟩
theorem over : Rows.greedyFindsRow.holds Tryd.pinned (OpenSpec.ofChange Rows.greedyFindsSpec) :=
  OpenClaim.holds_of_wide 3 Tryd.f3 rfl rfl rfl rfl rfl rfl rfl ⟨rfl, rfl, rfl, rfl, rfl⟩ rfl rfl rfl rfl rfl (by kernel_rfl) Tryd.func3 (by kernel_rfl)
    (of_decide_eq_true (by kernel_rfl)) (by unfold Func.isWrapper; first | (rw [if_pos (by decide +kernel)]; kernel_rfl) | (rw [if_neg (by decide +kernel)]; exact ⟨rfl, rfl⟩))
    (fun os started H enc _ => lifted os started H enc)
theorem proved : Rows.GreedyFindsSaid := over
#print axioms proved
end Go.Proofs.YthihhibadpbncaaDoor.greedyFinds
namespace Go.Proofs.YthihhibadpbncaaDoor
/-- The tied card. -/
theorem greedyFinds_holds : Rows.GreedyFindsCardSaid :=
  Claim7.holds_tied_plain_at .later [] [.data] true (true, "ce10f0cdbc3ae3826ff099d637b7869a0cebfb041287bf2592ed1add4de23639") false
    greedyFinds.proved (fun _ h => by cases h) (by kernel_rfl) (fun _ h => by cases h) greedyFinds_row_tie rfl ⟨rfl, rfl⟩ (by kernel_rfl) rfl
    (fun f fn hf hfn => by
      obtain rfl : f = 3 := Option.some.inj ((show Tryd.prog.funcNamed Rows.greedyFindsRow.func = some 3 by kernel_rfl).symm.trans hf) |>.symm
      obtain rfl : fn = Tryd.f3 := (Option.some.inj (Tryd.func3.symm.trans hfn)).symm
      exact ⟨by kernel_rfl, fun j t ht => by
        rw [Tryd.params3] at ht
        have h3 : t = 25 := by
          rcases j with _ | j
          · simp at ht; simp [ht]
          simp at ht
        rcases h3 with rfl
        · exact (show Tryd.prog.wantsStandIn 25 = false by kernel_rfl)
      ⟩)
    (by kernel_rfl)
end Go.Proofs.YthihhibadpbncaaDoor
