/- For every list of things done to a schema: each answer is the document's, what was handed in stays, and what is found is the document's: the call returns true. The listed variables are laid as the program's text lays them (the card ties them). -/
import Derived.Test.YtnoioimphcmeiaaGreatDoorRows
import Derived.Test.YtnoioimphcmeiaaGreatDoorK6
import Derived.Test.YtnoioimphcmeiaaGreatDoorTie
import Derived.Test.YtnoioimphcmeiaaGreatDoorCards
import Derived.WalkKit
import Derived.ProofKit
import Derived.OpenShut
import Derived.ShutString
import Derived.ChangeOld
import Derived.Below
import Derived.SizedLaws
import Derived.Carry
import Derived.LaidLaws
import Derived.SevenTiedAt
namespace Go.Proofs.YtnoioimphcmeiaaGreatDoor.schemaPlays
open Go.ChangeShapes Go.WideShapes Go.ChangeAt Go.RowKit
open Go.ChangeMaps (open_string shut_string)
set_option linter.unusedVariables false
theorem own : ownKnob Tryz.prog.godebug = none := by kernel_rfl
theorem laidOut : laidOutB Tryz.prog = true := by kernel_rfl
set_option maxRecDepth 100000 in
theorem lifted (os : Os) (started : os.Started) (H : Type) (enc : TypeId × Value → H) :
    ReturnsInHanded {} Tryz.checked os 5 .any (fun w args => (Rows.schemaPlaysSpec.pre enc Tryz.prog Tryz.f5 Rows.schemaPlaysRow.domain false w args ∧ laidMet Tryz.prog Rows.schemaPlaysRow.laid w) ∧ sizedMet enc Tryz.prog Tryz.f5 (OpenSpec.ofChange Rows.schemaPlaysSpec) false w args) (Rows.schemaPlaysSpec.post enc Tryz.prog Tryz.f5 false true false false) := by
  refine retRow (C := Tryz.checked) own started (by kernel_rfl) Tryz.func5
    (witRow (enc := enc) (C := Tryz.checked) #[.slice none 0 0] 8 (by kernel_rfl) (by kernel_rfl) (by kernel_rfl) (by kernel_rfl) (by kernel_rfl) (by kernel_rfl) (by kernel_rfl)) ?_
  intro W base args ds gs before hval0 hW hsz0 hL hsh
  have hx := vr_of_laid hL (mx_of_shape hsh) (List.mem_of_getElem? (i := 3) rfl) (List.mem_of_getElem? (i := 4) rfl) (List.mem_of_getElem? (i := 5) rfl) (List.mem_of_getElem? (i := 6) rfl) (List.mem_of_getElem? (i := 9) rfl) (List.mem_of_getElem? (i := 11) rfl) (List.mem_of_getElem? (i := 12) rfl)
  have hsz : (DataW.weightsEach Tryz.prog (Tryz.f5.params.toList ++ Rows.schemaPlaysSpec.plain.varTypes Tryz.prog) (ds ++ gs)).all (· ≤ reachBytes) = true := hsz0
  have hval : ∀ (j : Nat) t v, Tryz.f5.params[j]? = some t → args[j]? = some v → Value.okWide Tryz.prog W .any base t v := hval0
  have hW' := hW
  obtain ⟨p, q, hA0, hV, rfl, hfz, hnd⟩ := hW
  have hA : DataW.TrodAll enc Tryz.prog W 0 (fun _ => true) true Tryz.f5.params.toList args.toList ds p := hA0
  rw [Tryz.params5] at hA hval hsz
  obtain ⟨v0, vs0, d0, ds0, p0, q0, hargs, rfl, rfl, h0, r0⟩ := trodAll_cons hA
  obtain ⟨rfl, rfl, rfl⟩ := trodAll_nil r0
  obtain rfl : args = #[v0] := by cases args; simp_all
  obtain ⟨rfl, rfl⟩ := trodVars_none hV
  have k0 := h0
  have lt0 : ∀ x ∈ p0, x.block < W.heap.size := by obtain ⟨m, hm⟩ := k0; exact DataW.trod_lt m _ _ _ hm
  obtain ⟨oA0, oc0, ol0, rfl, os0, oo0, on0⟩ := open_ops (hval 0 24 v0 rfl rfl) h0
  clear hA0 hval0 hsz0 hsz
  refine Calls.mono (schemaPlays_ret hx os0 oo0 on0) fun e W' ⟨v, he, hv, mv⟩ => ?_
  have bel := mv.below
  subst hv
  subst he
  exact ⟨_, rfl, _, _, _, [], _, [], hW', trodAll_mk1 (shut_bool Tryz.underlying4 _), (trodAll_cons_mk (Below.trod laidOut (by kernel_rfl) (of_decide_eq_true (by kernel_rfl)) k0 bel lt0) trodAll_mk0), rfl, bel.frame _, fun h => by cases h⟩
theorem over : Rows.schemaPlaysRow.holds Tryz.pinned (OpenSpec.ofChange Rows.schemaPlaysSpec) :=
  OpenClaim.holds_of_wide 5 Tryz.f5 rfl rfl rfl rfl rfl rfl rfl ⟨rfl, rfl, rfl, rfl, rfl⟩ rfl rfl rfl rfl rfl (by kernel_rfl) Tryz.func5 (by kernel_rfl)
    (of_decide_eq_true (by kernel_rfl)) (by unfold Func.isWrapper; first | (rw [if_pos (by decide +kernel)]; kernel_rfl) | (rw [if_neg (by decide +kernel)]; exact ⟨rfl, rfl⟩))
    (fun os started H enc _ => lifted os started H enc)
theorem proved : Rows.SchemaPlaysSaid := over
#print axioms proved
end Go.Proofs.YtnoioimphcmeiaaGreatDoor.schemaPlays
namespace Go.Proofs.YtnoioimphcmeiaaGreatDoor
/-- The tied card. -/
theorem schemaPlays_holds : Rows.SchemaPlaysCardSaid :=
  Claim7.holds_tied_plain_at .later [] [.data, .data, .widerDeep, .widerDeep, .data, .data, .data, .data, .data, .sentinel, .sentinel, .pinned, .pinned] true (true, "819685bcc30e8d08938f657097a3cd16271e1645449544a6a6bf577a463233bd") true
    schemaPlays.proved (fun _ h => by cases h) (by kernel_rfl) (fun _ h => by cases h) schemaPlays_row_tie rfl ⟨rfl, rfl⟩ (by kernel_rfl) rfl
    (fun f fn hf hfn => by
      obtain rfl : f = 5 := Option.some.inj ((show Tryz.prog.funcNamed Rows.schemaPlaysRow.func = some 5 by kernel_rfl).symm.trans hf) |>.symm
      obtain rfl : fn = Tryz.f5 := (Option.some.inj (Tryz.func5.symm.trans hfn)).symm
      exact ⟨by kernel_rfl, fun j t ht => by
        rw [Tryz.params5] at ht
        have h3 : t = 24 := by
          rcases j with _ | j
          · simp at ht; simp [ht]
          simp at ht
        rcases h3 with rfl
        · exact (show Tryz.prog.wantsStandIn 24 = false by kernel_rfl)
      ⟩)
    (by kernel_rfl)
end Go.Proofs.YtnoioimphcmeiaaGreatDoor
