/- For every text and every bound on its length the program's words, or the place and the number of its error, are the document's: the call returns true. The listed variables are laid as the program's text lays them (the card ties them). -/
import Derived.Test.YtmfogoehocjedaaGreatDoorRows
import Derived.Test.YtmfogoehocjedaaGreatDoorLReadsL
import Derived.Test.YtmfogoehocjedaaGreatDoorRowLib
import Derived.Test.YtmfogoehocjedaaGreatDoorTie
import Derived.Test.YtmfogoehocjedaaGreatDoorCards
import Derived.Test.YtmfogoehocjedaaGreatDoorRowLaid
import Derived.WalkKit
import Derived.ProofKit
import Derived.OpenShut
import Derived.ShutString
import Derived.ChangeOld
import Derived.Below
import Derived.SizedLaws
import Derived.Carry
import Derived.LaidLaws
import Derived.SevenTiedAt
namespace Go.Proofs.YtmfogoehocjedaaGreatDoor.lexReads
open Go.ChangeShapes Go.WideShapes Go.ChangeAt Go.RowKit
open Go.ChangeMaps (open_string shut_string)
set_option linter.unusedVariables false
theorem own : ownKnob Tryz.prog.godebug = none := by kernel_rfl
theorem laidOut : laidOutB Tryz.prog = true := by kernel_rfl
set_option maxRecDepth 100000 in
theorem lifted (os : Os) (started : os.Started) (H : Type) (enc : TypeId × Value → H) :
    ReturnsInHanded {} Tryz.checked os 3 .any (fun w args => (Rows.lexReadsSpec.pre enc Tryz.prog Tryz.f3 Rows.lexReadsRow.domain false w args ∧ laidMet Tryz.prog Rows.lexReadsRow.laid w) ∧ sizedMet enc Tryz.prog Tryz.f3 (OpenSpec.ofChange Rows.lexReadsSpec) false w args) (Rows.lexReadsSpec.post enc Tryz.prog Tryz.f3 false true false false) := by
  refine retRow (C := Tryz.checked) own started (by kernel_rfl) Tryz.func3
    (witRow (enc := enc) (C := Tryz.checked) #[.string ByteArray.empty, .int .i64 0] 8 (by kernel_rfl) (by kernel_rfl) (by kernel_rfl) (by kernel_rfl) (by kernel_rfl) (by kernel_rfl) (by kernel_rfl)) ?_
  intro W base args ds gs before hval0 hW hsz0 hL hsh
  have hx := vr_of_laid hL (mx_of_shape hsh) (List.mem_of_getElem? (i := 3) rfl) (List.mem_of_getElem? (i := 4) rfl) (List.mem_of_getElem? (i := 5) rfl) (List.mem_of_getElem? (i := 6) rfl) (List.mem_of_getElem? (i := 9) rfl) (List.mem_of_getElem? (i := 11) rfl) (List.mem_of_getElem? (i := 12) rfl)
  have hsz : (DataW.weightsEach Tryz.prog (Tryz.f3.params.toList ++ Rows.lexReadsSpec.plain.varTypes Tryz.prog) (ds ++ gs)).all (· ≤ reachBytes) = true := hsz0
  have hval : ∀ (j : Nat) t v, Tryz.f3.params[j]? = some t → args[j]? = some v → Value.okWide Tryz.prog W .any base t v := hval0
  have hW' := hW
  obtain ⟨p, q, hA0, hV, rfl, hfz, hnd⟩ := hW
  have hA : DataW.TrodAll enc Tryz.prog W 0 (fun _ => true) true Tryz.f3.params.toList args.toList ds p := hA0
  rw [Tryz.params3] at hA hval hsz
  obtain ⟨v0, vs0, d0, ds0, p0, q0, hargs, rfl, rfl, h0, r0⟩ := trodAll_cons hA
  obtain ⟨v1, vs1, d1, ds1, p1, q1, rfl, rfl, rfl, h1, r1⟩ := trodAll_cons r0
  obtain ⟨rfl, rfl, rfl⟩ := trodAll_nil r1
  obtain rfl : args = #[v0, v1] := by cases args; simp_all
  obtain ⟨rfl, rfl⟩ := trodVars_none hV
  obtain ⟨l0, rfl, sl0, rfl, rfl, sm0⟩ := open_str hsz (j := 0) (t := 9) rfl rfl Tryz.underlying9 (hval 0 9 v0 rfl rfl) h0
  obtain ⟨a1, rfl, rfl, rfl, w1⟩ := open_int Tryz.underlying3 (hval 1 3 v1 rfl rfl) h1
  obtain ⟨ml1, mh1⟩ := lit_i64 w1
  clear hA0 hval0 hsz0 hsz
  refine Calls.mono (lexReads_ret hx l0 (by have := sl0; unfold maxLen at this; omega) a1) fun e W' ⟨v, he, hv, mv⟩ => ?_
  have bel := mv.below
  subst hv
  subst he
  exact ⟨_, rfl, _, _, _, [], _, [], hW', trodAll_mk1 (shut_bool Tryz.underlying4 _), (trodAll_cons_mk (shut_string Tryz.underlying9 sm0) (trodAll_cons_mk (shut_int Tryz.underlying3 w1) trodAll_mk0)), rfl, bel.frame _, fun h => by cases h⟩
theorem over : Rows.lexReadsRow.holds Tryz.pinned (OpenSpec.ofChange Rows.lexReadsSpec) :=
  OpenClaim.holds_of_wide 3 Tryz.f3 rfl rfl rfl rfl rfl rfl rfl ⟨rfl, rfl, rfl, rfl, rfl⟩ rfl rfl rfl rfl rfl (by kernel_rfl) Tryz.func3 (by kernel_rfl)
    (of_decide_eq_true (by kernel_rfl)) (by unfold Func.isWrapper; first | (rw [if_pos (by decide +kernel)]; kernel_rfl) | (rw [if_neg (by decide +kernel)]; exact ⟨rfl, rfl⟩))
    (fun os started H enc _ => lifted os started H enc)
theorem proved : Rows.LexReadsSaid := over
#print axioms proved
end Go.Proofs.YtmfogoehocjedaaGreatDoor.lexReads
namespace Go.Proofs.YtmfogoehocjedaaGreatDoor
/-- The tied card. -/
theorem lexReads_holds : Rows.LexReadsCardSaid :=
  Claim7.holds_tied_plain_at .later [] [.data, .data, .widerDeep, .widerDeep, .data, .data, .data, .data, .data, .sentinel, .sentinel, .pinned, .pinned] true (true, "3a8731f2853e22cdd859b8af2e66365aa46203a7be1bd5bbc91a8fb0304049ca") true
    lexReads.proved (fun _ h => by cases h) (by kernel_rfl) (fun _ h => by cases h) lexReads_row_tie rfl ⟨rfl, rfl⟩ (by kernel_rfl) rfl
    (fun f fn hf hfn => by
      obtain rfl : f = 3 := Option.some.inj ((show Tryz.prog.funcNamed Rows.lexReadsRow.func = some 3 by kernel_rfl).symm.trans hf) |>.symm
      obtain rfl : fn = Tryz.f3 := (Option.some.inj (Tryz.func3.symm.trans hfn)).symm
      exact ⟨by kernel_rfl, fun j t ht => by
        rw [Tryz.params3] at ht
        have h3 : t = 9 ∨ t = 3 := by
          rcases j with _ | j
          · simp at ht; simp [ht]
          rcases j with _ | j
          · simp at ht; simp [ht]
          simp at ht
        rcases h3 with rfl | rfl
        · exact (show Tryz.prog.wantsStandIn 9 = false by kernel_rfl)
        · exact (show Tryz.prog.wantsStandIn 3 = false by kernel_rfl)
      ⟩)
    (by kernel_rfl)
end Go.Proofs.YtmfogoehocjedaaGreatDoor
