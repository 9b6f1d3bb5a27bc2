/- For every text and every blank: the words of the text, written with a blank behind each, are these words again; the call returns true. The listed variables are laid as the program's text lays them (the card ties them). -/
import Derived.Test.YtmfogoehocjedaaDoorRows
import Derived.Test.YtmfogoehocjedaaDoorLAgainL
import Derived.Test.YtmfogoehocjedaaDoorRowLib
import Derived.Test.YtmfogoehocjedaaDoorTie
import Derived.Test.YtmfogoehocjedaaDoorCards
import Derived.Test.YtmfogoehocjedaaDoorRowLaid
import Derived.WalkKit
import Derived.ProofKit
import Derived.OpenShut
import Derived.ShutString
import Derived.ChangeOld
import Derived.Below
import Derived.SizedLaws
import Derived.Carry
import Derived.LaidLaws
import Derived.SevenTiedAt
namespace Go.Proofs.YtmfogoehocjedaaDoor.lexAgain
open Go.ChangeShapes Go.WideShapes Go.ChangeAt Go.RowKit
open Go.ChangeMaps (open_string shut_string)
set_option linter.unusedVariables false
theorem own : ownKnob Tryd.prog.godebug = none := by kernel_rfl
theorem laidOut : laidOutB Tryd.prog = true := by kernel_rfl
set_option maxRecDepth 100000 in
theorem lifted (os : Os) (started : os.Started) (H : Type) (enc : TypeId × Value → H) :
    ReturnsInHanded {} Tryd.checked os 4 .any (fun w args => (Rows.lexAgainSpec.pre enc Tryd.prog Tryd.f4 Rows.lexAgainRow.domain false w args ∧ laidMet Tryd.prog Rows.lexAgainRow.laid w) ∧ sizedMet enc Tryd.prog Tryd.f4 (OpenSpec.ofChange Rows.lexAgainSpec) false w args) (Rows.lexAgainSpec.post enc Tryd.prog Tryd.f4 false true false false) := by
  refine retRow (C := Tryd.checked) own started (by kernel_rfl) Tryd.func4
    (witRow (enc := enc) (C := Tryd.checked) #[.string ByteArray.empty, .int .u8 0] 8 (by kernel_rfl) (by kernel_rfl) (by kernel_rfl) (by kernel_rfl) (by kernel_rfl) (by kernel_rfl) (by kernel_rfl)) ?_
  intro W base args ds gs before hval0 hW hsz0 hL hsh
  have hx := vr_of_laid hL (mx_of_shape hsh) (List.mem_of_getElem? (i := 3) rfl) (List.mem_of_getElem? (i := 4) rfl) (List.mem_of_getElem? (i := 5) rfl) (List.mem_of_getElem? (i := 6) rfl) (List.mem_of_getElem? (i := 9) rfl) (List.mem_of_getElem? (i := 11) rfl) (List.mem_of_getElem? (i := 12) rfl)
  have hsz : (DataW.weightsEach Tryd.prog (Tryd.f4.params.toList ++ Rows.lexAgainSpec.plain.varTypes Tryd.prog) (ds ++ gs)).all (· ≤ reachBytes) = true := hsz0
  have hval : ∀ (j : Nat) t v, Tryd.f4.params[j]? = some t → args[j]? = some v → Value.okWide Tryd.prog W .any base t v := hval0
  have hW' := hW
  obtain ⟨p, q, hA0, hV, rfl, hfz, hnd⟩ := hW
  have hA : DataW.TrodAll enc Tryd.prog W 0 (fun _ => true) true Tryd.f4.params.toList args.toList ds p := hA0
  rw [Tryd.params4] at hA hval hsz
  obtain ⟨v0, vs0, d0, ds0, p0, q0, hargs, rfl, rfl, h0, r0⟩ := trodAll_cons hA
  obtain ⟨v1, vs1, d1, ds1, p1, q1, rfl, rfl, rfl, h1, r1⟩ := trodAll_cons r0
  obtain ⟨rfl, rfl, rfl⟩ := trodAll_nil r1
  obtain rfl : args = #[v0, v1] := by cases args; simp_all
  obtain ⟨rfl, rfl⟩ := trodVars_none hV
  obtain ⟨l0, rfl, sl0, rfl, rfl, sm0⟩ := open_str hsz (j := 0) (t := 9) rfl rfl Tryd.underlying9 (hval 0 9 v0 rfl rfl) h0
  obtain ⟨a1, rfl, rfl, rfl, w1⟩ := open_int Tryd.underlying5 (hval 1 5 v1 rfl rfl) h1
  clear hA0 hval0 hsz0 hsz
  refine Calls.mono (lexAgain_int hx l0 (by have := sl0; unfold maxLen at this; omega) a1 (lit_u8 w1)) fun e W' ⟨v, he, hv, mv⟩ => ?_
  have bel := mv.below
  subst hv
  subst he
  exact ⟨_, rfl, _, _, _, [], _, [], hW', trodAll_mk1 (shut_bool Tryd.underlying4 _), (trodAll_cons_mk (shut_string Tryd.underlying9 sm0) (trodAll_cons_mk (shut_int Tryd.underlying5 w1) trodAll_mk0)), rfl, bel.frame _, fun h => by cases h⟩
theorem over : Rows.lexAgainRow.holds Tryd.pinned (OpenSpec.ofChange Rows.lexAgainSpec) :=
  OpenClaim.holds_of_wide 4 Tryd.f4 rfl rfl rfl rfl rfl rfl rfl ⟨rfl, rfl, rfl, rfl, rfl⟩ rfl rfl rfl rfl rfl (by kernel_rfl) Tryd.func4 (by kernel_rfl)
    (of_decide_eq_true (by kernel_rfl)) (by unfold Func.isWrapper; first | (rw [if_pos (by decide +kernel)]; kernel_rfl) | (rw [if_neg (by decide +kernel)]; exact ⟨rfl, rfl⟩))
    (fun os started H enc _ => lifted os started H enc)
theorem proved : Rows.LexAgainSaid := over
#print axioms proved
end Go.Proofs.YtmfogoehocjedaaDoor.lexAgain
namespace Go.Proofs.YtmfogoehocjedaaDoor
/-- The tied card. -/
theorem lexAgain_holds : Rows.LexAgainCardSaid :=
  Claim7.holds_tied_plain_at .later [] [.data, .data, .widerDeep, .widerDeep, .data, .data, .data, .data, .data, .sentinel, .sentinel, .pinned, .pinned] true (true, "2298435d1881d1e4f059f8574a7fb01fb80ceab4b168609a4fd3cf2b97bc0df0") true
    lexAgain.proved (fun _ h => by cases h) (by kernel_rfl) (fun _ h => by cases h) lexAgain_row_tie rfl ⟨rfl, rfl⟩ (by kernel_rfl) rfl
    (fun f fn hf hfn => by
      obtain rfl : f = 4 := Option.some.inj ((show Tryd.prog.funcNamed Rows.lexAgainRow.func = some 4 by kernel_rfl).symm.trans hf) |>.symm
      obtain rfl : fn = Tryd.f4 := (Option.some.inj (Tryd.func4.symm.trans hfn)).symm
      exact ⟨by kernel_rfl, fun j t ht => by
        rw [Tryd.params4] at ht
        have h3 : t = 9 ∨ t = 5 := by
          rcases j with _ | j
          · simp at ht; simp [ht]
          rcases j with _ | j
          · simp at ht; simp [ht]
          simp at ht
        rcases h3 with rfl | rfl
        · exact (show Tryd.prog.wantsStandIn 9 = false by kernel_rfl)
        · exact (show Tryd.prog.wantsStandIn 5 = false by kernel_rfl)
      ⟩)
    (by kernel_rfl)
end Go.Proofs.YtmfogoehocjedaaDoor
