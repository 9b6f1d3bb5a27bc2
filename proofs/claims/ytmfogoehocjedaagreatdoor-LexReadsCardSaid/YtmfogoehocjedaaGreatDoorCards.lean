/-
  DERIVED. GIVEN WITH THE SEED: THE CARDS: each row of YtmfogoehocjedaaGreatDoorRows.lean that lists a variable, with what it lists TIED to the program's text (the seventh form; the later family's looks); each row that meets fmt, with fmt's text TOLD by the authors' own Lean function (tested against real Go, not proved from fmt's source: count such statements apart). THE CARD IS WHAT COUNTS. Prove the row's statement (the work); the ties are given (YtmfogoehocjedaaGreatDoorTie.lean); close each card by the builder's one call (the guide's Derived/Test/ToyasCard.lean, 'card_holds'). Laid BY PROGRAM, IN A SANDBOX (cutbox-door.mjs). By AI agents, Wed Nov 11 2026. No macro, syntax, notation, axiom, sorry.
-/
import Derived.Test.YtmfogoehocjedaaGreatDoorRows
import GoSem.ClaimSeven
namespace Go.Proofs.YtmfogoehocjedaaGreatDoor
namespace Rows

/-- THE TIED CARD OF 'dowserlaw10.LexReads'. -/
def lexReadsCard : Claim7 := { stood := { row := lexReadsRow, standIns := [], harness := (true, "3a8731f2853e22cdd859b8af2e66365aa46203a7be1bd5bbc91a8fb0304049ca"), looks := true }, kinds := [], alts := [], laidByText := true, laidKinds := [.data, .data, .widerDeep, .widerDeep, .data, .data, .data, .data, .data, .sentinel, .sentinel, .pinned, .pinned], laidTests := true, laidLooks := .later }
def LexReadsCardSaid : Prop := Claim7.holds Tryz.pinned (.plain (OpenSpec.ofChange lexReadsSpec)) lexReadsCard

/-- THE SECOND FORM's CARD OF 'dowserlaw10.LexReads'. -/
def lexReadsUptoCard : Claim7 := { stood := { row := lexReadsUptoRow, standIns := [], harness := (true, "3a8731f2853e22cdd859b8af2e66365aa46203a7be1bd5bbc91a8fb0304049ca"), looks := true }, kinds := [], alts := [], laidByText := true, laidKinds := [.data, .data, .widerDeep, .widerDeep, .data, .data, .data, .data, .data, .sentinel, .sentinel, .pinned, .pinned], laidTests := true, laidLooks := .later }
def LexReadsUptoCardSaid : Prop := Claim7.holds Tryz.pinned (.plain (OpenSpec.upto lexReadsSpec)) lexReadsUptoCard
end Rows
end Go.Proofs.YtmfogoehocjedaaGreatDoor
