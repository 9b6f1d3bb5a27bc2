/-
  DERIVED. GIVEN WITH THE SEED: THE CARDS: each row of YtmfogoehocjedaaDoorRows.lean that lists a variable, with what it lists TIED to the program's text (the seventh form; the later family's looks); each row that meets fmt, with fmt's text TOLD by the authors' own Lean function (tested against real Go, not proved from fmt's source: count such statements apart). THE CARD IS WHAT COUNTS. Prove the row's statement (the work); the ties are given (YtmfogoehocjedaaDoorTie.lean); close each card by the builder's one call (the guide's Derived/Test/ToyasCard.lean, 'card_holds'). Laid BY PROGRAM, IN A SANDBOX (cutbox-door.mjs). By AI agents, Wed Nov 11 2026. No macro, syntax, notation, axiom, sorry.
-/
import Derived.Test.YtmfogoehocjedaaDoorRows
import GoSem.ClaimSeven
namespace Go.Proofs.YtmfogoehocjedaaDoor
namespace Rows

/-- THE TIED CARD OF 'dowserlaw10.LexKeywords'. -/
def lexKeywordsCard : Claim7 := { stood := { row := lexKeywordsRow, standIns := [], harness := (true, "2298435d1881d1e4f059f8574a7fb01fb80ceab4b168609a4fd3cf2b97bc0df0"), looks := true }, kinds := [], alts := [], laidByText := true, laidKinds := [.data, .data, .widerDeep, .widerDeep, .data, .data, .data, .data, .data, .sentinel, .sentinel, .pinned, .pinned], laidTests := true, laidLooks := .later }
def LexKeywordsCardSaid : Prop := Claim7.holds Tryd.pinned (.plain (OpenSpec.ofChange lexKeywordsSpec)) lexKeywordsCard

/-- THE TIED CARD OF 'dowserlaw10.LexAgain'. -/
def lexAgainCard : Claim7 := { stood := { row := lexAgainRow, standIns := [], harness := (true, "2298435d1881d1e4f059f8574a7fb01fb80ceab4b168609a4fd3cf2b97bc0df0"), looks := true }, kinds := [], alts := [], laidByText := true, laidKinds := [.data, .data, .widerDeep, .widerDeep, .data, .data, .data, .data, .data, .sentinel, .sentinel, .pinned, .pinned], laidTests := true, laidLooks := .later }
def LexAgainCardSaid : Prop := Claim7.holds Tryd.pinned (.plain (OpenSpec.ofChange lexAgainSpec)) lexAgainCard

/-- THE TIED CARD OF 'dowserlaw10.LexPlaces'. -/
def lexPlacesCard : Claim7 := { stood := { row := lexPlacesRow, standIns := [], harness := (true, "2298435d1881d1e4f059f8574a7fb01fb80ceab4b168609a4fd3cf2b97bc0df0"), looks := true }, kinds := [], alts := [], laidByText := true, laidKinds := [.data, .data, .widerDeep, .widerDeep, .data, .data, .data, .data, .data, .sentinel, .sentinel, .pinned, .pinned], laidTests := true, laidLooks := .later }
def LexPlacesCardSaid : Prop := Claim7.holds Tryd.pinned (.plain (OpenSpec.ofChange lexPlacesSpec)) lexPlacesCard

/-- THE TIED CARD OF 'dowserlaw10.LexBehind'. -/
def lexBehindCard : Claim7 := { stood := { row := lexBehindRow, standIns := [], harness := (true, "2298435d1881d1e4f059f8574a7fb01fb80ceab4b168609a4fd3cf2b97bc0df0"), looks := true }, kinds := [], alts := [], laidByText := true, laidKinds := [.data, .data, .widerDeep, .widerDeep, .data, .data, .data, .data, .data, .sentinel, .sentinel, .pinned, .pinned], laidTests := true, laidLooks := .later }
def LexBehindCardSaid : Prop := Claim7.holds Tryd.pinned (.plain (OpenSpec.ofChange lexBehindSpec)) lexBehindCard

/-- THE SECOND FORM's CARD OF 'dowserlaw10.LexKeywords'. -/
def lexKeywordsUptoCard : Claim7 := { stood := { row := lexKeywordsUptoRow, standIns := [], harness := (true, "2298435d1881d1e4f059f8574a7fb01fb80ceab4b168609a4fd3cf2b97bc0df0"), looks := true }, kinds := [], alts := [], laidByText := true, laidKinds := [.data, .data, .widerDeep, .widerDeep, .data, .data, .data, .data, .data, .sentinel, .sentinel, .pinned, .pinned], laidTests := true, laidLooks := .later }
def LexKeywordsUptoCardSaid : Prop := Claim7.holds Tryd.pinned (.plain (OpenSpec.upto lexKeywordsSpec)) lexKeywordsUptoCard

/-- THE SECOND FORM's CARD OF 'dowserlaw10.LexAgain'. -/
def lexAgainUptoCard : Claim7 := { stood := { row := lexAgainUptoRow, standIns := [], harness := (true, "2298435d1881d1e4f059f8574a7fb01fb80ceab4b168609a4fd3cf2b97bc0df0"), looks := true }, kinds := [], alts := [], laidByText := true, laidKinds := [.data, .data, .widerDeep, .widerDeep, .data, .data, .data, .data, .data, .sentinel, .sentinel, .pinned, .pinned], laidTests := true, laidLooks := .later }
def LexAgainUptoCardSaid : Prop := Claim7.holds Tryd.pinned (.plain (OpenSpec.upto lexAgainSpec)) lexAgainUptoCard

/-- THE SECOND FORM's CARD OF 'dowserlaw10.LexPlaces'. -/
def lexPlacesUptoCard : Claim7 := { stood := { row := lexPlacesUptoRow, standIns := [], harness := (true, "2298435d1881d1e4f059f8574a7fb01fb80ceab4b168609a4fd3cf2b97bc0df0"), looks := true }, kinds := [], alts := [], laidByText := true, laidKinds := [.data, .data, .widerDeep, .widerDeep, .data, .data, .data, .data, .data, .sentinel, .sentinel, .pinned, .pinned], laidTests := true, laidLooks := .later }
def LexPlacesUptoCardSaid : Prop := Claim7.holds Tryd.pinned (.plain (OpenSpec.upto lexPlacesSpec)) lexPlacesUptoCard

/-- THE SECOND FORM's CARD OF 'dowserlaw10.LexBehind'. -/
def lexBehindUptoCard : Claim7 := { stood := { row := lexBehindUptoRow, standIns := [], harness := (true, "2298435d1881d1e4f059f8574a7fb01fb80ceab4b168609a4fd3cf2b97bc0df0"), looks := true }, kinds := [], alts := [], laidByText := true, laidKinds := [.data, .data, .widerDeep, .widerDeep, .data, .data, .data, .data, .data, .sentinel, .sentinel, .pinned, .pinned], laidTests := true, laidLooks := .later }
def LexBehindUptoCardSaid : Prop := Claim7.holds Tryd.pinned (.plain (OpenSpec.upto lexBehindSpec)) lexBehindUptoCard
end Rows
end Go.Proofs.YtmfogoehocjedaaDoor
