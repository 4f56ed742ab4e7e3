/-
  DERIVED. GIVEN WITH THE SEED: THE CARDS: each row of YtdlmdaononclgaaGreatDoorRows.lean that lists a variable, with what it lists TIED to the program's text (the seventh form; the later family's looks); each row that meets fmt, with fmt's text TOLD by the authors' own Lean function (tested against real Go, not proved from fmt's source: count such statements apart). THE CARD IS WHAT COUNTS. Prove the row's statement (the work); the ties are given (YtdlmdaononclgaaGreatDoorTie.lean); close each card by the builder's one call (the guide's Derived/Test/ToyasCard.lean, 'card_holds'). Laid BY PROGRAM, IN A SANDBOX (cutbox-door.mjs). By AI agents, Wed Nov 11 2026. No macro, syntax, notation, axiom, sorry.
-/
import Derived.Test.YtdlmdaononclgaaGreatDoorRows
import GoSem.ClaimSeven
namespace Go.Proofs.YtdlmdaononclgaaGreatDoor
namespace Rows

/-- THE TIED CARD OF 'moorsomlaw01.WeighTexts'. -/
def weighTextsCard : Claim7 := { stood := { row := weighTextsRow, standIns := [], harness := (true, "c95d9c1ee5ead5ec5ea885b41d17c6530ef58839d5dcec01777a153bdbeeb94d"), looks := true }, kinds := [], alts := [], laidByText := true, laidKinds := [.data, .data, .data, .data, .sentinel, .sentinel, .pinned], laidTests := true, laidLooks := .later }
def WeighTextsCardSaid : Prop := Claim7.holds Tryz.pinned (.plain (OpenSpec.ofChange weighTextsSpec)) weighTextsCard

/-- THE SECOND FORM's CARD OF 'moorsomlaw01.WeighTexts'. -/
def weighTextsUptoCard : Claim7 := { stood := { row := weighTextsUptoRow, standIns := [], harness := (true, "c95d9c1ee5ead5ec5ea885b41d17c6530ef58839d5dcec01777a153bdbeeb94d"), looks := true }, kinds := [], alts := [], laidByText := true, laidKinds := [.data, .data, .data, .data, .sentinel, .sentinel, .pinned], laidTests := true, laidLooks := .later }
def WeighTextsUptoCardSaid : Prop := Claim7.holds Tryz.pinned (.plain (OpenSpec.upto weighTextsSpec)) weighTextsUptoCard
end Rows
end Go.Proofs.YtdlmdaononclgaaGreatDoor
