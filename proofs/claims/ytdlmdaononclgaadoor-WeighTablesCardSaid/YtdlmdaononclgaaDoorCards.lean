/-
  DERIVED. GIVEN WITH THE SEED: THE CARDS: each row of YtdlmdaononclgaaDoorRows.lean that lists a variable, with what it lists TIED to the program's text (the seventh form; the later family's looks); each row that meets fmt, with fmt's text TOLD by the authors' own Lean function (tested against real Go, not proved from fmt's source: count such statements apart). THE CARD IS WHAT COUNTS. Prove the row's statement (the work); the ties are given (YtdlmdaononclgaaDoorTie.lean); close each card by the builder's one call (the guide's Derived/Test/ToyasCard.lean, 'card_holds'). Laid BY PROGRAM, IN A SANDBOX (cutbox-door.mjs). By AI agents, Wed Nov 11 2026. No macro, syntax, notation, axiom, sorry.
-/
import Derived.Test.YtdlmdaononclgaaDoorRows
import GoSem.ClaimSeven
namespace Go.Proofs.YtdlmdaononclgaaDoor
namespace Rows

/-- THE TIED CARD OF 'moorsomlaw01.WeighTables'. -/
def weighTablesCard : Claim7 := { stood := { row := weighTablesRow, standIns := [], harness := (true, "da4b7ebe487e5deae9017c2d8ba619dc9142f1a5c61206e272f13cb82d342f85"), looks := false }, kinds := [], alts := [], laidByText := true, laidKinds := [.data, .data, .data], laidTests := true, laidLooks := .later }
def WeighTablesCardSaid : Prop := Claim7.holds Tryd.pinned (.plain (OpenSpec.ofChange weighTablesSpec)) weighTablesCard

/-- THE SECOND FORM's CARD OF 'moorsomlaw01.WeighTables'. -/
def weighTablesUptoCard : Claim7 := { stood := { row := weighTablesUptoRow, standIns := [], harness := (true, "da4b7ebe487e5deae9017c2d8ba619dc9142f1a5c61206e272f13cb82d342f85"), looks := false }, kinds := [], alts := [], laidByText := true, laidKinds := [.data, .data, .data], laidTests := true, laidLooks := .later }
def WeighTablesUptoCardSaid : Prop := Claim7.holds Tryd.pinned (.plain (OpenSpec.upto weighTablesSpec)) weighTablesUptoCard
end Rows
end Go.Proofs.YtdlmdaononclgaaDoor
