/-
  DERIVED. GIVEN WITH THE SEED: THE CARDS: each row of YtjflgemfeofciaaGreatDoorRows.lean that lists a variable, with what it lists TIED to the program's text (the seventh form; the later family's looks); each row that meets fmt, with fmt's text TOLD by the authors' own Lean function (tested against real Go, not proved from fmt's source: count such statements apart). THE CARD IS WHAT COUNTS. Prove the row's statement (the work); the ties are given (YtjflgemfeofciaaGreatDoorTie.lean); close each card by the builder's one call (the guide's Derived/Test/ToyasCard.lean, 'card_holds'). Laid BY PROGRAM, IN A SANDBOX (cutbox-door.mjs). By AI agents, Wed Nov 11 2026. No macro, syntax, notation, axiom, sorry.
-/
import Derived.Test.YtjflgemfeofciaaGreatDoorRows
import GoSem.ClaimSeven
namespace Go.Proofs.YtjflgemfeofciaaGreatDoor
namespace Rows

/-- THE TIED CARD OF 'moorsomlaw04.CodeChecks'. -/
def codeChecksCard : Claim7 := { stood := { row := codeChecksRow, standIns := [], harness := (true, "c425e15716b5c88f07123c3a7d76b52af6bf108a5cf11e8ed83380acb97cf06d"), looks := true }, kinds := [], alts := [], laidByText := true, laidKinds := [.data, .data, .data, .data, .sentinel, .sentinel, .pinned], laidTests := true, laidLooks := .later }
def CodeChecksCardSaid : Prop := Claim7.holds Tryz.pinned (.plain (OpenSpec.ofChange codeChecksSpec)) codeChecksCard

/-- THE TIED CARD OF 'moorsomlaw04.CodeJudges'. -/
def codeJudgesCard : Claim7 := { stood := { row := codeJudgesRow, standIns := [], harness := (true, "c425e15716b5c88f07123c3a7d76b52af6bf108a5cf11e8ed83380acb97cf06d"), looks := true }, kinds := [], alts := [], laidByText := true, laidKinds := [.data, .data, .data, .data, .sentinel, .sentinel, .pinned], laidTests := true, laidLooks := .later }
def CodeJudgesCardSaid : Prop := Claim7.holds Tryz.pinned (.plain (OpenSpec.ofChange codeJudgesSpec)) codeJudgesCard

/-- THE TIED CARD OF 'moorsomlaw04.CodeValues'. -/
def codeValuesCard : Claim7 := { stood := { row := codeValuesRow, standIns := [], harness := (true, "c425e15716b5c88f07123c3a7d76b52af6bf108a5cf11e8ed83380acb97cf06d"), looks := true }, kinds := [], alts := [], laidByText := true, laidKinds := [.data, .data, .data, .data, .sentinel, .sentinel, .pinned], laidTests := true, laidLooks := .later }
def CodeValuesCardSaid : Prop := Claim7.holds Tryz.pinned (.plain (OpenSpec.ofChange codeValuesSpec)) codeValuesCard

/-- THE TIED CARD OF 'moorsomlaw04.CodeCases'. -/
def codeCasesCard : Claim7 := { stood := { row := codeCasesRow, standIns := [], harness := (true, "c425e15716b5c88f07123c3a7d76b52af6bf108a5cf11e8ed83380acb97cf06d"), looks := true }, kinds := [], alts := [], laidByText := true, laidKinds := [.data, .data, .data, .data, .sentinel, .sentinel, .pinned], laidTests := true, laidLooks := .later }
def CodeCasesCardSaid : Prop := Claim7.holds Tryz.pinned (.plain (OpenSpec.ofChange codeCasesSpec)) codeCasesCard

/-- THE TIED CARD OF 'moorsomlaw04.CodeRests'. -/
def codeRestsCard : Claim7 := { stood := { row := codeRestsRow, standIns := [], harness := (true, "c425e15716b5c88f07123c3a7d76b52af6bf108a5cf11e8ed83380acb97cf06d"), looks := true }, kinds := [], alts := [], laidByText := true, laidKinds := [.data, .data, .data, .data, .sentinel, .sentinel, .pinned], laidTests := true, laidLooks := .later }
def CodeRestsCardSaid : Prop := Claim7.holds Tryz.pinned (.plain (OpenSpec.ofChange codeRestsSpec)) codeRestsCard

/-- THE TIED CARD OF 'moorsomlaw04.CodeNarrows'. -/
def codeNarrowsCard : Claim7 := { stood := { row := codeNarrowsRow, standIns := [], harness := (true, "c425e15716b5c88f07123c3a7d76b52af6bf108a5cf11e8ed83380acb97cf06d"), looks := true }, kinds := [], alts := [], laidByText := true, laidKinds := [.data, .data, .data, .data, .sentinel, .sentinel, .pinned], laidTests := true, laidLooks := .later }
def CodeNarrowsCardSaid : Prop := Claim7.holds Tryz.pinned (.plain (OpenSpec.ofChange codeNarrowsSpec)) codeNarrowsCard

/-- THE TIED CARD OF 'moorsomlaw04.CodePlans'. -/
def codePlansCard : Claim7 := { stood := { row := codePlansRow, standIns := [], harness := (true, "c425e15716b5c88f07123c3a7d76b52af6bf108a5cf11e8ed83380acb97cf06d"), looks := true }, kinds := [], alts := [], laidByText := true, laidKinds := [.data, .data, .data, .data, .sentinel, .sentinel, .pinned], laidTests := true, laidLooks := .later }
def CodePlansCardSaid : Prop := Claim7.holds Tryz.pinned (.plain (OpenSpec.ofChange codePlansSpec)) codePlansCard

/-- THE TIED CARD OF 'moorsomlaw04.CodeVersions'. -/
def codeVersionsCard : Claim7 := { stood := { row := codeVersionsRow, standIns := [], harness := (true, "c425e15716b5c88f07123c3a7d76b52af6bf108a5cf11e8ed83380acb97cf06d"), looks := true }, kinds := [], alts := [], laidByText := true, laidKinds := [.data, .data, .data, .data, .sentinel, .sentinel, .pinned], laidTests := true, laidLooks := .later }
def CodeVersionsCardSaid : Prop := Claim7.holds Tryz.pinned (.plain (OpenSpec.ofChange codeVersionsSpec)) codeVersionsCard

/-- THE TIED CARD OF 'moorsomlaw04.CodeForce'. -/
def codeForceCard : Claim7 := { stood := { row := codeForceRow, standIns := [], harness := (true, "c425e15716b5c88f07123c3a7d76b52af6bf108a5cf11e8ed83380acb97cf06d"), looks := true }, kinds := [], alts := [], laidByText := true, laidKinds := [.data, .data, .data, .data, .sentinel, .sentinel, .pinned], laidTests := true, laidLooks := .later }
def CodeForceCardSaid : Prop := Claim7.holds Tryz.pinned (.plain (OpenSpec.ofChange codeForceSpec)) codeForceCard

/-- THE TIED CARD OF 'moorsomlaw04.CodeParted'. -/
def codePartedCard : Claim7 := { stood := { row := codePartedRow, standIns := [], harness := (true, "c425e15716b5c88f07123c3a7d76b52af6bf108a5cf11e8ed83380acb97cf06d"), looks := true }, kinds := [], alts := [], laidByText := true, laidKinds := [.data, .data, .data, .data, .sentinel, .sentinel, .pinned], laidTests := true, laidLooks := .later }
def CodePartedCardSaid : Prop := Claim7.holds Tryz.pinned (.plain (OpenSpec.ofChange codePartedSpec)) codePartedCard

/-- THE TIED CARD OF 'moorsomlaw04.CodeTonnages'. -/
def codeTonnagesCard : Claim7 := { stood := { row := codeTonnagesRow, standIns := [], harness := (true, "c425e15716b5c88f07123c3a7d76b52af6bf108a5cf11e8ed83380acb97cf06d"), looks := true }, kinds := [], alts := [], laidByText := true, laidKinds := [.data, .data, .data, .data, .sentinel, .sentinel, .pinned], laidTests := true, laidLooks := .later }
def CodeTonnagesCardSaid : Prop := Claim7.holds Tryz.pinned (.plain (OpenSpec.ofChange codeTonnagesSpec)) codeTonnagesCard

/-- THE TIED CARD OF 'moorsomlaw04.CodeTexts'. -/
def codeTextsCard : Claim7 := { stood := { row := codeTextsRow, standIns := [], harness := (true, "c425e15716b5c88f07123c3a7d76b52af6bf108a5cf11e8ed83380acb97cf06d"), looks := true }, kinds := [], alts := [], laidByText := true, laidKinds := [.data, .data, .data, .data, .sentinel, .sentinel, .pinned], laidTests := true, laidLooks := .later }
def CodeTextsCardSaid : Prop := Claim7.holds Tryz.pinned (.plain (OpenSpec.ofChange codeTextsSpec)) codeTextsCard

/-- THE SECOND FORM's CARD OF 'moorsomlaw04.CodeChecks'. -/
def codeChecksUptoCard : Claim7 := { stood := { row := codeChecksUptoRow, standIns := [], harness := (true, "c425e15716b5c88f07123c3a7d76b52af6bf108a5cf11e8ed83380acb97cf06d"), looks := true }, kinds := [], alts := [], laidByText := true, laidKinds := [.data, .data, .data, .data, .sentinel, .sentinel, .pinned], laidTests := true, laidLooks := .later }
def CodeChecksUptoCardSaid : Prop := Claim7.holds Tryz.pinned (.plain (OpenSpec.upto codeChecksSpec)) codeChecksUptoCard

/-- THE SECOND FORM's CARD OF 'moorsomlaw04.CodeJudges'. -/
def codeJudgesUptoCard : Claim7 := { stood := { row := codeJudgesUptoRow, standIns := [], harness := (true, "c425e15716b5c88f07123c3a7d76b52af6bf108a5cf11e8ed83380acb97cf06d"), looks := true }, kinds := [], alts := [], laidByText := true, laidKinds := [.data, .data, .data, .data, .sentinel, .sentinel, .pinned], laidTests := true, laidLooks := .later }
def CodeJudgesUptoCardSaid : Prop := Claim7.holds Tryz.pinned (.plain (OpenSpec.upto codeJudgesSpec)) codeJudgesUptoCard

/-- THE SECOND FORM's CARD OF 'moorsomlaw04.CodeValues'. -/
def codeValuesUptoCard : Claim7 := { stood := { row := codeValuesUptoRow, standIns := [], harness := (true, "c425e15716b5c88f07123c3a7d76b52af6bf108a5cf11e8ed83380acb97cf06d"), looks := true }, kinds := [], alts := [], laidByText := true, laidKinds := [.data, .data, .data, .data, .sentinel, .sentinel, .pinned], laidTests := true, laidLooks := .later }
def CodeValuesUptoCardSaid : Prop := Claim7.holds Tryz.pinned (.plain (OpenSpec.upto codeValuesSpec)) codeValuesUptoCard

/-- THE SECOND FORM's CARD OF 'moorsomlaw04.CodeCases'. -/
def codeCasesUptoCard : Claim7 := { stood := { row := codeCasesUptoRow, standIns := [], harness := (true, "c425e15716b5c88f07123c3a7d76b52af6bf108a5cf11e8ed83380acb97cf06d"), looks := true }, kinds := [], alts := [], laidByText := true, laidKinds := [.data, .data, .data, .data, .sentinel, .sentinel, .pinned], laidTests := true, laidLooks := .later }
def CodeCasesUptoCardSaid : Prop := Claim7.holds Tryz.pinned (.plain (OpenSpec.upto codeCasesSpec)) codeCasesUptoCard

/-- THE SECOND FORM's CARD OF 'moorsomlaw04.CodeRests'. -/
def codeRestsUptoCard : Claim7 := { stood := { row := codeRestsUptoRow, standIns := [], harness := (true, "c425e15716b5c88f07123c3a7d76b52af6bf108a5cf11e8ed83380acb97cf06d"), looks := true }, kinds := [], alts := [], laidByText := true, laidKinds := [.data, .data, .data, .data, .sentinel, .sentinel, .pinned], laidTests := true, laidLooks := .later }
def CodeRestsUptoCardSaid : Prop := Claim7.holds Tryz.pinned (.plain (OpenSpec.upto codeRestsSpec)) codeRestsUptoCard

/-- THE SECOND FORM's CARD OF 'moorsomlaw04.CodeNarrows'. -/
def codeNarrowsUptoCard : Claim7 := { stood := { row := codeNarrowsUptoRow, standIns := [], harness := (true, "c425e15716b5c88f07123c3a7d76b52af6bf108a5cf11e8ed83380acb97cf06d"), looks := true }, kinds := [], alts := [], laidByText := true, laidKinds := [.data, .data, .data, .data, .sentinel, .sentinel, .pinned], laidTests := true, laidLooks := .later }
def CodeNarrowsUptoCardSaid : Prop := Claim7.holds Tryz.pinned (.plain (OpenSpec.upto codeNarrowsSpec)) codeNarrowsUptoCard

/-- THE SECOND FORM's CARD OF 'moorsomlaw04.CodePlans'. -/
def codePlansUptoCard : Claim7 := { stood := { row := codePlansUptoRow, standIns := [], harness := (true, "c425e15716b5c88f07123c3a7d76b52af6bf108a5cf11e8ed83380acb97cf06d"), looks := true }, kinds := [], alts := [], laidByText := true, laidKinds := [.data, .data, .data, .data, .sentinel, .sentinel, .pinned], laidTests := true, laidLooks := .later }
def CodePlansUptoCardSaid : Prop := Claim7.holds Tryz.pinned (.plain (OpenSpec.upto codePlansSpec)) codePlansUptoCard

/-- THE SECOND FORM's CARD OF 'moorsomlaw04.CodeVersions'. -/
def codeVersionsUptoCard : Claim7 := { stood := { row := codeVersionsUptoRow, standIns := [], harness := (true, "c425e15716b5c88f07123c3a7d76b52af6bf108a5cf11e8ed83380acb97cf06d"), looks := true }, kinds := [], alts := [], laidByText := true, laidKinds := [.data, .data, .data, .data, .sentinel, .sentinel, .pinned], laidTests := true, laidLooks := .later }
def CodeVersionsUptoCardSaid : Prop := Claim7.holds Tryz.pinned (.plain (OpenSpec.upto codeVersionsSpec)) codeVersionsUptoCard

/-- THE SECOND FORM's CARD OF 'moorsomlaw04.CodeForce'. -/
def codeForceUptoCard : Claim7 := { stood := { row := codeForceUptoRow, standIns := [], harness := (true, "c425e15716b5c88f07123c3a7d76b52af6bf108a5cf11e8ed83380acb97cf06d"), looks := true }, kinds := [], alts := [], laidByText := true, laidKinds := [.data, .data, .data, .data, .sentinel, .sentinel, .pinned], laidTests := true, laidLooks := .later }
def CodeForceUptoCardSaid : Prop := Claim7.holds Tryz.pinned (.plain (OpenSpec.upto codeForceSpec)) codeForceUptoCard

/-- THE SECOND FORM's CARD OF 'moorsomlaw04.CodeParted'. -/
def codePartedUptoCard : Claim7 := { stood := { row := codePartedUptoRow, standIns := [], harness := (true, "c425e15716b5c88f07123c3a7d76b52af6bf108a5cf11e8ed83380acb97cf06d"), looks := true }, kinds := [], alts := [], laidByText := true, laidKinds := [.data, .data, .data, .data, .sentinel, .sentinel, .pinned], laidTests := true, laidLooks := .later }
def CodePartedUptoCardSaid : Prop := Claim7.holds Tryz.pinned (.plain (OpenSpec.upto codePartedSpec)) codePartedUptoCard

/-- THE SECOND FORM's CARD OF 'moorsomlaw04.CodeTonnages'. -/
def codeTonnagesUptoCard : Claim7 := { stood := { row := codeTonnagesUptoRow, standIns := [], harness := (true, "c425e15716b5c88f07123c3a7d76b52af6bf108a5cf11e8ed83380acb97cf06d"), looks := true }, kinds := [], alts := [], laidByText := true, laidKinds := [.data, .data, .data, .data, .sentinel, .sentinel, .pinned], laidTests := true, laidLooks := .later }
def CodeTonnagesUptoCardSaid : Prop := Claim7.holds Tryz.pinned (.plain (OpenSpec.upto codeTonnagesSpec)) codeTonnagesUptoCard

/-- THE SECOND FORM's CARD OF 'moorsomlaw04.CodeTexts'. -/
def codeTextsUptoCard : Claim7 := { stood := { row := codeTextsUptoRow, standIns := [], harness := (true, "c425e15716b5c88f07123c3a7d76b52af6bf108a5cf11e8ed83380acb97cf06d"), looks := true }, kinds := [], alts := [], laidByText := true, laidKinds := [.data, .data, .data, .data, .sentinel, .sentinel, .pinned], laidTests := true, laidLooks := .later }
def CodeTextsUptoCardSaid : Prop := Claim7.holds Tryz.pinned (.plain (OpenSpec.upto codeTextsSpec)) codeTextsUptoCard
end Rows
end Go.Proofs.YtjflgemfeofciaaGreatDoor
