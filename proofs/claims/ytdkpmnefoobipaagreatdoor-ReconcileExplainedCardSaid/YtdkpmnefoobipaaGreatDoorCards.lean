/-
  DERIVED. GIVEN WITH THE SEED: THE CARDS: each row of YtdkpmnefoobipaaGreatDoorRows.lean that lists a variable, with what it lists TIED to the program's text (the seventh form; the later family's looks); each row that meets fmt, with fmt's text TOLD by the authors' own Lean function (tested against real Go, not proved from fmt's source: count such statements apart). THE CARD IS WHAT COUNTS. Prove the row's statement (the work); the ties are given (YtdkpmnefoobipaaGreatDoorTie.lean); close each card by the builder's one call (the guide's Derived/Test/ToyasCard.lean, 'card_holds'). Laid BY PROGRAM, IN A SANDBOX (cutbox-door.mjs). By AI agents, Wed Nov 11 2026. No macro, syntax, notation, axiom, sorry.
-/
import Derived.Test.YtdkpmnefoobipaaGreatDoorRows
import GoSem.ClaimSeven
namespace Go.Proofs.YtdkpmnefoobipaaGreatDoor
namespace Rows

/-- THE TIED CARD OF 'tranchelaw55.ReconcileMovements'. -/
def reconcileMovementsCard : Claim7 := { stood := { row := reconcileMovementsRow, standIns := [], harness := (true, "e35ac5b408a18c2e1d6eae73f8f4c2b49f81947261df319c7eaeffe52850a4dd"), looks := true }, kinds := [], alts := [], laidByText := true, laidKinds := [.data, .data, .data, .data, .pinned], laidTests := true, laidLooks := .later }
def ReconcileMovementsCardSaid : Prop := Claim7.holds Tryz.pinned (.plain (OpenSpec.ofChange reconcileMovementsSpec)) reconcileMovementsCard

/-- THE TIED CARD OF 'tranchelaw55.ReconcilePairs'. -/
def reconcilePairsCard : Claim7 := { stood := { row := reconcilePairsRow, standIns := [], harness := (true, "e35ac5b408a18c2e1d6eae73f8f4c2b49f81947261df319c7eaeffe52850a4dd"), looks := true }, kinds := [], alts := [], laidByText := true, laidKinds := [.data, .data, .data, .data, .pinned], laidTests := true, laidLooks := .later }
def ReconcilePairsCardSaid : Prop := Claim7.holds Tryz.pinned (.plain (OpenSpec.ofChange reconcilePairsSpec)) reconcilePairsCard

/-- THE TIED CARD OF 'tranchelaw55.ReconcileExchange'. -/
def reconcileExchangeCard : Claim7 := { stood := { row := reconcileExchangeRow, standIns := [], harness := (true, "e35ac5b408a18c2e1d6eae73f8f4c2b49f81947261df319c7eaeffe52850a4dd"), looks := true }, kinds := [], alts := [], laidByText := true, laidKinds := [.data, .data, .data, .data, .pinned], laidTests := true, laidLooks := .later }
def ReconcileExchangeCardSaid : Prop := Claim7.holds Tryz.pinned (.plain (OpenSpec.ofChange reconcileExchangeSpec)) reconcileExchangeCard

/-- THE TIED CARD OF 'tranchelaw55.ReconcileOne'. -/
def reconcileOneCard : Claim7 := { stood := { row := reconcileOneRow, standIns := [], harness := (true, "e35ac5b408a18c2e1d6eae73f8f4c2b49f81947261df319c7eaeffe52850a4dd"), looks := true }, kinds := [], alts := [], laidByText := true, laidKinds := [.data, .data, .data, .data, .sentinel, .sentinel, .pinned], laidTests := true, laidLooks := .later }
def ReconcileOneCardSaid : Prop := Claim7.holds Tryz.pinned (.plain (OpenSpec.ofChange reconcileOneSpec)) reconcileOneCard

/-- THE TIED CARD OF 'tranchelaw55.ReconcileSame'. -/
def reconcileSameCard : Claim7 := { stood := { row := reconcileSameRow, standIns := [], harness := (true, "e35ac5b408a18c2e1d6eae73f8f4c2b49f81947261df319c7eaeffe52850a4dd"), looks := true }, kinds := [], alts := [], laidByText := true, laidKinds := [.data, .data, .data, .data, .sentinel, .sentinel, .pinned], laidTests := true, laidLooks := .later }
def ReconcileSameCardSaid : Prop := Claim7.holds Tryz.pinned (.plain (OpenSpec.ofChange reconcileSameSpec)) reconcileSameCard

/-- THE TIED CARD OF 'tranchelaw55.ReconcileHoldings'. -/
def reconcileHoldingsCard : Claim7 := { stood := { row := reconcileHoldingsRow, standIns := [], harness := (true, "e35ac5b408a18c2e1d6eae73f8f4c2b49f81947261df319c7eaeffe52850a4dd"), looks := true }, kinds := [], alts := [], laidByText := true, laidKinds := [.data, .data, .data, .data, .sentinel, .sentinel, .pinned], laidTests := true, laidLooks := .later }
def ReconcileHoldingsCardSaid : Prop := Claim7.holds Tryz.pinned (.plain (OpenSpec.ofChange reconcileHoldingsSpec)) reconcileHoldingsCard

/-- THE TIED CARD OF 'tranchelaw55.ReconcileExplained'. -/
def reconcileExplainedCard : Claim7 := { stood := { row := reconcileExplainedRow, standIns := [], harness := (true, "e35ac5b408a18c2e1d6eae73f8f4c2b49f81947261df319c7eaeffe52850a4dd"), looks := true }, kinds := [], alts := [], laidByText := true, laidKinds := [.data, .data, .data, .data, .sentinel, .sentinel, .pinned], laidTests := true, laidLooks := .later }
def ReconcileExplainedCardSaid : Prop := Claim7.holds Tryz.pinned (.plain (OpenSpec.ofChange reconcileExplainedSpec)) reconcileExplainedCard

/-- THE SECOND FORM's CARD OF 'tranchelaw55.ReconcileMovements'. -/
def reconcileMovementsUptoCard : Claim7 := { stood := { row := reconcileMovementsUptoRow, standIns := [], harness := (true, "e35ac5b408a18c2e1d6eae73f8f4c2b49f81947261df319c7eaeffe52850a4dd"), looks := true }, kinds := [], alts := [], laidByText := true, laidKinds := [.data, .data, .data, .data, .pinned], laidTests := true, laidLooks := .later }
def ReconcileMovementsUptoCardSaid : Prop := Claim7.holds Tryz.pinned (.plain (OpenSpec.upto reconcileMovementsSpec)) reconcileMovementsUptoCard

/-- THE SECOND FORM's CARD OF 'tranchelaw55.ReconcilePairs'. -/
def reconcilePairsUptoCard : Claim7 := { stood := { row := reconcilePairsUptoRow, standIns := [], harness := (true, "e35ac5b408a18c2e1d6eae73f8f4c2b49f81947261df319c7eaeffe52850a4dd"), looks := true }, kinds := [], alts := [], laidByText := true, laidKinds := [.data, .data, .data, .data, .pinned], laidTests := true, laidLooks := .later }
def ReconcilePairsUptoCardSaid : Prop := Claim7.holds Tryz.pinned (.plain (OpenSpec.upto reconcilePairsSpec)) reconcilePairsUptoCard

/-- THE SECOND FORM's CARD OF 'tranchelaw55.ReconcileExchange'. -/
def reconcileExchangeUptoCard : Claim7 := { stood := { row := reconcileExchangeUptoRow, standIns := [], harness := (true, "e35ac5b408a18c2e1d6eae73f8f4c2b49f81947261df319c7eaeffe52850a4dd"), looks := true }, kinds := [], alts := [], laidByText := true, laidKinds := [.data, .data, .data, .data, .pinned], laidTests := true, laidLooks := .later }
def ReconcileExchangeUptoCardSaid : Prop := Claim7.holds Tryz.pinned (.plain (OpenSpec.upto reconcileExchangeSpec)) reconcileExchangeUptoCard

/-- THE SECOND FORM's CARD OF 'tranchelaw55.ReconcileOne'. -/
def reconcileOneUptoCard : Claim7 := { stood := { row := reconcileOneUptoRow, standIns := [], harness := (true, "e35ac5b408a18c2e1d6eae73f8f4c2b49f81947261df319c7eaeffe52850a4dd"), looks := true }, kinds := [], alts := [], laidByText := true, laidKinds := [.data, .data, .data, .data, .sentinel, .sentinel, .pinned], laidTests := true, laidLooks := .later }
def ReconcileOneUptoCardSaid : Prop := Claim7.holds Tryz.pinned (.plain (OpenSpec.upto reconcileOneSpec)) reconcileOneUptoCard

/-- THE SECOND FORM's CARD OF 'tranchelaw55.ReconcileSame'. -/
def reconcileSameUptoCard : Claim7 := { stood := { row := reconcileSameUptoRow, standIns := [], harness := (true, "e35ac5b408a18c2e1d6eae73f8f4c2b49f81947261df319c7eaeffe52850a4dd"), looks := true }, kinds := [], alts := [], laidByText := true, laidKinds := [.data, .data, .data, .data, .sentinel, .sentinel, .pinned], laidTests := true, laidLooks := .later }
def ReconcileSameUptoCardSaid : Prop := Claim7.holds Tryz.pinned (.plain (OpenSpec.upto reconcileSameSpec)) reconcileSameUptoCard

/-- THE SECOND FORM's CARD OF 'tranchelaw55.ReconcileHoldings'. -/
def reconcileHoldingsUptoCard : Claim7 := { stood := { row := reconcileHoldingsUptoRow, standIns := [], harness := (true, "e35ac5b408a18c2e1d6eae73f8f4c2b49f81947261df319c7eaeffe52850a4dd"), looks := true }, kinds := [], alts := [], laidByText := true, laidKinds := [.data, .data, .data, .data, .sentinel, .sentinel, .pinned], laidTests := true, laidLooks := .later }
def ReconcileHoldingsUptoCardSaid : Prop := Claim7.holds Tryz.pinned (.plain (OpenSpec.upto reconcileHoldingsSpec)) reconcileHoldingsUptoCard

/-- THE SECOND FORM's CARD OF 'tranchelaw55.ReconcileExplained'. -/
def reconcileExplainedUptoCard : Claim7 := { stood := { row := reconcileExplainedUptoRow, standIns := [], harness := (true, "e35ac5b408a18c2e1d6eae73f8f4c2b49f81947261df319c7eaeffe52850a4dd"), looks := true }, kinds := [], alts := [], laidByText := true, laidKinds := [.data, .data, .data, .data, .sentinel, .sentinel, .pinned], laidTests := true, laidLooks := .later }
def ReconcileExplainedUptoCardSaid : Prop := Claim7.holds Tryz.pinned (.plain (OpenSpec.upto reconcileExplainedSpec)) reconcileExplainedUptoCard
end Rows
end Go.Proofs.YtdkpmnefoobipaaGreatDoor
