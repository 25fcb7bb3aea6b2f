/-
  DERIVED. GIVEN WITH THE SEED: THE CARDS: each row of YtmfeinilbjfnpaaGreatDoorRows.lean that lists a variable, with what it lists TIED to the program's text (the seventh form; the later family's looks); each row that meets fmt, with fmt's text TOLD by the authors' own Lean function (tested against real Go, not proved from fmt's source: count such statements apart). THE CARD IS WHAT COUNTS. Prove the row's statement (the work); the ties are given (YtmfeinilbjfnpaaGreatDoorTie.lean); close each card by the builder's one call (the guide's Derived/Test/ToyasCard.lean, 'card_holds'). Laid BY PROGRAM, IN A SANDBOX (cutbox-door.mjs). By AI agents, Wed Nov 11 2026. No macro, syntax, notation, axiom, sorry.
-/
import Derived.Test.YtmfeinilbjfnpaaGreatDoorRows
import GoSem.ClaimSeven
namespace Go.Proofs.YtmfeinilbjfnpaaGreatDoor
namespace Rows

/-- THE TIED CARD OF 'tranchelaw36.ExpressionValues'. -/
def expressionValuesCard : Claim7 := { stood := { row := expressionValuesRow, standIns := [], harness := (true, "d761a78bd2b14ca02b9ebb070528750c74a4774c998cbef14576fe307859d78b"), looks := true }, kinds := [], alts := [], laidByText := true, laidKinds := [.data, .data, .data, .data, .sentinel, .sentinel, .pinned], laidTests := true, laidLooks := .later }
def ExpressionValuesCardSaid : Prop := Claim7.holds Tryz.pinned (.plain (OpenSpec.ofChange expressionValuesSpec)) expressionValuesCard

/-- THE TIED CARD OF 'tranchelaw36.ExpressionZero'. -/
def expressionZeroCard : Claim7 := { stood := { row := expressionZeroRow, standIns := [], harness := (true, "d761a78bd2b14ca02b9ebb070528750c74a4774c998cbef14576fe307859d78b"), looks := true }, kinds := [], alts := [], laidByText := true, laidKinds := [.data, .data, .data, .data, .sentinel, .sentinel, .pinned], laidTests := true, laidLooks := .later }
def ExpressionZeroCardSaid : Prop := Claim7.holds Tryz.pinned (.plain (OpenSpec.ofChange expressionZeroSpec)) expressionZeroCard

/-- THE TIED CARD OF 'tranchelaw36.ExpressionOrder'. -/
def expressionOrderCard : Claim7 := { stood := { row := expressionOrderRow, standIns := [], harness := (true, "d761a78bd2b14ca02b9ebb070528750c74a4774c998cbef14576fe307859d78b"), looks := true }, kinds := [], alts := [], laidByText := true, laidKinds := [.data, .data, .data, .data, .sentinel, .sentinel, .pinned], laidTests := true, laidLooks := .later }
def ExpressionOrderCardSaid : Prop := Claim7.holds Tryz.pinned (.plain (OpenSpec.ofChange expressionOrderSpec)) expressionOrderCard

/-- THE TIED CARD OF 'tranchelaw36.ExpressionLinear'. -/
def expressionLinearCard : Claim7 := { stood := { row := expressionLinearRow, standIns := [], harness := (true, "d761a78bd2b14ca02b9ebb070528750c74a4774c998cbef14576fe307859d78b"), looks := true }, kinds := [], alts := [], laidByText := true, laidKinds := [.data, .data, .data, .data, .sentinel, .sentinel, .pinned], laidTests := true, laidLooks := .later }
def ExpressionLinearCardSaid : Prop := Claim7.holds Tryz.pinned (.plain (OpenSpec.ofChange expressionLinearSpec)) expressionLinearCard

/-- THE TIED CARD OF 'tranchelaw36.ExpressionInverse'. -/
def expressionInverseCard : Claim7 := { stood := { row := expressionInverseRow, standIns := [], harness := (true, "d761a78bd2b14ca02b9ebb070528750c74a4774c998cbef14576fe307859d78b"), looks := true }, kinds := [], alts := [], laidByText := true, laidKinds := [.data, .data, .data, .data, .sentinel, .sentinel, .pinned], laidTests := true, laidLooks := .later }
def ExpressionInverseCardSaid : Prop := Claim7.holds Tryz.pinned (.plain (OpenSpec.ofChange expressionInverseSpec)) expressionInverseCard

/-- THE TIED CARD OF 'tranchelaw36.ExpressionForms'. -/
def expressionFormsCard : Claim7 := { stood := { row := expressionFormsRow, standIns := [], harness := (true, "d761a78bd2b14ca02b9ebb070528750c74a4774c998cbef14576fe307859d78b"), looks := true }, kinds := [], alts := [], laidByText := true, laidKinds := [.data, .data, .data, .data, .sentinel, .sentinel, .pinned], laidTests := true, laidLooks := .later }
def ExpressionFormsCardSaid : Prop := Claim7.holds Tryz.pinned (.plain (OpenSpec.ofChange expressionFormsSpec)) expressionFormsCard

/-- THE TIED CARD OF 'tranchelaw36.ExpressionTexts'. -/
def expressionTextsCard : Claim7 := { stood := { row := expressionTextsRow, standIns := [], harness := (true, "d761a78bd2b14ca02b9ebb070528750c74a4774c998cbef14576fe307859d78b"), looks := true }, kinds := [], alts := [], laidByText := true, laidKinds := [.data, .data, .data, .data, .sentinel, .sentinel, .pinned], laidTests := true, laidLooks := .later }
def ExpressionTextsCardSaid : Prop := Claim7.holds Tryz.pinned (.plain (OpenSpec.ofChange expressionTextsSpec)) expressionTextsCard

/-- THE TIED CARD OF 'tranchelaw36.ExpressionBack'. -/
def expressionBackCard : Claim7 := { stood := { row := expressionBackRow, standIns := [], harness := (true, "d761a78bd2b14ca02b9ebb070528750c74a4774c998cbef14576fe307859d78b"), looks := true }, kinds := [], alts := [], laidByText := true, laidKinds := [.data, .data, .data, .data, .sentinel, .sentinel, .pinned], laidTests := true, laidLooks := .later }
def ExpressionBackCardSaid : Prop := Claim7.holds Tryz.pinned (.plain (OpenSpec.ofChange expressionBackSpec)) expressionBackCard

/-- THE SECOND FORM's CARD OF 'tranchelaw36.ExpressionValues'. -/
def expressionValuesUptoCard : Claim7 := { stood := { row := expressionValuesUptoRow, standIns := [], harness := (true, "d761a78bd2b14ca02b9ebb070528750c74a4774c998cbef14576fe307859d78b"), looks := true }, kinds := [], alts := [], laidByText := true, laidKinds := [.data, .data, .data, .data, .sentinel, .sentinel, .pinned], laidTests := true, laidLooks := .later }
def ExpressionValuesUptoCardSaid : Prop := Claim7.holds Tryz.pinned (.plain (OpenSpec.upto expressionValuesSpec)) expressionValuesUptoCard

/-- THE SECOND FORM's CARD OF 'tranchelaw36.ExpressionZero'. -/
def expressionZeroUptoCard : Claim7 := { stood := { row := expressionZeroUptoRow, standIns := [], harness := (true, "d761a78bd2b14ca02b9ebb070528750c74a4774c998cbef14576fe307859d78b"), looks := true }, kinds := [], alts := [], laidByText := true, laidKinds := [.data, .data, .data, .data, .sentinel, .sentinel, .pinned], laidTests := true, laidLooks := .later }
def ExpressionZeroUptoCardSaid : Prop := Claim7.holds Tryz.pinned (.plain (OpenSpec.upto expressionZeroSpec)) expressionZeroUptoCard

/-- THE SECOND FORM's CARD OF 'tranchelaw36.ExpressionOrder'. -/
def expressionOrderUptoCard : Claim7 := { stood := { row := expressionOrderUptoRow, standIns := [], harness := (true, "d761a78bd2b14ca02b9ebb070528750c74a4774c998cbef14576fe307859d78b"), looks := true }, kinds := [], alts := [], laidByText := true, laidKinds := [.data, .data, .data, .data, .sentinel, .sentinel, .pinned], laidTests := true, laidLooks := .later }
def ExpressionOrderUptoCardSaid : Prop := Claim7.holds Tryz.pinned (.plain (OpenSpec.upto expressionOrderSpec)) expressionOrderUptoCard

/-- THE SECOND FORM's CARD OF 'tranchelaw36.ExpressionLinear'. -/
def expressionLinearUptoCard : Claim7 := { stood := { row := expressionLinearUptoRow, standIns := [], harness := (true, "d761a78bd2b14ca02b9ebb070528750c74a4774c998cbef14576fe307859d78b"), looks := true }, kinds := [], alts := [], laidByText := true, laidKinds := [.data, .data, .data, .data, .sentinel, .sentinel, .pinned], laidTests := true, laidLooks := .later }
def ExpressionLinearUptoCardSaid : Prop := Claim7.holds Tryz.pinned (.plain (OpenSpec.upto expressionLinearSpec)) expressionLinearUptoCard

/-- THE SECOND FORM's CARD OF 'tranchelaw36.ExpressionInverse'. -/
def expressionInverseUptoCard : Claim7 := { stood := { row := expressionInverseUptoRow, standIns := [], harness := (true, "d761a78bd2b14ca02b9ebb070528750c74a4774c998cbef14576fe307859d78b"), looks := true }, kinds := [], alts := [], laidByText := true, laidKinds := [.data, .data, .data, .data, .sentinel, .sentinel, .pinned], laidTests := true, laidLooks := .later }
def ExpressionInverseUptoCardSaid : Prop := Claim7.holds Tryz.pinned (.plain (OpenSpec.upto expressionInverseSpec)) expressionInverseUptoCard

/-- THE SECOND FORM's CARD OF 'tranchelaw36.ExpressionForms'. -/
def expressionFormsUptoCard : Claim7 := { stood := { row := expressionFormsUptoRow, standIns := [], harness := (true, "d761a78bd2b14ca02b9ebb070528750c74a4774c998cbef14576fe307859d78b"), looks := true }, kinds := [], alts := [], laidByText := true, laidKinds := [.data, .data, .data, .data, .sentinel, .sentinel, .pinned], laidTests := true, laidLooks := .later }
def ExpressionFormsUptoCardSaid : Prop := Claim7.holds Tryz.pinned (.plain (OpenSpec.upto expressionFormsSpec)) expressionFormsUptoCard

/-- THE SECOND FORM's CARD OF 'tranchelaw36.ExpressionTexts'. -/
def expressionTextsUptoCard : Claim7 := { stood := { row := expressionTextsUptoRow, standIns := [], harness := (true, "d761a78bd2b14ca02b9ebb070528750c74a4774c998cbef14576fe307859d78b"), looks := true }, kinds := [], alts := [], laidByText := true, laidKinds := [.data, .data, .data, .data, .sentinel, .sentinel, .pinned], laidTests := true, laidLooks := .later }
def ExpressionTextsUptoCardSaid : Prop := Claim7.holds Tryz.pinned (.plain (OpenSpec.upto expressionTextsSpec)) expressionTextsUptoCard

/-- THE SECOND FORM's CARD OF 'tranchelaw36.ExpressionBack'. -/
def expressionBackUptoCard : Claim7 := { stood := { row := expressionBackUptoRow, standIns := [], harness := (true, "d761a78bd2b14ca02b9ebb070528750c74a4774c998cbef14576fe307859d78b"), looks := true }, kinds := [], alts := [], laidByText := true, laidKinds := [.data, .data, .data, .data, .sentinel, .sentinel, .pinned], laidTests := true, laidLooks := .later }
def ExpressionBackUptoCardSaid : Prop := Claim7.holds Tryz.pinned (.plain (OpenSpec.upto expressionBackSpec)) expressionBackUptoCard
end Rows
end Go.Proofs.YtmfeinilbjfnpaaGreatDoor
