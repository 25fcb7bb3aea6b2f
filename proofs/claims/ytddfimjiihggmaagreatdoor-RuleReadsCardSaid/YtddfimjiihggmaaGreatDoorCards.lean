/-
  DERIVED. GIVEN WITH THE SEED: THE CARDS: each row of YtddfimjiihggmaaGreatDoorRows.lean that lists a variable, with what it lists TIED to the program's text (the seventh form; the later family's looks); each row that meets fmt, with fmt's text TOLD by the authors' own Lean function (tested against real Go, not proved from fmt's source: count such statements apart). THE CARD IS WHAT COUNTS. Prove the row's statement (the work); the ties are given (YtddfimjiihggmaaGreatDoorTie.lean); close each card by the builder's one call (the guide's Derived/Test/ToyasCard.lean, 'card_holds'). Laid BY PROGRAM, IN A SANDBOX (cutbox-door.mjs). By AI agents, Wed Nov 11 2026. No macro, syntax, notation, axiom, sorry.
-/
import Derived.Test.YtddfimjiihggmaaGreatDoorRows
import GoSem.ClaimSeven
namespace Go.Proofs.YtddfimjiihggmaaGreatDoor
namespace Rows

/-- THE TIED CARD OF 'tranchelaw37.RuleChecks'. -/
def ruleChecksCard : Claim7 := { stood := { row := ruleChecksRow, standIns := [], harness := (true, "8e18a1714f7751f504d649e6490be771b7277452e1c4c66a7d7170bf3153b3c9"), looks := true }, kinds := [], alts := [], laidByText := true, laidKinds := [.data, .data, .data, .data, .sentinel, .sentinel, .pinned], laidTests := true, laidLooks := .later }
def RuleChecksCardSaid : Prop := Claim7.holds Tryz.pinned (.plain (OpenSpec.ofChange ruleChecksSpec)) ruleChecksCard

/-- THE TIED CARD OF 'tranchelaw37.RuleKinds'. -/
def ruleKindsCard : Claim7 := { stood := { row := ruleKindsRow, standIns := [], harness := (true, "8e18a1714f7751f504d649e6490be771b7277452e1c4c66a7d7170bf3153b3c9"), looks := true }, kinds := [], alts := [], laidByText := true, laidKinds := [.data, .data, .data, .data, .sentinel, .sentinel, .pinned], laidTests := true, laidLooks := .later }
def RuleKindsCardSaid : Prop := Claim7.holds Tryz.pinned (.plain (OpenSpec.ofChange ruleKindsSpec)) ruleKindsCard

/-- THE TIED CARD OF 'tranchelaw37.RuleLines'. -/
def ruleLinesCard : Claim7 := { stood := { row := ruleLinesRow, standIns := [], harness := (true, "8e18a1714f7751f504d649e6490be771b7277452e1c4c66a7d7170bf3153b3c9"), looks := true }, kinds := [], alts := [], laidByText := true, laidKinds := [.data, .data, .data, .data, .sentinel, .sentinel, .pinned], laidTests := true, laidLooks := .later }
def RuleLinesCardSaid : Prop := Claim7.holds Tryz.pinned (.plain (OpenSpec.ofChange ruleLinesSpec)) ruleLinesCard

/-- THE TIED CARD OF 'tranchelaw37.RuleStandard'. -/
def ruleStandardCard : Claim7 := { stood := { row := ruleStandardRow, standIns := [], harness := (true, "8e18a1714f7751f504d649e6490be771b7277452e1c4c66a7d7170bf3153b3c9"), looks := true }, kinds := [], alts := [], laidByText := true, laidKinds := [.data, .data, .data, .data, .sentinel, .sentinel, .pinned], laidTests := true, laidLooks := .later }
def RuleStandardCardSaid : Prop := Claim7.holds Tryz.pinned (.plain (OpenSpec.ofChange ruleStandardSpec)) ruleStandardCard

/-- THE TIED CARD OF 'tranchelaw37.RuleReads'. -/
def ruleReadsCard : Claim7 := { stood := { row := ruleReadsRow, standIns := [], harness := (true, "8e18a1714f7751f504d649e6490be771b7277452e1c4c66a7d7170bf3153b3c9"), looks := true }, kinds := [], alts := [], laidByText := true, laidKinds := [.data, .data, .data, .data, .sentinel, .sentinel, .pinned], laidTests := true, laidLooks := .later }
def RuleReadsCardSaid : Prop := Claim7.holds Tryz.pinned (.plain (OpenSpec.ofChange ruleReadsSpec)) ruleReadsCard

/-- THE TIED CARD OF 'tranchelaw37.RuleTexts'. -/
def ruleTextsCard : Claim7 := { stood := { row := ruleTextsRow, standIns := [], harness := (true, "8e18a1714f7751f504d649e6490be771b7277452e1c4c66a7d7170bf3153b3c9"), looks := true }, kinds := [], alts := [], laidByText := true, laidKinds := [.data, .data, .data, .data, .sentinel, .sentinel, .pinned], laidTests := true, laidLooks := .later }
def RuleTextsCardSaid : Prop := Claim7.holds Tryz.pinned (.plain (OpenSpec.ofChange ruleTextsSpec)) ruleTextsCard

/-- THE TIED CARD OF 'tranchelaw37.RuleBalance'. -/
def ruleBalanceCard : Claim7 := { stood := { row := ruleBalanceRow, standIns := [], harness := (true, "8e18a1714f7751f504d649e6490be771b7277452e1c4c66a7d7170bf3153b3c9"), looks := true }, kinds := [], alts := [], laidByText := true, laidKinds := [.data, .data, .data, .data, .sentinel, .sentinel, .pinned], laidTests := true, laidLooks := .later }
def RuleBalanceCardSaid : Prop := Claim7.holds Tryz.pinned (.plain (OpenSpec.ofChange ruleBalanceSpec)) ruleBalanceCard

/-- THE TIED CARD OF 'tranchelaw37.RuleUse'. -/
def ruleUseCard : Claim7 := { stood := { row := ruleUseRow, standIns := [], harness := (true, "8e18a1714f7751f504d649e6490be771b7277452e1c4c66a7d7170bf3153b3c9"), looks := true }, kinds := [], alts := [], laidByText := true, laidKinds := [.data, .data, .data, .data, .sentinel, .sentinel, .pinned], laidTests := true, laidLooks := .later }
def RuleUseCardSaid : Prop := Claim7.holds Tryz.pinned (.plain (OpenSpec.ofChange ruleUseSpec)) ruleUseCard

/-- THE SECOND FORM's CARD OF 'tranchelaw37.RuleChecks'. -/
def ruleChecksUptoCard : Claim7 := { stood := { row := ruleChecksUptoRow, standIns := [], harness := (true, "8e18a1714f7751f504d649e6490be771b7277452e1c4c66a7d7170bf3153b3c9"), looks := true }, kinds := [], alts := [], laidByText := true, laidKinds := [.data, .data, .data, .data, .sentinel, .sentinel, .pinned], laidTests := true, laidLooks := .later }
def RuleChecksUptoCardSaid : Prop := Claim7.holds Tryz.pinned (.plain (OpenSpec.upto ruleChecksSpec)) ruleChecksUptoCard

/-- THE SECOND FORM's CARD OF 'tranchelaw37.RuleKinds'. -/
def ruleKindsUptoCard : Claim7 := { stood := { row := ruleKindsUptoRow, standIns := [], harness := (true, "8e18a1714f7751f504d649e6490be771b7277452e1c4c66a7d7170bf3153b3c9"), looks := true }, kinds := [], alts := [], laidByText := true, laidKinds := [.data, .data, .data, .data, .sentinel, .sentinel, .pinned], laidTests := true, laidLooks := .later }
def RuleKindsUptoCardSaid : Prop := Claim7.holds Tryz.pinned (.plain (OpenSpec.upto ruleKindsSpec)) ruleKindsUptoCard

/-- THE SECOND FORM's CARD OF 'tranchelaw37.RuleLines'. -/
def ruleLinesUptoCard : Claim7 := { stood := { row := ruleLinesUptoRow, standIns := [], harness := (true, "8e18a1714f7751f504d649e6490be771b7277452e1c4c66a7d7170bf3153b3c9"), looks := true }, kinds := [], alts := [], laidByText := true, laidKinds := [.data, .data, .data, .data, .sentinel, .sentinel, .pinned], laidTests := true, laidLooks := .later }
def RuleLinesUptoCardSaid : Prop := Claim7.holds Tryz.pinned (.plain (OpenSpec.upto ruleLinesSpec)) ruleLinesUptoCard

/-- THE SECOND FORM's CARD OF 'tranchelaw37.RuleStandard'. -/
def ruleStandardUptoCard : Claim7 := { stood := { row := ruleStandardUptoRow, standIns := [], harness := (true, "8e18a1714f7751f504d649e6490be771b7277452e1c4c66a7d7170bf3153b3c9"), looks := true }, kinds := [], alts := [], laidByText := true, laidKinds := [.data, .data, .data, .data, .sentinel, .sentinel, .pinned], laidTests := true, laidLooks := .later }
def RuleStandardUptoCardSaid : Prop := Claim7.holds Tryz.pinned (.plain (OpenSpec.upto ruleStandardSpec)) ruleStandardUptoCard

/-- THE SECOND FORM's CARD OF 'tranchelaw37.RuleReads'. -/
def ruleReadsUptoCard : Claim7 := { stood := { row := ruleReadsUptoRow, standIns := [], harness := (true, "8e18a1714f7751f504d649e6490be771b7277452e1c4c66a7d7170bf3153b3c9"), looks := true }, kinds := [], alts := [], laidByText := true, laidKinds := [.data, .data, .data, .data, .sentinel, .sentinel, .pinned], laidTests := true, laidLooks := .later }
def RuleReadsUptoCardSaid : Prop := Claim7.holds Tryz.pinned (.plain (OpenSpec.upto ruleReadsSpec)) ruleReadsUptoCard

/-- THE SECOND FORM's CARD OF 'tranchelaw37.RuleTexts'. -/
def ruleTextsUptoCard : Claim7 := { stood := { row := ruleTextsUptoRow, standIns := [], harness := (true, "8e18a1714f7751f504d649e6490be771b7277452e1c4c66a7d7170bf3153b3c9"), looks := true }, kinds := [], alts := [], laidByText := true, laidKinds := [.data, .data, .data, .data, .sentinel, .sentinel, .pinned], laidTests := true, laidLooks := .later }
def RuleTextsUptoCardSaid : Prop := Claim7.holds Tryz.pinned (.plain (OpenSpec.upto ruleTextsSpec)) ruleTextsUptoCard

/-- THE SECOND FORM's CARD OF 'tranchelaw37.RuleBalance'. -/
def ruleBalanceUptoCard : Claim7 := { stood := { row := ruleBalanceUptoRow, standIns := [], harness := (true, "8e18a1714f7751f504d649e6490be771b7277452e1c4c66a7d7170bf3153b3c9"), looks := true }, kinds := [], alts := [], laidByText := true, laidKinds := [.data, .data, .data, .data, .sentinel, .sentinel, .pinned], laidTests := true, laidLooks := .later }
def RuleBalanceUptoCardSaid : Prop := Claim7.holds Tryz.pinned (.plain (OpenSpec.upto ruleBalanceSpec)) ruleBalanceUptoCard

/-- THE SECOND FORM's CARD OF 'tranchelaw37.RuleUse'. -/
def ruleUseUptoCard : Claim7 := { stood := { row := ruleUseUptoRow, standIns := [], harness := (true, "8e18a1714f7751f504d649e6490be771b7277452e1c4c66a7d7170bf3153b3c9"), looks := true }, kinds := [], alts := [], laidByText := true, laidKinds := [.data, .data, .data, .data, .sentinel, .sentinel, .pinned], laidTests := true, laidLooks := .later }
def RuleUseUptoCardSaid : Prop := Claim7.holds Tryz.pinned (.plain (OpenSpec.upto ruleUseSpec)) ruleUseUptoCard
end Rows
end Go.Proofs.YtddfimjiihggmaaGreatDoor
