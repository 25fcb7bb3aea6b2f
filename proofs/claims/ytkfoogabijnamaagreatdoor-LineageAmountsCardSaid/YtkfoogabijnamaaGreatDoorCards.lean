/-
  DERIVED. GIVEN WITH THE SEED: THE CARDS: each row of YtkfoogabijnamaaGreatDoorRows.lean that lists a variable, with what it lists TIED to the program's text (the seventh form; the later family's looks); each row that meets fmt, with fmt's text TOLD by the authors' own Lean function (tested against real Go, not proved from fmt's source: count such statements apart). THE CARD IS WHAT COUNTS. Prove the row's statement (the work); the ties are given (YtkfoogabijnamaaGreatDoorTie.lean); close each card by the builder's one call (the guide's Derived/Test/ToyasCard.lean, 'card_holds'). Laid BY PROGRAM, IN A SANDBOX (cutbox-door.mjs). By AI agents, Wed Nov 11 2026. No macro, syntax, notation, axiom, sorry.
-/
import Derived.Test.YtkfoogabijnamaaGreatDoorRows
import GoSem.ClaimSeven
namespace Go.Proofs.YtkfoogabijnamaaGreatDoor
namespace Rows

/-- THE TIED CARD OF 'tranchelaw26.LineageWays'. -/
def lineageWaysCard : Claim7 := { stood := { row := lineageWaysRow, standIns := [], harness := (true, "d0f76d29fcd80bd51a4142871912bf422b3dbb0ec940c11c19c2f271b21a2bf6"), looks := true }, kinds := [], alts := [], laidByText := true, laidKinds := [.data, .data, .data, .data, .sentinel, .sentinel, .pinned], laidTests := true, laidLooks := .later }
def LineageWaysCardSaid : Prop := Claim7.holds Tryz.pinned (.plain (OpenSpec.ofChange lineageWaysSpec)) lineageWaysCard

/-- THE TIED CARD OF 'tranchelaw26.LineageAmounts'. -/
def lineageAmountsCard : Claim7 := { stood := { row := lineageAmountsRow, standIns := [], harness := (true, "d0f76d29fcd80bd51a4142871912bf422b3dbb0ec940c11c19c2f271b21a2bf6"), looks := true }, kinds := [], alts := [], laidByText := true, laidKinds := [.data, .data, .data, .data, .sentinel, .sentinel, .pinned], laidTests := true, laidLooks := .later }
def LineageAmountsCardSaid : Prop := Claim7.holds Tryz.pinned (.plain (OpenSpec.ofChange lineageAmountsSpec)) lineageAmountsCard

/-- THE TIED CARD OF 'tranchelaw26.LineageLeft'. -/
def lineageLeftCard : Claim7 := { stood := { row := lineageLeftRow, standIns := [], harness := (true, "d0f76d29fcd80bd51a4142871912bf422b3dbb0ec940c11c19c2f271b21a2bf6"), looks := true }, kinds := [], alts := [], laidByText := true, laidKinds := [.data, .data, .data, .data, .sentinel, .sentinel, .pinned], laidTests := true, laidLooks := .later }
def LineageLeftCardSaid : Prop := Claim7.holds Tryz.pinned (.plain (OpenSpec.ofChange lineageLeftSpec)) lineageLeftCard

/-- THE TIED CARD OF 'tranchelaw26.LineageCost'. -/
def lineageCostCard : Claim7 := { stood := { row := lineageCostRow, standIns := [], harness := (true, "d0f76d29fcd80bd51a4142871912bf422b3dbb0ec940c11c19c2f271b21a2bf6"), looks := true }, kinds := [], alts := [], laidByText := true, laidKinds := [.data, .data, .data, .data, .sentinel, .sentinel, .pinned], laidTests := true, laidLooks := .later }
def LineageCostCardSaid : Prop := Claim7.holds Tryz.pinned (.plain (OpenSpec.ofChange lineageCostSpec)) lineageCostCard

/-- THE TIED CARD OF 'tranchelaw26.LineageMore'. -/
def lineageMoreCard : Claim7 := { stood := { row := lineageMoreRow, standIns := [], harness := (true, "d0f76d29fcd80bd51a4142871912bf422b3dbb0ec940c11c19c2f271b21a2bf6"), looks := true }, kinds := [], alts := [], laidByText := true, laidKinds := [.data, .data, .data, .data, .sentinel, .sentinel, .pinned], laidTests := true, laidLooks := .later }
def LineageMoreCardSaid : Prop := Claim7.holds Tryz.pinned (.plain (OpenSpec.ofChange lineageMoreSpec)) lineageMoreCard

/-- THE TIED CARD OF 'tranchelaw26.LineageHeirs'. -/
def lineageHeirsCard : Claim7 := { stood := { row := lineageHeirsRow, standIns := [], harness := (true, "d0f76d29fcd80bd51a4142871912bf422b3dbb0ec940c11c19c2f271b21a2bf6"), looks := true }, kinds := [], alts := [], laidByText := true, laidKinds := [.data, .data, .data, .data, .sentinel, .sentinel, .pinned], laidTests := true, laidLooks := .later }
def LineageHeirsCardSaid : Prop := Claim7.holds Tryz.pinned (.plain (OpenSpec.ofChange lineageHeirsSpec)) lineageHeirsCard

/-- THE TIED CARD OF 'tranchelaw26.LineageOrigins'. -/
def lineageOriginsCard : Claim7 := { stood := { row := lineageOriginsRow, standIns := [], harness := (true, "d0f76d29fcd80bd51a4142871912bf422b3dbb0ec940c11c19c2f271b21a2bf6"), looks := true }, kinds := [], alts := [], laidByText := true, laidKinds := [.data, .data, .data, .data, .sentinel, .sentinel, .pinned], laidTests := true, laidLooks := .later }
def LineageOriginsCardSaid : Prop := Claim7.holds Tryz.pinned (.plain (OpenSpec.ofChange lineageOriginsSpec)) lineageOriginsCard

/-- THE TIED CARD OF 'tranchelaw26.LineageOrder'. -/
def lineageOrderCard : Claim7 := { stood := { row := lineageOrderRow, standIns := [], harness := (true, "d0f76d29fcd80bd51a4142871912bf422b3dbb0ec940c11c19c2f271b21a2bf6"), looks := true }, kinds := [], alts := [], laidByText := true, laidKinds := [.data, .data, .data, .data, .sentinel, .sentinel, .pinned], laidTests := true, laidLooks := .later }
def LineageOrderCardSaid : Prop := Claim7.holds Tryz.pinned (.plain (OpenSpec.ofChange lineageOrderSpec)) lineageOrderCard

/-- THE SECOND FORM's CARD OF 'tranchelaw26.LineageWays'. -/
def lineageWaysUptoCard : Claim7 := { stood := { row := lineageWaysUptoRow, standIns := [], harness := (true, "d0f76d29fcd80bd51a4142871912bf422b3dbb0ec940c11c19c2f271b21a2bf6"), looks := true }, kinds := [], alts := [], laidByText := true, laidKinds := [.data, .data, .data, .data, .sentinel, .sentinel, .pinned], laidTests := true, laidLooks := .later }
def LineageWaysUptoCardSaid : Prop := Claim7.holds Tryz.pinned (.plain (OpenSpec.upto lineageWaysSpec)) lineageWaysUptoCard

/-- THE SECOND FORM's CARD OF 'tranchelaw26.LineageAmounts'. -/
def lineageAmountsUptoCard : Claim7 := { stood := { row := lineageAmountsUptoRow, standIns := [], harness := (true, "d0f76d29fcd80bd51a4142871912bf422b3dbb0ec940c11c19c2f271b21a2bf6"), looks := true }, kinds := [], alts := [], laidByText := true, laidKinds := [.data, .data, .data, .data, .sentinel, .sentinel, .pinned], laidTests := true, laidLooks := .later }
def LineageAmountsUptoCardSaid : Prop := Claim7.holds Tryz.pinned (.plain (OpenSpec.upto lineageAmountsSpec)) lineageAmountsUptoCard

/-- THE SECOND FORM's CARD OF 'tranchelaw26.LineageLeft'. -/
def lineageLeftUptoCard : Claim7 := { stood := { row := lineageLeftUptoRow, standIns := [], harness := (true, "d0f76d29fcd80bd51a4142871912bf422b3dbb0ec940c11c19c2f271b21a2bf6"), looks := true }, kinds := [], alts := [], laidByText := true, laidKinds := [.data, .data, .data, .data, .sentinel, .sentinel, .pinned], laidTests := true, laidLooks := .later }
def LineageLeftUptoCardSaid : Prop := Claim7.holds Tryz.pinned (.plain (OpenSpec.upto lineageLeftSpec)) lineageLeftUptoCard

/-- THE SECOND FORM's CARD OF 'tranchelaw26.LineageCost'. -/
def lineageCostUptoCard : Claim7 := { stood := { row := lineageCostUptoRow, standIns := [], harness := (true, "d0f76d29fcd80bd51a4142871912bf422b3dbb0ec940c11c19c2f271b21a2bf6"), looks := true }, kinds := [], alts := [], laidByText := true, laidKinds := [.data, .data, .data, .data, .sentinel, .sentinel, .pinned], laidTests := true, laidLooks := .later }
def LineageCostUptoCardSaid : Prop := Claim7.holds Tryz.pinned (.plain (OpenSpec.upto lineageCostSpec)) lineageCostUptoCard

/-- THE SECOND FORM's CARD OF 'tranchelaw26.LineageMore'. -/
def lineageMoreUptoCard : Claim7 := { stood := { row := lineageMoreUptoRow, standIns := [], harness := (true, "d0f76d29fcd80bd51a4142871912bf422b3dbb0ec940c11c19c2f271b21a2bf6"), looks := true }, kinds := [], alts := [], laidByText := true, laidKinds := [.data, .data, .data, .data, .sentinel, .sentinel, .pinned], laidTests := true, laidLooks := .later }
def LineageMoreUptoCardSaid : Prop := Claim7.holds Tryz.pinned (.plain (OpenSpec.upto lineageMoreSpec)) lineageMoreUptoCard

/-- THE SECOND FORM's CARD OF 'tranchelaw26.LineageHeirs'. -/
def lineageHeirsUptoCard : Claim7 := { stood := { row := lineageHeirsUptoRow, standIns := [], harness := (true, "d0f76d29fcd80bd51a4142871912bf422b3dbb0ec940c11c19c2f271b21a2bf6"), looks := true }, kinds := [], alts := [], laidByText := true, laidKinds := [.data, .data, .data, .data, .sentinel, .sentinel, .pinned], laidTests := true, laidLooks := .later }
def LineageHeirsUptoCardSaid : Prop := Claim7.holds Tryz.pinned (.plain (OpenSpec.upto lineageHeirsSpec)) lineageHeirsUptoCard

/-- THE SECOND FORM's CARD OF 'tranchelaw26.LineageOrigins'. -/
def lineageOriginsUptoCard : Claim7 := { stood := { row := lineageOriginsUptoRow, standIns := [], harness := (true, "d0f76d29fcd80bd51a4142871912bf422b3dbb0ec940c11c19c2f271b21a2bf6"), looks := true }, kinds := [], alts := [], laidByText := true, laidKinds := [.data, .data, .data, .data, .sentinel, .sentinel, .pinned], laidTests := true, laidLooks := .later }
def LineageOriginsUptoCardSaid : Prop := Claim7.holds Tryz.pinned (.plain (OpenSpec.upto lineageOriginsSpec)) lineageOriginsUptoCard

/-- THE SECOND FORM's CARD OF 'tranchelaw26.LineageOrder'. -/
def lineageOrderUptoCard : Claim7 := { stood := { row := lineageOrderUptoRow, standIns := [], harness := (true, "d0f76d29fcd80bd51a4142871912bf422b3dbb0ec940c11c19c2f271b21a2bf6"), looks := true }, kinds := [], alts := [], laidByText := true, laidKinds := [.data, .data, .data, .data, .sentinel, .sentinel, .pinned], laidTests := true, laidLooks := .later }
def LineageOrderUptoCardSaid : Prop := Claim7.holds Tryz.pinned (.plain (OpenSpec.upto lineageOrderSpec)) lineageOrderUptoCard
end Rows
end Go.Proofs.YtkfoogabijnamaaGreatDoor
