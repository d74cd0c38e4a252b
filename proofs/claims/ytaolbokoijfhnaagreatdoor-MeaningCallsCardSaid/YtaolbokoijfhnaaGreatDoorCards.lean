/-
  DERIVED. GIVEN WITH THE SEED: THE CARDS: each row of YtaolbokoijfhnaaGreatDoorRows.lean that lists a variable, with what it lists TIED to the program's text (the seventh form; the later family's looks); each row that meets fmt, with fmt's text TOLD by the authors' own Lean function (tested against real Go, not proved from fmt's source: count such statements apart). THE CARD IS WHAT COUNTS. Prove the row's statement (the work); the ties are given (YtaolbokoijfhnaaGreatDoorTie.lean); close each card by the builder's one call (the guide's Derived/Test/ToyasCard.lean, 'card_holds'). Laid BY PROGRAM, IN A SANDBOX (cutbox-door.mjs). By AI agents, Wed Nov 11 2026. No macro, syntax, notation, axiom, sorry.
-/
import Derived.Test.YtaolbokoijfhnaaGreatDoorRows
import GoSem.ClaimSeven
namespace Go.Proofs.YtaolbokoijfhnaaGreatDoor
namespace Rows

/-- THE TIED CARD OF 'warpwrightlaw03.TypesAccepts'. -/
def typesAcceptsCard : Claim7 := { stood := { row := typesAcceptsRow, standIns := [], harness := (true, "97e52d9f763ed9dd5f969f9f1825251f8f95690ead6a9e0b26418fedfcf75207"), looks := true }, kinds := [], alts := [], laidByText := true, laidKinds := [.data, .data, .data], laidTests := true, laidLooks := .later }
def TypesAcceptsCardSaid : Prop := Claim7.holds Tryz.pinned (.plain (OpenSpec.ofChange typesAcceptsSpec)) typesAcceptsCard

/-- THE TIED CARD OF 'warpwrightlaw03.TypesRenames'. -/
def typesRenamesCard : Claim7 := { stood := { row := typesRenamesRow, standIns := [], harness := (true, "97e52d9f763ed9dd5f969f9f1825251f8f95690ead6a9e0b26418fedfcf75207"), looks := true }, kinds := [], alts := [], laidByText := true, laidKinds := [.data, .data, .data], laidTests := true, laidLooks := .later }
def TypesRenamesCardSaid : Prop := Claim7.holds Tryz.pinned (.plain (OpenSpec.ofChange typesRenamesSpec)) typesRenamesCard

/-- THE TIED CARD OF 'warpwrightlaw03.TypesPrefix'. -/
def typesPrefixCard : Claim7 := { stood := { row := typesPrefixRow, standIns := [], harness := (true, "97e52d9f763ed9dd5f969f9f1825251f8f95690ead6a9e0b26418fedfcf75207"), looks := true }, kinds := [], alts := [], laidByText := true, laidKinds := [.data, .data, .data], laidTests := true, laidLooks := .later }
def TypesPrefixCardSaid : Prop := Claim7.holds Tryz.pinned (.plain (OpenSpec.ofChange typesPrefixSpec)) typesPrefixCard

/-- THE TIED CARD OF 'warpwrightlaw03.TypesFunctions'. -/
def typesFunctionsCard : Claim7 := { stood := { row := typesFunctionsRow, standIns := [], harness := (true, "97e52d9f763ed9dd5f969f9f1825251f8f95690ead6a9e0b26418fedfcf75207"), looks := true }, kinds := [], alts := [], laidByText := true, laidKinds := [.data, .data, .data], laidTests := true, laidLooks := .later }
def TypesFunctionsCardSaid : Prop := Claim7.holds Tryz.pinned (.plain (OpenSpec.ofChange typesFunctionsSpec)) typesFunctionsCard

/-- THE TIED CARD OF 'warpwrightlaw08.MeaningExpressions'. -/
def meaningExpressionsCard : Claim7 := { stood := { row := meaningExpressionsRow, standIns := [], harness := (true, "97e52d9f763ed9dd5f969f9f1825251f8f95690ead6a9e0b26418fedfcf75207"), looks := true }, kinds := [], alts := [], laidByText := true, laidKinds := [.data, .data, .data], laidTests := true, laidLooks := .later }
def MeaningExpressionsCardSaid : Prop := Claim7.holds Tryz.pinned (.plain (OpenSpec.ofChange meaningExpressionsSpec)) meaningExpressionsCard

/-- THE TIED CARD OF 'warpwrightlaw08.MeaningCalls'. -/
def meaningCallsCard : Claim7 := { stood := { row := meaningCallsRow, standIns := [], harness := (true, "97e52d9f763ed9dd5f969f9f1825251f8f95690ead6a9e0b26418fedfcf75207"), looks := true }, kinds := [], alts := [], laidByText := true, laidKinds := [.data, .data, .data], laidTests := true, laidLooks := .later }
def MeaningCallsCardSaid : Prop := Claim7.holds Tryz.pinned (.plain (OpenSpec.ofChange meaningCallsSpec)) meaningCallsCard

/-- THE SECOND FORM's CARD OF 'warpwrightlaw03.TypesAccepts'. -/
def typesAcceptsUptoCard : Claim7 := { stood := { row := typesAcceptsUptoRow, standIns := [], harness := (true, "97e52d9f763ed9dd5f969f9f1825251f8f95690ead6a9e0b26418fedfcf75207"), looks := true }, kinds := [], alts := [], laidByText := true, laidKinds := [.data, .data, .data], laidTests := true, laidLooks := .later }
def TypesAcceptsUptoCardSaid : Prop := Claim7.holds Tryz.pinned (.plain (OpenSpec.upto typesAcceptsSpec)) typesAcceptsUptoCard

/-- THE SECOND FORM's CARD OF 'warpwrightlaw03.TypesRenames'. -/
def typesRenamesUptoCard : Claim7 := { stood := { row := typesRenamesUptoRow, standIns := [], harness := (true, "97e52d9f763ed9dd5f969f9f1825251f8f95690ead6a9e0b26418fedfcf75207"), looks := true }, kinds := [], alts := [], laidByText := true, laidKinds := [.data, .data, .data], laidTests := true, laidLooks := .later }
def TypesRenamesUptoCardSaid : Prop := Claim7.holds Tryz.pinned (.plain (OpenSpec.upto typesRenamesSpec)) typesRenamesUptoCard

/-- THE SECOND FORM's CARD OF 'warpwrightlaw03.TypesPrefix'. -/
def typesPrefixUptoCard : Claim7 := { stood := { row := typesPrefixUptoRow, standIns := [], harness := (true, "97e52d9f763ed9dd5f969f9f1825251f8f95690ead6a9e0b26418fedfcf75207"), looks := true }, kinds := [], alts := [], laidByText := true, laidKinds := [.data, .data, .data], laidTests := true, laidLooks := .later }
def TypesPrefixUptoCardSaid : Prop := Claim7.holds Tryz.pinned (.plain (OpenSpec.upto typesPrefixSpec)) typesPrefixUptoCard

/-- THE SECOND FORM's CARD OF 'warpwrightlaw03.TypesFunctions'. -/
def typesFunctionsUptoCard : Claim7 := { stood := { row := typesFunctionsUptoRow, standIns := [], harness := (true, "97e52d9f763ed9dd5f969f9f1825251f8f95690ead6a9e0b26418fedfcf75207"), looks := true }, kinds := [], alts := [], laidByText := true, laidKinds := [.data, .data, .data], laidTests := true, laidLooks := .later }
def TypesFunctionsUptoCardSaid : Prop := Claim7.holds Tryz.pinned (.plain (OpenSpec.upto typesFunctionsSpec)) typesFunctionsUptoCard

/-- THE SECOND FORM's CARD OF 'warpwrightlaw08.MeaningExpressions'. -/
def meaningExpressionsUptoCard : Claim7 := { stood := { row := meaningExpressionsUptoRow, standIns := [], harness := (true, "97e52d9f763ed9dd5f969f9f1825251f8f95690ead6a9e0b26418fedfcf75207"), looks := true }, kinds := [], alts := [], laidByText := true, laidKinds := [.data, .data, .data], laidTests := true, laidLooks := .later }
def MeaningExpressionsUptoCardSaid : Prop := Claim7.holds Tryz.pinned (.plain (OpenSpec.upto meaningExpressionsSpec)) meaningExpressionsUptoCard

/-- THE SECOND FORM's CARD OF 'warpwrightlaw08.MeaningCalls'. -/
def meaningCallsUptoCard : Claim7 := { stood := { row := meaningCallsUptoRow, standIns := [], harness := (true, "97e52d9f763ed9dd5f969f9f1825251f8f95690ead6a9e0b26418fedfcf75207"), looks := true }, kinds := [], alts := [], laidByText := true, laidKinds := [.data, .data, .data], laidTests := true, laidLooks := .later }
def MeaningCallsUptoCardSaid : Prop := Claim7.holds Tryz.pinned (.plain (OpenSpec.upto meaningCallsSpec)) meaningCallsUptoCard
end Rows
end Go.Proofs.YtaolbokoijfhnaaGreatDoor
