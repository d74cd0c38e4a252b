/-
  DERIVED. GIVEN WITH THE SEED: THE CARDS: each row of YthgbnljjolhodaaGreatDoorRows.lean that lists a variable, with what it lists TIED to the program's text (the seventh form; the later family's looks); each row that meets fmt, with fmt's text TOLD by the authors' own Lean function (tested against real Go, not proved from fmt's source: count such statements apart). THE CARD IS WHAT COUNTS. Prove the row's statement (the work); the ties are given (YthgbnljjolhodaaGreatDoorTie.lean); close each card by the builder's one call (the guide's Derived/Test/ToyasCard.lean, 'card_holds'). Laid BY PROGRAM, IN A SANDBOX (cutbox-door.mjs). By AI agents, Wed Nov 11 2026. No macro, syntax, notation, axiom, sorry.
-/
import Derived.Test.YthgbnljjolhodaaGreatDoorRows
import GoSem.ClaimSeven
namespace Go.Proofs.YthgbnljjolhodaaGreatDoor
namespace Rows

/-- THE TIED CARD OF 'warpwrightlaw08.MeaningLoops'. -/
def meaningLoopsCard : Claim7 := { stood := { row := meaningLoopsRow, standIns := [], harness := (true, "c44f24d17865a9234b11c38e23bd72922a0f35ef11a2775897179ba6179333de"), looks := true }, kinds := [], alts := [], laidByText := true, laidKinds := [.data, .data, .data], laidTests := true, laidLooks := .later }
def MeaningLoopsCardSaid : Prop := Claim7.holds Tryz.pinned (.plain (OpenSpec.ofChange meaningLoopsSpec)) meaningLoopsCard

/-- THE TIED CARD OF 'warpwrightlaw08.MeaningRefuses'. -/
def meaningRefusesCard : Claim7 := { stood := { row := meaningRefusesRow, standIns := [], harness := (true, "c44f24d17865a9234b11c38e23bd72922a0f35ef11a2775897179ba6179333de"), looks := true }, kinds := [], alts := [], laidByText := true, laidKinds := [.data, .data, .data], laidTests := true, laidLooks := .later }
def MeaningRefusesCardSaid : Prop := Claim7.holds Tryz.pinned (.plain (OpenSpec.ofChange meaningRefusesSpec)) meaningRefusesCard

/-- THE SECOND FORM's CARD OF 'warpwrightlaw08.MeaningLoops'. -/
def meaningLoopsUptoCard : Claim7 := { stood := { row := meaningLoopsUptoRow, standIns := [], harness := (true, "c44f24d17865a9234b11c38e23bd72922a0f35ef11a2775897179ba6179333de"), looks := true }, kinds := [], alts := [], laidByText := true, laidKinds := [.data, .data, .data], laidTests := true, laidLooks := .later }
def MeaningLoopsUptoCardSaid : Prop := Claim7.holds Tryz.pinned (.plain (OpenSpec.upto meaningLoopsSpec)) meaningLoopsUptoCard

/-- THE SECOND FORM's CARD OF 'warpwrightlaw08.MeaningRefuses'. -/
def meaningRefusesUptoCard : Claim7 := { stood := { row := meaningRefusesUptoRow, standIns := [], harness := (true, "c44f24d17865a9234b11c38e23bd72922a0f35ef11a2775897179ba6179333de"), looks := true }, kinds := [], alts := [], laidByText := true, laidKinds := [.data, .data, .data], laidTests := true, laidLooks := .later }
def MeaningRefusesUptoCardSaid : Prop := Claim7.holds Tryz.pinned (.plain (OpenSpec.upto meaningRefusesSpec)) meaningRefusesUptoCard
end Rows
end Go.Proofs.YthgbnljjolhodaaGreatDoor
