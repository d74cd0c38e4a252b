/-
  DERIVED. GIVEN WITH THE SEED: THE CARDS: each row of YtbjkojmmmkdmnaaGreatDoorRows.lean that lists a variable, with what it lists TIED to the program's text (the seventh form; the later family's looks); each row that meets fmt, with fmt's text TOLD by the authors' own Lean function (tested against real Go, not proved from fmt's source: count such statements apart). THE CARD IS WHAT COUNTS. Prove the row's statement (the work); the ties are given (YtbjkojmmmkdmnaaGreatDoorTie.lean); close each card by the builder's one call (the guide's Derived/Test/ToyasCard.lean, 'card_holds'). Laid BY PROGRAM, IN A SANDBOX (cutbox-door.mjs). By AI agents, Wed Nov 11 2026. No macro, syntax, notation, axiom, sorry.
-/
import Derived.Test.YtbjkojmmmkdmnaaGreatDoorRows
import GoSem.ClaimSeven
namespace Go.Proofs.YtbjkojmmmkdmnaaGreatDoor
namespace Rows

/-- THE TIED CARD OF 'warpwrightlaw06.LowerCalls'. -/
def lowerCallsCard : Claim7 := { stood := { row := lowerCallsRow, standIns := [], harness := (true, "0a35babedddc0ef28ca52e983f8605804ee62e08b373a2e7bf98a353915498e6"), looks := true }, kinds := [], alts := [], laidByText := true, laidKinds := [.data, .data, .data], laidTests := true, laidLooks := .later }
def LowerCallsCardSaid : Prop := Claim7.holds Tryz.pinned (.plain (OpenSpec.ofChange lowerCallsSpec)) lowerCallsCard

/-- THE TIED CARD OF 'warpwrightlaw06.LowerLoops'. -/
def lowerLoopsCard : Claim7 := { stood := { row := lowerLoopsRow, standIns := [], harness := (true, "0a35babedddc0ef28ca52e983f8605804ee62e08b373a2e7bf98a353915498e6"), looks := true }, kinds := [], alts := [], laidByText := true, laidKinds := [.data, .data, .data], laidTests := true, laidLooks := .later }
def LowerLoopsCardSaid : Prop := Claim7.holds Tryz.pinned (.plain (OpenSpec.ofChange lowerLoopsSpec)) lowerLoopsCard

/-- THE SECOND FORM's CARD OF 'warpwrightlaw06.LowerCalls'. -/
def lowerCallsUptoCard : Claim7 := { stood := { row := lowerCallsUptoRow, standIns := [], harness := (true, "0a35babedddc0ef28ca52e983f8605804ee62e08b373a2e7bf98a353915498e6"), looks := true }, kinds := [], alts := [], laidByText := true, laidKinds := [.data, .data, .data], laidTests := true, laidLooks := .later }
def LowerCallsUptoCardSaid : Prop := Claim7.holds Tryz.pinned (.plain (OpenSpec.upto lowerCallsSpec)) lowerCallsUptoCard

/-- THE SECOND FORM's CARD OF 'warpwrightlaw06.LowerLoops'. -/
def lowerLoopsUptoCard : Claim7 := { stood := { row := lowerLoopsUptoRow, standIns := [], harness := (true, "0a35babedddc0ef28ca52e983f8605804ee62e08b373a2e7bf98a353915498e6"), looks := true }, kinds := [], alts := [], laidByText := true, laidKinds := [.data, .data, .data], laidTests := true, laidLooks := .later }
def LowerLoopsUptoCardSaid : Prop := Claim7.holds Tryz.pinned (.plain (OpenSpec.upto lowerLoopsSpec)) lowerLoopsUptoCard
end Rows
end Go.Proofs.YtbjkojmmmkdmnaaGreatDoor
