/-
  DERIVED. GIVEN WITH THE SEED: THE CARDS: each row of YtphhdonkpijhhaaGreatDoorRows.lean that lists a variable, with what it lists TIED to the program's text (the seventh form; the later family's looks); each row that meets fmt, with fmt's text TOLD by the authors' own Lean function (tested against real Go, not proved from fmt's source: count such statements apart). THE CARD IS WHAT COUNTS. Prove the row's statement (the work); the ties are given (YtphhdonkpijhhaaGreatDoorTie.lean); close each card by the builder's one call (the guide's Derived/Test/ToyasCard.lean, 'card_holds'). Laid BY PROGRAM, IN A SANDBOX (cutbox-door.mjs). By AI agents, Wed Nov 11 2026. No macro, syntax, notation, axiom, sorry.
-/
import Derived.Test.YtphhdonkpijhhaaGreatDoorRows
import GoSem.ClaimSeven
namespace Go.Proofs.YtphhdonkpijhhaaGreatDoor
namespace Rows

/-- THE TIED CARD OF 'warpwrightlaw03.TypesScopes'. -/
def typesScopesCard : Claim7 := { stood := { row := typesScopesRow, standIns := [], harness := (true, "80d93bf554ff85752b5829f8235bb4c841fd4a1c5aee039802c2e93d249f5476"), looks := true }, kinds := [], alts := [], laidByText := true, laidKinds := [.data, .data, .data], laidTests := true, laidLooks := .later }
def TypesScopesCardSaid : Prop := Claim7.holds Tryz.pinned (.plain (OpenSpec.ofChange typesScopesSpec)) typesScopesCard

/-- THE TIED CARD OF 'warpwrightlaw03.TypesOperators'. -/
def typesOperatorsCard : Claim7 := { stood := { row := typesOperatorsRow, standIns := [], harness := (true, "80d93bf554ff85752b5829f8235bb4c841fd4a1c5aee039802c2e93d249f5476"), looks := true }, kinds := [], alts := [], laidByText := true, laidKinds := [.data, .data, .data], laidTests := true, laidLooks := .later }
def TypesOperatorsCardSaid : Prop := Claim7.holds Tryz.pinned (.plain (OpenSpec.ofChange typesOperatorsSpec)) typesOperatorsCard

/-- THE TIED CARD OF 'warpwrightlaw03.TypesRefuses'. -/
def typesRefusesCard : Claim7 := { stood := { row := typesRefusesRow, standIns := [], harness := (true, "80d93bf554ff85752b5829f8235bb4c841fd4a1c5aee039802c2e93d249f5476"), looks := true }, kinds := [], alts := [], laidByText := true, laidKinds := [.data, .data, .data], laidTests := true, laidLooks := .later }
def TypesRefusesCardSaid : Prop := Claim7.holds Tryz.pinned (.plain (OpenSpec.ofChange typesRefusesSpec)) typesRefusesCard

/-- THE SECOND FORM's CARD OF 'warpwrightlaw03.TypesScopes'. -/
def typesScopesUptoCard : Claim7 := { stood := { row := typesScopesUptoRow, standIns := [], harness := (true, "80d93bf554ff85752b5829f8235bb4c841fd4a1c5aee039802c2e93d249f5476"), looks := true }, kinds := [], alts := [], laidByText := true, laidKinds := [.data, .data, .data], laidTests := true, laidLooks := .later }
def TypesScopesUptoCardSaid : Prop := Claim7.holds Tryz.pinned (.plain (OpenSpec.upto typesScopesSpec)) typesScopesUptoCard

/-- THE SECOND FORM's CARD OF 'warpwrightlaw03.TypesOperators'. -/
def typesOperatorsUptoCard : Claim7 := { stood := { row := typesOperatorsUptoRow, standIns := [], harness := (true, "80d93bf554ff85752b5829f8235bb4c841fd4a1c5aee039802c2e93d249f5476"), looks := true }, kinds := [], alts := [], laidByText := true, laidKinds := [.data, .data, .data], laidTests := true, laidLooks := .later }
def TypesOperatorsUptoCardSaid : Prop := Claim7.holds Tryz.pinned (.plain (OpenSpec.upto typesOperatorsSpec)) typesOperatorsUptoCard

/-- THE SECOND FORM's CARD OF 'warpwrightlaw03.TypesRefuses'. -/
def typesRefusesUptoCard : Claim7 := { stood := { row := typesRefusesUptoRow, standIns := [], harness := (true, "80d93bf554ff85752b5829f8235bb4c841fd4a1c5aee039802c2e93d249f5476"), looks := true }, kinds := [], alts := [], laidByText := true, laidKinds := [.data, .data, .data], laidTests := true, laidLooks := .later }
def TypesRefusesUptoCardSaid : Prop := Claim7.holds Tryz.pinned (.plain (OpenSpec.upto typesRefusesSpec)) typesRefusesUptoCard
end Rows
end Go.Proofs.YtphhdonkpijhhaaGreatDoor
