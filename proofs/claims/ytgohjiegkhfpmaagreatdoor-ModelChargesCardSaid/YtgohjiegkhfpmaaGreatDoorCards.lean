/-
  DERIVED. GIVEN WITH THE SEED: THE CARDS: each row of YtgohjiegkhfpmaaGreatDoorRows.lean that lists a variable, with what it lists TIED to the program's text (the seventh form; the later family's looks); each row that meets fmt, with fmt's text TOLD by the authors' own Lean function (tested against real Go, not proved from fmt's source: count such statements apart). THE CARD IS WHAT COUNTS. Prove the row's statement (the work); the ties are given (YtgohjiegkhfpmaaGreatDoorTie.lean); close each card by the builder's one call (the guide's Derived/Test/ToyasCard.lean, 'card_holds'). Laid BY PROGRAM, IN A SANDBOX (cutbox-door.mjs). By AI agents, Wed Nov 11 2026. No macro, syntax, notation, axiom, sorry.
-/
import Derived.Test.YtgohjiegkhfpmaaGreatDoorRows
import GoSem.ClaimSeven
namespace Go.Proofs.YtgohjiegkhfpmaaGreatDoor
namespace Rows

/-- THE TIED CARD OF 'cofferlaw28.ModelCharges'. -/
def modelChargesCard : Claim7 := { stood := { row := modelChargesRow, standIns := [], harness := (true, "010609264451cdb671a1a475f5dbf5a72ec1d22365084cbcca6a5854be5799b0"), looks := false }, kinds := [], alts := [], laidByText := true, laidKinds := [.data, .data, .data], laidTests := true, laidLooks := .later }
def ModelChargesCardSaid : Prop := Claim7.holds Tryz.pinned (.plain (OpenSpec.ofChange modelChargesSpec)) modelChargesCard

/-- THE SECOND FORM's CARD OF 'cofferlaw28.ModelCharges'. -/
def modelChargesUptoCard : Claim7 := { stood := { row := modelChargesUptoRow, standIns := [], harness := (true, "010609264451cdb671a1a475f5dbf5a72ec1d22365084cbcca6a5854be5799b0"), looks := false }, kinds := [], alts := [], laidByText := true, laidKinds := [.data, .data, .data], laidTests := true, laidLooks := .later }
def ModelChargesUptoCardSaid : Prop := Claim7.holds Tryz.pinned (.plain (OpenSpec.upto modelChargesSpec)) modelChargesUptoCard
end Rows
end Go.Proofs.YtgohjiegkhfpmaaGreatDoor
