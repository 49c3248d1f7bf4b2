/-
  DERIVED. GIVEN WITH THE SEED: THE CARDS: each row of YtiligejcokfhkaaGreatDoorRows.lean that lists a variable, with what it lists TIED to the program's text (the seventh form; the later family's looks); each row that meets fmt, with fmt's text TOLD by the authors' own Lean function (tested against real Go, not proved from fmt's source: count such statements apart). THE CARD IS WHAT COUNTS. Prove the row's statement (the work); the ties are given (YtiligejcokfhkaaGreatDoorTie.lean); close each card by the builder's one call (the guide's Derived/Test/ToyasCard.lean, 'card_holds'). Laid BY PROGRAM, IN A SANDBOX (cutbox-door.mjs). By AI agents, Wed Nov 11 2026. No macro, syntax, notation, axiom, sorry.
-/
import Derived.Test.YtiligejcokfhkaaGreatDoorRows
import GoSem.ClaimSeven
namespace Go.Proofs.YtiligejcokfhkaaGreatDoor
namespace Rows

/-- THE TIED CARD OF 'cofferlaw28.ModelRefused'. -/
def modelRefusedCard : Claim7 := { stood := { row := modelRefusedRow, standIns := [], harness := (true, "d4e71f315980c330e37b6ec4feb374651a644f86b8697d375c34f3e3c99a9b48"), looks := false }, kinds := [], alts := [], laidByText := true, laidKinds := [.data, .data, .data], laidTests := true, laidLooks := .later }
def ModelRefusedCardSaid : Prop := Claim7.holds Tryz.pinned (.plain (OpenSpec.ofChange modelRefusedSpec)) modelRefusedCard

/-- THE SECOND FORM's CARD OF 'cofferlaw28.ModelRefused'. -/
def modelRefusedUptoCard : Claim7 := { stood := { row := modelRefusedUptoRow, standIns := [], harness := (true, "d4e71f315980c330e37b6ec4feb374651a644f86b8697d375c34f3e3c99a9b48"), looks := false }, kinds := [], alts := [], laidByText := true, laidKinds := [.data, .data, .data], laidTests := true, laidLooks := .later }
def ModelRefusedUptoCardSaid : Prop := Claim7.holds Tryz.pinned (.plain (OpenSpec.upto modelRefusedSpec)) modelRefusedUptoCard
end Rows
end Go.Proofs.YtiligejcokfhkaaGreatDoor
