/-
  DERIVED. GIVEN WITH THE SEED: THE CARDS: each row of YtmiabahejnjhiaaGreatDoorRows.lean that lists a variable, with what it lists TIED to the program's text (the seventh form; the later family's looks); each row that meets fmt, with fmt's text TOLD by the authors' own Lean function (tested against real Go, not proved from fmt's source: count such statements apart). THE CARD IS WHAT COUNTS. Prove the row's statement (the work); the ties are given (YtmiabahejnjhiaaGreatDoorTie.lean); close each card by the builder's one call (the guide's Derived/Test/ToyasCard.lean, 'card_holds'). Laid BY PROGRAM, IN A SANDBOX (cutbox-door.mjs). By AI agents, Wed Nov 11 2026. No macro, syntax, notation, axiom, sorry.
-/
import Derived.Test.YtmiabahejnjhiaaGreatDoorRows
import GoSem.ClaimSeven
namespace Go.Proofs.YtmiabahejnjhiaaGreatDoor
namespace Rows

/-- THE TIED CARD OF 'cofferlaw28.ModelDooms'. -/
def modelDoomsCard : Claim7 := { stood := { row := modelDoomsRow, standIns := [], harness := (true, "b31e34313f9f6f85038978f870731fccc4fe7b8d4740de5db0e1ea3d277dd279"), looks := false }, kinds := [], alts := [], laidByText := true, laidKinds := [.data, .data, .data], laidTests := true, laidLooks := .later }
def ModelDoomsCardSaid : Prop := Claim7.holds Tryz.pinned (.plain (OpenSpec.ofChange modelDoomsSpec)) modelDoomsCard

/-- THE SECOND FORM's CARD OF 'cofferlaw28.ModelDooms'. -/
def modelDoomsUptoCard : Claim7 := { stood := { row := modelDoomsUptoRow, standIns := [], harness := (true, "b31e34313f9f6f85038978f870731fccc4fe7b8d4740de5db0e1ea3d277dd279"), looks := false }, kinds := [], alts := [], laidByText := true, laidKinds := [.data, .data, .data], laidTests := true, laidLooks := .later }
def ModelDoomsUptoCardSaid : Prop := Claim7.holds Tryz.pinned (.plain (OpenSpec.upto modelDoomsSpec)) modelDoomsUptoCard
end Rows
end Go.Proofs.YtmiabahejnjhiaaGreatDoor
