/-
  DERIVED. GIVEN WITH THE SEED: THE CARDS: each row of YtibmfodphlmnfaaGreatDoorRows.lean that lists a variable, with what it lists TIED to the program's text (the seventh form; the later family's looks); each row that meets fmt, with fmt's text TOLD by the authors' own Lean function (tested against real Go, not proved from fmt's source: count such statements apart). THE CARD IS WHAT COUNTS. Prove the row's statement (the work); the ties are given (YtibmfodphlmnfaaGreatDoorTie.lean); close each card by the builder's one call (the guide's Derived/Test/ToyasCard.lean, 'card_holds'). Laid BY PROGRAM, IN A SANDBOX (cutbox-door.mjs). By AI agents, Wed Nov 11 2026. No macro, syntax, notation, axiom, sorry.
-/
import Derived.Test.YtibmfodphlmnfaaGreatDoorRows
import GoSem.ClaimSeven
namespace Go.Proofs.YtibmfodphlmnfaaGreatDoor
namespace Rows

/-- THE TIED CARD OF 'cofferlaw28.ModelSweeps'. -/
def modelSweepsCard : Claim7 := { stood := { row := modelSweepsRow, standIns := [], harness := (true, "9ce606c97ac4aa0eae6a8337457f2fe7bbe42ff78fd2e7cc54b56bc6558f1a91"), looks := false }, kinds := [], alts := [], laidByText := true, laidKinds := [.data, .data, .data], laidTests := true, laidLooks := .later }
def ModelSweepsCardSaid : Prop := Claim7.holds Tryz.pinned (.plain (OpenSpec.ofChange modelSweepsSpec)) modelSweepsCard

/-- THE SECOND FORM's CARD OF 'cofferlaw28.ModelSweeps'. -/
def modelSweepsUptoCard : Claim7 := { stood := { row := modelSweepsUptoRow, standIns := [], harness := (true, "9ce606c97ac4aa0eae6a8337457f2fe7bbe42ff78fd2e7cc54b56bc6558f1a91"), looks := false }, kinds := [], alts := [], laidByText := true, laidKinds := [.data, .data, .data], laidTests := true, laidLooks := .later }
def ModelSweepsUptoCardSaid : Prop := Claim7.holds Tryz.pinned (.plain (OpenSpec.upto modelSweepsSpec)) modelSweepsUptoCard
end Rows
end Go.Proofs.YtibmfodphlmnfaaGreatDoor
