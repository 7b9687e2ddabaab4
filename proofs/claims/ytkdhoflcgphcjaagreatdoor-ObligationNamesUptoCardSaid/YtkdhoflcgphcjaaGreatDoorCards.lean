/-
  DERIVED. GIVEN WITH THE SEED: THE CARDS: each row of YtkdhoflcgphcjaaGreatDoorRows.lean that lists a variable, with what it lists TIED to the program's text (the seventh form; the later family's looks); each row that meets fmt, with fmt's text TOLD by the authors' own Lean function (tested against real Go, not proved from fmt's source: count such statements apart). THE CARD IS WHAT COUNTS. Prove the row's statement (the work); the ties are given (YtkdhoflcgphcjaaGreatDoorTie.lean); close each card by the builder's one call (the guide's Derived/Test/ToyasCard.lean, 'card_holds'). Laid BY PROGRAM, IN A SANDBOX (cutbox-door.mjs). By AI agents, Wed Nov 11 2026. No macro, syntax, notation, axiom, sorry.
-/
import Derived.Test.YtkdhoflcgphcjaaGreatDoorRows
import GoSem.ClaimSeven
namespace Go.Proofs.YtkdhoflcgphcjaaGreatDoor
namespace Rows

/-- THE TIED CARD OF 'refinementlaw07.ObligationNames'. -/
def obligationNamesCard : Claim7 := { stood := { row := obligationNamesRow, standIns := [], harness := (true, "b4a25c5e00396b7734cbf0ff6a05de5df456fa79d171743b0091b3439878527b"), looks := true }, kinds := [], alts := [], laidByText := true, laidKinds := [.pinned, .data, .sentinel, .sentinel, .data, .data, .data, .data, .listed], laidTests := true, laidLooks := .later }
def ObligationNamesCardSaid : Prop := Claim7.holds Tryz.pinned (.plain (OpenSpec.ofChange obligationNamesSpec)) obligationNamesCard

/-- THE SECOND FORM's CARD OF 'refinementlaw07.ObligationNames'. -/
def obligationNamesUptoCard : Claim7 := { stood := { row := obligationNamesUptoRow, standIns := [], harness := (true, "b4a25c5e00396b7734cbf0ff6a05de5df456fa79d171743b0091b3439878527b"), looks := true }, kinds := [], alts := [], laidByText := true, laidKinds := [.pinned, .data, .sentinel, .sentinel, .data, .data, .data, .data, .listed], laidTests := true, laidLooks := .later }
def ObligationNamesUptoCardSaid : Prop := Claim7.holds Tryz.pinned (.plain (OpenSpec.upto obligationNamesSpec)) obligationNamesUptoCard
end Rows
end Go.Proofs.YtkdhoflcgphcjaaGreatDoor
