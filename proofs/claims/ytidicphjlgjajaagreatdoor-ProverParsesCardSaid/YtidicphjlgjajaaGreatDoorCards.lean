/-
  DERIVED. GIVEN WITH THE SEED: THE CARDS: each row of YtidicphjlgjajaaGreatDoorRows.lean that lists a variable, with what it lists TIED to the program's text (the seventh form; the later family's looks); each row that meets fmt, with fmt's text TOLD by the authors' own Lean function (tested against real Go, not proved from fmt's source: count such statements apart). THE CARD IS WHAT COUNTS. Prove the row's statement (the work); the ties are given (YtidicphjlgjajaaGreatDoorTie.lean); close each card by the builder's one call (the guide's Derived/Test/ToyasCard.lean, 'card_holds'). Laid BY PROGRAM, IN A SANDBOX (cutbox-door.mjs). By AI agents, Wed Nov 11 2026. No macro, syntax, notation, axiom, sorry.
-/
import Derived.Test.YtidicphjlgjajaaGreatDoorRows
import GoSem.ClaimSeven
namespace Go.Proofs.YtidicphjlgjajaaGreatDoor
namespace Rows

/-- THE TIED CARD OF 'refinementlaw05.ProverParses'. -/
def proverParsesCard : Claim7 := { stood := { row := proverParsesRow, standIns := [], harness := (true, "f16fc9dbe8f69db5012b1b6ce13be9f0a02721bcf386a38f542d49bb7dfb2897"), looks := true }, kinds := [], alts := [], laidByText := true, laidKinds := [.pinned, .data, .data, .data, .data, .sentinel, .sentinel], laidTests := true, laidLooks := .later }
def ProverParsesCardSaid : Prop := Claim7.holds Tryz.pinned (.plain (OpenSpec.ofChange proverParsesSpec)) proverParsesCard

/-- THE SECOND FORM's CARD OF 'refinementlaw05.ProverParses'. -/
def proverParsesUptoCard : Claim7 := { stood := { row := proverParsesUptoRow, standIns := [], harness := (true, "f16fc9dbe8f69db5012b1b6ce13be9f0a02721bcf386a38f542d49bb7dfb2897"), looks := true }, kinds := [], alts := [], laidByText := true, laidKinds := [.pinned, .data, .data, .data, .data, .sentinel, .sentinel], laidTests := true, laidLooks := .later }
def ProverParsesUptoCardSaid : Prop := Claim7.holds Tryz.pinned (.plain (OpenSpec.upto proverParsesSpec)) proverParsesUptoCard
end Rows
end Go.Proofs.YtidicphjlgjajaaGreatDoor
