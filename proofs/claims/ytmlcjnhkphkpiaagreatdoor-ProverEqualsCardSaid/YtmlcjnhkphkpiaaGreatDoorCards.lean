/-
  DERIVED. GIVEN WITH THE SEED: THE CARDS: each row of YtmlcjnhkphkpiaaGreatDoorRows.lean that lists a variable, with what it lists TIED to the program's text (the seventh form; the later family's looks); each row that meets fmt, with fmt's text TOLD by the authors' own Lean function (tested against real Go, not proved from fmt's source: count such statements apart). THE CARD IS WHAT COUNTS. Prove the row's statement (the work); the ties are given (YtmlcjnhkphkpiaaGreatDoorTie.lean); close each card by the builder's one call (the guide's Derived/Test/ToyasCard.lean, 'card_holds'). Laid BY PROGRAM, IN A SANDBOX (cutbox-door.mjs). By AI agents, Wed Nov 11 2026. No macro, syntax, notation, axiom, sorry.
-/
import Derived.Test.YtmlcjnhkphkpiaaGreatDoorRows
import GoSem.ClaimSeven
namespace Go.Proofs.YtmlcjnhkphkpiaaGreatDoor
namespace Rows

/-- THE TIED CARD OF 'refinementlaw05.ProverEquals'. -/
def proverEqualsCard : Claim7 := { stood := { row := proverEqualsRow, standIns := [], harness := (true, "a1139236837d218d32e1275ffd5bde5c396aa71df2747a5ca9a74c3f102cf23f"), looks := true }, kinds := [], alts := [], laidByText := true, laidKinds := [.data, .data, .data, .data, .pinned], laidTests := true, laidLooks := .later }
def ProverEqualsCardSaid : Prop := Claim7.holds Tryz.pinned (.plain (OpenSpec.ofChange proverEqualsSpec)) proverEqualsCard

/-- THE SECOND FORM's CARD OF 'refinementlaw05.ProverEquals'. -/
def proverEqualsUptoCard : Claim7 := { stood := { row := proverEqualsUptoRow, standIns := [], harness := (true, "a1139236837d218d32e1275ffd5bde5c396aa71df2747a5ca9a74c3f102cf23f"), looks := true }, kinds := [], alts := [], laidByText := true, laidKinds := [.data, .data, .data, .data, .pinned], laidTests := true, laidLooks := .later }
def ProverEqualsUptoCardSaid : Prop := Claim7.holds Tryz.pinned (.plain (OpenSpec.upto proverEqualsSpec)) proverEqualsUptoCard
end Rows
end Go.Proofs.YtmlcjnhkphkpiaaGreatDoor
