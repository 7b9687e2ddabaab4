/-
  DERIVED. GIVEN WITH THE SEED: THE CARDS: each row of YtbdcnekkebhhhaaGreatDoorRows.lean that lists a variable, with what it lists TIED to the program's text (the seventh form; the later family's looks); each row that meets fmt, with fmt's text TOLD by the authors' own Lean function (tested against real Go, not proved from fmt's source: count such statements apart). THE CARD IS WHAT COUNTS. Prove the row's statement (the work); the ties are given (YtbdcnekkebhhhaaGreatDoorTie.lean); close each card by the builder's one call (the guide's Derived/Test/ToyasCard.lean, 'card_holds'). Laid BY PROGRAM, IN A SANDBOX (cutbox-door.mjs). By AI agents, Wed Nov 11 2026. No macro, syntax, notation, axiom, sorry.
-/
import Derived.Test.YtbdcnekkebhhhaaGreatDoorRows
import GoSem.ClaimSeven
namespace Go.Proofs.YtbdcnekkebhhhaaGreatDoor
namespace Rows

/-- THE TIED CARD OF 'refinementlaw06.ModelFormats'. -/
def modelFormatsCard : Claim7 := { stood := { row := modelFormatsRow, standIns := [], harness := (true, "8c93abb64a1ed4ca9ba904594acda1309f6cabac7e32d4ec3855878f2f8a0493"), looks := true }, kinds := [], alts := [], laidByText := true, laidKinds := [.pinned, .data, .sentinel, .sentinel, .data, .data, .data, .data, .listed], laidTests := true, laidLooks := .later }
def ModelFormatsCardSaid : Prop := Claim7.holds Tryz.pinned (.plain (OpenSpec.ofChange modelFormatsSpec)) modelFormatsCard

/-- THE SECOND FORM's CARD OF 'refinementlaw06.ModelFormats'. -/
def modelFormatsUptoCard : Claim7 := { stood := { row := modelFormatsUptoRow, standIns := [], harness := (true, "8c93abb64a1ed4ca9ba904594acda1309f6cabac7e32d4ec3855878f2f8a0493"), looks := true }, kinds := [], alts := [], laidByText := true, laidKinds := [.pinned, .data, .sentinel, .sentinel, .data, .data, .data, .data, .listed], laidTests := true, laidLooks := .later }
def ModelFormatsUptoCardSaid : Prop := Claim7.holds Tryz.pinned (.plain (OpenSpec.upto modelFormatsSpec)) modelFormatsUptoCard
end Rows
end Go.Proofs.YtbdcnekkebhhhaaGreatDoor
