/-
  DERIVED. GIVEN WITH THE SEED: THE CARDS: each row of YteibmaelhdbgfaaGreatDoorRows.lean that lists a variable, with what it lists TIED to the program's text (the seventh form; the later family's looks); each row that meets fmt, with fmt's text TOLD by the authors' own Lean function (tested against real Go, not proved from fmt's source: count such statements apart). THE CARD IS WHAT COUNTS. Prove the row's statement (the work); the ties are given (YteibmaelhdbgfaaGreatDoorTie.lean); close each card by the builder's one call (the guide's Derived/Test/ToyasCard.lean, 'card_holds'). Laid BY PROGRAM, IN A SANDBOX (cutbox-door.mjs). By AI agents, Wed Nov 11 2026. No macro, syntax, notation, axiom, sorry.
-/
import Derived.Test.YteibmaelhdbgfaaGreatDoorRows
import GoSem.ClaimSeven
namespace Go.Proofs.YteibmaelhdbgfaaGreatDoor
namespace Rows

/-- THE TIED CARD OF 'refinementlaw06.ModelPrefixes'. -/
def modelPrefixesCard : Claim7 := { stood := { row := modelPrefixesRow, standIns := [], harness := (true, "243761606df7b9be09bd2efca18f09c159280ad9a3f0e1c69636ad3bfeabf078"), looks := true }, kinds := [], alts := [], laidByText := true, laidKinds := [.pinned, .data, .sentinel, .sentinel, .data, .data, .data, .data, .listed], laidTests := true, laidLooks := .later }
def ModelPrefixesCardSaid : Prop := Claim7.holds Tryz.pinned (.plain (OpenSpec.ofChange modelPrefixesSpec)) modelPrefixesCard

/-- THE TIED CARD OF 'refinementlaw06.ModelOrders'. -/
def modelOrdersCard : Claim7 := { stood := { row := modelOrdersRow, standIns := [], harness := (true, "243761606df7b9be09bd2efca18f09c159280ad9a3f0e1c69636ad3bfeabf078"), looks := true }, kinds := [], alts := [], laidByText := true, laidKinds := [.pinned, .data, .sentinel, .sentinel, .data, .data, .data, .data, .listed], laidTests := true, laidLooks := .later }
def ModelOrdersCardSaid : Prop := Claim7.holds Tryz.pinned (.plain (OpenSpec.ofChange modelOrdersSpec)) modelOrdersCard

/-- THE TIED CARD OF 'refinementlaw06.ModelKeeps'. -/
def modelKeepsCard : Claim7 := { stood := { row := modelKeepsRow, standIns := [], harness := (true, "243761606df7b9be09bd2efca18f09c159280ad9a3f0e1c69636ad3bfeabf078"), looks := true }, kinds := [], alts := [], laidByText := true, laidKinds := [.pinned, .data, .sentinel, .sentinel, .data, .data, .data, .data, .listed], laidTests := true, laidLooks := .later }
def ModelKeepsCardSaid : Prop := Claim7.holds Tryz.pinned (.plain (OpenSpec.ofChange modelKeepsSpec)) modelKeepsCard

/-- THE TIED CARD OF 'refinementlaw06.ModelTypes'. -/
def modelTypesCard : Claim7 := { stood := { row := modelTypesRow, standIns := [], harness := (true, "243761606df7b9be09bd2efca18f09c159280ad9a3f0e1c69636ad3bfeabf078"), looks := true }, kinds := [], alts := [], laidByText := true, laidKinds := [.pinned, .data, .sentinel, .sentinel, .data, .data, .data, .data, .listed], laidTests := true, laidLooks := .later }
def ModelTypesCardSaid : Prop := Claim7.holds Tryz.pinned (.plain (OpenSpec.ofChange modelTypesSpec)) modelTypesCard

/-- THE SECOND FORM's CARD OF 'refinementlaw06.ModelPrefixes'. -/
def modelPrefixesUptoCard : Claim7 := { stood := { row := modelPrefixesUptoRow, standIns := [], harness := (true, "243761606df7b9be09bd2efca18f09c159280ad9a3f0e1c69636ad3bfeabf078"), looks := true }, kinds := [], alts := [], laidByText := true, laidKinds := [.pinned, .data, .sentinel, .sentinel, .data, .data, .data, .data, .listed], laidTests := true, laidLooks := .later }
def ModelPrefixesUptoCardSaid : Prop := Claim7.holds Tryz.pinned (.plain (OpenSpec.upto modelPrefixesSpec)) modelPrefixesUptoCard

/-- THE SECOND FORM's CARD OF 'refinementlaw06.ModelOrders'. -/
def modelOrdersUptoCard : Claim7 := { stood := { row := modelOrdersUptoRow, standIns := [], harness := (true, "243761606df7b9be09bd2efca18f09c159280ad9a3f0e1c69636ad3bfeabf078"), looks := true }, kinds := [], alts := [], laidByText := true, laidKinds := [.pinned, .data, .sentinel, .sentinel, .data, .data, .data, .data, .listed], laidTests := true, laidLooks := .later }
def ModelOrdersUptoCardSaid : Prop := Claim7.holds Tryz.pinned (.plain (OpenSpec.upto modelOrdersSpec)) modelOrdersUptoCard

/-- THE SECOND FORM's CARD OF 'refinementlaw06.ModelKeeps'. -/
def modelKeepsUptoCard : Claim7 := { stood := { row := modelKeepsUptoRow, standIns := [], harness := (true, "243761606df7b9be09bd2efca18f09c159280ad9a3f0e1c69636ad3bfeabf078"), looks := true }, kinds := [], alts := [], laidByText := true, laidKinds := [.pinned, .data, .sentinel, .sentinel, .data, .data, .data, .data, .listed], laidTests := true, laidLooks := .later }
def ModelKeepsUptoCardSaid : Prop := Claim7.holds Tryz.pinned (.plain (OpenSpec.upto modelKeepsSpec)) modelKeepsUptoCard

/-- THE SECOND FORM's CARD OF 'refinementlaw06.ModelTypes'. -/
def modelTypesUptoCard : Claim7 := { stood := { row := modelTypesUptoRow, standIns := [], harness := (true, "243761606df7b9be09bd2efca18f09c159280ad9a3f0e1c69636ad3bfeabf078"), looks := true }, kinds := [], alts := [], laidByText := true, laidKinds := [.pinned, .data, .sentinel, .sentinel, .data, .data, .data, .data, .listed], laidTests := true, laidLooks := .later }
def ModelTypesUptoCardSaid : Prop := Claim7.holds Tryz.pinned (.plain (OpenSpec.upto modelTypesSpec)) modelTypesUptoCard
end Rows
end Go.Proofs.YteibmaelhdbgfaaGreatDoor
