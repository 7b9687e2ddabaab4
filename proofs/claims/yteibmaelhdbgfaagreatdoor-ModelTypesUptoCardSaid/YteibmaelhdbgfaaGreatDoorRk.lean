/- A part of the proof. -/
import Derived.Test.YteibmaelhdbgfaaGreatDoorRows
import Derived.Deep.DeepWitnessRowRef
import Derived.ProofKit
import Derived.OpenShut
import Derived.LaidMore
import Derived.Lay
import Derived.SevenTiedAt

section
namespace Go.Proofs.YteibmaelhdbgfaaGreatDoor
open Go.ChangeShapes Go.WideShapes Go.ChangeAt Go.RowKit
set_option maxRecDepth 100000
theorem wit2(os:Os):(((World.laidAll Tryz.prog os Rows.modelTypesUptoRow.laid).forCall (λ_ _=>0) ⟨#[],#[.agg #[.slice none 0 0]],[]⟩).heap.toList.drop Tryz.checked.prog.globals.size).take ((begin Tryz.checked.prog (λ_ _=>0) default).world.heap.size-Tryz.checked.prog.globals.size)=(begin Tryz.checked.prog (λ_ _=>0) default).world.heap.toList.drop Tryz.checked.prog.globals.size:=by kernel_rfl
end Go.Proofs.YteibmaelhdbgfaaGreatDoor
end

section
namespace Go.Proofs.YteibmaelhdbgfaaGreatDoor
open Go.ChangeShapes Go.WideShapes Go.ChangeAt Go.RowKit
set_option maxRecDepth 100000
theorem wit3(os:Os):Input.okWideB Tryz.checked.prog ((World.laidAll Tryz.prog os Rows.modelTypesUptoRow.laid).forCall (λ_ _=>0) ⟨#[],#[.agg #[.slice none 0 0]],[]⟩) 6 ⟨#[],#[.agg #[.slice none 0 0]],[]⟩=true:=by kernel_rfl
end Go.Proofs.YteibmaelhdbgfaaGreatDoor
end
