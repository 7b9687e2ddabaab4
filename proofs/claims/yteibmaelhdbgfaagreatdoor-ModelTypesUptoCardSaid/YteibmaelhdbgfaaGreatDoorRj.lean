/- A part of the proof. -/
import Derived.Test.YteibmaelhdbgfaaGreatDoorRows
import Derived.Deep.DeepWitnessRowRef
import Derived.ProofKit
import Derived.OpenShut
import Derived.LaidMore
import Derived.Lay
import Derived.SevenTiedAt

namespace Go.Proofs.YteibmaelhdbgfaaGreatDoor
open Go.ChangeShapes Go.WideShapes Go.ChangeAt Go.RowKit
set_option maxRecDepth 100000
theorem wit1(os:Os):((World.laidAll Tryz.prog os Rows.modelTypesUptoRow.laid).forCall (λ_ _=>0) ⟨#[],#[.agg #[.slice none 0 0]],[]⟩).variablesRefB Tryz.checked.prog=true:=by kernel_rfl
end Go.Proofs.YteibmaelhdbgfaaGreatDoor
