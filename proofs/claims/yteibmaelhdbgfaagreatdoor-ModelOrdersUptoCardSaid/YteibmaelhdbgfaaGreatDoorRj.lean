/-
  A part of the proof: R2a.
-/
import Derived.Test.YteibmaelhdbgfaaGreatDoorRows
import Derived.Test.YteibmaelhdbgfaaGreatDoorChecked
import Derived.Deep.DeepWitnessRowRef
import Derived.ProofKit
import Derived.OpenShut
import Derived.LaidMore
import Derived.Lay
import Derived.SevenTiedAt
import Derived.Stop.Joined
import Derived.ReadAgain
import Derived.KernelRfl
set_option linter.all false

namespace Go.Proofs.YteibmaelhdbgfaaGreatDoor
open Go.ChangeShapes Go.WideShapes Go.ChangeAt Go.RowKit
set_option linter.all false
set_option maxRecDepth 100000
theorem wit1(os:Os):((World.laidAll Tryz.prog os Rows.modelOrdersUptoRow.laid).forCall (λ_ _=>0) ⟨#[],#[.agg #[.slice none 0 0],.int .i64 0],[]⟩).variablesRefB Tryz.checked.prog=true:=by kernel_rfl
end Go.Proofs.YteibmaelhdbgfaaGreatDoor
