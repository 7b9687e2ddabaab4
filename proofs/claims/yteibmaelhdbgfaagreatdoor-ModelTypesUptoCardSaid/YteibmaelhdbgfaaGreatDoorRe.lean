/- A part of the proof. -/
import Derived.Test.YteibmaelhdbgfaaGreatDoorRows
import Derived.ProofKit
import Derived.Stop.Joined

namespace Go.Proofs.YteibmaelhdbgfaaGreatDoor
open Go
set_option maxRecDepth 100000
theorem jf12:((Rows.modelTypesUptoRow.named==Tryz.prog.varsNamed 6))=true:=by kernel_rfl
end Go.Proofs.YteibmaelhdbgfaaGreatDoor
