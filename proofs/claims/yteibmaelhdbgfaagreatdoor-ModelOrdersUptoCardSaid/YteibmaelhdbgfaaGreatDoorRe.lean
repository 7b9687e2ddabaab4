/-
  A part of the proof: RF5.
-/
import Derived.Test.YteibmaelhdbgfaaGreatDoorRows
import Derived.ProofKit
import Derived.KernelRfl
import Derived.JoinedOf
import Derived.Stop.Joined
import Derived.JoinedCond
set_option linter.all false

namespace Go.Proofs.YteibmaelhdbgfaaGreatDoor
open Go
set_option maxRecDepth 100000
set_option linter.all false
theorem jf12:((Rows.modelOrdersUptoRow.named==Tryz.prog.varsNamed 4))=true:=by kernel_rfl
end Go.Proofs.YteibmaelhdbgfaaGreatDoor
