/- A part of the proof. -/
import Derived.Test.YtkdhoflcgphcjaaGreatDoorRows
import Derived.ProofKit
import Derived.Stop.Joined
set_option linter.all false

namespace Go.Proofs.YtkdhoflcgphcjaaGreatDoor
open Go
set_option maxRecDepth 100000
theorem jf11:((Rows.obligationNamesUptoRow.recurses==Tryz.prog.recurses 3))=true:=by kernel_rfl
end Go.Proofs.YtkdhoflcgphcjaaGreatDoor
