/- A part of the proof. -/
import Derived.Test.YtkdhoflcgphcjaaGreatDoorRows
import Derived.ProofKit
import Derived.Stop.Joined
import Derived.Test.YtkdhoflcgphcjaaGreatDoorRl
set_option linter.all false

namespace Go.Proofs.YtkdhoflcgphcjaaGreatDoor
open Go
set_option maxRecDepth 100000
theorem jf12:((Rows.obligationNamesUptoRow.named==Tryz.prog.varsNamed 3))=true:=by rw[Go.Clo.varsNamed3];kernel_rfl
end Go.Proofs.YtkdhoflcgphcjaaGreatDoor
