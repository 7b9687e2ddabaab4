/-
  A part of the proof: RF4.
-/
import Derived.Test.YtmlcjnhkphkpiaaGreatDoorRows
import Derived.ProofKit
import Derived.KernelRfl
import Derived.JoinedOf
import Derived.Stop.Joined
set_option linter.all false

namespace Go.Proofs.YtmlcjnhkphkpiaaGreatDoor
open Go
set_option maxRecDepth 100000
theorem jf11 : ((Rows.proverEqualsRow.recurses == Tryz.prog.recurses 3)) = true := by kernel_rfl
end Go.Proofs.YtmlcjnhkphkpiaaGreatDoor
