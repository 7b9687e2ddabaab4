/-
  A part of the proof: RF3.
-/
import Derived.Test.YtmlcjnhkphkpiaaGreatDoorRows
import Derived.ProofKit
import Derived.KernelRfl
import Derived.JoinedOf
import Derived.Stop.Joined
set_option linter.all false

namespace Go.Proofs.YtmlcjnhkphkpiaaGreatDoor
open Go
set_option maxRecDepth 100000
theorem jf10 : ((Rows.proverEqualsRow.unfollowed == Tryz.prog.unfollowed 3)) = true := by kernel_rfl
end Go.Proofs.YtmlcjnhkphkpiaaGreatDoor
