/-
  A part of the proof: RF3.
-/
import Derived.Test.YtidicphjlgjajaaGreatDoorRows
import Derived.ProofKit
import Derived.KernelRfl
import Derived.JoinedOf
import Derived.Stop.Joined
import Derived.JoinedCond
set_option linter.all false

namespace Go.Proofs.YtidicphjlgjajaaGreatDoor
open Go
set_option maxRecDepth 100000
set_option linter.all false
theorem aao:((Rows.proverParsesRow.unfollowed==Tryz.prog.unfollowed 3))=true:=by kernel_rfl
end Go.Proofs.YtidicphjlgjajaaGreatDoor
