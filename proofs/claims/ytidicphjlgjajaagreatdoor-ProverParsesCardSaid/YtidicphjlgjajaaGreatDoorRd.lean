/-
  A part of the proof: RF4.
-/
import Derived.Test.YtidicphjlgjajaaGreatDoorRows
import Derived.ProofKit
import Derived.KernelRfl
import Derived.JoinedOf
import Derived.Stop.Joined
import Derived.JoinedCond
set_option linter.all false

namespace Go.Proofs.YtidicphjlgjajaaGreatDoor
open Go
set_option maxRecDepth 100000
set_option linter.all false
theorem aap:((Rows.proverParsesRow.recurses==Tryz.prog.recurses 3))=true:=by kernel_rfl
end Go.Proofs.YtidicphjlgjajaaGreatDoor
