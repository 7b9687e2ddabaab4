/-
  A part of the proof: TC.
-/
import Derived.Test.YtidicphjlgjajaaGreatDoorRows
import Derived.LaidByTextLater
import Derived.SevenTiedAt
import Derived.Test.YtidicphjlgjajaaGreatDoorTa
set_option linter.all false

namespace Go.Proofs.YtidicphjlgjajaaGreatDoor
open Go
set_option linter.all false
theorem td(os:Os)(tape:Tape):varsDone Tryz.prog 400 (varsId Tryz.prog) os tape=true:=by kernel_rfl
end Go.Proofs.YtidicphjlgjajaaGreatDoor
