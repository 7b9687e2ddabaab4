/-
  A part of the proof: TB.
-/
import Derived.Test.YtidicphjlgjajaaGreatDoorRows
import Derived.LaidByTextLater
import Derived.SevenTiedAt
import Derived.Test.YtidicphjlgjajaaGreatDoorTa
set_option linter.all false

namespace Go.Proofs.YtidicphjlgjajaaGreatDoor
open Go
set_option linter.all false
theorem tw6:varsNamedLaterB Tryz.prog (varsId Tryz.prog) mD=true:=by kernel_rfl
end Go.Proofs.YtidicphjlgjajaaGreatDoor
