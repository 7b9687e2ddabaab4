/-
  A part of the proof: TD.
-/
import Derived.Test.YtidicphjlgjajaaGreatDoorRows
import Derived.LaidByTextLater
import Derived.SevenTiedAt
import Derived.Test.YtidicphjlgjajaaGreatDoorTa
set_option linter.all false

namespace Go.Proofs.YtidicphjlgjajaaGreatDoor
open Go
set_option linter.all false
theorem t1(os:Os)(tape:Tape):(DataW.laidRun Tryz.prog (varsWorld Tryz.prog 400 (varsId Tryz.prog) os tape).memory 8 (mD.map (·.1))).map (·.1)=some mD:=by kernel_rfl
end Go.Proofs.YtidicphjlgjajaaGreatDoor
