/-
  A part of the proof: TE2.
-/
import Derived.Test.YtidicphjlgjajaaGreatDoorRows
import Derived.LaidByTextLater
import Derived.SevenTiedAt
import Derived.Test.YtidicphjlgjajaaGreatDoorTa
set_option linter.all false

namespace Go.Proofs.YtidicphjlgjajaaGreatDoor
open Go
set_option linter.all false
theorem t2b(os:Os)(tape:Tape):(DataW.laidRun Tryz.prog (varsWorld Tryz.prog 400 (varsId Tryz.prog) os tape).memory 8 (mD.map (·.1))).map (λx=>laidRowsB Tryz.prog (varsWorld Tryz.prog 400 (varsId Tryz.prog) os tape).memory x.2)=some true:=by kernel_rfl
end Go.Proofs.YtidicphjlgjajaaGreatDoor
