/-
  A part of the proof: TE2.
-/
import Derived.Test.YtbdcnekkebhhhaaGreatDoorRows
import Derived.LaidByTextLater
import Derived.SevenTiedAt
import Derived.Test.YtbdcnekkebhhhaaGreatDoorTa
set_option linter.all false

namespace Go.Proofs.YtbdcnekkebhhhaaGreatDoor
open Go
set_option linter.all false
theorem t2b (os : Os) (tape : Tape) : (DataW.laidRun Tryz.prog (varsWorld Tryz.prog 400 (varsId Tryz.prog) os tape).memory 8 (lst6.map (·.1))).map (fun x => laidRowsB Tryz.prog (varsWorld Tryz.prog 400 (varsId Tryz.prog) os tape).memory x.2) = some true := by kernel_rfl
end Go.Proofs.YtbdcnekkebhhhaaGreatDoor
