/-
  A part of the proof: TB.
-/
import Derived.Test.YtbdcnekkebhhhaaGreatDoorRows
import Derived.LaidByTextLater
import Derived.SevenTiedAt
import Derived.Test.YtbdcnekkebhhhaaGreatDoorTa
set_option linter.all false

namespace Go.Proofs.YtbdcnekkebhhhaaGreatDoor
open Go
set_option linter.all false
theorem tw6 : varsNamedLaterB Tryz.prog (varsId Tryz.prog) lst6 = true := by kernel_rfl
end Go.Proofs.YtbdcnekkebhhhaaGreatDoor
