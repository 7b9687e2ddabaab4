/-
  A part of the proof: TB.
-/
import Derived.Test.YteibmaelhdbgfaaGreatDoorTa
set_option linter.all false

namespace Go.Proofs.YteibmaelhdbgfaaGreatDoor
open Go
set_option linter.all false
theorem tw6:varsNamedLaterB Tryz.prog (varsId Tryz.prog) lst6=true:=by kernel_rfl
end Go.Proofs.YteibmaelhdbgfaaGreatDoor
