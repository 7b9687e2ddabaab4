/-
  A part of the proof: TC.
-/
import Derived.Test.YteibmaelhdbgfaaGreatDoorTa
set_option linter.all false

namespace Go.Proofs.YteibmaelhdbgfaaGreatDoor
open Go
set_option linter.all false
theorem td(os:Os)(tape:Tape):varsDone Tryz.prog 400 (varsId Tryz.prog) os tape=true:=by kernel_rfl
end Go.Proofs.YteibmaelhdbgfaaGreatDoor
