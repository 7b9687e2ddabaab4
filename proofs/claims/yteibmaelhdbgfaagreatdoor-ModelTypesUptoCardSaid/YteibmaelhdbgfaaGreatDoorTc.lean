/- A part of the proof. -/
import Derived.Test.YteibmaelhdbgfaaGreatDoorTa

namespace Go.Proofs.YteibmaelhdbgfaaGreatDoor
open Go
theorem td(os:Os)(tape:Tape):varsDone Tryz.prog 400 (varsId Tryz.prog) os tape=true:=by kernel_rfl
end Go.Proofs.YteibmaelhdbgfaaGreatDoor
