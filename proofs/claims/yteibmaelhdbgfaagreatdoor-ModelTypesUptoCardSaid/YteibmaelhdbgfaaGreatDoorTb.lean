/- A part of the proof. -/
import Derived.Test.YteibmaelhdbgfaaGreatDoorTa

namespace Go.Proofs.YteibmaelhdbgfaaGreatDoor
open Go
theorem tw6:varsNamedLaterB Tryz.prog (varsId Tryz.prog) lst6=true:=by kernel_rfl
end Go.Proofs.YteibmaelhdbgfaaGreatDoor
