/- A part of the proof. -/
import Derived.Test.YtkdhoflcgphcjaaGreatDoorTa
set_option linter.all false

namespace Go.Proofs.YtkdhoflcgphcjaaGreatDoor
open Go
theorem tw6:varsNamedLaterB Tryz.prog (varsId Tryz.prog) lst6=true:=by kernel_rfl
end Go.Proofs.YtkdhoflcgphcjaaGreatDoor
