/- A part of the proof. -/
import Derived.Test.YtkdhoflcgphcjaaGreatDoorTa
set_option linter.all false

namespace Go.Proofs.YtkdhoflcgphcjaaGreatDoor
open Go
theorem td(os:Os)(tape:Tape):varsDone Tryz.prog 400 (varsId Tryz.prog) os tape=true:=by kernel_rfl
end Go.Proofs.YtkdhoflcgphcjaaGreatDoor
