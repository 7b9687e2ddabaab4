/- A part of the proof. -/
import Derived.Test.YtkdhoflcgphcjaaGreatDoorTa
set_option linter.all false

namespace Go.Proofs.YtkdhoflcgphcjaaGreatDoor
open Go
theorem t1(os:Os)(tape:Tape):(DataW.laidRun Tryz.prog (varsWorld Tryz.prog 400 (varsId Tryz.prog) os tape).memory 8 (lst6.map (·.1))).map (·.1)=some lst6:=by kernel_rfl
end Go.Proofs.YtkdhoflcgphcjaaGreatDoor
