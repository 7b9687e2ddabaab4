/- A part of the proof. -/
import Derived.Test.YtkdhoflcgphcjaaGreatDoorTa
set_option linter.all false

namespace Go.Proofs.YtkdhoflcgphcjaaGreatDoor
open Go
theorem t2b(os:Os)(tape:Tape):(DataW.laidRun Tryz.prog (varsWorld Tryz.prog 400 (varsId Tryz.prog) os tape).memory 8 (lst6.map (·.1))).map (λx=>laidRowsB Tryz.prog (varsWorld Tryz.prog 400 (varsId Tryz.prog) os tape).memory x.2)=some true:=by kernel_rfl
end Go.Proofs.YtkdhoflcgphcjaaGreatDoor
