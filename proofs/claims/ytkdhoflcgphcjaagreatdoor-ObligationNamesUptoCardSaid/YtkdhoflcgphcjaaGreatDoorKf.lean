/- A part of the proof. -/
import Derived.Test.YtkdhoflcgphcjaaGreatDoorProg
import Derived.Test.YtkdhoflcgphcjaaGreatDoorKd
set_option linter.all false

namespace Go.AI
open Go Go.Proofs
set_option maxRecDepth 100000
theorem abz:uk.all (dp (cE Tryz.prog 426 499 9 sq kg 100000))=true:=by kernel_rfl
theorem abA:um.all (dp (cE Tryz.prog 426 499 9 sq kg 100000))=true:=by kernel_rfl
end Go.AI
