/- A part of the proof. -/
import Derived.Test.YtkdhoflcgphcjaaGreatDoorProg
import Derived.Test.YtkdhoflcgphcjaaGreatDoorKd
set_option linter.all false

namespace Go.AI
open Go Go.Proofs
set_option maxRecDepth 100000
theorem abx:pG.all (dp (cE Tryz.prog 426 499 9 hI hK 100000))=true:=by kernel_rfl
theorem aby:pH.all (dp (cE Tryz.prog 426 499 9 hI hK 100000))=true:=by kernel_rfl
theorem YB:pv.all (dp (cE Tryz.prog 426 499 9 hI hK 100000))=true:=by kernel_rfl
theorem YC:Bq.all (vC (cE Tryz.prog 426 499 9 hI hK 100000))=true:=by kernel_rfl
end Go.AI
