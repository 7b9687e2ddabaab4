/- A part of the proof. -/
import Derived.Test.YtkdhoflcgphcjaaGreatDoorProg
import Derived.Test.YtkdhoflcgphcjaaGreatDoorKd
set_option linter.all false

namespace Go.AI
open Go Go.Proofs
set_option maxRecDepth 100000
theorem abD:dp (cE Tryz.prog 426 499 9 B9 kg 100000) ⟨4,[],kT⟩=true:=by kernel_rfl
end Go.AI
