/-
  A part of the proof: K5.
-/
import Derived.Test.YtmlcjnhkphkpiaaGreatDoorProg
import Derived.KernelRfl
import Derived.Test.YtmlcjnhkphkpiaaGreatDoorEt
set_option linter.all false

namespace Go.AI
open Go Go.Proofs
set_option maxRecDepth 100000
theorem k5 : givesT (recM Tryz.prog [kn0, kn1, kn2, kn3, kn4] 100000) 5 [] (.bool true) = true := by kernel_rfl
end Go.AI
