/-
  A part of the proof: K13 K14.
-/
import Derived.Test.YtmlcjnhkphkpiaaGreatDoorProg
import Derived.KernelRfl
import Derived.Test.YtmlcjnhkphkpiaaGreatDoorEt
set_option linter.all false

section
namespace Go.AI
open Go Go.Proofs
set_option maxRecDepth 100000
theorem k13 : givesT (recM Tryz.prog [kn0, kn1, kn2] 100000) 96 ka3 (.int .i64 0) = true := by kernel_rfl
end Go.AI
end

section
namespace Go.AI
open Go Go.Proofs
set_option maxRecDepth 100000
theorem k14 : givesT (recM Tryz.prog [kn0, kn1, kn2] 100000) 96 ka4 (.int .i64 0) = true := by kernel_rfl
end Go.AI
end
