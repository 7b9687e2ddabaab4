/-
  A part of the proof: K10 K11 K12.
-/
import Derived.Test.YtmlcjnhkphkpiaaGreatDoorProg
import Derived.KernelRfl
import Derived.Test.YtmlcjnhkphkpiaaGreatDoorEt
set_option linter.all false

section
namespace Go.AI
open Go Go.Proofs
set_option maxRecDepth 100000
theorem k10 : givesT (recM Tryz.prog [] 100000) 94 ka0 (.bool true) = true := by kernel_rfl
end Go.AI
end

section
namespace Go.AI
open Go Go.Proofs
set_option maxRecDepth 100000
theorem k11 : givesT (recM Tryz.prog [] 100000) 72 ka1 (.bool true) = true := by kernel_rfl
end Go.AI
end

section
namespace Go.AI
open Go Go.Proofs
set_option maxRecDepth 100000
theorem k12 : givesT (recM Tryz.prog [] 100000) 72 ka2 (.bool true) = true := by kernel_rfl
end Go.AI
end
