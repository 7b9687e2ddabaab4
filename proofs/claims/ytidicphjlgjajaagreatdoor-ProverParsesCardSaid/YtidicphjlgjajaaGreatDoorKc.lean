/-
  A part of the proof: KE5.
-/
import Derived.Test.YtidicphjlgjajaaGreatDoorProg
import Derived.KernelRfl
import Derived.Test.YtidicphjlgjajaaGreatDoorKd
set_option linter.all false

namespace Go.AI
open Go Go.Proofs
set_option maxRecDepth 100000
theorem k5:oQ (pw Tryz.prog [xl,xm,xn,O3,O4] 100000) 4 [] (.bool true)=true:=by kernel_rfl
end Go.AI
