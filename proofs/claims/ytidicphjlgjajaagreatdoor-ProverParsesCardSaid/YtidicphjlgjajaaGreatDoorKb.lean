/-
  A part of the proof: KE3 KE4.
-/
import Derived.Test.YtidicphjlgjajaaGreatDoorProg
import Derived.KernelRfl
import Derived.Test.YtidicphjlgjajaaGreatDoorKd
set_option linter.all false

section
namespace Go.AI
open Go Go.Proofs
set_option maxRecDepth 100000
theorem k13:oQ (pw Tryz.prog [xl,xm,xn] 100000) 129 O1 (.int .i64 0)=true:=by kernel_rfl
end Go.AI
end

section
namespace Go.AI
open Go Go.Proofs
set_option maxRecDepth 100000
theorem k14:oQ (pw Tryz.prog [xl,xm,xn] 100000) 129 O2 (.int .i64 0)=true:=by kernel_rfl
end Go.AI
end
