/-
  A part of the proof: KE0 KE1 KE2.
-/
import Derived.Test.YtidicphjlgjajaaGreatDoorProg
import Derived.KernelRfl
import Derived.Test.YtidicphjlgjajaaGreatDoorKd
set_option linter.all false

section
namespace Go.AI
open Go Go.Proofs
set_option maxRecDepth 100000
theorem Gy:oQ (pw Tryz.prog [] 100000) 127 OY (.bool true)=true:=by kernel_rfl
end Go.AI
end

section
namespace Go.AI
open Go Go.Proofs
set_option maxRecDepth 100000
theorem k11:oQ (pw Tryz.prog [] 100000) 57 OZ (.bool true)=true:=by kernel_rfl
end Go.AI
end

section
namespace Go.AI
open Go Go.Proofs
set_option maxRecDepth 100000
theorem k12:oQ (pw Tryz.prog [] 100000) 57 O0 (.bool true)=true:=by kernel_rfl
end Go.AI
end
