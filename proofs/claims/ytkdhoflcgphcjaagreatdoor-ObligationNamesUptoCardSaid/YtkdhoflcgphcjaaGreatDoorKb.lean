/- A part of the proof. -/
import Derived.Test.YtkdhoflcgphcjaaGreatDoorProg
import Derived.Test.YtkdhoflcgphcjaaGreatDoorKd
set_option linter.all false

section
namespace Go.AI
open Go Go.Proofs
set_option maxRecDepth 100000
theorem VC:((iW.drop 0).take 6).all (dp (cE Tryz.prog 426 499 9 hI hK 100000))=true:=by kernel_rfl
theorem VD:((iW.drop 6).take 6).all (dp (cE Tryz.prog 426 499 9 hI hK 100000))=true:=by kernel_rfl
theorem Ub:((iW.drop 12).take 6).all (dp (cE Tryz.prog 426 499 9 hI hK 100000))=true:=by kernel_rfl
end Go.AI
end

section
namespace Go.AI
open Go Go.Proofs
set_option maxRecDepth 100000
theorem YD:Bn.all (dp (cE Tryz.prog 426 499 9 xi kg 100000))=true:=by kernel_rfl
theorem YE:Bp.all (dp (cE Tryz.prog 426 499 9 xi kg 100000))=true:=by kernel_rfl
end Go.AI
end
