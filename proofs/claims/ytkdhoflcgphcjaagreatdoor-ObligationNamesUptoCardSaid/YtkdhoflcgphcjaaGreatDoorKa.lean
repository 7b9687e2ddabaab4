/- A part of the proof. -/
import Derived.Test.YtkdhoflcgphcjaaGreatDoorProg
import Derived.Test.YtkdhoflcgphcjaaGreatDoorKd
set_option linter.all false

section
namespace Go.AI
open Go Go.Proofs
set_option maxRecDepth 100000
theorem abu:ke.all (dp (cE Tryz.prog 426 499 9 .leaf .leaf 100000))=true:=by kernel_rfl
theorem Xe:((hG.drop 0).take 17).all (dp (cE Tryz.prog 426 499 9 .leaf .leaf 100000))=true:=by kernel_rfl
theorem VB:((hG.drop 17).take 17).all (dp (cE Tryz.prog 426 499 9 .leaf .leaf 100000))=true:=by kernel_rfl
theorem Yw:j1.all (dp (cE Tryz.prog 426 499 9 .leaf .leaf 100000))=true:=by kernel_rfl
theorem Yx:j2.all (dp (cE Tryz.prog 426 499 9 .leaf .leaf 100000))=true:=by kernel_rfl
theorem Yy:j3.all (dp (cE Tryz.prog 426 499 9 .leaf .leaf 100000))=true:=by kernel_rfl
end Go.AI
end

section
namespace Go.AI
open Go Go.Proofs
set_option maxRecDepth 100000
theorem abv:mu.all (dp (cE Tryz.prog 426 499 9 so .leaf 100000))=true:=by kernel_rfl
theorem abw:mw.all (dp (cE Tryz.prog 426 499 9 so .leaf 100000))=true:=by kernel_rfl
theorem Yz:mi.all (dp (cE Tryz.prog 426 499 9 so .leaf 100000))=true:=by kernel_rfl
theorem YA:tU.all (vC (cE Tryz.prog 426 499 9 so .leaf 100000))=true:=by kernel_rfl
end Go.AI
end
