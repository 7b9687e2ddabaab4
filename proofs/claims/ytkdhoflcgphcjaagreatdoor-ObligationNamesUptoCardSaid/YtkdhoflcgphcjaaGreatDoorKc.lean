/- A part of the proof. -/
import Derived.Test.YtkdhoflcgphcjaaGreatDoorProg
import Derived.Test.YtkdhoflcgphcjaaGreatDoorKd
set_option linter.all false

namespace Go.AI
open Go Go.Proofs
set_option maxRecDepth 100000
theorem VF:((fm.drop 0).take 1).all (dp (cE Tryz.prog 426 499 9 hI hK 100000))=true:=by kernel_rfl
theorem VG:((fm.drop 1).take 1).all (dp (cE Tryz.prog 426 499 9 hI hK 100000))=true:=by kernel_rfl
theorem VH:((fm.drop 2).take 1).all (dp (cE Tryz.prog 426 499 9 hI hK 100000))=true:=by kernel_rfl
theorem VI:((fm.drop 3).take 1).all (dp (cE Tryz.prog 426 499 9 hI hK 100000))=true:=by kernel_rfl
theorem VJ:((fm.drop 4).take 1).all (dp (cE Tryz.prog 426 499 9 hI hK 100000))=true:=by kernel_rfl
theorem VK:((fm.drop 5).take 1).all (dp (cE Tryz.prog 426 499 9 hI hK 100000))=true:=by kernel_rfl
end Go.AI
