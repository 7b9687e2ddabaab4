/-
  A part of the proof: K6g K6h.
-/
import Derived.Test.YtbdcnekkebhhhaaGreatDoorProg
import Derived.KernelRfl
import Derived.Test.YtbdcnekkebhhhaaGreatDoorKd
set_option linter.all false

section
namespace Go.AI
open Go Go.Proofs
set_option maxRecDepth 100000
theorem g_kF : givesK (recK Tryz.prog tr 100000) kF = true := by kernel_rfl
end Go.AI
end

section
namespace Go.AI
open Go Go.Proofs
set_option maxRecDepth 100000
theorem g_ka : givesK (recK Tryz.prog ts 100000) ka = true := by kernel_rfl
end Go.AI
end
