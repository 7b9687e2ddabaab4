/-
  A part of the proof: K6b.
-/
import Derived.Test.YtbdcnekkebhhhaaGreatDoorProg
import Derived.KernelRfl
import Derived.Test.YtbdcnekkebhhhaaGreatDoorKd
set_option linter.all false

namespace Go.AI
open Go Go.Proofs
set_option maxRecDepth 100000
theorem g_q42 : givesK (recK Tryz.prog .leaf 100000) q42 = true := by kernel_rfl
theorem g_q43 : givesK (recK Tryz.prog .leaf 100000) q43 = true := by kernel_rfl
theorem g_q44 : givesK (recK Tryz.prog .leaf 100000) q44 = true := by kernel_rfl
theorem g_q45 : givesK (recK Tryz.prog .leaf 100000) q45 = true := by kernel_rfl
theorem g_q46 : givesK (recK Tryz.prog .leaf 100000) q46 = true := by kernel_rfl
theorem g_q47 : givesK (recK Tryz.prog .leaf 100000) q47 = true := by kernel_rfl
theorem g_q48 : givesK (recK Tryz.prog .leaf 100000) q48 = true := by kernel_rfl
theorem g_q49 : givesK (recK Tryz.prog .leaf 100000) q49 = true := by kernel_rfl
theorem g_q50 : givesK (recK Tryz.prog .leaf 100000) q50 = true := by kernel_rfl
theorem g_q51 : givesK (recK Tryz.prog .leaf 100000) q51 = true := by kernel_rfl
theorem g_q52 : givesK (recK Tryz.prog .leaf 100000) q52 = true := by kernel_rfl
theorem g_q53 : givesK (recK Tryz.prog .leaf 100000) q53 = true := by kernel_rfl
theorem g_q54 : givesK (recK Tryz.prog .leaf 100000) q54 = true := by kernel_rfl
theorem g_q55 : givesK (recK Tryz.prog .leaf 100000) q55 = true := by kernel_rfl
theorem g_q56 : givesK (recK Tryz.prog .leaf 100000) q56 = true := by kernel_rfl
theorem g_q57 : givesK (recK Tryz.prog .leaf 100000) q57 = true := by kernel_rfl
theorem g_q58 : givesK (recK Tryz.prog .leaf 100000) q58 = true := by kernel_rfl
theorem g_q59 : givesK (recK Tryz.prog .leaf 100000) q59 = true := by kernel_rfl
theorem g_q60 : givesK (recK Tryz.prog .leaf 100000) q60 = true := by kernel_rfl
theorem g_q61 : givesK (recK Tryz.prog .leaf 100000) q61 = true := by kernel_rfl
theorem g_q62 : givesK (recK Tryz.prog .leaf 100000) q62 = true := by kernel_rfl
theorem g_q63 : givesK (recK Tryz.prog .leaf 100000) q63 = true := by kernel_rfl
theorem g_q64 : givesK (recK Tryz.prog .leaf 100000) q64 = true := by kernel_rfl
theorem g_q65 : givesK (recK Tryz.prog .leaf 100000) q65 = true := by kernel_rfl
theorem g_q66 : givesK (recK Tryz.prog .leaf 100000) q66 = true := by kernel_rfl
theorem g_q67 : givesK (recK Tryz.prog .leaf 100000) q67 = true := by kernel_rfl
theorem g_q68 : givesK (recK Tryz.prog .leaf 100000) q68 = true := by kernel_rfl
theorem g_q69 : givesK (recK Tryz.prog .leaf 100000) q69 = true := by kernel_rfl
theorem g_q70 : givesK (recK Tryz.prog .leaf 100000) q70 = true := by kernel_rfl
theorem g_q71 : givesK (recK Tryz.prog .leaf 100000) q71 = true := by kernel_rfl
theorem g_q72 : givesK (recK Tryz.prog .leaf 100000) q72 = true := by kernel_rfl
theorem g_q73 : givesK (recK Tryz.prog .leaf 100000) q73 = true := by kernel_rfl
theorem g_q74 : givesK (recK Tryz.prog .leaf 100000) q74 = true := by kernel_rfl
theorem g_q75 : givesK (recK Tryz.prog .leaf 100000) q75 = true := by kernel_rfl
theorem g_q76 : givesK (recK Tryz.prog .leaf 100000) q76 = true := by kernel_rfl
theorem g_q77 : givesK (recK Tryz.prog .leaf 100000) q77 = true := by kernel_rfl
theorem g_q78 : givesK (recK Tryz.prog .leaf 100000) q78 = true := by kernel_rfl
theorem g_q79 : givesK (recK Tryz.prog .leaf 100000) q79 = true := by kernel_rfl
theorem g_q80 : givesK (recK Tryz.prog .leaf 100000) q80 = true := by kernel_rfl
theorem g_q81 : givesK (recK Tryz.prog .leaf 100000) q81 = true := by kernel_rfl
theorem g_q82 : givesK (recK Tryz.prog .leaf 100000) q82 = true := by kernel_rfl
theorem g_q83 : givesK (recK Tryz.prog .leaf 100000) q83 = true := by kernel_rfl
end Go.AI
