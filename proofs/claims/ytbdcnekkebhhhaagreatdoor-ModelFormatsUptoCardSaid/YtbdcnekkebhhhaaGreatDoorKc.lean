/-
  A part of the proof: K6c.
-/
import Derived.Test.YtbdcnekkebhhhaaGreatDoorProg
import Derived.KernelRfl
import Derived.Test.YtbdcnekkebhhhaaGreatDoorKd
set_option linter.all false

namespace Go.AI
open Go Go.Proofs
set_option maxRecDepth 100000
theorem g_r0 : givesK (recK Tryz.prog tq 100000) r0 = true := by kernel_rfl
theorem g_r1 : givesK (recK Tryz.prog tq 100000) r1 = true := by kernel_rfl
theorem g_r2 : givesK (recK Tryz.prog tq 100000) r2 = true := by kernel_rfl
theorem g_r3 : givesK (recK Tryz.prog tq 100000) r3 = true := by kernel_rfl
theorem g_r4 : givesK (recK Tryz.prog tq 100000) r4 = true := by kernel_rfl
theorem g_r5 : givesK (recK Tryz.prog tq 100000) r5 = true := by kernel_rfl
theorem g_r6 : givesK (recK Tryz.prog tq 100000) r6 = true := by kernel_rfl
theorem g_r7 : givesK (recK Tryz.prog tq 100000) r7 = true := by kernel_rfl
theorem g_r8 : givesK (recK Tryz.prog tq 100000) r8 = true := by kernel_rfl
theorem g_r9 : givesK (recK Tryz.prog tq 100000) r9 = true := by kernel_rfl
theorem g_r10 : givesK (recK Tryz.prog tq 100000) r10 = true := by kernel_rfl
theorem g_r11 : givesK (recK Tryz.prog tq 100000) r11 = true := by kernel_rfl
end Go.AI
