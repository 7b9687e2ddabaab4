/-
  A part of the proof: K6d.
-/
import Derived.Test.YtbdcnekkebhhhaaGreatDoorProg
import Derived.KernelRfl
import Derived.Test.YtbdcnekkebhhhaaGreatDoorKd
set_option linter.all false

namespace Go.AI
open Go Go.Proofs
set_option maxRecDepth 100000
theorem g_r12 : givesK (recK Tryz.prog tq 100000) r12 = true := by kernel_rfl
theorem g_r13 : givesK (recK Tryz.prog tq 100000) r13 = true := by kernel_rfl
theorem g_r14 : givesK (recK Tryz.prog tq 100000) r14 = true := by kernel_rfl
theorem g_r15 : givesK (recK Tryz.prog tq 100000) r15 = true := by kernel_rfl
theorem g_r16 : givesK (recK Tryz.prog tq 100000) r16 = true := by kernel_rfl
theorem g_r17 : givesK (recK Tryz.prog tq 100000) r17 = true := by kernel_rfl
theorem g_r18 : givesK (recK Tryz.prog tq 100000) r18 = true := by kernel_rfl
theorem g_r19 : givesK (recK Tryz.prog tq 100000) r19 = true := by kernel_rfl
theorem g_r20 : givesK (recK Tryz.prog tq 100000) r20 = true := by kernel_rfl
theorem g_r21 : givesK (recK Tryz.prog tq 100000) r21 = true := by kernel_rfl
theorem g_r22 : givesK (recK Tryz.prog tq 100000) r22 = true := by kernel_rfl
theorem g_r23 : givesK (recK Tryz.prog tq 100000) r23 = true := by kernel_rfl
theorem g_r24 : givesK (recK Tryz.prog tq 100000) r24 = true := by kernel_rfl
end Go.AI
