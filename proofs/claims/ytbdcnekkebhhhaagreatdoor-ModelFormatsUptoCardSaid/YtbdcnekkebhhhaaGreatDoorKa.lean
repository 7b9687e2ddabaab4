/-
  A part of the proof: K6a.
-/
import Derived.Test.YtbdcnekkebhhhaaGreatDoorProg
import Derived.KernelRfl
import Derived.Test.YtbdcnekkebhhhaaGreatDoorKd
set_option linter.all false

namespace Go.AI
open Go Go.Proofs
set_option maxRecDepth 100000
theorem g_q0 : givesK (recK Tryz.prog .leaf 100000) q0 = true := by kernel_rfl
theorem g_q1 : givesK (recK Tryz.prog .leaf 100000) q1 = true := by kernel_rfl
theorem g_q2 : givesK (recK Tryz.prog .leaf 100000) q2 = true := by kernel_rfl
theorem g_q3 : givesK (recK Tryz.prog .leaf 100000) q3 = true := by kernel_rfl
theorem g_q4 : givesK (recK Tryz.prog .leaf 100000) q4 = true := by kernel_rfl
theorem g_q5 : givesK (recK Tryz.prog .leaf 100000) q5 = true := by kernel_rfl
theorem g_q6 : givesK (recK Tryz.prog .leaf 100000) q6 = true := by kernel_rfl
theorem g_q7 : givesK (recK Tryz.prog .leaf 100000) q7 = true := by kernel_rfl
theorem g_q8 : givesK (recK Tryz.prog .leaf 100000) q8 = true := by kernel_rfl
theorem g_q9 : givesK (recK Tryz.prog .leaf 100000) q9 = true := by kernel_rfl
theorem g_q10 : givesK (recK Tryz.prog .leaf 100000) q10 = true := by kernel_rfl
theorem g_q11 : givesK (recK Tryz.prog .leaf 100000) q11 = true := by kernel_rfl
theorem g_q12 : givesK (recK Tryz.prog .leaf 100000) q12 = true := by kernel_rfl
theorem g_q13 : givesK (recK Tryz.prog .leaf 100000) q13 = true := by kernel_rfl
theorem g_q14 : givesK (recK Tryz.prog .leaf 100000) q14 = true := by kernel_rfl
theorem g_q15 : givesK (recK Tryz.prog .leaf 100000) q15 = true := by kernel_rfl
theorem g_q16 : givesK (recK Tryz.prog .leaf 100000) q16 = true := by kernel_rfl
theorem g_q17 : givesK (recK Tryz.prog .leaf 100000) q17 = true := by kernel_rfl
theorem g_q18 : givesK (recK Tryz.prog .leaf 100000) q18 = true := by kernel_rfl
theorem g_q19 : givesK (recK Tryz.prog .leaf 100000) q19 = true := by kernel_rfl
theorem g_q20 : givesK (recK Tryz.prog .leaf 100000) q20 = true := by kernel_rfl
theorem g_q21 : givesK (recK Tryz.prog .leaf 100000) q21 = true := by kernel_rfl
theorem g_q22 : givesK (recK Tryz.prog .leaf 100000) q22 = true := by kernel_rfl
theorem g_q23 : givesK (recK Tryz.prog .leaf 100000) q23 = true := by kernel_rfl
theorem g_q24 : givesK (recK Tryz.prog .leaf 100000) q24 = true := by kernel_rfl
theorem g_q25 : givesK (recK Tryz.prog .leaf 100000) q25 = true := by kernel_rfl
theorem g_q26 : givesK (recK Tryz.prog .leaf 100000) q26 = true := by kernel_rfl
theorem g_q27 : givesK (recK Tryz.prog .leaf 100000) q27 = true := by kernel_rfl
theorem g_q28 : givesK (recK Tryz.prog .leaf 100000) q28 = true := by kernel_rfl
theorem g_q29 : givesK (recK Tryz.prog .leaf 100000) q29 = true := by kernel_rfl
theorem g_q30 : givesK (recK Tryz.prog .leaf 100000) q30 = true := by kernel_rfl
theorem g_q31 : givesK (recK Tryz.prog .leaf 100000) q31 = true := by kernel_rfl
theorem g_q32 : givesK (recK Tryz.prog .leaf 100000) q32 = true := by kernel_rfl
theorem g_q33 : givesK (recK Tryz.prog .leaf 100000) q33 = true := by kernel_rfl
theorem g_q34 : givesK (recK Tryz.prog .leaf 100000) q34 = true := by kernel_rfl
theorem g_q35 : givesK (recK Tryz.prog .leaf 100000) q35 = true := by kernel_rfl
theorem g_q36 : givesK (recK Tryz.prog .leaf 100000) q36 = true := by kernel_rfl
theorem g_q37 : givesK (recK Tryz.prog .leaf 100000) q37 = true := by kernel_rfl
theorem g_q38 : givesK (recK Tryz.prog .leaf 100000) q38 = true := by kernel_rfl
theorem g_q39 : givesK (recK Tryz.prog .leaf 100000) q39 = true := by kernel_rfl
theorem g_q40 : givesK (recK Tryz.prog .leaf 100000) q40 = true := by kernel_rfl
theorem g_q41 : givesK (recK Tryz.prog .leaf 100000) q41 = true := by kernel_rfl
end Go.AI
