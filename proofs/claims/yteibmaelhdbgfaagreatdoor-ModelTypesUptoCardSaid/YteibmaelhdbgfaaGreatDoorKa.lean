/- A part of the proof. -/
import Derived.Test.YteibmaelhdbgfaaGreatDoorProg
import Derived.Test.YteibmaelhdbgfaaGreatDoorKd
set_option linter.all false

namespace Go.AI
open Go Go.Proofs
set_option maxRecDepth 100000
theorem Tj:aP (aT Tryz.prog .leaf 100000) q0=true:=by kernel_rfl
theorem Tp:aP (aT Tryz.prog .leaf 100000) q1=true:=by kernel_rfl
theorem Tq:aP (aT Tryz.prog .leaf 100000) q2=true:=by kernel_rfl
theorem Ts:aP (aT Tryz.prog .leaf 100000) q3=true:=by kernel_rfl
theorem Tu:aP (aT Tryz.prog .leaf 100000) q4=true:=by kernel_rfl
theorem Tx:aP (aT Tryz.prog .leaf 100000) q5=true:=by kernel_rfl
theorem TA:aP (aT Tryz.prog .leaf 100000) q6=true:=by kernel_rfl
theorem TB:aP (aT Tryz.prog .leaf 100000) q7=true:=by kernel_rfl
theorem TC:aP (aT Tryz.prog .leaf 100000) q8=true:=by kernel_rfl
theorem TD:aP (aT Tryz.prog .leaf 100000) q9=true:=by kernel_rfl
theorem Qw:aP (aT Tryz.prog .leaf 100000) wO=true:=by kernel_rfl
theorem Qx:aP (aT Tryz.prog .leaf 100000) wP=true:=by kernel_rfl
theorem Qy:aP (aT Tryz.prog .leaf 100000) wQ=true:=by kernel_rfl
theorem Qz:aP (aT Tryz.prog .leaf 100000) wR=true:=by kernel_rfl
theorem QA:aP (aT Tryz.prog .leaf 100000) wS=true:=by kernel_rfl
theorem QB:aP (aT Tryz.prog .leaf 100000) wT=true:=by kernel_rfl
theorem QE:aP (aT Tryz.prog .leaf 100000) wU=true:=by kernel_rfl
theorem QF:aP (aT Tryz.prog .leaf 100000) wV=true:=by kernel_rfl
theorem QG:aP (aT Tryz.prog .leaf 100000) wW=true:=by kernel_rfl
theorem QJ:aP (aT Tryz.prog .leaf 100000) wX=true:=by kernel_rfl
theorem QK:aP (aT Tryz.prog .leaf 100000) wY=true:=by kernel_rfl
theorem QL:aP (aT Tryz.prog .leaf 100000) wZ=true:=by kernel_rfl
theorem QM:aP (aT Tryz.prog .leaf 100000) w4=true:=by kernel_rfl
theorem QN:aP (aT Tryz.prog .leaf 100000) w5=true:=by kernel_rfl
theorem QO:aP (aT Tryz.prog .leaf 100000) w6=true:=by kernel_rfl
theorem QP:aP (aT Tryz.prog .leaf 100000) w7=true:=by kernel_rfl
theorem QQ:aP (aT Tryz.prog .leaf 100000) w8=true:=by kernel_rfl
theorem QR:aP (aT Tryz.prog .leaf 100000) w9=true:=by kernel_rfl
theorem QS:aP (aT Tryz.prog .leaf 100000) xa=true:=by kernel_rfl
theorem QT:aP (aT Tryz.prog .leaf 100000) xb=true:=by kernel_rfl
theorem QU:aP (aT Tryz.prog .leaf 100000) xc=true:=by kernel_rfl
theorem QV:aP (aT Tryz.prog .leaf 100000) xe=true:=by kernel_rfl
theorem QW:aP (aT Tryz.prog .leaf 100000) xf=true:=by kernel_rfl
theorem QX:aP (aT Tryz.prog .leaf 100000) xg=true:=by kernel_rfl
theorem QY:aP (aT Tryz.prog .leaf 100000) xh=true:=by kernel_rfl
theorem QZ:aP (aT Tryz.prog .leaf 100000) xi=true:=by kernel_rfl
theorem Q0:aP (aT Tryz.prog .leaf 100000) xj=true:=by kernel_rfl
theorem Q1:aP (aT Tryz.prog .leaf 100000) xk=true:=by kernel_rfl
theorem Q2:aP (aT Tryz.prog .leaf 100000) xl=true:=by kernel_rfl
theorem Q3:aP (aT Tryz.prog .leaf 100000) xm=true:=by kernel_rfl
theorem Q4:aP (aT Tryz.prog .leaf 100000) xn=true:=by kernel_rfl
theorem Q5:aP (aT Tryz.prog .leaf 100000) xp=true:=by kernel_rfl
end Go.AI
