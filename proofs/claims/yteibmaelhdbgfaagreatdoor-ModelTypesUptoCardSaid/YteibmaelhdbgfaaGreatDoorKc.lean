/- A part of the proof. -/
import Derived.Test.YteibmaelhdbgfaaGreatDoorProg
import Derived.Test.YteibmaelhdbgfaaGreatDoorKd
set_option linter.all false

namespace Go.AI
open Go Go.Proofs
set_option maxRecDepth 100000
theorem aiE:aP (aT Tryz.prog tq 100000) r0=true:=by kernel_rfl
theorem aiF:aP (aT Tryz.prog tq 100000) r1=true:=by kernel_rfl
theorem aiG:aP (aT Tryz.prog tq 100000) r2=true:=by kernel_rfl
theorem aiH:aP (aT Tryz.prog tq 100000) r3=true:=by kernel_rfl
theorem aiI:aP (aT Tryz.prog tq 100000) r4=true:=by kernel_rfl
theorem aiJ:aP (aT Tryz.prog tq 100000) r5=true:=by kernel_rfl
theorem aiK:aP (aT Tryz.prog tq 100000) r6=true:=by kernel_rfl
theorem aiL:aP (aT Tryz.prog tq 100000) r7=true:=by kernel_rfl
theorem aiM:aP (aT Tryz.prog tq 100000) r8=true:=by kernel_rfl
theorem aiN:aP (aT Tryz.prog tq 100000) r9=true:=by kernel_rfl
theorem agK:aP (aT Tryz.prog tq 100000) s6=true:=by kernel_rfl
theorem agL:aP (aT Tryz.prog tq 100000) nq=true:=by kernel_rfl
end Go.AI
