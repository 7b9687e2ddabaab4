/- A part of the proof. -/
import Derived.Test.YteibmaelhdbgfaaGreatDoorProg
import Derived.Test.YteibmaelhdbgfaaGreatDoorKd
set_option linter.all false

namespace Go.AI
open Go Go.Proofs
set_option maxRecDepth 100000
theorem agM:aP (aT Tryz.prog tq 100000) Cx=true:=by kernel_rfl
theorem agN:aP (aT Tryz.prog tq 100000) wH=true:=by kernel_rfl
theorem agO:aP (aT Tryz.prog tq 100000) Iz=true:=by kernel_rfl
theorem agP:aP (aT Tryz.prog tq 100000) IA=true:=by kernel_rfl
theorem agQ:aP (aT Tryz.prog tq 100000) IB=true:=by kernel_rfl
theorem agR:aP (aT Tryz.prog tq 100000) IC=true:=by kernel_rfl
theorem agS:aP (aT Tryz.prog tq 100000) ID=true:=by kernel_rfl
theorem agT:aP (aT Tryz.prog tq 100000) IE=true:=by kernel_rfl
theorem agU:aP (aT Tryz.prog tq 100000) IF=true:=by kernel_rfl
theorem agV:aP (aT Tryz.prog tq 100000) IG=true:=by kernel_rfl
theorem agW:aP (aT Tryz.prog tq 100000) IH=true:=by kernel_rfl
theorem agX:aP (aT Tryz.prog tq 100000) II=true:=by kernel_rfl
theorem agY:aP (aT Tryz.prog tq 100000) IJ=true:=by kernel_rfl
end Go.AI
