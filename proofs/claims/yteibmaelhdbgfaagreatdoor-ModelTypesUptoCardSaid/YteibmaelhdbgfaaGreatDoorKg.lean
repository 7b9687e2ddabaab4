/- A part of the proof. -/
import Derived.Test.YteibmaelhdbgfaaGreatDoorProg
import Derived.Test.YteibmaelhdbgfaaGreatDoorKd
set_option linter.all false

section
namespace Go.AI
open Go Go.Proofs
set_option maxRecDepth 100000
theorem aiQ:aP (aT Tryz.prog tr 100000) kF=true:=by kernel_rfl
end Go.AI
end

section
namespace Go.AI
open Go Go.Proofs
set_option maxRecDepth 100000
theorem aiR:aP (aT Tryz.prog ts 100000) ka=true:=by kernel_rfl
end Go.AI
end
