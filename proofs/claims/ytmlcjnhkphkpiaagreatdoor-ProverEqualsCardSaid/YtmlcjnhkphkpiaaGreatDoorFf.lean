/-
  A part of the proof: RF6.
-/
import Derived.Test.YtmlcjnhkphkpiaaGreatDoorRows
import Derived.ProofKit
import Derived.KernelRfl
import Derived.JoinedOf
import Derived.Stop.Joined
set_option linter.all false

namespace Go.Proofs.YtmlcjnhkphkpiaaGreatDoor
open Go
set_option maxRecDepth 100000
theorem jf13 : ((Rows.proverEqualsRow.maps == (Tryz.f3.params.toList ++ Rows.proverEqualsSpec.plain.varTypes Tryz.prog).any (Tryz.prog.mapsRec ·))) = true := by kernel_rfl
theorem jf14 : ((Rows.proverEqualsRow.ifaces == (Tryz.f3.params.toList ++ Rows.proverEqualsSpec.plain.varTypes Tryz.prog).any (Tryz.prog.ifacesRec ·))) = true := by kernel_rfl
theorem jf15 : ((Rows.proverEqualsRow.mapsOut == Tryz.prog.mapsAmong Tryz.f3.resultTypes.toList)) = true := by kernel_rfl
theorem jf16 : ((Rows.proverEqualsRow.loops == (Tryz.f3.params.toList ++ Rows.proverEqualsSpec.plain.varTypes Tryz.prog).any (Tryz.prog.loopsFrom ·))) = true := by kernel_rfl
theorem jf17 : ((Rows.proverEqualsRow.wideKeys == (Tryz.f3.params.toList ++ Rows.proverEqualsSpec.plain.varTypes Tryz.prog ++ Tryz.f3.resultTypes.toList).any (Tryz.prog.wideKeysFrom ·))) = true := by kernel_rfl
theorem jf18 : (Rows.proverEqualsSpec.vars.all (Tryz.prog.varReadable ·)) = true := by kernel_rfl
theorem jf19 : (Tryz.f3.resultTypes.all (fun t => Tryz.prog.readableRec t && decide (t < Tryz.prog.types.size))) = true := by kernel_rfl
theorem jf20 : ((Rows.proverEqualsRow.ifacesOut == Tryz.f3.resultTypes.toList.any (Tryz.prog.ifacesRec ·))) = true := by kernel_rfl
theorem jf21 : ((Rows.proverEqualsRow.loopsOut == Tryz.f3.resultTypes.toList.any (Tryz.prog.loopsFrom ·))) = true := by kernel_rfl
theorem jf22 : ((Rows.proverEqualsRow.plainKeys == Tryz.prog.plainKeys)) = true := by kernel_rfl
theorem jf23 : (Rows.proverEqualsRow.shortTexts.isNone) = true := by kernel_rfl
theorem jf24 : (Tryz.prog.stopsHeard) = true := by kernel_rfl
theorem jf25 : (Tryz.prog.mayEnter) = true := by kernel_rfl
theorem jf26 : ((Rows.proverEqualsRow.lifted == Tryz.prog.liftsFinal)) = true := by kernel_rfl
theorem jf27 : ((Tryz.prog.make == some Rows.proverEqualsRow.make)) = true := by kernel_rfl
theorem jf28 : ((Rows.proverEqualsRow.kinds == (if Rows.proverEqualsRow.domain.isEmpty then [] else Tryz.f3.params.toList.map fun t => match Tryz.prog.underlying t with | some (.int k) => some k | _ => none))) = true := by kernel_rfl
theorem jf29 : ((Rows.proverEqualsRow.pinned == Rows.proverEqualsRow.pinnedBy)) = true := by kernel_rfl
theorem jf30 : ((Rows.proverEqualsRow.veiled == (Tryz.f3.params.toList ++ Rows.proverEqualsSpec.plain.varTypes Tryz.prog ++ Tryz.f3.resultTypes.toList).any (Tryz.prog.veiledRec ·))) = true := by kernel_rfl
theorem jf31 : (Rows.proverEqualsRow.veiledFits Tryz.prog Tryz.f3.params.toList (Tryz.f3.params.toList ++ Rows.proverEqualsSpec.plain.varTypes Tryz.prog ++ Tryz.f3.resultTypes.toList)) = true := by kernel_rfl
end Go.Proofs.YtmlcjnhkphkpiaaGreatDoor
