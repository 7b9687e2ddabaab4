/-
  A part of the proof: RF1 RF6.
-/
import Derived.Test.YtbdcnekkebhhhaaGreatDoorRows
import Derived.ProofKit
import Derived.KernelRfl
import Derived.JoinedOf
import Derived.Stop.Joined
import Derived.JoinedCond
set_option linter.all false

section
namespace Go.Proofs.YtbdcnekkebhhhaaGreatDoor
open Go
set_option maxRecDepth 100000
set_option linter.all false
theorem jf0 : (Rows.modelFormatsUptoRow.wf (OpenSpec.ofChange (Rows.OpenSpec.upto Rows.modelFormatsSpec).bare)) = true := by kernel_rfl
theorem jf1 : (laidOutB Tryz.prog) = true := by kernel_rfl
theorem jf2 : (mapsRowed Tryz.prog) = true := by kernel_rfl
theorem jf3 : (Tryz.f3.params.all (Tryz.prog.readableRec ·)) = true := by kernel_rfl
theorem jf4 : (namedTie Tryz.prog Rows.modelFormatsUptoRow.named (Rows.OpenSpec.upto Rows.modelFormatsSpec).bare.vars) = true := by kernel_rfl
theorem jf5 : ((Rows.modelFormatsUptoRow.stops == [])) = true := by kernel_rfl
theorem jf6 : ((Tryz.prog.stops == [])) = true := by kernel_rfl
theorem jf7 : ((Rows.modelFormatsUptoRow.knobs == [])) = true := by kernel_rfl
theorem jf8 : ((Tryz.prog.stopKnobs == [])) = true := by kernel_rfl
end Go.Proofs.YtbdcnekkebhhhaaGreatDoor
end

section
namespace Go.Proofs.YtbdcnekkebhhhaaGreatDoor
open Go
set_option maxRecDepth 100000
set_option linter.all false
theorem jf13 : ((Rows.modelFormatsUptoRow.maps == (Tryz.f3.params.toList ++ (Rows.OpenSpec.upto Rows.modelFormatsSpec).bare.plain.varTypes Tryz.prog).any (Tryz.prog.mapsRec ·))) = true := by kernel_rfl
theorem jf14 : ((Rows.modelFormatsUptoRow.ifaces == (Tryz.f3.params.toList ++ (Rows.OpenSpec.upto Rows.modelFormatsSpec).bare.plain.varTypes Tryz.prog).any (Tryz.prog.ifacesRec ·))) = true := by kernel_rfl
theorem jf15 : ((Rows.modelFormatsUptoRow.mapsOut == Tryz.prog.mapsAmong Tryz.f3.resultTypes.toList)) = true := by kernel_rfl
theorem jf16 : ((Rows.modelFormatsUptoRow.loops == (Tryz.f3.params.toList ++ (Rows.OpenSpec.upto Rows.modelFormatsSpec).bare.plain.varTypes Tryz.prog).any (Tryz.prog.loopsFrom ·))) = true := by kernel_rfl
theorem jf17 : ((Rows.modelFormatsUptoRow.wideKeys == (Tryz.f3.params.toList ++ (Rows.OpenSpec.upto Rows.modelFormatsSpec).bare.plain.varTypes Tryz.prog ++ Tryz.f3.resultTypes.toList).any (Tryz.prog.wideKeysFrom ·))) = true := by kernel_rfl
theorem jf18 : ((Rows.OpenSpec.upto Rows.modelFormatsSpec).bare.vars.all (Tryz.prog.varReadable ·)) = true := by kernel_rfl
theorem jf19 : (Tryz.f3.resultTypes.all (fun t => Tryz.prog.readableRec t && decide (t < Tryz.prog.types.size))) = true := by kernel_rfl
theorem jf20 : ((Rows.modelFormatsUptoRow.ifacesOut == Tryz.f3.resultTypes.toList.any (Tryz.prog.ifacesRec ·))) = true := by kernel_rfl
theorem jf21 : ((Rows.modelFormatsUptoRow.loopsOut == Tryz.f3.resultTypes.toList.any (Tryz.prog.loopsFrom ·))) = true := by kernel_rfl
theorem jf22 : ((Rows.modelFormatsUptoRow.plainKeys == Tryz.prog.plainKeys)) = true := by kernel_rfl
theorem jf23 : (Rows.modelFormatsUptoRow.shortTexts.isNone) = true := by kernel_rfl
theorem jf24 : (Tryz.prog.stopsHeard) = true := by kernel_rfl
theorem jf25 : (Tryz.prog.mayEnter) = true := by kernel_rfl
theorem jf26 : ((Rows.modelFormatsUptoRow.lifted == Tryz.prog.liftsFinal)) = true := by kernel_rfl
theorem jf27 : ((Tryz.prog.make == some Rows.modelFormatsUptoRow.make)) = true := by kernel_rfl
theorem jf28 : ((Rows.modelFormatsUptoRow.kinds == (if Rows.modelFormatsUptoRow.domain.isEmpty then [] else Tryz.f3.params.toList.map fun t => match Tryz.prog.underlying t with | some (.int k) => some k | _ => none))) = true := by kernel_rfl
theorem jf29 : ((Rows.modelFormatsUptoRow.pinned == Rows.modelFormatsUptoRow.pinnedBy)) = true := by kernel_rfl
theorem jf30 : ((Rows.modelFormatsUptoRow.veiled == (Tryz.f3.params.toList ++ (Rows.OpenSpec.upto Rows.modelFormatsSpec).bare.plain.varTypes Tryz.prog ++ Tryz.f3.resultTypes.toList).any (Tryz.prog.veiledRec ·))) = true := by kernel_rfl
theorem jf31 : (Rows.modelFormatsUptoRow.veiledFits Tryz.prog Tryz.f3.params.toList (Tryz.f3.params.toList ++ (Rows.OpenSpec.upto Rows.modelFormatsSpec).bare.plain.varTypes Tryz.prog ++ Tryz.f3.resultTypes.toList)) = true := by kernel_rfl
end Go.Proofs.YtbdcnekkebhhhaaGreatDoor
end
