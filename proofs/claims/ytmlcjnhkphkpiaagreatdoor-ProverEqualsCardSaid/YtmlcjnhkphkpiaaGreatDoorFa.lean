/-
  A part of the proof: RF1.
-/
import Derived.Test.YtmlcjnhkphkpiaaGreatDoorRows
import Derived.ProofKit
import Derived.KernelRfl
import Derived.JoinedOf
import Derived.Stop.Joined
set_option linter.all false

namespace Go.Proofs.YtmlcjnhkphkpiaaGreatDoor
open Go
set_option maxRecDepth 100000
theorem jf0 : (Rows.proverEqualsRow.wf (OpenSpec.ofChange Rows.proverEqualsSpec)) = true := by kernel_rfl
theorem jf1 : (laidOutB Tryz.prog) = true := by kernel_rfl
theorem jf2 : (mapsRowed Tryz.prog) = true := by kernel_rfl
theorem jf3 : (Tryz.f3.params.all (Tryz.prog.readableRec ·)) = true := by kernel_rfl
theorem jf4 : (namedTie Tryz.prog Rows.proverEqualsRow.named Rows.proverEqualsSpec.vars) = true := by kernel_rfl
theorem jf5 : ((Rows.proverEqualsRow.stops == [])) = true := by kernel_rfl
theorem jf6 : ((Tryz.prog.stops == [])) = true := by kernel_rfl
theorem jf7 : ((Rows.proverEqualsRow.knobs == [])) = true := by kernel_rfl
theorem jf8 : ((Tryz.prog.stopKnobs == [])) = true := by kernel_rfl
end Go.Proofs.YtmlcjnhkphkpiaaGreatDoor
