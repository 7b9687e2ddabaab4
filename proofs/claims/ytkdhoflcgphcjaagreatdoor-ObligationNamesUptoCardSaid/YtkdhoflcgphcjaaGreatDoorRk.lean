/- A part of the proof. -/
import Derived.Test.YtkdhoflcgphcjaaGreatDoorRows
import Derived.Deep.DeepWitnessRowRef
import Derived.ProofKit
import Derived.OpenShut
import Derived.LaidMore
import Derived.Lay
import Derived.SevenTiedAt
set_option linter.all false

section
namespace Go.Proofs.YtkdhoflcgphcjaaGreatDoor
open Go.ChangeShapes Go.WideShapes Go.ChangeAt Go.RowKit
set_option maxRecDepth 100000
theorem wit2(os:Os):(((World.laidAll Tryz.prog os Rows.obligationNamesUptoRow.laid).forCall (λ_ _=>0) ⟨#[],#[.slice none 0 0,.slice none 0 0,.string ⟨#[]⟩],[]⟩).heap.toList.drop Tryz.checked.prog.globals.size).take ((begin Tryz.checked.prog (λ_ _=>0) default).world.heap.size-Tryz.checked.prog.globals.size)=(begin Tryz.checked.prog (λ_ _=>0) default).world.heap.toList.drop Tryz.checked.prog.globals.size:=by kernel_rfl
end Go.Proofs.YtkdhoflcgphcjaaGreatDoor
end

section
namespace Go.Proofs.YtkdhoflcgphcjaaGreatDoor
open Go.ChangeShapes Go.WideShapes Go.ChangeAt Go.RowKit
set_option maxRecDepth 100000
theorem wit3(os:Os):Input.okWideB Tryz.checked.prog ((World.laidAll Tryz.prog os Rows.obligationNamesUptoRow.laid).forCall (λ_ _=>0) ⟨#[],#[.slice none 0 0,.slice none 0 0,.string ⟨#[]⟩],[]⟩) 3 ⟨#[],#[.slice none 0 0,.slice none 0 0,.string ⟨#[]⟩],[]⟩=true:=by kernel_rfl
end Go.Proofs.YtkdhoflcgphcjaaGreatDoor
end
