/- A part of the proof. -/
import Derived.Test.YtkdhoflcgphcjaaGreatDoorRows
import Derived.ProofKit
import Derived.Stop.Joined
set_option linter.all false

section
namespace Go.Proofs.YtkdhoflcgphcjaaGreatDoor
open Go
set_option maxRecDepth 100000
theorem jf0:(Rows.obligationNamesUptoRow.wf (OpenSpec.ofChange (Rows.OpenSpec.upto Rows.obligationNamesSpec).bare))=true:=by kernel_rfl
theorem jf1:(laidOutB Tryz.prog)=true:=by kernel_rfl
theorem jf2:(mapsRowed Tryz.prog)=true:=by kernel_rfl
theorem jf3:(Tryz.f3.params.all (Tryz.prog.readableRec .))=true:=by kernel_rfl
theorem jf4:(namedTie Tryz.prog Rows.obligationNamesUptoRow.named (Rows.OpenSpec.upto Rows.obligationNamesSpec).bare.vars)=true:=by kernel_rfl
theorem jf5:((Rows.obligationNamesUptoRow.stops==[]))=true:=by kernel_rfl
theorem jf6:((Tryz.prog.stops==[]))=true:=by kernel_rfl
theorem jf7:((Rows.obligationNamesUptoRow.knobs==[]))=true:=by kernel_rfl
theorem jf8:((Tryz.prog.stopKnobs==[]))=true:=by kernel_rfl
end Go.Proofs.YtkdhoflcgphcjaaGreatDoor
end

section
namespace Go.Proofs.YtkdhoflcgphcjaaGreatDoor
open Go
set_option maxRecDepth 100000
theorem jf13:((Rows.obligationNamesUptoRow.maps==(Tryz.f3.params.toList++(Rows.OpenSpec.upto Rows.obligationNamesSpec).bare.plain.varTypes Tryz.prog).any (Tryz.prog.mapsRec .)))=true:=by kernel_rfl
theorem jf14:((Rows.obligationNamesUptoRow.ifaces==(Tryz.f3.params.toList++(Rows.OpenSpec.upto Rows.obligationNamesSpec).bare.plain.varTypes Tryz.prog).any (Tryz.prog.ifacesRec .)))=true:=by kernel_rfl
theorem jf15:((Rows.obligationNamesUptoRow.mapsOut==Tryz.prog.mapsAmong Tryz.f3.resultTypes.toList))=true:=by kernel_rfl
theorem jf16:((Rows.obligationNamesUptoRow.loops==(Tryz.f3.params.toList++(Rows.OpenSpec.upto Rows.obligationNamesSpec).bare.plain.varTypes Tryz.prog).any (Tryz.prog.loopsFrom .)))=true:=by kernel_rfl
theorem jf17:((Rows.obligationNamesUptoRow.wideKeys==(Tryz.f3.params.toList++(Rows.OpenSpec.upto Rows.obligationNamesSpec).bare.plain.varTypes Tryz.prog++Tryz.f3.resultTypes.toList).any (Tryz.prog.wideKeysFrom .)))=true:=by kernel_rfl
theorem jf18:((Rows.OpenSpec.upto Rows.obligationNamesSpec).bare.vars.all (Tryz.prog.varReadable .))=true:=by kernel_rfl
theorem jf19:(Tryz.f3.resultTypes.all (λt=>Tryz.prog.readableRec t&&decide (t<Tryz.prog.types.size)))=true:=by kernel_rfl
theorem jf20:((Rows.obligationNamesUptoRow.ifacesOut==Tryz.f3.resultTypes.toList.any (Tryz.prog.ifacesRec .)))=true:=by kernel_rfl
theorem jf21:((Rows.obligationNamesUptoRow.loopsOut==Tryz.f3.resultTypes.toList.any (Tryz.prog.loopsFrom .)))=true:=by kernel_rfl
theorem jf22:((Rows.obligationNamesUptoRow.plainKeys==Tryz.prog.plainKeys))=true:=by kernel_rfl
theorem jf23:(Rows.obligationNamesUptoRow.shortTexts.isNone)=true:=by kernel_rfl
theorem jf24:(Tryz.prog.stopsHeard)=true:=by kernel_rfl
theorem jf25:(Tryz.prog.mayEnter)=true:=by kernel_rfl
theorem jf26:((Rows.obligationNamesUptoRow.lifted==Tryz.prog.liftsFinal))=true:=by kernel_rfl
theorem jf27:((Tryz.prog.make==some Rows.obligationNamesUptoRow.make))=true:=by kernel_rfl
theorem jf28:((Rows.obligationNamesUptoRow.kinds==(if Rows.obligationNamesUptoRow.domain.isEmpty then[]else Tryz.f3.params.toList.map λt=>match Tryz.prog.underlying t with|some (.int k)=>some k|_=>none)))=true:=by kernel_rfl
theorem jf29:((Rows.obligationNamesUptoRow.pinned==Rows.obligationNamesUptoRow.pinnedBy))=true:=by kernel_rfl
theorem jf30:((Rows.obligationNamesUptoRow.veiled==(Tryz.f3.params.toList++(Rows.OpenSpec.upto Rows.obligationNamesSpec).bare.plain.varTypes Tryz.prog++Tryz.f3.resultTypes.toList).any (Tryz.prog.veiledRec .)))=true:=by kernel_rfl
theorem jf31:(Rows.obligationNamesUptoRow.veiledFits Tryz.prog Tryz.f3.params.toList (Tryz.f3.params.toList++(Rows.OpenSpec.upto Rows.obligationNamesSpec).bare.plain.varTypes Tryz.prog++Tryz.f3.resultTypes.toList))=true:=by kernel_rfl
end Go.Proofs.YtkdhoflcgphcjaaGreatDoor
end
