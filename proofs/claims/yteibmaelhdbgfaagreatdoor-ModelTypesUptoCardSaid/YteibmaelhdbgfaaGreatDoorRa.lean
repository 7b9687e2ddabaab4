/- A part of the proof. -/
import Derived.Test.YteibmaelhdbgfaaGreatDoorRows
import Derived.ProofKit
import Derived.Stop.Joined

section
namespace Go.Proofs.YteibmaelhdbgfaaGreatDoor
open Go
set_option maxRecDepth 100000
theorem jf0:(Rows.modelTypesUptoRow.wf (OpenSpec.ofChange (Rows.OpenSpec.upto Rows.modelTypesSpec).bare))=true:=by kernel_rfl
theorem jf1:(laidOutB Tryz.prog)=true:=by kernel_rfl
theorem jf2:(mapsRowed Tryz.prog)=true:=by kernel_rfl
theorem jf3:(Tryz.f6.params.all (Tryz.prog.readableRec .))=true:=by kernel_rfl
theorem jf4:(namedTie Tryz.prog Rows.modelTypesUptoRow.named (Rows.OpenSpec.upto Rows.modelTypesSpec).bare.vars)=true:=by kernel_rfl
theorem jf5:((Rows.modelTypesUptoRow.stops==[]))=true:=by kernel_rfl
theorem jf6:((Tryz.prog.stops==[]))=true:=by kernel_rfl
theorem jf7:((Rows.modelTypesUptoRow.knobs==[]))=true:=by kernel_rfl
theorem jf8:((Tryz.prog.stopKnobs==[]))=true:=by kernel_rfl
end Go.Proofs.YteibmaelhdbgfaaGreatDoor
end

section
namespace Go.Proofs.YteibmaelhdbgfaaGreatDoor
open Go
set_option maxRecDepth 100000
theorem jf13:((Rows.modelTypesUptoRow.maps==(Tryz.f6.params.toList++(Rows.OpenSpec.upto Rows.modelTypesSpec).bare.plain.varTypes Tryz.prog).any (Tryz.prog.mapsRec .)))=true:=by kernel_rfl
theorem jf14:((Rows.modelTypesUptoRow.ifaces==(Tryz.f6.params.toList++(Rows.OpenSpec.upto Rows.modelTypesSpec).bare.plain.varTypes Tryz.prog).any (Tryz.prog.ifacesRec .)))=true:=by kernel_rfl
theorem jf15:((Rows.modelTypesUptoRow.mapsOut==Tryz.prog.mapsAmong Tryz.f6.resultTypes.toList))=true:=by kernel_rfl
theorem jf16:((Rows.modelTypesUptoRow.loops==(Tryz.f6.params.toList++(Rows.OpenSpec.upto Rows.modelTypesSpec).bare.plain.varTypes Tryz.prog).any (Tryz.prog.loopsFrom .)))=true:=by kernel_rfl
theorem jf17:((Rows.modelTypesUptoRow.wideKeys==(Tryz.f6.params.toList++(Rows.OpenSpec.upto Rows.modelTypesSpec).bare.plain.varTypes Tryz.prog++Tryz.f6.resultTypes.toList).any (Tryz.prog.wideKeysFrom .)))=true:=by kernel_rfl
theorem jf18:((Rows.OpenSpec.upto Rows.modelTypesSpec).bare.vars.all (Tryz.prog.varReadable .))=true:=by kernel_rfl
theorem jf19:(Tryz.f6.resultTypes.all (λt=>Tryz.prog.readableRec t&&decide (t<Tryz.prog.types.size)))=true:=by kernel_rfl
theorem jf20:((Rows.modelTypesUptoRow.ifacesOut==Tryz.f6.resultTypes.toList.any (Tryz.prog.ifacesRec .)))=true:=by kernel_rfl
theorem jf21:((Rows.modelTypesUptoRow.loopsOut==Tryz.f6.resultTypes.toList.any (Tryz.prog.loopsFrom .)))=true:=by kernel_rfl
theorem jf22:((Rows.modelTypesUptoRow.plainKeys==Tryz.prog.plainKeys))=true:=by kernel_rfl
theorem jf23:(Rows.modelTypesUptoRow.shortTexts.isNone)=true:=by kernel_rfl
theorem jf24:(Tryz.prog.stopsHeard)=true:=by kernel_rfl
theorem jf25:(Tryz.prog.mayEnter)=true:=by kernel_rfl
theorem jf26:((Rows.modelTypesUptoRow.lifted==Tryz.prog.liftsFinal))=true:=by kernel_rfl
theorem jf27:((Tryz.prog.make==some Rows.modelTypesUptoRow.make))=true:=by kernel_rfl
theorem jf28:((Rows.modelTypesUptoRow.kinds==(if Rows.modelTypesUptoRow.domain.isEmpty then[]else Tryz.f6.params.toList.map λt=>match Tryz.prog.underlying t with|some (.int k)=>some k|_=>none)))=true:=by kernel_rfl
theorem jf29:((Rows.modelTypesUptoRow.pinned==Rows.modelTypesUptoRow.pinnedBy))=true:=by kernel_rfl
theorem jf30:((Rows.modelTypesUptoRow.veiled==(Tryz.f6.params.toList++(Rows.OpenSpec.upto Rows.modelTypesSpec).bare.plain.varTypes Tryz.prog++Tryz.f6.resultTypes.toList).any (Tryz.prog.veiledRec .)))=true:=by kernel_rfl
theorem jf31:(Rows.modelTypesUptoRow.veiledFits Tryz.prog Tryz.f6.params.toList (Tryz.f6.params.toList++(Rows.OpenSpec.upto Rows.modelTypesSpec).bare.plain.varTypes Tryz.prog++Tryz.f6.resultTypes.toList))=true:=by kernel_rfl
end Go.Proofs.YteibmaelhdbgfaaGreatDoor
end
