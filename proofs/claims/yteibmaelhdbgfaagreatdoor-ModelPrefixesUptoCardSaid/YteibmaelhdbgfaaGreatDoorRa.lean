/- A part of the proof. -/
import Derived.Test.YteibmaelhdbgfaaGreatDoorRows
import Derived.ProofKit
import Derived.Stop.Joined

section
namespace Go.Proofs.YteibmaelhdbgfaaGreatDoor
open Go
set_option maxRecDepth 100000
theorem jf0:(Rows.modelPrefixesUptoRow.wf (OpenSpec.ofChange (Rows.OpenSpec.upto Rows.modelPrefixesSpec).bare))=true:=by kernel_rfl
theorem jf1:(laidOutB Tryz.prog)=true:=by kernel_rfl
theorem jf2:(mapsRowed Tryz.prog)=true:=by kernel_rfl
theorem jf3:(Tryz.f3.params.all (Tryz.prog.readableRec .))=true:=by kernel_rfl
theorem jf4:(namedTie Tryz.prog Rows.modelPrefixesUptoRow.named (Rows.OpenSpec.upto Rows.modelPrefixesSpec).bare.vars)=true:=by kernel_rfl
theorem jf5:((Rows.modelPrefixesUptoRow.stops==[]))=true:=by kernel_rfl
theorem jf6:((Tryz.prog.stops==[]))=true:=by kernel_rfl
theorem jf7:((Rows.modelPrefixesUptoRow.knobs==[]))=true:=by kernel_rfl
theorem jf8:((Tryz.prog.stopKnobs==[]))=true:=by kernel_rfl
end Go.Proofs.YteibmaelhdbgfaaGreatDoor
end

section
namespace Go.Proofs.YteibmaelhdbgfaaGreatDoor
open Go
set_option maxRecDepth 100000
theorem jf13:((Rows.modelPrefixesUptoRow.maps==(Tryz.f3.params.toList++(Rows.OpenSpec.upto Rows.modelPrefixesSpec).bare.plain.varTypes Tryz.prog).any (Tryz.prog.mapsRec .)))=true:=by kernel_rfl
theorem jf14:((Rows.modelPrefixesUptoRow.ifaces==(Tryz.f3.params.toList++(Rows.OpenSpec.upto Rows.modelPrefixesSpec).bare.plain.varTypes Tryz.prog).any (Tryz.prog.ifacesRec .)))=true:=by kernel_rfl
theorem jf15:((Rows.modelPrefixesUptoRow.mapsOut==Tryz.prog.mapsAmong Tryz.f3.resultTypes.toList))=true:=by kernel_rfl
theorem jf16:((Rows.modelPrefixesUptoRow.loops==(Tryz.f3.params.toList++(Rows.OpenSpec.upto Rows.modelPrefixesSpec).bare.plain.varTypes Tryz.prog).any (Tryz.prog.loopsFrom .)))=true:=by kernel_rfl
theorem jf17:((Rows.modelPrefixesUptoRow.wideKeys==(Tryz.f3.params.toList++(Rows.OpenSpec.upto Rows.modelPrefixesSpec).bare.plain.varTypes Tryz.prog++Tryz.f3.resultTypes.toList).any (Tryz.prog.wideKeysFrom .)))=true:=by kernel_rfl
theorem jf18:((Rows.OpenSpec.upto Rows.modelPrefixesSpec).bare.vars.all (Tryz.prog.varReadable .))=true:=by kernel_rfl
theorem jf19:(Tryz.f3.resultTypes.all (λt=>Tryz.prog.readableRec t&&decide (t<Tryz.prog.types.size)))=true:=by kernel_rfl
theorem jf20:((Rows.modelPrefixesUptoRow.ifacesOut==Tryz.f3.resultTypes.toList.any (Tryz.prog.ifacesRec .)))=true:=by kernel_rfl
theorem jf21:((Rows.modelPrefixesUptoRow.loopsOut==Tryz.f3.resultTypes.toList.any (Tryz.prog.loopsFrom .)))=true:=by kernel_rfl
theorem jf22:((Rows.modelPrefixesUptoRow.plainKeys==Tryz.prog.plainKeys))=true:=by kernel_rfl
theorem jf23:(Rows.modelPrefixesUptoRow.shortTexts.isNone)=true:=by kernel_rfl
theorem jf24:(Tryz.prog.stopsHeard)=true:=by kernel_rfl
theorem jf25:(Tryz.prog.mayEnter)=true:=by kernel_rfl
theorem jf26:((Rows.modelPrefixesUptoRow.lifted==Tryz.prog.liftsFinal))=true:=by kernel_rfl
theorem jf27:((Tryz.prog.make==some Rows.modelPrefixesUptoRow.make))=true:=by kernel_rfl
theorem jf28:((Rows.modelPrefixesUptoRow.kinds==(if Rows.modelPrefixesUptoRow.domain.isEmpty then[]else Tryz.f3.params.toList.map λt=>match Tryz.prog.underlying t with|some (.int k)=>some k|_=>none)))=true:=by kernel_rfl
theorem jf29:((Rows.modelPrefixesUptoRow.pinned==Rows.modelPrefixesUptoRow.pinnedBy))=true:=by kernel_rfl
theorem jf30:((Rows.modelPrefixesUptoRow.veiled==(Tryz.f3.params.toList++(Rows.OpenSpec.upto Rows.modelPrefixesSpec).bare.plain.varTypes Tryz.prog++Tryz.f3.resultTypes.toList).any (Tryz.prog.veiledRec .)))=true:=by kernel_rfl
theorem jf31:(Rows.modelPrefixesUptoRow.veiledFits Tryz.prog Tryz.f3.params.toList (Tryz.f3.params.toList++(Rows.OpenSpec.upto Rows.modelPrefixesSpec).bare.plain.varTypes Tryz.prog++Tryz.f3.resultTypes.toList))=true:=by kernel_rfl
end Go.Proofs.YteibmaelhdbgfaaGreatDoor
end
