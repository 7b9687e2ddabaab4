/-
  A part of the proof: RF1 RF6.
-/
import Derived.Test.YteibmaelhdbgfaaGreatDoorRows
import Derived.ProofKit
import Derived.KernelRfl
import Derived.JoinedOf
import Derived.Stop.Joined
import Derived.JoinedCond
set_option linter.all false

section
namespace Go.Proofs.YteibmaelhdbgfaaGreatDoor
open Go
set_option maxRecDepth 100000
set_option linter.all false
theorem jf0:(Rows.modelOrdersUptoRow.wf (OpenSpec.ofChange (Rows.OpenSpec.upto Rows.modelOrdersSpec).bare))=true:=by kernel_rfl
theorem jf1:(laidOutB Tryz.prog)=true:=by kernel_rfl
theorem jf2:(mapsRowed Tryz.prog)=true:=by kernel_rfl
theorem jf3:(Tryz.f4.params.all (Tryz.prog.readableRec .))=true:=by kernel_rfl
theorem jf4:(namedTie Tryz.prog Rows.modelOrdersUptoRow.named (Rows.OpenSpec.upto Rows.modelOrdersSpec).bare.vars)=true:=by kernel_rfl
theorem jf5:((Rows.modelOrdersUptoRow.stops==[]))=true:=by kernel_rfl
theorem jf6:((Tryz.prog.stops==[]))=true:=by kernel_rfl
theorem jf7:((Rows.modelOrdersUptoRow.knobs==[]))=true:=by kernel_rfl
theorem jf8:((Tryz.prog.stopKnobs==[]))=true:=by kernel_rfl
end Go.Proofs.YteibmaelhdbgfaaGreatDoor
end

section
namespace Go.Proofs.YteibmaelhdbgfaaGreatDoor
open Go
set_option maxRecDepth 100000
set_option linter.all false
theorem jf13:((Rows.modelOrdersUptoRow.maps==(Tryz.f4.params.toList++(Rows.OpenSpec.upto Rows.modelOrdersSpec).bare.plain.varTypes Tryz.prog).any (Tryz.prog.mapsRec .)))=true:=by kernel_rfl
theorem jf14:((Rows.modelOrdersUptoRow.ifaces==(Tryz.f4.params.toList++(Rows.OpenSpec.upto Rows.modelOrdersSpec).bare.plain.varTypes Tryz.prog).any (Tryz.prog.ifacesRec .)))=true:=by kernel_rfl
theorem jf15:((Rows.modelOrdersUptoRow.mapsOut==Tryz.prog.mapsAmong Tryz.f4.resultTypes.toList))=true:=by kernel_rfl
theorem jf16:((Rows.modelOrdersUptoRow.loops==(Tryz.f4.params.toList++(Rows.OpenSpec.upto Rows.modelOrdersSpec).bare.plain.varTypes Tryz.prog).any (Tryz.prog.loopsFrom .)))=true:=by kernel_rfl
theorem jf17:((Rows.modelOrdersUptoRow.wideKeys==(Tryz.f4.params.toList++(Rows.OpenSpec.upto Rows.modelOrdersSpec).bare.plain.varTypes Tryz.prog++Tryz.f4.resultTypes.toList).any (Tryz.prog.wideKeysFrom .)))=true:=by kernel_rfl
theorem jf18:((Rows.OpenSpec.upto Rows.modelOrdersSpec).bare.vars.all (Tryz.prog.varReadable .))=true:=by kernel_rfl
theorem jf19:(Tryz.f4.resultTypes.all (λt=>Tryz.prog.readableRec t&&decide (t<Tryz.prog.types.size)))=true:=by kernel_rfl
theorem jf20:((Rows.modelOrdersUptoRow.ifacesOut==Tryz.f4.resultTypes.toList.any (Tryz.prog.ifacesRec .)))=true:=by kernel_rfl
theorem jf21:((Rows.modelOrdersUptoRow.loopsOut==Tryz.f4.resultTypes.toList.any (Tryz.prog.loopsFrom .)))=true:=by kernel_rfl
theorem jf22:((Rows.modelOrdersUptoRow.plainKeys==Tryz.prog.plainKeys))=true:=by kernel_rfl
theorem jf23:(Rows.modelOrdersUptoRow.shortTexts.isNone)=true:=by kernel_rfl
theorem jf24:(Tryz.prog.stopsHeard)=true:=by kernel_rfl
theorem jf25:(Tryz.prog.mayEnter)=true:=by kernel_rfl
theorem jf26:((Rows.modelOrdersUptoRow.lifted==Tryz.prog.liftsFinal))=true:=by kernel_rfl
theorem jf27:((Tryz.prog.make==some Rows.modelOrdersUptoRow.make))=true:=by kernel_rfl
theorem jf28:((Rows.modelOrdersUptoRow.kinds==(if Rows.modelOrdersUptoRow.domain.isEmpty then[]else Tryz.f4.params.toList.map λt=>match Tryz.prog.underlying t with|some (.int k)=>some k|_=>none)))=true:=by kernel_rfl
theorem jf29:((Rows.modelOrdersUptoRow.pinned==Rows.modelOrdersUptoRow.pinnedBy))=true:=by kernel_rfl
theorem jf30:((Rows.modelOrdersUptoRow.veiled==(Tryz.f4.params.toList++(Rows.OpenSpec.upto Rows.modelOrdersSpec).bare.plain.varTypes Tryz.prog++Tryz.f4.resultTypes.toList).any (Tryz.prog.veiledRec .)))=true:=by kernel_rfl
theorem jf31:(Rows.modelOrdersUptoRow.veiledFits Tryz.prog Tryz.f4.params.toList (Tryz.f4.params.toList++(Rows.OpenSpec.upto Rows.modelOrdersSpec).bare.plain.varTypes Tryz.prog++Tryz.f4.resultTypes.toList))=true:=by kernel_rfl
end Go.Proofs.YteibmaelhdbgfaaGreatDoor
end
