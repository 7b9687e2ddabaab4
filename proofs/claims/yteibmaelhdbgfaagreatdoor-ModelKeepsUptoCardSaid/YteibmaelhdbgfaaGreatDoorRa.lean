/-
  A part of the proof: RF1 RF6.
-/
import Derived.Test.YteibmaelhdbgfaaGreatDoorRows
import Derived.ProofKit
import Derived.KernelRfl
import Derived.JoinedOf
import Derived.Stop.Joined
import Derived.JoinedCond
set_option linter.all false

section
namespace Go.Proofs.YteibmaelhdbgfaaGreatDoor
open Go
set_option maxRecDepth 100000
set_option linter.all false
theorem jf0:(Rows.modelKeepsUptoRow.wf (OpenSpec.ofChange (Rows.OpenSpec.upto Rows.modelKeepsSpec).bare))=true:=by kernel_rfl
theorem jf1:(laidOutB Tryz.prog)=true:=by kernel_rfl
theorem jf2:(mapsRowed Tryz.prog)=true:=by kernel_rfl
theorem jf3:(Tryz.f5.params.all (Tryz.prog.readableRec .))=true:=by kernel_rfl
theorem jf4:(namedTie Tryz.prog Rows.modelKeepsUptoRow.named (Rows.OpenSpec.upto Rows.modelKeepsSpec).bare.vars)=true:=by kernel_rfl
theorem jf5:((Rows.modelKeepsUptoRow.stops==[]))=true:=by kernel_rfl
theorem jf6:((Tryz.prog.stops==[]))=true:=by kernel_rfl
theorem jf7:((Rows.modelKeepsUptoRow.knobs==[]))=true:=by kernel_rfl
theorem jf8:((Tryz.prog.stopKnobs==[]))=true:=by kernel_rfl
end Go.Proofs.YteibmaelhdbgfaaGreatDoor
end

section
namespace Go.Proofs.YteibmaelhdbgfaaGreatDoor
open Go
set_option maxRecDepth 100000
set_option linter.all false
theorem jf13:((Rows.modelKeepsUptoRow.maps==(Tryz.f5.params.toList++(Rows.OpenSpec.upto Rows.modelKeepsSpec).bare.plain.varTypes Tryz.prog).any (Tryz.prog.mapsRec .)))=true:=by kernel_rfl
theorem jf14:((Rows.modelKeepsUptoRow.ifaces==(Tryz.f5.params.toList++(Rows.OpenSpec.upto Rows.modelKeepsSpec).bare.plain.varTypes Tryz.prog).any (Tryz.prog.ifacesRec .)))=true:=by kernel_rfl
theorem jf15:((Rows.modelKeepsUptoRow.mapsOut==Tryz.prog.mapsAmong Tryz.f5.resultTypes.toList))=true:=by kernel_rfl
theorem jf16:((Rows.modelKeepsUptoRow.loops==(Tryz.f5.params.toList++(Rows.OpenSpec.upto Rows.modelKeepsSpec).bare.plain.varTypes Tryz.prog).any (Tryz.prog.loopsFrom .)))=true:=by kernel_rfl
theorem jf17:((Rows.modelKeepsUptoRow.wideKeys==(Tryz.f5.params.toList++(Rows.OpenSpec.upto Rows.modelKeepsSpec).bare.plain.varTypes Tryz.prog++Tryz.f5.resultTypes.toList).any (Tryz.prog.wideKeysFrom .)))=true:=by kernel_rfl
theorem jf18:((Rows.OpenSpec.upto Rows.modelKeepsSpec).bare.vars.all (Tryz.prog.varReadable .))=true:=by kernel_rfl
theorem jf19:(Tryz.f5.resultTypes.all (λt=>Tryz.prog.readableRec t&&decide (t<Tryz.prog.types.size)))=true:=by kernel_rfl
theorem jf20:((Rows.modelKeepsUptoRow.ifacesOut==Tryz.f5.resultTypes.toList.any (Tryz.prog.ifacesRec .)))=true:=by kernel_rfl
theorem jf21:((Rows.modelKeepsUptoRow.loopsOut==Tryz.f5.resultTypes.toList.any (Tryz.prog.loopsFrom .)))=true:=by kernel_rfl
theorem jf22:((Rows.modelKeepsUptoRow.plainKeys==Tryz.prog.plainKeys))=true:=by kernel_rfl
theorem jf23:(Rows.modelKeepsUptoRow.shortTexts.isNone)=true:=by kernel_rfl
theorem jf24:(Tryz.prog.stopsHeard)=true:=by kernel_rfl
theorem jf25:(Tryz.prog.mayEnter)=true:=by kernel_rfl
theorem jf26:((Rows.modelKeepsUptoRow.lifted==Tryz.prog.liftsFinal))=true:=by kernel_rfl
theorem jf27:((Tryz.prog.make==some Rows.modelKeepsUptoRow.make))=true:=by kernel_rfl
theorem jf28:((Rows.modelKeepsUptoRow.kinds==(if Rows.modelKeepsUptoRow.domain.isEmpty then[]else Tryz.f5.params.toList.map λt=>match Tryz.prog.underlying t with|some (.int k)=>some k|_=>none)))=true:=by kernel_rfl
theorem jf29:((Rows.modelKeepsUptoRow.pinned==Rows.modelKeepsUptoRow.pinnedBy))=true:=by kernel_rfl
theorem jf30:((Rows.modelKeepsUptoRow.veiled==(Tryz.f5.params.toList++(Rows.OpenSpec.upto Rows.modelKeepsSpec).bare.plain.varTypes Tryz.prog++Tryz.f5.resultTypes.toList).any (Tryz.prog.veiledRec .)))=true:=by kernel_rfl
theorem jf31:(Rows.modelKeepsUptoRow.veiledFits Tryz.prog Tryz.f5.params.toList (Tryz.f5.params.toList++(Rows.OpenSpec.upto Rows.modelKeepsSpec).bare.plain.varTypes Tryz.prog++Tryz.f5.resultTypes.toList))=true:=by kernel_rfl
end Go.Proofs.YteibmaelhdbgfaaGreatDoor
end
