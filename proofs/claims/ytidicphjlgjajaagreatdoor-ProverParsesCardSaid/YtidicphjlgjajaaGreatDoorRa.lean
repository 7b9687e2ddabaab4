/-
  A part of the proof: RF1 RF6.
-/
import Derived.Test.YtidicphjlgjajaaGreatDoorRows
import Derived.ProofKit
import Derived.KernelRfl
import Derived.JoinedOf
import Derived.Stop.Joined
import Derived.JoinedCond
set_option linter.all false

section
namespace Go.Proofs.YtidicphjlgjajaaGreatDoor
open Go
set_option maxRecDepth 100000
set_option linter.all false
theorem jf0:(Rows.proverParsesRow.wf (OpenSpec.ofChange (OpenSpec.ofChange Rows.proverParsesSpec).bare))=true:=by kernel_rfl
theorem jf1:(laidOutB Tryz.prog)=true:=by kernel_rfl
theorem jf2:(mapsRowed Tryz.prog)=true:=by kernel_rfl
theorem jf3:(Tryz.f3.params.all (Tryz.prog.readableRec .))=true:=by kernel_rfl
theorem jf4:(namedTie Tryz.prog Rows.proverParsesRow.named (OpenSpec.ofChange Rows.proverParsesSpec).bare.vars)=true:=by kernel_rfl
theorem jf5:((Rows.proverParsesRow.stops==[]))=true:=by kernel_rfl
theorem jf6:((Tryz.prog.stops==[]))=true:=by kernel_rfl
theorem jf7:((Rows.proverParsesRow.knobs==[]))=true:=by kernel_rfl
theorem jf8:((Tryz.prog.stopKnobs==[]))=true:=by kernel_rfl
end Go.Proofs.YtidicphjlgjajaaGreatDoor
end

section
namespace Go.Proofs.YtidicphjlgjajaaGreatDoor
open Go
set_option maxRecDepth 100000
set_option linter.all false
theorem aar:((Rows.proverParsesRow.maps==(Tryz.f3.params.toList++(OpenSpec.ofChange Rows.proverParsesSpec).bare.plain.varTypes Tryz.prog).any (Tryz.prog.mapsRec .)))=true:=by kernel_rfl
theorem aas:((Rows.proverParsesRow.ifaces==(Tryz.f3.params.toList++(OpenSpec.ofChange Rows.proverParsesSpec).bare.plain.varTypes Tryz.prog).any (Tryz.prog.ifacesRec .)))=true:=by kernel_rfl
theorem aat:((Rows.proverParsesRow.mapsOut==Tryz.prog.mapsAmong Tryz.f3.resultTypes.toList))=true:=by kernel_rfl
theorem aau:((Rows.proverParsesRow.loops==(Tryz.f3.params.toList++(OpenSpec.ofChange Rows.proverParsesSpec).bare.plain.varTypes Tryz.prog).any (Tryz.prog.loopsFrom .)))=true:=by kernel_rfl
theorem aav:((Rows.proverParsesRow.wideKeys==(Tryz.f3.params.toList++(OpenSpec.ofChange Rows.proverParsesSpec).bare.plain.varTypes Tryz.prog++Tryz.f3.resultTypes.toList).any (Tryz.prog.wideKeysFrom .)))=true:=by kernel_rfl
theorem aaw:((OpenSpec.ofChange Rows.proverParsesSpec).bare.vars.all (Tryz.prog.varReadable .))=true:=by kernel_rfl
theorem aax:(Tryz.f3.resultTypes.all (λt=>Tryz.prog.readableRec t&&decide (t<Tryz.prog.types.size)))=true:=by kernel_rfl
theorem aay:((Rows.proverParsesRow.ifacesOut==Tryz.f3.resultTypes.toList.any (Tryz.prog.ifacesRec .)))=true:=by kernel_rfl
theorem aaz:((Rows.proverParsesRow.loopsOut==Tryz.f3.resultTypes.toList.any (Tryz.prog.loopsFrom .)))=true:=by kernel_rfl
theorem aaA:((Rows.proverParsesRow.plainKeys==Tryz.prog.plainKeys))=true:=by kernel_rfl
theorem aaB:(Rows.proverParsesRow.shortTexts.isNone)=true:=by kernel_rfl
theorem aaC:(Tryz.prog.stopsHeard)=true:=by kernel_rfl
theorem aaD:(Tryz.prog.mayEnter)=true:=by kernel_rfl
theorem aaE:((Rows.proverParsesRow.lifted==Tryz.prog.liftsFinal))=true:=by kernel_rfl
theorem aaF:((Tryz.prog.make==some Rows.proverParsesRow.make))=true:=by kernel_rfl
theorem aaG:((Rows.proverParsesRow.kinds==(if Rows.proverParsesRow.domain.isEmpty then[]else Tryz.f3.params.toList.map λt=>match Tryz.prog.underlying t with|some (.int k)=>some k|_=>none)))=true:=by kernel_rfl
theorem aaH:((Rows.proverParsesRow.pinned==Rows.proverParsesRow.pinnedBy))=true:=by kernel_rfl
theorem aaI:((Rows.proverParsesRow.veiled==(Tryz.f3.params.toList++(OpenSpec.ofChange Rows.proverParsesSpec).bare.plain.varTypes Tryz.prog++Tryz.f3.resultTypes.toList).any (Tryz.prog.veiledRec .)))=true:=by kernel_rfl
theorem aaJ:(Rows.proverParsesRow.veiledFits Tryz.prog Tryz.f3.params.toList (Tryz.f3.params.toList++(OpenSpec.ofChange Rows.proverParsesSpec).bare.plain.varTypes Tryz.prog++Tryz.f3.resultTypes.toList))=true:=by kernel_rfl
end Go.Proofs.YtidicphjlgjajaaGreatDoor
end
