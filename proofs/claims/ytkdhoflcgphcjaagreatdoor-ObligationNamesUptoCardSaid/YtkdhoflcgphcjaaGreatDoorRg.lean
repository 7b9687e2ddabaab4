/- A part of the proof. -/
import Derived.Test.YtkdhoflcgphcjaaGreatDoorRows
import Derived.ProofKit
import Derived.OpenShut
import Derived.LaidMore
import Derived.Lay
import Derived.SevenTiedAt
import Derived.Test.YtkdhoflcgphcjaaGreatDoorAe
set_option linter.all false

namespace Go.Proofs.YtkdhoflcgphcjaaGreatDoor
open Go.ChangeShapes Go.WideShapes Go.ChangeAt Go.RowKit Go.AI
theorem own:ownKnob Tryz.prog.godebug=none:=by kernel_rfl
theorem laidOut:laidOutB Tryz.prog=true:=by kernel_rfl
theorem rowed:mapsRowed Tryz.prog=true:=by kernel_rfl
theorem full:((List.range Tryz.prog.types.size).all λt=>match Tryz.prog.underlying t with|some (.slice e)=>decide (0<Tryz.prog.cellsOf e)|_=>true)=true:=by kernel_rfl
theorem sizes:(22<Tryz.prog.types.size/\9<Tryz.prog.types.size):=of_decide_eq_true (by kernel_rfl)
theorem noNum:(Tryz.prog.funcs.toList.all λfn=>!(fn.name== "runtime.NumGoroutine"))=true:=by kernel_rfl
theorem progOK:ProgOK Tryz.prog where
 ng:=λf fn hf _=>by
  have hm:fn∈Tryz.prog.funcs.toList:=by have:=Array.mem_of_getElem? hf;simpa using this
  simpa using List.all_eq_true.1 noNum fn hm
 mixed:=by kernel_rfl
theorem noGo:(Tryz.prog.funcs.toList.all λfn=>!fn.goes)=true:=by kernel_rfl
theorem fn_goes(fn:Func)(hm:fn∈Tryz.prog.funcs):fn.goes=false:=by
 have hm':fn∈Tryz.prog.funcs.toList:=by simpa using hm
 simpa using List.all_eq_true.1 noGo fn hm'
theorem goes_not(f:FuncId):Tryz.prog.goes f=false:=by
 have h1:((Tryz.prog.closure f).any λg=>(Tryz.prog.funcs[g]?).any Func.goes)=false:=by rw[Bool.eq_false_iff];intro h;obtain⟨g,_,hg⟩:=List.any_eq_true.1 h;cases hfn:Tryz.prog.funcs[g]? with|none=>rw[hfn]at hg;cases hg|some fn=>rw[hfn]at hg;have:=fn_goes fn (Array.mem_of_getElem? hfn);simp[this]at hg
 have h2:Tryz.prog.funcs.any Func.goes=false:=by rw[Bool.eq_false_iff];intro h;rw[Array.any_eq_true]at h;obtain⟨i,hi,hg⟩:=h;have:=fn_goes Tryz.prog.funcs[i] (Array.getElem_mem hi);rw[this]at hg;cases hg
 unfold Program.goes;rw[h1,h2];simp
end Go.Proofs.YtkdhoflcgphcjaaGreatDoor
