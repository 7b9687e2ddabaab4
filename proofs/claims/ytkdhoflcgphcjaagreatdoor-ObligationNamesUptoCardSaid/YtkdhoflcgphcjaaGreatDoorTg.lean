/- A part of the proof. -/
import Derived.Test.YtkdhoflcgphcjaaGreatDoorTe
import Derived.Test.YtkdhoflcgphcjaaGreatDoorTf
import Derived.Test.YtkdhoflcgphcjaaGreatDoorTb
import Derived.Test.YtkdhoflcgphcjaaGreatDoorTc
import Derived.Test.YtkdhoflcgphcjaaGreatDoorTd
set_option linter.all false

section
namespace Go.Proofs.YtkdhoflcgphcjaaGreatDoor
open Go
theorem t2(os:Os)(tape:Tape):(DataW.laidRun Tryz.prog (varsWorld Tryz.prog 400 (varsId Tryz.prog) os tape).memory 8 (lst6.map (·.1))).map (λx=>decide x.2.Nodup&&laidRowsB Tryz.prog (varsWorld Tryz.prog 400 (varsId Tryz.prog) os tape).memory x.2)=some true:=by have h1:=t2a os tape;have h2:=t2b os tape;revert h1 h2;cases DataW.laidRun Tryz.prog (varsWorld Tryz.prog 400 (varsId Tryz.prog) os tape).memory 8 (lst6.map (·.1))with|none=>intro h;cases h|some x=>intro h1 h2;rw[Option.map_some]at h1 h2⊢;rw[Option.some.inj h2,Bool.and_true,decide_eq_true (nod_of (nodN_spec (Option.some.inj h1)))]
end Go.Proofs.YtkdhoflcgphcjaaGreatDoor
end

section
namespace Go.Proofs.YtkdhoflcgphcjaaGreatDoor
open Go
theorem tie:Tryz.prog.laidByTextLater lst6 kin6 true:=Program.laidByTextLater_by_run 400 8 tw1 tw2 tw3 tw4 tw5 tw6 td t1 t2 tw7
theorem obligationNamesUpto_row_tie:Rows.obligationNamesUptoRow.laidByTextAt .later Tryz.pinned [.pinned,.data,.sentinel,.sentinel,.data,.data,.data,.data,.listed] true:=OpenClaim.laidByTextAt_pinned rfl rfl tie rfl rfl rfl rfl (λy hy _e=>by
 simp only[Rows.obligationNamesUptoRow,List.zip_cons_cons,List.zip_nil_right,List.mem_cons,List.mem_nil_iff,or_false]at hy
 rcases hy with rfl|rfl|rfl|rfl|rfl|rfl|rfl|rfl|rfl
 .exact⟨pin_laid_unicode_utf8_first,by kernel_rfl⟩
 .cases _e
 .cases _e
 .cases _e
 .cases _e
 .cases _e
 .cases _e
 .cases _e
 .cases _e) fits1
end Go.Proofs.YtkdhoflcgphcjaaGreatDoor
end
