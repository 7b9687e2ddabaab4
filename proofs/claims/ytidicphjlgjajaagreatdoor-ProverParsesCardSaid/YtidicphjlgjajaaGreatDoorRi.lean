/-
  PROVED: for every text, 'refinementlaw05.ProverParses' returns true and leaves its argument as it was (the tied card). Conditions: those of the given card alone.
-/
import Derived.Test.YtidicphjlgjajaaGreatDoorCards
import Derived.ProofKit
import Derived.OpenShut
import Derived.LaidMore
import Derived.Lay
import Derived.SevenTiedAt
import Derived.Stop.Joined
import Derived.ReadAgain
import Derived.KernelRfl
import Derived.JoinedCond
import Derived.Test.YtidicphjlgjajaaGreatDoorTg
import Derived.Test.YtidicphjlgjajaaGreatDoorRh
import Derived.Test.YtidicphjlgjajaaGreatDoorRf
set_option linter.all false

namespace Go.Proofs.YtidicphjlgjajaaGreatDoor
open Go.ChangeShapes Go.WideShapes Go.ChangeAt Go.RowKit Go.AI
set_option linter.all false
theorem row_holds:Rows.ProverParsesSaid:=OpenClaim.holds_of_cond 3 Tryz.f3 rfl rfl rfl rfl rfl rfl rfl ⟨rfl,rfl,rfl,rfl,rfl⟩ rfl rfl rfl rfl rfl HI Tryz.func3 VS (of_decide_eq_true (by kernel_rfl)) (by unfold Func.isWrapper;first|(rw[if_pos (by decide+kernel)];kernel_rfl)|(rw[if_neg (by decide+kernel)];exact⟨rfl,rfl⟩)) (λos b H enc _ G=>lifted os b H enc G)
theorem card_holds:Rows.ProverParsesCardSaid:=Claim7.holds_tied_plain_at .later [] [.pinned,.data,.data,.data,.data,.sentinel,.sentinel] true (true, "f16fc9dbe8f69db5012b1b6ce13be9f0a02721bcf386a38f542d49bb7dfb2897") true row_holds (λ_ h=>by cases h) (by kernel_rfl) (λ_ h=>by cases h) proverParses_row_tie rfl ⟨rfl,rfl⟩ (by kernel_rfl) rfl (λf fn hf c=>by obtain rfl:f=3:=Option.some.inj (HI.symm.trans hf)|>.symm;obtain rfl:fn=Tryz.f3:=(Option.some.inj (Tryz.func3.symm.trans c)).symm;exact⟨by kernel_rfl,λj t g=>by
 rw[Tryz.params3]at g
 have hm:t∈[9]:=by simpa using Array.mem_of_getElem? g
 have b:([9].all λu=>!Tryz.prog.wantsStandIn u)=true:=by kernel_rfl
 exact(show Tryz.prog.wantsStandIn t=false by simpa using List.all_eq_true.1 b t hm)⟩) (by show false=Tryz.prog.goesAt .entering Tryz.f3.name;unfold Program.goesAt Program.goesFrom;have e:Tryz.prog.goes=λ_=>false:=funext S3;rw[e];cases Tryz.prog.funcNamed Tryz.f3.name<;>rfl)
end Go.Proofs.YtidicphjlgjajaaGreatDoor
