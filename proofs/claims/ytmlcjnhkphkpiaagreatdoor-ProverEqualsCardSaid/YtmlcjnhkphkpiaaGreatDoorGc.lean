/-
  PROVED: for every reading of its three arguments, 'refinementlaw05.ProverEquals' returns true and leaves its arguments as they were (the tied card). Conditions: those of the given card alone.
-/
import Derived.Test.YtmlcjnhkphkpiaaGreatDoorTie
import Derived.Test.YtmlcjnhkphkpiaaGreatDoorCards
import Derived.ProofKit
import Derived.OpenShut
import Derived.LaidMore
import Derived.Lay
import Derived.SevenTiedAt
import Derived.Stop.Joined
import Derived.ReadAgain
import Derived.Test.YtmlcjnhkphkpiaaGreatDoorGb
import Derived.Test.YtmlcjnhkphkpiaaGreatDoorFg
set_option linter.all false

namespace Go.Proofs.YtmlcjnhkphkpiaaGreatDoor
open Go.ChangeShapes Go.WideShapes Go.ChangeAt Go.RowKit Go.AI
theorem row_holds : Rows.ProverEqualsSaid :=
  OpenClaim.holds_of_wide 3 Tryz.f3 rfl rfl rfl rfl rfl rfl rfl ⟨rfl, rfl, rfl, rfl, rfl⟩ rfl rfl rfl rfl rfl funcNamed3 Tryz.func3 joined
    (of_decide_eq_true (by kernel_rfl)) (by unfold Func.isWrapper; first | (rw [if_pos (by decide +kernel)]; kernel_rfl) | (rw [if_neg (by decide +kernel)]; exact ⟨rfl, rfl⟩))
    (fun os started H enc _ => lifted os started H enc)

theorem card_holds : Rows.ProverEqualsCardSaid :=
  Claim7.holds_tied_plain_at .later [] [.data, .data, .data, .data, .pinned] true (true, "a1139236837d218d32e1275ffd5bde5c396aa71df2747a5ca9a74c3f102cf23f") true row_holds (fun _ h => by cases h) (by kernel_rfl) (fun _ h => by cases h) proverEquals_row_tie rfl ⟨rfl, rfl⟩ (by kernel_rfl) rfl
    (fun f fn hf hfn => by
      obtain rfl : f = 3 := Option.some.inj (funcNamed3.symm.trans hf) |>.symm
      obtain rfl : fn = Tryz.f3 := (Option.some.inj (Tryz.func3.symm.trans hfn)).symm
      exact ⟨by kernel_rfl, fun j t ht => by
        rw [Tryz.params3] at ht
        have hm : t ∈ [28, 28, 22] := by simpa using Array.mem_of_getElem? ht
        have hall : ([28, 28, 22].all fun u => !Tryz.prog.wantsStandIn u) = true := by kernel_rfl
        exact (show Tryz.prog.wantsStandIn t = false by simpa using List.all_eq_true.1 hall t hm)⟩)
    (by
      show false = Tryz.prog.goesAt .entering Tryz.f3.name
      unfold Program.goesAt Program.goesFrom
      have e : Tryz.prog.goes = fun _ => false := funext goes_not
      rw [e]
      cases Tryz.prog.funcNamed Tryz.f3.name <;> rfl)
end Go.Proofs.YtmlcjnhkphkpiaaGreatDoor
