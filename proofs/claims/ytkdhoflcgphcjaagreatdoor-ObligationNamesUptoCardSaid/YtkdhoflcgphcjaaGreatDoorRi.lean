/-
  PROVED: for every two lists of obligations and every name, of bulk at most 1048576, 'refinementlaw07.ObligationNames' returns true and leaves its arguments as they were (the tied card of the second form). Conditions: those of the given card alone.
-/
import Derived.Test.YtkdhoflcgphcjaaGreatDoorCards
import Derived.Test.YtkdhoflcgphcjaaGreatDoorTg
import Derived.Test.YtkdhoflcgphcjaaGreatDoorRh
import Derived.Test.YtkdhoflcgphcjaaGreatDoorRf
set_option linter.all false

namespace Go.Proofs.YtkdhoflcgphcjaaGreatDoor
open Go.ChangeShapes Go.WideShapes Go.ChangeAt Go.RowKit Go.AI

theorem row_holds : Rows.ObligationNamesUptoSaid :=
  OpenClaim.holds_of_cond 3 Tryz.f3 rfl rfl rfl rfl rfl rfl rfl ⟨rfl, rfl, rfl, rfl, rfl⟩ rfl rfl rfl rfl rfl funcNamed3 Tryz.func3 joined
    (of_decide_eq_true (by kernel_rfl)) (by unfold Func.isWrapper; first | (rw [if_pos (by decide +kernel)]; kernel_rfl) | (rw [if_neg (by decide +kernel)]; exact ⟨rfl, rfl⟩))
    (fun os started H enc _ G => lifted os started H enc G)

theorem card_holds : Rows.ObligationNamesUptoCardSaid :=
  Claim7.holds_tied_plain_at .later [] [.pinned, .data, .sentinel, .sentinel, .data, .data, .data, .data, .listed] true (true, "b4a25c5e00396b7734cbf0ff6a05de5df456fa79d171743b0091b3439878527b") true row_holds (fun _ h => by cases h) (by kernel_rfl) (fun _ h => by cases h) obligationNamesUpto_row_tie rfl ⟨rfl, rfl⟩ (by kernel_rfl) rfl
    (fun f fn hf hfn => by
      obtain rfl : f = 3 := Option.some.inj (funcNamed3.symm.trans hf) |>.symm
      obtain rfl : fn = Tryz.f3 := (Option.some.inj (Tryz.func3.symm.trans hfn)).symm
      exact ⟨by kernel_rfl, fun j t ht => by
        rw [Tryz.params3] at ht
        have hm : t ∈ [22, 22, 9] := by simpa using Array.mem_of_getElem? ht
        have hall : ([22, 22, 9].all fun u => !Tryz.prog.wantsStandIn u) = true := by kernel_rfl
        exact (show Tryz.prog.wantsStandIn t = false by simpa using List.all_eq_true.1 hall t hm)⟩)
    (by
      show false = Tryz.prog.goesAt .entering Tryz.f3.name
      unfold Program.goesAt Program.goesFrom
      have e : Tryz.prog.goes = fun _ => false := funext goes_not
      rw [e]
      cases Tryz.prog.funcNamed Tryz.f3.name <;> rfl)
end Go.Proofs.YtkdhoflcgphcjaaGreatDoor
