/-
  PROVED: for every project of bulk at most 1048576, 'refinementlaw06.ModelTypes' returns true and leaves its argument as it was (the tied card of the second form). Conditions: those of the given card alone.
-/
import Derived.Test.YteibmaelhdbgfaaGreatDoorCards
import Derived.Test.YteibmaelhdbgfaaGreatDoorTg
import Derived.Test.YteibmaelhdbgfaaGreatDoorRh
import Derived.Test.YteibmaelhdbgfaaGreatDoorRf
set_option linter.all false

namespace Go.Proofs.YteibmaelhdbgfaaGreatDoor
open Go.ChangeShapes Go.WideShapes Go.ChangeAt Go.RowKit Go.AI

theorem row_holds : Rows.ModelTypesUptoSaid :=
  OpenClaim.holds_of_cond 6 Tryz.f6 rfl rfl rfl rfl rfl rfl rfl ⟨rfl, rfl, rfl, rfl, rfl⟩ rfl rfl rfl rfl rfl funcNamed6 Tryz.func6 joined
    (of_decide_eq_true (by kernel_rfl)) (by unfold Func.isWrapper; first | (rw [if_pos (by decide +kernel)]; kernel_rfl) | (rw [if_neg (by decide +kernel)]; exact ⟨rfl, rfl⟩))
    (fun os started H enc _ G => lifted os started H enc G)

theorem card_holds : Rows.ModelTypesUptoCardSaid :=
  Claim7.holds_tied_plain_at .later [] [.pinned, .data, .sentinel, .sentinel, .data, .data, .data, .data, .listed] true (true, "243761606df7b9be09bd2efca18f09c159280ad9a3f0e1c69636ad3bfeabf078") true row_holds (fun _ h => by cases h) (by kernel_rfl) (fun _ h => by cases h) modelTypesUpto_row_tie rfl ⟨rfl, rfl⟩ (by kernel_rfl) rfl
    (fun f fn hf hfn => by
      obtain rfl : f = 6 := Option.some.inj (funcNamed6.symm.trans hf) |>.symm
      obtain rfl : fn = Tryz.f6 := (Option.some.inj (Tryz.func6.symm.trans hfn)).symm
      exact ⟨by kernel_rfl, fun j t ht => by
        rw [Tryz.params6] at ht
        have hm : t ∈ [24] := by simpa using Array.mem_of_getElem? ht
        have hall : ([24].all fun u => !Tryz.prog.wantsStandIn u) = true := by kernel_rfl
        exact (show Tryz.prog.wantsStandIn t = false by simpa using List.all_eq_true.1 hall t hm)⟩)
    (by
      show false = Tryz.prog.goesAt .entering Tryz.f6.name
      unfold Program.goesAt Program.goesFrom
      have e : Tryz.prog.goes = fun _ => false := funext goes_not
      rw [e]
      cases Tryz.prog.funcNamed Tryz.f6.name <;> rfl)
end Go.Proofs.YteibmaelhdbgfaaGreatDoor
