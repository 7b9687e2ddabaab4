/-
  The law answers true for every project.
-/
import Derived.Test.YtbdcnekkebhhhaaGreatDoorPd
import Derived.Test.YtbdcnekkebhhhaaGreatDoorSt
import Derived.Test.YtbdcnekkebhhhaaGreatDoorB
set_option linter.all false

namespace Go.AI
open Go Go.Proofs
set_option linter.all false
theorem law_ev (rows : Rows) (h : wtRs rows ≤ 2097152) : Ev (fun l => F3 l rows) true := by
  obtain ⟨b, hb⟩ := small_ends rows h
  obtain ⟨s, h6, h7⟩ := format_both rows h
  exact .step (fun l => eF3 l _) (.ask hb (.ite (fun _ => .pos rfl (.ret _)) (fun _ => .ask h6 (.ask h7 (.pos (beqS_iff.2 rfl) (.pos rfl (.ret _)))))))
theorem law_call (hP : ProgOK Tryz.prog) {rows : Rows} {x : AV} (hd : Rd Tryz.prog w00S 37 rows x) (h : wtRs rows ≤ 2097152) : ∃ h', CallOK Tryz.prog 3 [.agg [x]] h0 (.ret (.sc (.bool true))) h' := by
  obtain ⟨n0, hn⟩ := law_ev rows h
  have hr : (recS Tryz.prog ann n0).call 3 [.agg [.dl 37 rows]] [] [.bool] = some true := hn n0 (Nat.le_refl _)
  exact lift_bool hP (knTrue hP) knOK hr (.cons (.agg (.cons (.dl hd) .nil)) .nil) (t := 4) (fun fn hf => by
    rw [Tryz.func3] at hf; cases hf; kernel_rfl) (by kernel_rfl)
end Go.AI
