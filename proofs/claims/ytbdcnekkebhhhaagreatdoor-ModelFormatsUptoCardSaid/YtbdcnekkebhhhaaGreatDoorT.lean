/-
  The types of the law's argument.
-/
import Derived.Test.YtbdcnekkebhhhaaGreatDoorProg
import Derived.KernelRfl
import Derived.Test.YtbdcnekkebhhhaaGreatDoorB
set_option linter.all false

namespace Go.AI
open Go Go.Proofs
set_option maxRecDepth 100000
def S6 : List TypeId := [3, 4, 9, 22, 24, 28, 29, 30, 31, 32, 33, 34, 35, 37, 39, 40, 42, 54, 56, 58, 98, 106, 129, 155, 157]
theorem ty3 : okT Tryz.prog S6 3 := .inl ⟨.i64, Tryz.underlying3, by kernel_rfl⟩
theorem ty4 : okT Tryz.prog S6 4 := .inr (.inl ⟨Tryz.underlying4, by kernel_rfl⟩)
theorem ty9 : okT Tryz.prog S6 9 := .inr (.inr (.inl ⟨Tryz.underlying9, by kernel_rfl⟩))
theorem ty22 : okT Tryz.prog S6 22 := .inr (.inr (.inr (.inl ⟨37, Tryz.underlying22, by kernel_rfl, by decide, by kernel_rfl, of_decide_eq_true (by kernel_rfl), by kernel_rfl⟩)))
theorem ty24 : okT Tryz.prog S6 24 := .inr (.inr (.inr (.inr ⟨_, Tryz.underlying24, by kernel_rfl, by kernel_rfl, fld_of _ _ (by kernel_rfl)⟩)))
theorem ty28 : okT Tryz.prog S6 28 := .inr (.inr (.inr (.inl ⟨9, Tryz.underlying28, by kernel_rfl, by decide, by kernel_rfl, of_decide_eq_true (by kernel_rfl), by kernel_rfl⟩)))
theorem ty29 : okT Tryz.prog S6 29 := .inr (.inr (.inr (.inl ⟨39, Tryz.underlying29, by kernel_rfl, by decide, by kernel_rfl, of_decide_eq_true (by kernel_rfl), by kernel_rfl⟩)))
theorem ty30 : okT Tryz.prog S6 30 := .inr (.inr (.inr (.inl ⟨58, Tryz.underlying30, by kernel_rfl, by decide, by kernel_rfl, of_decide_eq_true (by kernel_rfl), by kernel_rfl⟩)))
theorem ty31 : okT Tryz.prog S6 31 := .inr (.inr (.inr (.inl ⟨129, Tryz.underlying31, by kernel_rfl, by decide, by kernel_rfl, of_decide_eq_true (by kernel_rfl), by kernel_rfl⟩)))
theorem ty32 : okT Tryz.prog S6 32 := .inr (.inr (.inr (.inl ⟨98, Tryz.underlying32, by kernel_rfl, by decide, by kernel_rfl, of_decide_eq_true (by kernel_rfl), by kernel_rfl⟩)))
theorem ty33 : okT Tryz.prog S6 33 := .inr (.inr (.inr (.inl ⟨155, Tryz.underlying33, by kernel_rfl, by decide, by kernel_rfl, of_decide_eq_true (by kernel_rfl), by kernel_rfl⟩)))
theorem ty34 : okT Tryz.prog S6 34 := .inr (.inr (.inr (.inl ⟨157, Tryz.underlying34, by kernel_rfl, by decide, by kernel_rfl, of_decide_eq_true (by kernel_rfl), by kernel_rfl⟩)))
theorem ty35 : okT Tryz.prog S6 35 := .inr (.inr (.inr (.inl ⟨42, Tryz.underlying35, by kernel_rfl, by decide, by kernel_rfl, of_decide_eq_true (by kernel_rfl), by kernel_rfl⟩)))
theorem ty37 : okT Tryz.prog S6 37 := .inr (.inr (.inr (.inr ⟨_, Tryz.underlying37, by kernel_rfl, by kernel_rfl, fld_of _ _ (by kernel_rfl)⟩)))
theorem ty39 : okT Tryz.prog S6 39 := .inr (.inr (.inr (.inr ⟨_, Tryz.underlying39, by kernel_rfl, by kernel_rfl, fld_of _ _ (by kernel_rfl)⟩)))
theorem ty40 : okT Tryz.prog S6 40 := .inr (.inr (.inr (.inl ⟨106, Tryz.underlying40, by kernel_rfl, by decide, by kernel_rfl, of_decide_eq_true (by kernel_rfl), by kernel_rfl⟩)))
theorem ty42 : okT Tryz.prog S6 42 := .inr (.inr (.inr (.inr ⟨_, Tryz.underlying42, by kernel_rfl, by kernel_rfl, fld_of _ _ (by kernel_rfl)⟩)))
theorem ty54 : okT Tryz.prog S6 54 := .inr (.inr (.inr (.inl ⟨56, Tryz.underlying54, by kernel_rfl, by decide, by kernel_rfl, of_decide_eq_true (by kernel_rfl), by kernel_rfl⟩)))
theorem ty56 : okT Tryz.prog S6 56 := .inr (.inr (.inr (.inr ⟨_, Tryz.underlying56, by kernel_rfl, by kernel_rfl, fld_of _ _ (by kernel_rfl)⟩)))
theorem ty58 : okT Tryz.prog S6 58 := .inr (.inr (.inr (.inr ⟨_, Tryz.underlying58, by kernel_rfl, by kernel_rfl, fld_of _ _ (by kernel_rfl)⟩)))
theorem ty98 : okT Tryz.prog S6 98 := .inr (.inr (.inr (.inr ⟨_, Tryz.underlying98, by kernel_rfl, by kernel_rfl, fld_of _ _ (by kernel_rfl)⟩)))
theorem ty106 : okT Tryz.prog S6 106 := .inr (.inr (.inr (.inr ⟨_, Tryz.underlying106, by kernel_rfl, by kernel_rfl, fld_of _ _ (by kernel_rfl)⟩)))
theorem ty129 : okT Tryz.prog S6 129 := .inr (.inr (.inr (.inr ⟨_, Tryz.underlying129, by kernel_rfl, by kernel_rfl, fld_of _ _ (by kernel_rfl)⟩)))
theorem ty155 : okT Tryz.prog S6 155 := .inr (.inr (.inr (.inr ⟨_, Tryz.underlying155, by kernel_rfl, by kernel_rfl, fld_of _ _ (by kernel_rfl)⟩)))
theorem ty157 : okT Tryz.prog S6 157 := .inr (.inr (.inr (.inr ⟨_, Tryz.underlying157, by kernel_rfl, by kernel_rfl, fld_of _ _ (by kernel_rfl)⟩)))
theorem okS : ∀ t, t ∈ S6 → okT Tryz.prog S6 t := by
  intro t ht
  simp only [S6, List.mem_cons, List.not_mem_nil, or_false] at ht
  rcases ht with rfl | rfl | rfl | rfl | rfl | rfl | rfl | rfl | rfl | rfl | rfl | rfl | rfl | rfl | rfl | rfl | rfl | rfl | rfl | rfl | rfl | rfl | rfl | rfl | rfl
  · exact ty3
  · exact ty4
  · exact ty9
  · exact ty22
  · exact ty24
  · exact ty28
  · exact ty29
  · exact ty30
  · exact ty31
  · exact ty32
  · exact ty33
  · exact ty34
  · exact ty35
  · exact ty37
  · exact ty39
  · exact ty40
  · exact ty42
  · exact ty54
  · exact ty56
  · exact ty58
  · exact ty98
  · exact ty106
  · exact ty129
  · exact ty155
  · exact ty157
end Go.AI
