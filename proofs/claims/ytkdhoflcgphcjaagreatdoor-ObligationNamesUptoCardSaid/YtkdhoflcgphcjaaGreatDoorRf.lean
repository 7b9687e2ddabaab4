/- A part of the proof. -/
import Derived.Test.YtkdhoflcgphcjaaGreatDoorRa
import Derived.Test.YtkdhoflcgphcjaaGreatDoorRb
import Derived.Test.YtkdhoflcgphcjaaGreatDoorRc
import Derived.Test.YtkdhoflcgphcjaaGreatDoorRd
import Derived.Test.YtkdhoflcgphcjaaGreatDoorRe
set_option linter.all false

namespace Go.Proofs.YtkdhoflcgphcjaaGreatDoor
open Go
set_option maxRecDepth 100000
theorem funcNamed3:Tryz.prog.funcNamed Tryz.f3.name=some 3:=by kernel_rfl
theorem joined:joinedFacts Tryz.prog 3 Tryz.f3 (Rows.OpenSpec.upto Rows.obligationNamesSpec).bare Rows.obligationNamesUptoRow=true:=by unfold joinedFacts;refine Bool.and_eq_true _ _|>.mpr ⟨?_,jf31⟩;refine Bool.and_eq_true _ _|>.mpr ⟨?_,jf30⟩;refine Bool.and_eq_true _ _|>.mpr ⟨?_,jf29⟩;refine Bool.and_eq_true _ _|>.mpr ⟨?_,jf28⟩;refine Bool.and_eq_true _ _|>.mpr ⟨?_,jf27⟩;refine Bool.and_eq_true _ _|>.mpr ⟨?_,jf26⟩;refine Bool.and_eq_true _ _|>.mpr ⟨?_,jf25⟩;refine Bool.and_eq_true _ _|>.mpr ⟨?_,jf24⟩;refine Bool.and_eq_true _ _|>.mpr ⟨?_,jf23⟩;refine Bool.and_eq_true _ _|>.mpr ⟨?_,jf22⟩;refine Bool.and_eq_true _ _|>.mpr ⟨?_,jf21⟩;refine Bool.and_eq_true _ _|>.mpr ⟨?_,jf20⟩;refine Bool.and_eq_true _ _|>.mpr ⟨?_,jf19⟩;refine Bool.and_eq_true _ _|>.mpr ⟨?_,jf18⟩;refine Bool.and_eq_true _ _|>.mpr ⟨?_,jf17⟩;refine Bool.and_eq_true _ _|>.mpr ⟨?_,jf16⟩;refine Bool.and_eq_true _ _|>.mpr ⟨?_,jf15⟩;refine Bool.and_eq_true _ _|>.mpr ⟨?_,jf14⟩;refine Bool.and_eq_true _ _|>.mpr ⟨?_,jf13⟩;refine Bool.and_eq_true _ _|>.mpr ⟨?_,jf12⟩;refine Bool.and_eq_true _ _|>.mpr ⟨?_,jf11⟩;refine Bool.and_eq_true _ _|>.mpr ⟨?_,jf10⟩;refine Bool.and_eq_true _ _|>.mpr ⟨?_,jf9⟩;refine Bool.and_eq_true _ _|>.mpr ⟨?_,jf8⟩;refine Bool.and_eq_true _ _|>.mpr ⟨?_,jf7⟩;refine Bool.and_eq_true _ _|>.mpr ⟨?_,jf6⟩;refine Bool.and_eq_true _ _|>.mpr ⟨?_,jf5⟩;refine Bool.and_eq_true _ _|>.mpr ⟨?_,jf4⟩;refine Bool.and_eq_true _ _|>.mpr ⟨?_,jf3⟩;refine Bool.and_eq_true _ _|>.mpr ⟨?_,jf2⟩;refine Bool.and_eq_true _ _|>.mpr ⟨?_,jf1⟩;exact jf0
end Go.Proofs.YtkdhoflcgphcjaaGreatDoor
