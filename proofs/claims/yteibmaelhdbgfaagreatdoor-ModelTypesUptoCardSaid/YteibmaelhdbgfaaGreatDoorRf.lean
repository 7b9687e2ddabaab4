/- A part of the proof. -/
import Derived.Test.YteibmaelhdbgfaaGreatDoorRa
import Derived.Test.YteibmaelhdbgfaaGreatDoorRb
import Derived.Test.YteibmaelhdbgfaaGreatDoorRc
import Derived.Test.YteibmaelhdbgfaaGreatDoorRd
import Derived.Test.YteibmaelhdbgfaaGreatDoorRe

namespace Go.Proofs.YteibmaelhdbgfaaGreatDoor
open Go
set_option maxRecDepth 100000
theorem funcNamed6:Tryz.prog.funcNamed Tryz.f6.name=some 6:=by kernel_rfl
theorem joined:joinedFacts Tryz.prog 6 Tryz.f6 (Rows.OpenSpec.upto Rows.modelTypesSpec).bare Rows.modelTypesUptoRow=true:=by unfold joinedFacts;refine Bool.and_eq_true _ _|>.mpr ⟨?_,jf31⟩;refine Bool.and_eq_true _ _|>.mpr ⟨?_,jf30⟩;refine Bool.and_eq_true _ _|>.mpr ⟨?_,jf29⟩;refine Bool.and_eq_true _ _|>.mpr ⟨?_,jf28⟩;refine Bool.and_eq_true _ _|>.mpr ⟨?_,jf27⟩;refine Bool.and_eq_true _ _|>.mpr ⟨?_,jf26⟩;refine Bool.and_eq_true _ _|>.mpr ⟨?_,jf25⟩;refine Bool.and_eq_true _ _|>.mpr ⟨?_,jf24⟩;refine Bool.and_eq_true _ _|>.mpr ⟨?_,jf23⟩;refine Bool.and_eq_true _ _|>.mpr ⟨?_,jf22⟩;refine Bool.and_eq_true _ _|>.mpr ⟨?_,jf21⟩;refine Bool.and_eq_true _ _|>.mpr ⟨?_,jf20⟩;refine Bool.and_eq_true _ _|>.mpr ⟨?_,jf19⟩;refine Bool.and_eq_true _ _|>.mpr ⟨?_,jf18⟩;refine Bool.and_eq_true _ _|>.mpr ⟨?_,jf17⟩;refine Bool.and_eq_true _ _|>.mpr ⟨?_,jf16⟩;refine Bool.and_eq_true _ _|>.mpr ⟨?_,jf15⟩;refine Bool.and_eq_true _ _|>.mpr ⟨?_,jf14⟩;refine Bool.and_eq_true _ _|>.mpr ⟨?_,jf13⟩;refine Bool.and_eq_true _ _|>.mpr ⟨?_,jf12⟩;refine Bool.and_eq_true _ _|>.mpr ⟨?_,jf11⟩;refine Bool.and_eq_true _ _|>.mpr ⟨?_,jf10⟩;refine Bool.and_eq_true _ _|>.mpr ⟨?_,jf9⟩;refine Bool.and_eq_true _ _|>.mpr ⟨?_,jf8⟩;refine Bool.and_eq_true _ _|>.mpr ⟨?_,jf7⟩;refine Bool.and_eq_true _ _|>.mpr ⟨?_,jf6⟩;refine Bool.and_eq_true _ _|>.mpr ⟨?_,jf5⟩;refine Bool.and_eq_true _ _|>.mpr ⟨?_,jf4⟩;refine Bool.and_eq_true _ _|>.mpr ⟨?_,jf3⟩;refine Bool.and_eq_true _ _|>.mpr ⟨?_,jf2⟩;refine Bool.and_eq_true _ _|>.mpr ⟨?_,jf1⟩;exact jf0
end Go.Proofs.YteibmaelhdbgfaaGreatDoor
