/-
  A part of the proof: RF.
-/
import Derived.Test.YtidicphjlgjajaaGreatDoorRows
import Derived.ProofKit
import Derived.KernelRfl
import Derived.JoinedOf
import Derived.Stop.Joined
import Derived.JoinedCond
import Derived.Test.YtidicphjlgjajaaGreatDoorRa
import Derived.Test.YtidicphjlgjajaaGreatDoorRb
import Derived.Test.YtidicphjlgjajaaGreatDoorRc
import Derived.Test.YtidicphjlgjajaaGreatDoorRd
import Derived.Test.YtidicphjlgjajaaGreatDoorRe
set_option linter.all false

namespace Go.Proofs.YtidicphjlgjajaaGreatDoor
open Go
set_option maxRecDepth 100000
set_option linter.all false
theorem HI:Tryz.prog.funcNamed Tryz.f3.name=some 3:=by kernel_rfl
theorem VS:joinedFacts Tryz.prog 3 Tryz.f3 (OpenSpec.ofChange Rows.proverParsesSpec).bare Rows.proverParsesRow=true:=by unfold joinedFacts;refine Bool.and_eq_true _ _|>.mpr ⟨?_,aaJ⟩;refine Bool.and_eq_true _ _|>.mpr ⟨?_,aaI⟩;refine Bool.and_eq_true _ _|>.mpr ⟨?_,aaH⟩;refine Bool.and_eq_true _ _|>.mpr ⟨?_,aaG⟩;refine Bool.and_eq_true _ _|>.mpr ⟨?_,aaF⟩;refine Bool.and_eq_true _ _|>.mpr ⟨?_,aaE⟩;refine Bool.and_eq_true _ _|>.mpr ⟨?_,aaD⟩;refine Bool.and_eq_true _ _|>.mpr ⟨?_,aaC⟩;refine Bool.and_eq_true _ _|>.mpr ⟨?_,aaB⟩;refine Bool.and_eq_true _ _|>.mpr ⟨?_,aaA⟩;refine Bool.and_eq_true _ _|>.mpr ⟨?_,aaz⟩;refine Bool.and_eq_true _ _|>.mpr ⟨?_,aay⟩;refine Bool.and_eq_true _ _|>.mpr ⟨?_,aax⟩;refine Bool.and_eq_true _ _|>.mpr ⟨?_,aaw⟩;refine Bool.and_eq_true _ _|>.mpr ⟨?_,aav⟩;refine Bool.and_eq_true _ _|>.mpr ⟨?_,aau⟩;refine Bool.and_eq_true _ _|>.mpr ⟨?_,aat⟩;refine Bool.and_eq_true _ _|>.mpr ⟨?_,aas⟩;refine Bool.and_eq_true _ _|>.mpr ⟨?_,aar⟩;refine Bool.and_eq_true _ _|>.mpr ⟨?_,aaq⟩;refine Bool.and_eq_true _ _|>.mpr ⟨?_,aap⟩;refine Bool.and_eq_true _ _|>.mpr ⟨?_,aao⟩;refine Bool.and_eq_true _ _|>.mpr ⟨?_,jf9⟩;refine Bool.and_eq_true _ _|>.mpr ⟨?_,jf8⟩;refine Bool.and_eq_true _ _|>.mpr ⟨?_,jf7⟩;refine Bool.and_eq_true _ _|>.mpr ⟨?_,jf6⟩;refine Bool.and_eq_true _ _|>.mpr ⟨?_,jf5⟩;refine Bool.and_eq_true _ _|>.mpr ⟨?_,jf4⟩;refine Bool.and_eq_true _ _|>.mpr ⟨?_,jf3⟩;refine Bool.and_eq_true _ _|>.mpr ⟨?_,jf2⟩;refine Bool.and_eq_true _ _|>.mpr ⟨?_,jf1⟩;exact jf0
end Go.Proofs.YtidicphjlgjajaaGreatDoor
