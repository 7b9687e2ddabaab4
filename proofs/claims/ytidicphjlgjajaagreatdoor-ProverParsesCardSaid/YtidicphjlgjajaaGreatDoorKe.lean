/-
  A part of the proof: KA5.
-/
import Derived.Test.YtidicphjlgjajaaGreatDoorAe
import Derived.Test.YtidicphjlgjajaaGreatDoorKa
import Derived.Test.YtidicphjlgjajaaGreatDoorKb
import Derived.Test.YtidicphjlgjajaaGreatDoorKc
set_option linter.all false

namespace Go.AI
open Go Go.Proofs
section
variable (hP:cZ Tryz.prog)
include hP
theorem VI:sB Tryz.prog [xl,xm,xn]:=by
 have e:sB Tryz.prog []:=λk hk=>by cases hk
 intro k hk
 simp only[List.mem_cons,List.mem_nil_iff,or_false]at hk
 rcases hk with rfl|rfl|rfl
 .exact rQ (qf hP e _) Gy
 .exact rQ (qf hP e _) k11
 .exact rQ (qf hP e _) k12
theorem VJ:sB Tryz.prog [xl,xm,xn,O3,O4]:=by
 have e:=VI hP
 intro k hk
 simp only[List.mem_cons,List.mem_nil_iff,or_false]at hk
 rcases hk with rfl|rfl|rfl|rfl|rfl
 .exact e _ (by simp)
 .exact e _ (by simp)
 .exact e _ (by simp)
 .exact rQ (qf hP e _) k13
 .exact rQ (qf hP e _) k14
theorem VK(h:AHeap):dq Tryz.prog 4 [] h (.ret (.sc (.bool true))) h:=by obtain⟨h1,hc⟩:=rQ (qf hP (VJ hP) _) k5;exact H4 (n:=1) hc rfl rfl h
end
end Go.AI
