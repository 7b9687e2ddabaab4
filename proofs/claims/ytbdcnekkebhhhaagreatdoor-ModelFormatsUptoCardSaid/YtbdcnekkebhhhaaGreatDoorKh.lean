/-
  The sanity check of layer 6 answers true.
-/
import Derived.Test.YtbdcnekkebhhhaaGreatDoorKa
import Derived.Test.YtbdcnekkebhhhaaGreatDoorKb
import Derived.Test.YtbdcnekkebhhhaaGreatDoorKc
import Derived.Test.YtbdcnekkebhhhaaGreatDoorKe
import Derived.Test.YtbdcnekkebhhhaaGreatDoorKf
import Derived.Test.YtbdcnekkebhhhaaGreatDoorKg
set_option linter.all false

namespace Go.AI
open Go Go.Proofs
section
variable (hP : ProgOK Tryz.prog)
include hP
theorem ok_tq : Known2OK Tryz.prog tq.vals.flatten := by
  rw [tq_vals]
  have e := recK_ok hP (tbl := .leaf) (known2_nil (P := Tryz.prog)) 100000
  exact known2_cons e g_q0 (known2_cons e g_q1 (known2_cons e g_q2 (known2_cons e g_q3 (known2_cons e g_q4 (known2_cons e g_q5 (known2_cons e g_q6 (known2_cons e g_q7 (known2_cons e g_q8 (known2_cons e g_q9 (known2_cons e g_q10 (known2_cons e g_q63 (known2_cons e g_q28 (known2_cons e g_q29 (known2_cons e g_q30 (known2_cons e g_q31 (known2_cons e g_q32 (known2_cons e g_q33 (known2_cons e g_q34 (known2_cons e g_q35 (known2_cons e g_q36 (known2_cons e g_q37 (known2_cons e g_q38 (known2_cons e g_q39 (known2_cons e g_q40 (known2_cons e g_q41 (known2_cons e g_q42 (known2_cons e g_q43 (known2_cons e g_q44 (known2_cons e g_q45 (known2_cons e g_q46 (known2_cons e g_q47 (known2_cons e g_q48 (known2_cons e g_q49 (known2_cons e g_q50 (known2_cons e g_q51 (known2_cons e g_q52 (known2_cons e g_q53 (known2_cons e g_q54 (known2_cons e g_q55 (known2_cons e g_q56 (known2_cons e g_q57 (known2_cons e g_q58 (known2_cons e g_q59 (known2_cons e g_q60 (known2_cons e g_q12 (known2_cons e g_q65 (known2_cons e g_q66 (known2_cons e g_q67 (known2_cons e g_q68 (known2_cons e g_q69 (known2_cons e g_q70 (known2_cons e g_q71 (known2_cons e g_q72 (known2_cons e g_q73 (known2_cons e g_q81 (known2_cons e g_q82 (known2_cons e g_q83 (known2_cons e g_q13 (known2_cons e g_q14 (known2_cons e g_q15 (known2_cons e g_q16 (known2_cons e g_q17 (known2_cons e g_q18 (known2_cons e g_q19 (known2_cons e g_q20 (known2_cons e g_q21 (known2_cons e g_q22 (known2_cons e g_q23 (known2_cons e g_q24 (known2_cons e g_q25 (known2_cons e g_q26 (known2_cons e g_q27 (known2_cons e g_q11 (known2_cons e g_q76 (known2_cons e g_q77 (known2_cons e g_q78 (known2_cons e g_q79 (known2_cons e g_q80 (known2_cons e g_q64 (known2_cons e g_q61 (known2_cons e g_q62 (known2_cons e g_q74 (known2_cons e g_q75 (known2_nil))))))))))))))))))))))))))))))))))))))))))))))))))))))))))))))))))))))))))))))))))))
theorem ok_tr : Known2OK Tryz.prog tr.vals.flatten := by
  rw [tr_vals]
  have e1 := recK_ok hP (tbl := .leaf) (known2_nil (P := Tryz.prog)) 100000
  have e2 := recK_ok hP (ok_tq hP) 100000
  exact known2_cons e1 g_q0 (known2_cons e1 g_q1 (known2_cons e1 g_q2 (known2_cons e1 g_q3 (known2_cons e1 g_q4 (known2_cons e1 g_q5 (known2_cons e1 g_q6 (known2_cons e1 g_q7 (known2_cons e1 g_q8 (known2_cons e1 g_q9 (known2_cons e1 g_q10 (known2_cons e1 g_q63 (known2_cons e2 g_r6 (known2_cons e2 g_r7 (known2_cons e2 g_r8 (known2_cons e2 g_r9 (known2_cons e2 g_r10 (known2_cons e2 g_r11 (known2_cons e2 g_r12 (known2_cons e2 g_r13 (known2_cons e2 g_r14 (known2_cons e2 g_r19 (known2_cons e2 g_r20 (known2_cons e2 g_r21 (known2_cons e2 g_r22 (known2_cons e2 g_r23 (known2_cons e2 g_r24 (known2_cons e1 g_q28 (known2_cons e1 g_q29 (known2_cons e1 g_q30 (known2_cons e1 g_q31 (known2_cons e1 g_q32 (known2_cons e1 g_q33 (known2_cons e1 g_q34 (known2_cons e1 g_q35 (known2_cons e1 g_q36 (known2_cons e1 g_q37 (known2_cons e1 g_q38 (known2_cons e1 g_q39 (known2_cons e1 g_q40 (known2_cons e1 g_q41 (known2_cons e1 g_q42 (known2_cons e1 g_q43 (known2_cons e1 g_q44 (known2_cons e1 g_q45 (known2_cons e1 g_q46 (known2_cons e1 g_q47 (known2_cons e1 g_q48 (known2_cons e1 g_q49 (known2_cons e1 g_q50 (known2_cons e1 g_q51 (known2_cons e1 g_q52 (known2_cons e1 g_q53 (known2_cons e1 g_q54 (known2_cons e1 g_q55 (known2_cons e1 g_q56 (known2_cons e1 g_q57 (known2_cons e1 g_q58 (known2_cons e1 g_q59 (known2_cons e1 g_q60 (known2_cons e2 g_r15 (known2_cons e2 g_r16 (known2_cons e2 g_r17 (known2_cons e2 g_r18 (known2_cons e1 g_q12 (known2_cons e1 g_q65 (known2_cons e1 g_q66 (known2_cons e1 g_q67 (known2_cons e1 g_q68 (known2_cons e1 g_q69 (known2_cons e1 g_q70 (known2_cons e1 g_q71 (known2_cons e1 g_q72 (known2_cons e1 g_q73 (known2_cons e1 g_q81 (known2_cons e1 g_q82 (known2_cons e1 g_q83 (known2_cons e1 g_q13 (known2_cons e1 g_q14 (known2_cons e1 g_q15 (known2_cons e1 g_q16 (known2_cons e1 g_q17 (known2_cons e1 g_q18 (known2_cons e1 g_q19 (known2_cons e1 g_q20 (known2_cons e1 g_q21 (known2_cons e1 g_q22 (known2_cons e1 g_q23 (known2_cons e1 g_q24 (known2_cons e1 g_q25 (known2_cons e1 g_q26 (known2_cons e1 g_q27 (known2_cons e1 g_q11 (known2_cons e1 g_q76 (known2_cons e1 g_q77 (known2_cons e1 g_q78 (known2_cons e1 g_q79 (known2_cons e1 g_q80 (known2_cons e1 g_q64 (known2_cons e1 g_q61 (known2_cons e1 g_q62 (known2_cons e1 g_q74 (known2_cons e1 g_q75 (known2_cons e2 g_r0 (known2_cons e2 g_r1 (known2_cons e2 g_r2 (known2_cons e2 g_r3 (known2_cons e2 g_r4 (known2_cons e2 g_r5 (known2_nil)))))))))))))))))))))))))))))))))))))))))))))))))))))))))))))))))))))))))))))))))))))))))))))))))))))))))))))
theorem ok_ts : Known2OK Tryz.prog ts.vals.flatten := by
  rw [ts_vals]
  have e := recK_ok hP (ok_tr hP) 100000
  exact known2_cons e g_kc (known2_cons e g_km (known2_cons e g_kF (known2_nil)))
theorem awake6 (h : AHeap) : CallOK Tryz.prog 5 [] h (.ret (.sc (.bool true))) h := by
  obtain ⟨h1, u, n, hc, hs⟩ := givesK_ok (recK_ok hP (ok_ts hP) 100000) g_ka
  exact pure_callP hc rfl hs h
end
end Go.AI
