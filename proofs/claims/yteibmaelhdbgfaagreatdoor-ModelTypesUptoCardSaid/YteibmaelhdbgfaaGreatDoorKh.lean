/- A part of the proof. -/
import Derived.Test.YteibmaelhdbgfaaGreatDoorKa
import Derived.Test.YteibmaelhdbgfaaGreatDoorKb
import Derived.Test.YteibmaelhdbgfaaGreatDoorKc
import Derived.Test.YteibmaelhdbgfaaGreatDoorKe
import Derived.Test.YteibmaelhdbgfaaGreatDoorKf
import Derived.Test.YteibmaelhdbgfaaGreatDoorKg
set_option linter.all false

namespace Go.AI
open Go Go.Proofs
section
variable (hP:ProgOK Tryz.prog)
include hP
theorem agZ:lB Tryz.prog tq.bu.flatten:=by rw[abf];have e:=rN hP (tbl:=.leaf) (tg (P:=Tryz.prog)) 100000;exact aj e RI (aj e RJ (aj e RQ (aj e RR (aj e RS (aj e Qy (aj e Rw (aj e Ry (aj e Rz (aj e RA (aj e RB (aj e RC (aj e RD (aj e RE (aj e RG (aj e RH (aj e Tj (aj e Tp (aj e Tq (aj e Ts (aj e Tu (aj e Tx (aj e TA (aj e TB (aj e TC (aj e TD (aj e Qw (aj e Qz (aj e QA (aj e QB (aj e QE (aj e QF (aj e QG (aj e QJ (aj e QK (aj e QL (aj e QM (aj e QN (aj e QO (aj e QP (aj e QQ (aj e QR (aj e Ru (aj e Rv (aj e Rx (aj e RL (aj e RM (aj e RN (aj e RO (aj e RP (aj e Qx (aj e QS (aj e QT (aj e QU (aj e QV (aj e QW (aj e QX (aj e QY (aj e QZ (aj e Q0 (aj e Q1 (aj e Q2 (aj e Q3 (aj e Q4 (aj e Q5 (aj e Q6 (aj e Q7 (aj e Q8 (aj e Q9 (aj e Ra (aj e Rb (aj e Rc (aj e Re (aj e Rf (aj e Rg (aj e Rh (aj e Ri (aj e Rj (aj e Rk (aj e Rn (aj e Ro (aj e Rq (aj e Rr (aj e Rt (tg))))))))))))))))))))))))))))))))))))))))))))))))))))))))))))))))))))))))))))))))))))
theorem ag0:lB Tryz.prog tr.bu.flatten:=by rw[abg];have e1:=rN hP (tbl:=.leaf) (tg (P:=Tryz.prog)) 100000;have e2:=rN hP (agZ hP) 100000;exact aj e1 RI (aj e1 RJ (aj e1 RQ (aj e1 RR (aj e1 RS (aj e1 Qy (aj e2 aiE (aj e2 aiF (aj e2 aiG (aj e2 aiH (aj e2 aiI (aj e2 aiJ (aj e1 Rw (aj e1 Ry (aj e1 Rz (aj e1 RA (aj e1 RB (aj e1 RC (aj e1 RD (aj e1 RE (aj e1 RG (aj e1 RH (aj e2 agT (aj e2 agU (aj e2 agV (aj e2 agW (aj e2 agX (aj e2 agY (aj e1 Tj (aj e1 Tp (aj e1 Tq (aj e1 Ts (aj e1 Tu (aj e1 Tx (aj e1 TA (aj e1 TB (aj e1 TC (aj e1 TD (aj e1 Qw (aj e1 Qz (aj e1 QA (aj e1 QB (aj e1 QE (aj e1 QF (aj e1 QG (aj e1 QJ (aj e1 QK (aj e1 QL (aj e1 QM (aj e1 QN (aj e1 QO (aj e1 QP (aj e1 QQ (aj e1 QR (aj e2 aiN (aj e2 agK (aj e2 agL (aj e2 agM (aj e2 agN (aj e2 agO (aj e2 aiK (aj e2 aiL (aj e2 aiM (aj e2 agP (aj e2 agQ (aj e2 agR (aj e2 agS (aj e1 Ru (aj e1 Rv (aj e1 Rx (aj e1 RL (aj e1 RM (aj e1 RN (aj e1 RO (aj e1 RP (aj e1 Qx (aj e1 QS (aj e1 QT (aj e1 QU (aj e1 QV (aj e1 QW (aj e1 QX (aj e1 QY (aj e1 QZ (aj e1 Q0 (aj e1 Q1 (aj e1 Q2 (aj e1 Q3 (aj e1 Q4 (aj e1 Q5 (aj e1 Q6 (aj e1 Q7 (aj e1 Q8 (aj e1 Q9 (aj e1 Ra (aj e1 Rb (aj e1 Rc (aj e1 Re (aj e1 Rf (aj e1 Rg (aj e1 Rh (aj e1 Ri (aj e1 Rj (aj e1 Rk (aj e1 Rn (aj e1 Ro (aj e1 Rq (aj e1 Rr (aj e1 Rt (tg)))))))))))))))))))))))))))))))))))))))))))))))))))))))))))))))))))))))))))))))))))))))))))))))))))))))))))))
theorem ag1:lB Tryz.prog ts.bu.flatten:=by rw[abh];have e:=rN hP (ag0 hP) 100000;exact aj e aiQ (aj e aiP (aj e aiO (tg)))
theorem acA(h:AHeap):fc Tryz.prog 8 [] h (.ret (.sc (.bool true))) h:=by obtain⟨h1,u,n,hc,hs⟩:=Kj (rN hP (ag1 hP) 100000) aiR;exact JI hc rfl hs h
end
end Go.AI
