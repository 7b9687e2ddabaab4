/- A part of the proof. -/
import Derived.Test.YteibmaelhdbgfaaGreatDoorProg
import Derived.Test.YteibmaelhdbgfaaGreatDoorKd
set_option linter.all false

namespace Go.AI
open Go Go.Proofs
set_option maxRecDepth 100000
theorem Q6:aP (aT Tryz.prog .leaf 100000) xq=true:=by kernel_rfl
theorem Q7:aP (aT Tryz.prog .leaf 100000) xr=true:=by kernel_rfl
theorem Q8:aP (aT Tryz.prog .leaf 100000) xu=true:=by kernel_rfl
theorem Q9:aP (aT Tryz.prog .leaf 100000) xv=true:=by kernel_rfl
theorem Ra:aP (aT Tryz.prog .leaf 100000) xx=true:=by kernel_rfl
theorem Rb:aP (aT Tryz.prog .leaf 100000) xy=true:=by kernel_rfl
theorem Rc:aP (aT Tryz.prog .leaf 100000) xz=true:=by kernel_rfl
theorem Re:aP (aT Tryz.prog .leaf 100000) xA=true:=by kernel_rfl
theorem Rf:aP (aT Tryz.prog .leaf 100000) xB=true:=by kernel_rfl
theorem Rg:aP (aT Tryz.prog .leaf 100000) xC=true:=by kernel_rfl
theorem Rh:aP (aT Tryz.prog .leaf 100000) xD=true:=by kernel_rfl
theorem Ri:aP (aT Tryz.prog .leaf 100000) xE=true:=by kernel_rfl
theorem Rj:aP (aT Tryz.prog .leaf 100000) xF=true:=by kernel_rfl
theorem Rk:aP (aT Tryz.prog .leaf 100000) xG=true:=by kernel_rfl
theorem Rn:aP (aT Tryz.prog .leaf 100000) xH=true:=by kernel_rfl
theorem Ro:aP (aT Tryz.prog .leaf 100000) xI=true:=by kernel_rfl
theorem Rq:aP (aT Tryz.prog .leaf 100000) xJ=true:=by kernel_rfl
theorem Rr:aP (aT Tryz.prog .leaf 100000) xK=true:=by kernel_rfl
theorem Rt:aP (aT Tryz.prog .leaf 100000) xL=true:=by kernel_rfl
theorem Ru:aP (aT Tryz.prog .leaf 100000) xM=true:=by kernel_rfl
theorem Rv:aP (aT Tryz.prog .leaf 100000) xN=true:=by kernel_rfl
theorem Rw:aP (aT Tryz.prog .leaf 100000) xO=true:=by kernel_rfl
theorem Rx:aP (aT Tryz.prog .leaf 100000) xP=true:=by kernel_rfl
theorem Ry:aP (aT Tryz.prog .leaf 100000) xQ=true:=by kernel_rfl
theorem Rz:aP (aT Tryz.prog .leaf 100000) xR=true:=by kernel_rfl
theorem RA:aP (aT Tryz.prog .leaf 100000) xS=true:=by kernel_rfl
theorem RB:aP (aT Tryz.prog .leaf 100000) xT=true:=by kernel_rfl
theorem RC:aP (aT Tryz.prog .leaf 100000) xU=true:=by kernel_rfl
theorem RD:aP (aT Tryz.prog .leaf 100000) xV=true:=by kernel_rfl
theorem RE:aP (aT Tryz.prog .leaf 100000) xW=true:=by kernel_rfl
theorem RG:aP (aT Tryz.prog .leaf 100000) xX=true:=by kernel_rfl
theorem RH:aP (aT Tryz.prog .leaf 100000) xY=true:=by kernel_rfl
theorem RI:aP (aT Tryz.prog .leaf 100000) xZ=true:=by kernel_rfl
theorem RJ:aP (aT Tryz.prog .leaf 100000) x1=true:=by kernel_rfl
theorem RL:aP (aT Tryz.prog .leaf 100000) x5=true:=by kernel_rfl
theorem RM:aP (aT Tryz.prog .leaf 100000) ya=true:=by kernel_rfl
theorem RN:aP (aT Tryz.prog .leaf 100000) yb=true:=by kernel_rfl
theorem RO:aP (aT Tryz.prog .leaf 100000) yc=true:=by kernel_rfl
theorem RP:aP (aT Tryz.prog .leaf 100000) yd=true:=by kernel_rfl
theorem RQ:aP (aT Tryz.prog .leaf 100000) ye=true:=by kernel_rfl
theorem RR:aP (aT Tryz.prog .leaf 100000) yf=true:=by kernel_rfl
theorem RS:aP (aT Tryz.prog .leaf 100000) yg=true:=by kernel_rfl
end Go.AI
