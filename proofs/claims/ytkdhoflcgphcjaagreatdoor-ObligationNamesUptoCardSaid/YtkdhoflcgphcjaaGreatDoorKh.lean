/- A part of the proof. -/
import Derived.Test.YtkdhoflcgphcjaaGreatDoorL
import Derived.Test.YtkdhoflcgphcjaaGreatDoorKa
import Derived.Test.YtkdhoflcgphcjaaGreatDoorKb
import Derived.Test.YtkdhoflcgphcjaaGreatDoorKc
import Derived.Test.YtkdhoflcgphcjaaGreatDoorKe
import Derived.Test.YtkdhoflcgphcjaaGreatDoorKf
import Derived.Test.YtkdhoflcgphcjaaGreatDoorKg
import Derived.Test.YtkdhoflcgphcjaaGreatDoorKi
set_option linter.all false

namespace Go.AI
open Go Go.Proofs
section
variable {P:Program}
theorem dQ{l:List bV}{R:Rec}(c:cv P R)(h:l.all (dp R)=true):cY P l:=λk hk=>IX c (List.all_eq_true.1 h k hk)
theorem Nj{l:List bV}{R:Rec}(c:cv P R)(h:l.all (vC R)=true):jE P l:=λk hk=>SF c (List.all_eq_true.1 h k hk)
theorem bo{l m:List bV}(h:cY P l)(h':cY P m):cY P (l++m):=λk hk=>(List.mem_append.1 hk).elim (h k) (h' k)
theorem E1{l m:List bV}(h:jE P l)(h':jE P m):jE P (l++m):=λk hk=>(List.mem_append.1 hk).elim (h k) (h' k)
end
section
variable (hP:ProgOK Tryz.prog)
include hP
theorem uo:cv Tryz.prog (cE Tryz.prog 426 499 9 .leaf .leaf 100000):=qR hP Tryz.od (tbl:=.leaf) sC (tbn:=.leaf) xA 100000
theorem vY:cY Tryz.prog j2:=dQ (uo hP) Yx
theorem wQ:cY Tryz.prog hG:=(show hG=(hG.drop 0).take 17++((hG.drop 17).take 17)by kernel_rfl)▸bo (dQ (uo hP) Xe) (dQ (uo hP) VB)
theorem vZ:cY Tryz.prog j3:=dQ (uo hP) Yy
theorem v7:cY Tryz.prog j1:=dQ (uo hP) Yw
theorem wR:cY Tryz.prog ke:=dQ (uo hP) abu
theorem Xf:cY Tryz.prog so.aY.flatten:=(show so.aY.flatten=j2++(hG++(j3++(j1++(ke++[]))))by kernel_rfl)▸bo (vY hP) (bo (wQ hP) (bo (vZ hP) (bo (v7 hP) (bo (wR hP) (sC)))))
theorem Ca:cv Tryz.prog (cE Tryz.prog 426 499 9 so .leaf 100000):=qR hP Tryz.od (Xf hP) (tbn:=.leaf) xA 100000
theorem Bs:cY Tryz.prog mw:=dQ (Ca hP) abw
theorem Am:cY Tryz.prog mi:=dQ (Ca hP) Yz
theorem Bt:cY Tryz.prog mu:=dQ (Ca hP) abv
theorem Xg:cY Tryz.prog hI.aY.flatten:=(show hI.aY.flatten=j2++(hG++(j3++(mw++(mi++(mu++(j1++(ke++[])))))))by kernel_rfl)▸bo (vY hP) (bo (wQ hP) (bo (vZ hP) (bo (Bs hP) (bo (Am hP) (bo (Bt hP) (bo (v7 hP) (bo (wR hP) (sC))))))))
theorem Nk:jE Tryz.prog tU:=Nj (Ca hP) YA
theorem Xh:jE Tryz.prog hK.aY.flatten:=(show hK.aY.flatten=tU++[]by kernel_rfl)▸E1 (Nk hP) (xA)
theorem jy:cv Tryz.prog (cE Tryz.prog 426 499 9 hI hK 100000):=qR hP Tryz.od (Xg hP) (Xh hP) 100000
theorem E2:cY Tryz.prog pv:=dQ (jy hP) YB
theorem E3:cY Tryz.prog fm:=(show fm=(fm.drop 0).take 1++((fm.drop 1).take 1++((fm.drop 2).take 1++((fm.drop 3).take 1++((fm.drop 4).take 1++((fm.drop 5).take 1)))))by kernel_rfl)▸bo (dQ (jy hP) VF) (bo (dQ (jy hP) VG) (bo (dQ (jy hP) VH) (bo (dQ (jy hP) VI) (bo (dQ (jy hP) VJ) (dQ (jy hP) VK)))))
theorem Gw:cY Tryz.prog pG:=dQ (jy hP) abx
theorem E4:cY Tryz.prog iW:=(show iW=(iW.drop 0).take 6++((iW.drop 6).take 6++((iW.drop 12).take 6))by kernel_rfl)▸bo (dQ (jy hP) VC) (bo (dQ (jy hP) VD) (dQ (jy hP) Ub))
theorem Gx:cY Tryz.prog pH:=dQ (jy hP) aby
theorem Xi:cY Tryz.prog sq.aY.flatten:=(show sq.aY.flatten=j2++(hG++(j3++(pv++(fm++(pG++(mw++(mi++(mu++(iW++(j1++(pH++(ke++[]))))))))))))by kernel_rfl)▸bo (vY hP) (bo (wQ hP) (bo (vZ hP) (bo (E2 hP) (bo (E3 hP) (bo (Gw hP) (bo (Bs hP) (bo (Am hP) (bo (Bt hP) (bo (E4 hP) (bo (v7 hP) (bo (Gx hP) (bo (wR hP) (sC)))))))))))))
theorem YF:jE Tryz.prog Bq:=Nj (jy hP) YC
theorem Ep:jE Tryz.prog kg.aY.flatten:=(show kg.aY.flatten=Bq++(tU++[])by kernel_rfl)▸E1 (YF hP) (E1 (Nk hP) (xA))
theorem Cb:cv Tryz.prog (cE Tryz.prog 426 499 9 sq kg 100000):=qR hP Tryz.od (Xi hP) (Ep hP) 100000
theorem OI:cY Tryz.prog um:=dQ (Cb hP) abA
theorem OJ:cY Tryz.prog ui:=dQ (Cb hP) abB
theorem OK:cY Tryz.prog uj:=dQ (Cb hP) abC
theorem OL:cY Tryz.prog uk:=dQ (Cb hP) abz
theorem Xj:cY Tryz.prog xi.aY.flatten:=(show xi.aY.flatten=j2++(um++(hG++(j3++(pv++(fm++(pG++(mw++(mi++(mu++(iW++(j1++(ui++(pH++(ke++(uj++(uk++[]))))))))))))))))by kernel_rfl)▸bo (vY hP) (bo (OI hP) (bo (wQ hP) (bo (vZ hP) (bo (E2 hP) (bo (E3 hP) (bo (Gw hP) (bo (Bs hP) (bo (Am hP) (bo (Bt hP) (bo (E4 hP) (bo (v7 hP) (bo (OJ hP) (bo (Gx hP) (bo (wR hP) (bo (OK hP) (bo (OL hP) (sC)))))))))))))))))
theorem PK:cv Tryz.prog (cE Tryz.prog 426 499 9 xi kg 100000):=qR hP Tryz.od (Xj hP) (Ep hP) 100000
theorem YG:cY Tryz.prog Bn:=dQ (PK hP) YD
theorem YH:cY Tryz.prog Bp:=dQ (PK hP) YE
theorem Xk:cY Tryz.prog B9.aY.flatten:=(show B9.aY.flatten=Bn++(j2++(um++(hG++(j3++(pv++(fm++(pG++(mw++(mi++(mu++(iW++(j1++(ui++(pH++(ke++(Bp++(uj++(uk++[]))))))))))))))))))by kernel_rfl)▸bo (YG hP) (bo (vY hP) (bo (OI hP) (bo (wQ hP) (bo (vZ hP) (bo (E2 hP) (bo (E3 hP) (bo (Gw hP) (bo (Bs hP) (bo (Am hP) (bo (Bt hP) (bo (E4 hP) (bo (v7 hP) (bo (OJ hP) (bo (Gx hP) (bo (wR hP) (bo (YH hP) (bo (OK hP) (bo (OL hP) (sC)))))))))))))))))))
theorem e_5:cv Tryz.prog (cE Tryz.prog 426 499 9 B9 kg 100000):=qR hP Tryz.od (Xk hP) (Ep hP) 100000
theorem Xl(h:AHeap):dI Tryz.prog 4 [] h (.ret (.sc (.bool true))) h:=by obtain⟨h1,u,n,hc,hs⟩:=IX (e_5 hP) abD;exact Ih hc rfl hs h
end
end Go.AI
