/- A part of the proof. -/
import Derived.Test.YteibmaelhdbgfaaGreatDoorGd
set_option linter.all false

section
namespace Go.AI
open Go Go.Proofs
set_option maxRecDepth 100000
noncomputable section
def eF9(n){a0}:F9 (n+1) a0=aa (decide ((a0.length:Int)>16)) (some (5,0,(bs []))) (vF n a0 (a0.length:Int) 0 (0,0,(bs [])) a0):=by kernel_rfl
def ahE(n){a0 c}:oK (n+1) a0 c=ask (H5 n a0 c) λo=>some o:=by kernel_rfl
def ahF(n){a0 c}:H5 (n+1) a0 c=AJ n a0 c (a0.length:Int) 0:=by kernel_rfl
def ahH(n){a0}:Ia (n+1) a0=ask (BJ n a0.2.2.2.2.2.2.2.2.2.2.2.2.2.1 a0.2.2.2.2.2.2.2.2.2.2.2.2.2.2.1) λE=>aw (aO n E (bs [105,110,105,116]) 1 a0) λz=>ask (BK n z.1 z.2.1 (bs [105,110,105,116])) λo=>aw (Ga n (bs [105,110,105,116]) a0.2.2.2.2.2.2.2.2.2.2.2.2.2.1 (qX o) o.2.2.2.2.2.2.2 z (vE a0.2.2)) λc=>aw (sJ n (bs [105,110,105,116]) c.2.2.2.2.2.2.2.2.2.2.2.2.2.2.2.2.2.2.2.2.2.2.2.2.2.2.2.2.2.2.2.2.2.2.1 (c.2.2.2.2.2.2.2.2.2.2.2.2.2.2.2.2.1,c.2.2.2.2.2.2.2.2.2.2.2.2.2.2.2.2.2.1) false (F6 c)) λA=>AR n c.2.2.2.2.2.2.2.2.2.2.2.2.2.2.2.2.2.2.2.2.2.2.2.2.2.2.2.2.2.1 (c.2.2.2.2.2.2.2.2.2.2.2.2.2.2.2.2.2.2.2.2.2.2.2.2.2.2.2.2.2.1.length:Int) 0 A c.2.2.2.2.2.2.2.2.2.2.2.2.2.2.2.2.2.2.2.2.2.2:=by kernel_rfl
def abF(n){a0 c}:sx (n+1) a0 c=aa (decide (((lg (lg (lg (lg (lg (lg (c.2.2.2.2.1.length:Int) (c.2.2.2.2.2.1.length:Int)) (c.2.2.2.2.2.2.1.length:Int)) (c.2.2.2.2.2.2.2.1.length:Int)) (c.2.2.2.2.2.2.2.2.1.length:Int)) (c.2.2.2.2.2.2.2.2.2.2.2.1.length:Int)) (c.2.2.2.2.2.2.2.2.2.2.2.2.1.length:Int)):Int)<=32)) (aa (decide ((c.2.2.2.2.2.2.2.2.2.2.2.2.2.length:Int)<=16)) (aw (aO n (decide ((c.2.2.2.2.2.2.2.2.2.1.length:Int)<=1)) (bs []) 5 a0) λA=>vh n A c) (aw (aO n false (bs []) 5 a0) λo=>vh n o c)) (aw (aO n false (bs []) 5 a0) λz=>vh n z c):=by kernel_rfl
def OL(n){a0 D o c z E}:AO (n+1) a0 D o c z E=aa (decide (c<o)) (ab D c λr1=>ask (ga n (gS r1 0)) λK=>aa K (ask (kl n (cN r1 1)) λJ=>aw (aO n J (gS r1 0) 1 z) λA=>Fg n a0 c D o c A E (yr r1 0)) (aw (aO n false (gS r1 0) 1 z) λF=>Fg n a0 c D o c F E (yr r1 0))) (some (.ret z)):=by kernel_rfl
def adS(n){a0 z A o c}:sJ (n+1) a0 z A o c=ask (s3 n c.1 c.2.1) λE=>oa n a0 z o z (z.length:Int) 0 c A E:=by kernel_rfl
def Fk(n){a0 o c}:jH (n+1) a0 o c=aa (o !=0) (some (.aN 29 (ahk (o,c.2.1,a0)) ())) (some (.ret c)):=by kernel_rfl
def SI(n){a0 c}:jh (n+1) a0 c=ab a0 c λr1=>aa ((gI r1 0)==2) (ask (ko n a0 c) λz=>aa (decide ((z:Int)>=0)) (ask (jh n a0 z) λo=>PO n c a0 (eD r1 0) o) (ub n c a0 (eD r1 0) [])) (ub n c a0 (eD r1 0) []):=by kernel_rfl
def adT(n){a0}:Gb (n+1) a0=emp a0 (both (some []) (fits (([]:List (List AV)).length+a0.length) 40 (some ([]++a0)))) (fits (([]:List (List AV)).length+a0.length) 40 (some ([]++a0))):=by kernel_rfl
def adU(n){a0 K J A F E D o z c}:Gc (n+1) a0 K J A F E D o z c=ask (Gq n a0 K J A F E D o z c) λL=>some (decide ((L:Int)>=0)):=by kernel_rfl
def ahI(n){a0 c}:ko (n+1) a0 c=ab a0 c λr1=>aa (ay (gS r1 3) (bs [])) (some (-1)) (ab a0 c λr2=>ask (oK n a0 (gS r2 3)) λo=>some o):=by kernel_rfl
def adV(n){a0}:Gg (n+1) a0=ask (Eu n a0) λc=>some c:=by kernel_rfl
def abG(n){a0 o c}:lM (n+1) a0 o c=aw (Gj n a0 o) λE=>aw (Gk n c E) λA=>aw (Gl n c A) λz=>AW n c.2.2.2.2.1 (c.2.2.2.2.1.length:Int) 0 z.2.2.2 c (z.1,z.2.1) z.2.2.1:=by kernel_rfl
def Ap(n){a0 F E o z D c}:mM (n+1) a0 F E o z D c=aa (decide (o<E)) (ab F o λr1=>ask (oK n z (gS r1 0)) λJ=>ask (jh n z J) λA=>fits (c.length+A.length) 8 (mM n a0 F E (be (o+1)) z D (c++A))) (aa (D.1==1) (fits (c.length+([[.sc (.int .i64 a0)]]:List (List AV)).length) 8 (qk n (c++[[.sc (.int .i64 a0)]]))) (qk n c)):=by kernel_rfl
def Y7(n){a0 c}:Oi (n+1) a0 c=LN n a0 (a0.length:Int) 0 c:=by kernel_rfl
def adW(n){a0 A o c}:Gp (n+1) a0 A o c=ask (wB n a0 c.2.1) λF=>ask (wC n a0 c.2.1) λz=>ask (ko n c.1 c.2.1) λE=>aa (decide ((E:Int)>=0)) (ab c.1 E λr4=>zT n o (gD r4 7) c A F z.1 z.2) (zT n o [] c A F z.1 z.2):=by kernel_rfl
def ahJ(n){a0 c}:Ct (n+1+1+1+1) a0 c=ask (jN (n+1+1+1) a0) λA=>aa (!A) (some (0,(bs []),[],[],1)) (ask (kl (n+1+1+1) c) λo=>aa (!o) (some (0,(bs []),[],[],1)) (ask (BO (n+1+1) a0) λz=>aa (decide ((0:Int)<(a0.1.length:Int))) (ab a0.1 0 λr4=>aa (decide ((1:Int)<(a0.1.length:Int))) (ab a0.1 1 λr5=>aa (decide ((2:Int)<(a0.1.length:Int))) (ab a0.1 2 λr6=>aa (decide ((3:Int)<(a0.1.length:Int))) (ab a0.1 3 λr7=>aa (decide ((4:Int)<(a0.1.length:Int))) (ab a0.1 4 λr8=>aa (decide ((5:Int)<(a0.1.length:Int))) (ab a0.1 5 λr9=>aa (decide ((6:Int)<(a0.1.length:Int))) (ab a0.1 6 λs6=>aa (decide ((7:Int)<(a0.1.length:Int))) (ab a0.1 7 λnq=>aa (decide ((8:Int)<(a0.1.length:Int))) (ab a0.1 8 λCx=>none) (jB (n+1+1+1) c (0,(bs [])) (z,(bG (bG (bG (bG (bG (bG (bG (bG [] (gS r4 0) [.sc (.bool true)]) (gS r5 0) [.sc (.bool true)]) (gS r6 0) [.sc (.bool true)]) (gS r7 0) [.sc (.bool true)]) (gS r8 0) [.sc (.bool true)]) (gS r9 0) [.sc (.bool true)]) (gS s6 0) [.sc (.bool true)]) (gS nq 0) [.sc (.bool true)])) [] [])) (jB (n+1+1+1) c (0,(bs [])) (z,(bG (bG (bG (bG (bG (bG (bG [] (gS r4 0) [.sc (.bool true)]) (gS r5 0) [.sc (.bool true)]) (gS r6 0) [.sc (.bool true)]) (gS r7 0) [.sc (.bool true)]) (gS r8 0) [.sc (.bool true)]) (gS r9 0) [.sc (.bool true)]) (gS s6 0) [.sc (.bool true)])) [] [])) (jB (n+1+1+1) c (0,(bs [])) (z,(bG (bG (bG (bG (bG (bG [] (gS r4 0) [.sc (.bool true)]) (gS r5 0) [.sc (.bool true)]) (gS r6 0) [.sc (.bool true)]) (gS r7 0) [.sc (.bool true)]) (gS r8 0) [.sc (.bool true)]) (gS r9 0) [.sc (.bool true)])) [] [])) (jB (n+1+1+1) c (0,(bs [])) (z,(bG (bG (bG (bG (bG [] (gS r4 0) [.sc (.bool true)]) (gS r5 0) [.sc (.bool true)]) (gS r6 0) [.sc (.bool true)]) (gS r7 0) [.sc (.bool true)]) (gS r8 0) [.sc (.bool true)])) [] [])) (jB (n+1+1+1) c (0,(bs [])) (z,(bG (bG (bG (bG [] (gS r4 0) [.sc (.bool true)]) (gS r5 0) [.sc (.bool true)]) (gS r6 0) [.sc (.bool true)]) (gS r7 0) [.sc (.bool true)])) [] [])) (jB (n+1+1+1) c (0,(bs [])) (z,(bG (bG (bG [] (gS r4 0) [.sc (.bool true)]) (gS r5 0) [.sc (.bool true)]) (gS r6 0) [.sc (.bool true)])) [] [])) (jB (n+1+1+1) c (0,(bs [])) (z,(bG (bG [] (gS r4 0) [.sc (.bool true)]) (gS r5 0) [.sc (.bool true)])) [] [])) (jB (n+1+1+1) c (0,(bs [])) (z,(bG [] (gS r4 0) [.sc (.bool true)])) [] [])) (jB (n+1+1+1) c (0,(bs [])) (z,[]) [] []))):=by kernel_rfl
def M9(n){a0 K J A F E c z D o}:qj (n+1) a0 K J A F E c z D o=aa (decide (c<E)) (ab F c λr1=>ask (Ez n a0 (gS r1 0) (gI r1 1) (gS r1 2) (gI r1 3) (gI r1 4) (gS r1 5) (gD r1 6) (gD r1 7)) λL=>aa (decide ((L:Int)<0)) (zq n a0 K J A c F E c z D o (iN r1 0)) (ab A L λr3=>ab J c λr4=>ask (j6 n (aK r3 0) (aK r4 0)) λM=>aa (!M) (zq n a0 K J A c F E c z D o (iN r1 0)) (qj n a0 K J A F E (be (c+1)) z D o))) (ab z.1 K λr6=>uI n (gD r6 7) ((gD r6 7).length:Int) 0 z D o):=by kernel_rfl
def KC(n){a0 F E I o c K J z}:ky (n+1) a0 F E I o c K J z=aa (decide (c<o)) (ab I c λr1=>ask (vJ n K.2.2.2.2.2.2.2.2.2.1 (gS r1 0) (gB r1 1) (gI r1 2) (gS r1 3) (gI r1 4) (gI r1 5) (gS r1 6) (gD r1 7) (gD r1 8)) λD=>aw (aO n (decide ((D:Int)>=0)) a0 6 K) λL=>ez F 0 c λS=>ask (uz n S (gS r1 0) (gB r1 1) (gI r1 2) (gS r1 3) (gI r1 4) (gI r1 5) (gS r1 6) (gD r1 7) (gD r1 8)) λR=>aa (!R) (aa E (ask (gu n z (gS r1 0)) λQ=>aw (aO n (!Q) a0 36 L) λA=>kD n a0 F E D I o c A J z (eZ r1 0)) (aw (aO n true a0 36 L) λN=>kD n a0 F E D I o c N J z (eZ r1 0))) (aw (aO n false a0 36 L) λM=>kD n a0 F E D I o c M J z (eZ r1 0))) (some (.ret K)):=by kernel_rfl
def Y8(n){a0}:Eu (n+1) a0=ask (EB n a0) λc=>some (decide ((c:Int)>=0)):=by kernel_rfl
def Na(n){a0 J E A c D o L K}:zR (n+1) a0 J E A c D o L K=aa (decide (E<J)) (ab a0 E λr1=>ask (iI n D (cN r1 1)) λz=>aw (jH n c.1 z.2.2.2 A) λN=>aw (aO n (z.1==5) c.1 7 N) λM=>ab z.2.2.1 0 λr5=>fits (o.length+([(cy (aK r5 0))]:List (List AV)).length) 48 (ab z.2.2.1 0 λr6=>aw (sM n c.1 D (gS r1 0) (aK r6 0) M) λF=>zR n a0 J (be (E+1)) F.2.2 c (F.1,F.2.1) (o++[(cy (aK r5 0))]) L K)) (some (.ret (dQ D (o,A)))):=by kernel_rfl
def PW(n){a0}:Gw (n+1) a0=aa (decide (a0>=48)) (some (decide (a0<=57))) (some false):=by kernel_rfl
def y8(n){a0 F E o z D c}:mq (n+1) a0 F E o z D c=aa (decide (o<E)) (ab F o λr1=>ask (oK n z (gS r1 0)) λJ=>ask (jh n z J) λA=>fits (c.length+A.length) 8 (mq n a0 F E (be (o+1)) z D (c++A))) (aa (D.1==1) (fits (c.length+([[.sc (.int .i64 a0)]]:List (List AV)).length) 8 (pU n (c++[[.sc (.int .i64 a0)]]))) (pU n c)):=by kernel_rfl
def adX(n){a0 c}:Gy (n+1) a0 c=zW n a0 c (a0.length:Int) 0:=by kernel_rfl
def Y9(n){a0 F c E A o z}:zT (n+1) a0 F c E A o z=Ey n a0 F c.2.2.2.2.2.2.2.2.2.1 (c.2.2.2.2.2.2.2.2.2.1.length:Int) 0 c E A [] o z:=by kernel_rfl
def Nb(n){a0 M L K J A F E D o z c}:uE (n+1) a0 M L K J A F E D o z c=aa (decide (c<z)) (ab a0 c λr1=>ask (GI n (yr r1 0) M L K J A F E D o) λN=>aa N (some c) (uE n a0 M L K J A F E D o z (be (c+1)))) (some (-1)):=by kernel_rfl
def Nc(n){a0 z c}:uF (n+1) a0 z c=aa (decide (c<z)) (ab a0 c λr1=>ask (GJ n (iN r1 0)) λo=>aa o (some c) (uF n a0 z (be (c+1)))) (some (-1)):=by kernel_rfl
def Xy(n){a0 M o L K J A F E D z c}:zq (n+1) a0 M o L K J A F E D z c=ab o K λr1=>fits (z.length+([(nT (c.1,(cB (aK r1 0) false)))]:List (List AV)).length) 72 (qj n a0 M o L J A (be (F+1)) E D (z++[(nT (c.1,(cB (aK r1 0) false)))])):=by kernel_rfl
def Za(n){a0 K J A F E D o z c}:EA (n+1) a0 K J A F E D o z c=tD n a0 K J A F E D o z c (a0.length:Int) 0:=by kernel_rfl
def Nd(n){a0 z c}:zU (n+1) a0 z c=aa (decide (c<z)) (ab a0 c λr1=>ask (Sr n (iN r1 0)) λo=>aa o (some c) (zU n a0 z (be (c+1)))) (some (-1)):=by kernel_rfl
def KD(n){a0 c o J A z F E D}:rF (n+1) a0 c o J A z F E D=aa (decide (z<A)) (ab J z λr1=>yX n a0 c o 0 J A z c (c.length:Int) 0 F E D (ux r1 0)) (aw (aO n ((c.length:Int)==(o.length:Int)) a0 35 F) λK=>tG n a0 o c (c.length:Int) 0 K E D):=by kernel_rfl
def DJ(n){a0 z c o}:uc (n+1) a0 z c o=aa (decide (z<a0)) (ab o z λ_=>eJ o z.toNat λr1=>ask (l6 n c (gI r1 0)) λA=>aa (!A) (fits (c.length+([[.sc (.int .i64 (gI r1 0))]]:List (List AV)).length) 8 (oc n a0 z (c++[[.sc (.int .i64 (gI r1 0))]]) o)) (oc n a0 z c o)) (some c):=by kernel_rfl
def ahK(n){a0}:Cu (n+1) a0=ask (wE n a0 (bs [39])) λo=>ask (ga n o) λc=>some c:=by kernel_rfl
def Zb(n){a0 o z c}:zW (n+1) a0 o z c=aa (decide (c<z)) (ab a0 c λr1=>aa (ay o (gS r1 0)) (some c) (zW n a0 o z (be (c+1)))) (some (-1)):=by kernel_rfl
def Zc(n){a0 A o z c}:uM (n+1) a0 A o z c=ask (EJ n a0 A o z c) λE=>some (decide ((E:Int)>=0)):=by kernel_rfl
def adY(n){a0}:GF (n+1) a0=aa (a0==1) (aa (a0==1) (some (0,true)) (qm n a0)) (aa (a0==2) (aa (a0==2) (some (0,true)) (qm n a0)) (aa (a0==19) (aa (a0==19) (some (0,true)) (qm n a0)) (aa (a0==20) (aa (a0==20) (some (0,true)) (qm n a0)) (aa (a0==29) (some (0,true)) (qm n a0))))):=by kernel_rfl
def Zd(n){a0}:se (n+1) a0=aa (a0.1==20) (ask (GG n a0.2.1) λo=>ue n o a0) (ask (sN n a0.1) λz=>aa z (ask (ga n a0.2.1) λc=>ue n c a0) (ue n (ay a0.2.1 (bs [])) a0)):=by kernel_rfl
def OM(n){a0 D z A o F c}:A3 (n+1) a0 D z A o F c=aa (decide (z<D)) (ab a0 z λr1=>ask (oN n (aK r1 0)) λE=>fits (c.length+([(cy E)]:List (List AV)).length) 48 (A3 n a0 D (be (z+1)) A o F (c++[(cy E)]))) (some (dQ o c)):=by kernel_rfl
def Ze(n){a0 A o z c}:EF (n+1) a0 A o z c=ask (EL n a0 A o z c) λE=>some (decide ((E:Int)>=0)):=by kernel_rfl
def KE(n){a0 M L K J A F E D o z c}:tD (n+1) a0 M L K J A F E D o z c=aa (decide (c<z)) (ab a0 c λr1=>ask (GS n (eZ r1 0) M L K J A F E D o) λN=>aa N (some c) (tD n a0 M L K J A F E D o z (be (c+1)))) (some (-1)):=by kernel_rfl
def KF(n){a0 A D o c F z E}:tF (n+1) a0 A D o c F z E=aa (decide (D<A)) (ab a0 D λr1=>fits (z.length+([[.sc (.string (gS r1 0))]]:List (List AV)).length) 16 (ask (gu n E (gS r1 0)) λM=>aw (aO n (!M) c.1 8 o) λL=>tF n a0 A (be (D+1)) L c F (z++[[.sc (.string (gS r1 0))]]) E)) (ask (j5 n F) λK=>aa (!K) (ask (j5 n z) λJ=>eP (aO n (!J) c.1 8 o)) (eP (aO n false c.1 8 o))):=by kernel_rfl
def adZ(n){a0}:GO (n+1) a0=Ab n a0.2.2.2.2.1 (a0.2.2.2.2.1.length:Int) 0 a0 []:=by kernel_rfl
def abH(n){a0 o}:Fj (n+1) a0 o=ask (EN n a0 o) λc=>some ((decide (c.1>=0)),c.2):=by kernel_rfl
def LQ(n){a0 c A o z}:ug (n+1) a0 c A o z=aa (decide (c<a0)) (ab z c λ_=>eJ z c.toNat λr1=>ab A (gI r1 0) λr2=>ask (s5 n o (gD r2 7)) λE=>ug n a0 (be (c+1)) A E z) (some o):=by kernel_rfl
def Xz(n){a0}:qb (n+1) a0=aa (a0==28) (some ((-1),true)) (aa (decide (a0>=1)) (aa (decide (a0<=56)) (some (2,true)) (some (0,false))) (some (0,false))):=by kernel_rfl
def ad0(n){a0 z E A o}:vL (n+1) a0 z E A o=fits (o.length+([[.sc (.int .i64 z)]]:List (List AV)).length) 8 (ab a0.2.2.2.2.2.2 z λr1=>ask (A8 n (cN r1 0) E A (o++[[.sc (.int .i64 z)]])) λc=>aa (c.2.2.2.1==0) (aa (decide (0<=(be ((c.2.2.2.2.2.2.length:Int)-1))/\(be ((c.2.2.2.2.2.2.length:Int)-1))<=(c.2.2.2.2.2.2.length:Int))) (some (tq6 c (c.2.2.2.2.2.2.take ((be ((c.2.2.2.2.2.2.length:Int)-1)):Int).toNat))) none) (some c)):=by kernel_rfl
def ad1(n){a0 o z}:vN (n+1) a0 o z=ask (s4 n a0) λA=>ask (PR n A o z) λc=>some ((!c.1),c.2):=by kernel_rfl
def ad2(n){a0}:oE (n+1) a0=ab a0 0 λr1=>ask (BS n (aK r1 0)) λc=>ab a0 1 λr3=>some (cB c ((gI r3 0)==2)):=by kernel_rfl
def Zf(n){a0 A o z c}:uN (n+1) a0 A o z c=ask (Ad n a0 c) λE=>some (A,o,z,(!E)):=by kernel_rfl
def Zg(n){a0}:od (n+1) a0=ab a0 0 λr1=>ask (j7 n (aK r1 0)) λc=>aa (!c.2.2.2.2.2.2) (some (0,(bs []),[],false)) (ask (G1 n (af c) (af c.2.2.2) a0) λo=>some o):=by kernel_rfl
def Zh(n){a0}:uR (n+1) a0=ab a0 0 λr1=>ask (j7 n (aK r1 0)) λc=>aa (!c.2.2.2.2.2.2) (some (0,(bs []),[],false)) (ask (G7 n (af c) (af c.2.2.2) a0) λo=>some o):=by kernel_rfl
def ad3(n){a0}:GQ (n+1) a0=Ae n a0.1 (a0.1.length:Int) 0 a0 [] [] [] []:=by kernel_rfl
def Zi(n){a0 o z c}:Aa (n+1) a0 o z c=aa (decide (c<z)) (ab o c λr1=>ab a0 c λr2=>ask (jI n (aK r1 0) (aK r2 0)) λA=>aa (!A) (some false) (Aa n a0 o z (be (c+1)))) (some true):=by kernel_rfl
def ad4(n){a0 c}:GV (n+1) a0 c=aa ((a0.length:Int)!=(c.length:Int)) (some false) (Ai n a0 c (a0.length:Int) 0):=by kernel_rfl
def Zj(n){a0 o z c}:Ac (n+1) a0 o z c=aa (decide (c<z)) (ab a0 c λr1=>aa (o==(gI r1 0)) (some c) (Ac n a0 o z (be (c+1)))) (some (-1)):=by kernel_rfl
def abI(n){a0 A o z c}:A7 (n+1) a0 A o z c=A5 n A o (be (z+1)) (bG c a0 [.sc (.bool true)]):=by kernel_rfl
def VX(n){a0 M L K J D F E I o z c}:Kp (n+1) a0 M L K J D F E I o z c=ask (jN n (z,c)) λA=>aw (aO n A o.1 5 D) λN=>rG n a0 M L K (be (J+1)) N F E I z c:=by kernel_rfl
def WD(n){a0 z F o c E}:bZ (n+1) a0 z F o c E=aa (!a0) (some (0,(bs []),[],7,(dQ z c))) (ask (qN n o) λA=>some (wu A (dQ z c))):=by kernel_rfl
def ad5(n){a0}:qO (n+1) a0=ab a0 0 λr1=>aa ((gI r1 0)!=2) (ask (Ou n a0 a0) λc=>some (!c.1)) (some false):=by kernel_rfl
def ad6(n){a0 A o}:G0 (n+1) a0 A o=ab o 1 λr1=>ask (j7 n (aK r1 0)) λc=>ask (qP n a0 (af c.2.2.2)) λz=>aa c.2.2.2.2.2.2 (ask (jI n A (af c)) λE=>some (cB z E)) (some (cB z false)):=by kernel_rfl
def ad7(n){a0 o z}:G6 (n+1) a0 o z=ask (jv n a0) λc=>some (cB c true):=by kernel_rfl
def KG(n){a0 F E D o z c}:tL (n+1) a0 F E D o z c=aa (decide (c<z)) (ab a0 c λr1=>ask (Hg n (du r1 0) F E D o) λA=>aa A (some c) (tL n a0 F E D o z (be (c+1)))) (some (-1)):=by kernel_rfl
def Nf(n){a0 L K z D o c J A F}:Aj (n+1) a0 L K z D o c J A F=aa (decide (z<K)) (ab L z λr1=>ab o z λr2=>aw (sM n D.1 J (gS r1 0) (aK r2 0) c) λE=>Aj n a0 L K (be (z+1)) D o E.2.2 (E.1,E.2.1) A F) (Ao n a0 c.2.2.2.2.2.2.2.2.2.1 (c.2.2.2.2.2.2.2.2.2.1.length:Int) 0 D o c J A F):=by kernel_rfl
def Ng(n){a0 E c A o}:Am (n+1) a0 E c A o=aa (decide (c<E)) (ab a0 c λr1=>ask (SB n (aK r1 0) A o) λz=>aa z.1 (some (c,z.2)) (Am n a0 E (be (c+1)) z.2.1 z.2.2)) (some ((-1),A,o)):=by kernel_rfl
def Zk(n){a0 o c}:Oq (n+1) a0 o c=LO n a0 (a0.length:Int) 0 o c:=by kernel_rfl
def ad8(n){a0 c A o z}:Hg (n+1) a0 c A o z=some (ay a0.1 c):=by kernel_rfl
def KH(n){a0 A c o}:yZ (n+1) a0 A c o=aa (decide (c<A)) (ab a0 c λr1=>ask (SC n (aK r1 0) o) λz=>aa z.1 (some (c,z.2)) (yZ n a0 A (be (c+1)) z.2)) (some ((-1),o)):=by kernel_rfl
def WE(n){a0 E z A o}:LO (n+1) a0 E z A o=aa (decide (z<E)) (ab a0 z λr1=>ask (BX n (gS r1 0) A o) λc=>aa c.1 (some (z,c.2)) (tP n a0 E (be (z+1)) (c.2.1,c.2.2.1) c.2.2.2)) (some ((-1),(dQ A o))):=by kernel_rfl
def ahL(n){a0 c}:Io (n+1) a0 c=ask (ER n a0.1 c) λo=>some o.1:=by kernel_rfl
def ad9(n){a0 c}:Hn (n+1) a0 c=aa (a0.1 !=c.1) (some false) (aa (a0.2.2.1 !=c.2.2.1) (some false) (ask (sO n (af a0.2.2.2) (af c.2.2.2)) λo=>aa (!o) (some false) (aa ((a0.2.2.2.2.2.2.length:Int)!=(c.2.2.2.2.2.2.length:Int)) (some false) (aa (a0.1==20) (aa true (aa true (some (ay a0.2.1 c.2.1)) none) none) (Oy n (a0.2.2.2.2.2.2.length:Int) 0 a0 c [] []))))):=by kernel_rfl
def Zl(n){a0 c}:ES (n+1) a0 c=tR n a0 (a0.length:Int) 0 c:=by kernel_rfl
def VY(n){a0 F E D o z c}:yG (n+1) a0 F E D o z c=ab D.2.2.2.2.2.2 a0 λr1=>ab o.2.2.2.2.2.2 a0 λr2=>ask (qn n (z,c) (cN r1 0) (cN r2 0)) λA=>aa (!A) (some false) (nK n F (be (E+1)) D o z c):=by kernel_rfl
def aea(n){a0 c}:Ho (n+1) a0 c=some ((ay a0.1 c),c):=by kernel_rfl
def ahD(n){a0 o}:Ip (n+1) a0 o=ask (aks n a0 o true) λx1=>some x1:=by kernel_rfl
def ah2(n){a0 o}:wG (n+1) a0 o=ask (akt n a0 o true) λx1=>some x1:=by kernel_rfl
def alI(n){a0 J I E D z a6 a7 a8 A o}:aj6 (n+1) a0 J I E D z a6 a7 a8 A o=aa (decide (z<D)) (ab E z λr1=>ask (Cq n A (cN r1 1)) λN=>aa ((N:Int)!=0) (some false) (ask (Cq n o (cN r1 1)) λL=>aa ((L:Int)!=0) (some false) (aj6 n a0 J I E D (be (z+1)) a6 a7 a8 A o))) (aj7 n a0 J I a7.2.2.2.2.2.2.2.2.2.1 (a7.2.2.2.2.2.2.2.2.2.1.length:Int) 0 a6 a7 a8):=by kernel_rfl
def alO(n){a0}:ak8 (n+1+1) a0=(ask (sL (n+1) a0) λx1=>aa (decide ((x1.length:Int)=(x1.length:Int)/\(x1.length:Int)=(x1.length:Int))) (ajH (n+1) (x1.length:Int) 0 x1) none):=by kernel_rfl
def alU(n){a0}:akB (n+1) a0=emp a0 (both (some []) (fits (([]:List (List AV)).length+a0.length) 48 (some ([]++a0)))) (fits (([]:List (List AV)).length+a0.length) 48 (some ([]++a0))):=by kernel_rfl
def abJ(n){a0 E D A z o a6 a7}:A9 (n+1) a0 E D A z o a6 a7=aa (a0 !=0) (some false) (aa (!E) (some false) (ask (ajV n a6 a7) λx1=>aa (!x1) (some false) (ajU n D A (be (z+1)) o))):=by kernel_rfl
end
end Go.AI
end

section
namespace Go.AI
open Go Go.Proofs
set_option maxRecDepth 100000
noncomputable section
def PX(n){a0 F E A o z c}:vH (n+1) a0 F E A o z c=aa (decide (c<z)) (ab o c λr1=>aa (decide (((be (a0+(be ((be ((be ((be ((be (1+((gD r1 1).length:Int)))+((gD r1 3).length:Int)))+((gD r1 4).length:Int)))+((gD r1 5).length:Int)))+((gD r1 6).length:Int))))):Int)>4000)) (some false) (vH n (be (a0+(be ((be ((be ((be ((be (1+((gD r1 1).length:Int)))+((gD r1 3).length:Int)))+((gD r1 4).length:Int)))+((gD r1 5).length:Int)))+((gD r1 6).length:Int))))) F E A o z (be (c+1)))) (aa (decide (a0>4000)) (some false) (qK n a0 F E (be (A+1)))):=by kernel_rfl
def ON(n){a0 z c}:AH (n+1) a0 z c=aa (decide (z<a0)) (aw (Ic n z c) λA=>AH n a0 (be (z+1)) A) (ask (Ie n c.2.2.2.2.2.2.2.2.2.2.2.2.2.2.2.1) λo=>eP (aO n (o==(decide ((c.2.2.2.2.2.2.2.2.2.2.2.1.length:Int)>0))) (bs [118,97,114,105,97,110,116]) 37 c)):=by kernel_rfl
def abK(n){a0 E c}:AM (n+1) a0 E c=ask (ga n c.2.1) λJ=>aw (aO n J (bs []) 1 E) λz=>aa a0 (aa (ay c.2.2.2.1 (bs [])) (aa (!c.2.2.2.2.2.2.2.2.2.2.1) (aw (aO n (((be ((be ((be ((be ((be ((c.2.2.2.2.2.2.2.1.length:Int)+(c.2.2.2.2.2.2.2.2.1.length:Int)))+(c.2.2.2.2.2.2.2.2.2.1.length:Int)))+(c.2.2.2.2.2.2.2.2.2.2.2.1.length:Int)))+(c.2.2.2.2.2.2.2.2.2.2.2.2.1.length:Int)))+(c.2.2.2.2.2.2.2.2.2.2.2.2.2.length:Int))):Int)==0) (bs []) 1 z) λA=>sx n A c) (aw (aO n false (bs []) 1 z) λF=>sx n F c)) (aw (aO n false (bs []) 1 z) λD=>sx n D c)) (aw (aO n (((be ((be ((c.2.2.2.2.1.length:Int)+(c.2.2.2.2.2.1.length:Int)))+(c.2.2.2.2.2.2.1.length:Int))):Int)==0) (bs []) 1 z) λo=>sx n o c):=by kernel_rfl
def abL(n){a0 o c}:AP (n+1) a0 o c=AO n a0 a0 (a0.length:Int) 0 o c:=by kernel_rfl
def OO(n){a0 A c o z}:AR (n+1) a0 A c o z=aa (decide (c<A)) (ab a0 c λr1=>ask (Er n z.2.2.2.2.2.2.2.2.2.2.2.2.1 (gS r1 0) (gI r1 1) (gS r1 2) (gD r1 3)) λF=>aw (aO n F (bs [105,110,105,116]) 36 o) λE=>AR n a0 A (be (c+1)) E z) (some (.ret o)):=by kernel_rfl
def SJ(n){a0}:wA (n+1) a0=aa (decide (a0>=97)) (aa (decide (a0<=122)) (some true) (aa (decide (a0>=65)) (some (decide (a0<=90))) (some false))) (aa (decide (a0>=65)) (some (decide (a0<=90))) (some false)):=by kernel_rfl
def OP(n){a0 c E D A F o z}:AU (n+1) a0 c E D A F o z=aa (decide (c<a0)) (ab D c λ_=>eJ D c.toNat λr1=>ab E (gI r1 0) λr2=>fits (o.length+(gD r2 4).length) 40 (ab E (gI r1 0) λr3=>fits (z.length+(gD r3 5).length) 64 (AU n a0 (be (c+1)) E D A F (o++(gD r2 4)) (z++(gD r3 5))))) (some (o,z)):=by kernel_rfl
def ahP(n){a0}:jN (n+1) a0=aa (decide ((a0.1.length:Int)>8)) (some false) (aa (decide ((a0.2.length:Int)>64)) (some false) (AY n a0.1 (a0.1.length:Int) 0 a0)):=by kernel_rfl
def ahQ(n){a0 o}:Cq (n+1) a0 o=ask (Ct n a0 o) λc=>aa (c.2.2.2.2==0) (aa (c.1 !=2) (some 7) (some c.2.2.2.2)) (some c.2.2.2.2):=by kernel_rfl
def aed(n){a0 c}:qM (n+1) a0 c=ask (Oj n a0.2.2.2.2.2.2.2.2.2.2.2.2.2 c) λo=>some o:=by kernel_rfl
def aee(n){a0}:Gi (n+1) a0=ask (Gt n a0) λc=>some (decide ((c:Int)>=0)):=by kernel_rfl
def aef(n){a0}:Gm (n+1) a0=uB n a0 (a0.length:Int) 0:=by kernel_rfl
def OQ(n){a0 o c z}:PO (n+1) a0 o c z=mM n a0 c.2.2.1 (c.2.2.1.length:Int) 0 o c z:=by kernel_rfl
def OS(n){a0 o z c}:AY (n+1) a0 o z c=aa (decide (z<o)) (ab a0 z λr1=>ask (ga n (gS r1 0)) λA=>aa (!A) (some false) (aa (decide ((((gD r1 1).length:Int):Int)>8)) (some false) (AZ n a0 o z (gD r1 1) ((gD r1 1).length:Int) 0 c))) (A0 n c.2 (c.2.length:Int) 0 c):=by kernel_rfl
def ahR(n){a0 o}:l5 (n+1) a0 o=ask (oM n a0 o) λc=>ab a0 o λr2=>fits (c.2.length+(gD r2 7).length) 64 (some (c.1,(c.2++(gD r2 7)))):=by kernel_rfl
def aeg(n){a0}:Gr (n+1) a0=uF n a0 (a0.length:Int) 0:=by kernel_rfl
def Nh(n){a0 N M L K J D F E I o z c}:zO (n+1) a0 N M L K J D F E I o z c=aa (decide (I<E)) (ab F I λr1=>aa (ay (gS r1 0) c.1) (D0 n a0 N M (be (L+1)) K J D F E I o z c) (D0 n a0 N M L K J D F E I o z c)) (aw (aO n (L==1) a0 35 o) λA=>sd n a0 N M K J (be (D+1)) A z):=by kernel_rfl
def LR(n){a0 M L K J D F E I o z c}:zo (n+1) a0 M L K J D F E I o z c=ask (j6 n o (dQ z c)) λA=>aw (aO n A a0 7 F) λN=>ky n a0 M L K J (be (D+1)) N E I:=by kernel_rfl
def aeh(n){a0}:Gt (n+1) a0=zU n a0 (a0.length:Int) 0:=by kernel_rfl
def aei(n){a0 c}:Gu (n+1) a0 c=aa (decide ((a0.2.1.length:Int)<2)) (some (.ret c)) (ask (ko n c.1 c.2.1) λA=>ab c.1 A λr2=>ab a0.2.1 0 λr3=>ask (qM n (eD r2 0) (gS r3 0)) λo=>ab (gD r2 13) o λr5=>ez a0.2.1 1 (a0.2.1.length:Int) λz=>zV n z (z.length:Int) 0 c a0 (eD r2 0) (hQ r5 0)):=by kernel_rfl
def XA(n){a0 o z c}:zp (n+1) a0 o z c=aa (decide (c<z)) (ab a0 c λr1=>ask (Sm n (eD r1 0) o) λA=>aa A (some c) (zp n a0 o z (be (c+1)))) (some (-1)):=by kernel_rfl
def Ni(n){a0 z c}:uC (n+1) a0 z c=aa (decide (c<z)) (ab a0 c λr1=>ask (GB n (gS r1 0)) λo=>aa o (some c) (uC n a0 z (be (c+1)))) (some (-1)):=by kernel_rfl
def ahS(n){a0}:s4 (n+1+1) a0=ask (lq (n+1) a0) λo=>aa (!o) (some []) (ask (jJ (n+1) a0 []) λc=>aa (sa c) (some (mL c)) none):=by kernel_rfl
def ahT(n){a0 c}:s5 (n+1) a0 c=ask (sL n a0) λo=>vl n c (c.length:Int) 0 o:=by kernel_rfl
def aej(n){a0}:BO (n+1) a0=sf n a0.1 (a0.1.length:Int) 0 a0 []:=by kernel_rfl
def Nj(n){a0 z c}:uG (n+1) a0 z c=aa (decide (c<z)) (ab a0 c λr1=>ask (GK n (eZ r1 0)) λo=>aa o (some c) (uG n a0 z (be (c+1)))) (some (-1)):=by kernel_rfl
def Nk(n){a0 E o z D c}:uI (n+1) a0 E o z D c=aa (decide (o<E)) (ab a0 o λr1=>ask (EF n z.2.2.2.2.2.2.2.2.2.1 (gS r1 0) (gI r1 1) (gS r1 2) (gD r1 3)) λJ=>ask (EG n D.2.2.2.2.2.2 (gS r1 0) (gI r1 1) (gS r1 2) (gD r1 3)) λA=>aa (!J) (aa A (i7 (gS r1 0) (bs [39]) λF=>fits (c.length+([(nT (F,(cB (aK r1 1) true)))]:List (List AV)).length) 72 (uf n a0 E o z D (c++[(nT (F,(cB (aK r1 1) true)))]))) (uf n a0 E o z D c)) (uf n a0 E o z D c)) (some (c,z)):=by kernel_rfl
def aek(n){a0 c}:jI (n+1) a0 c=aa (a0.1==c.1) (aa (ay a0.2.1 c.2.1) (ask (Sq n a0.2.2 c.2.2) λo=>some o) (some false)) (some false):=by kernel_rfl
def Zm(n){a0 A F E D o z c}:EC (n+1) a0 A F E D o z c=yW n a0 A F E D o z c (a0.length:Int) 0:=by kernel_rfl
def ahU(n){a0}:Ik (n+1) a0=some (a0.2.2.1 !=0):=by kernel_rfl
def D4(n){a0 o z c}:oc (n+1) a0 o z c=uc n a0 (be (o+1)) z c:=by kernel_rfl
def SL(n){a0}:wD (n+1) a0=ask (lq n a0) λo=>aa o (ask (wF n a0 2) λc=>some (!c)) (some false):=by kernel_rfl
def ael(n){a0 z}:jJ (n+1) a0 z=aa (a0.1==3) (aa (decide ((0:Int)<(a0.2.2.length:Int))) (ab a0.2.2 0 λr1=>ask (jJ n (aK r1 0) (bG z a0.2.1 [.sc (.bool true)])) λE=>aa (decide ((1:Int)<(a0.2.2.length:Int))) (ab a0.2.2 1 λr3=>ask (jJ n (aK r3 0) E) λD=>aa (decide ((2:Int)<(a0.2.2.length:Int))) (ab a0.2.2 2 λr5=>ask (jJ n (aK r5 0) D) λA=>none) (some D)) (some E)) (some (bG z a0.2.1 [.sc (.bool true)]))) (aa (decide ((0:Int)<(a0.2.2.length:Int))) (ab a0.2.2 0 λr7=>ask (jJ n (aK r7 0) z) λo=>aa (decide ((1:Int)<(a0.2.2.length:Int))) (ab a0.2.2 1 λr9=>ask (jJ n (aK r9 0) o) λc=>aa (decide ((2:Int)<(a0.2.2.length:Int))) (ab a0.2.2 2 λnq=>ask (jJ n (aK nq 0) c) λF=>none) (some c)) (some o)) (some z)):=by kernel_rfl
def KI(n){a0 I F E z R L O o K c}:rG (n+1) a0 I F E z R L O o K c=aa (decide (z<E)) (ab F z λr1=>aw (sK n (du r1 0) R) λM=>ask (uL n I (gS r1 0) (gI r1 1) (gS r1 2) (gD r1 3)) λJ=>ask (uM n O (gS r1 0) (gI r1 1) (gS r1 2) (gD r1 3)) λV=>ask (gu n a0 (gS r1 0)) λA=>aa (!A) (ask (gu n o (gS r1 0)) λT=>aa (!T) (aa J (aw (aO n true (gS r1 0) 8 M) λS=>pP n a0 I J F E z S L O o (du r1 0) K c) (aw (aO n (!V) (gS r1 0) 8 M) λQ=>pP n a0 I J F E z Q L O o (du r1 0) K c)) (aw (aO n false (gS r1 0) 8 M) λD=>pP n a0 I J F E z D L O o (du r1 0) K c)) (aw (aO n false (gS r1 0) 8 M) λN=>pP n a0 I J F E z N L O o (du r1 0) K c)) (some (.ret R)):=by kernel_rfl
def aem(n){a0}:GG (n+1) a0=ask (wE n a0 (bs [39])) λo=>ask (ga n o) λc=>some c:=by kernel_rfl
def Zn(n){a0 c}:zX (n+1) a0 c=aa (a0 !=(-1)) (aa ((c.2.2.2.2.2.2.length:Int)!=a0) (some false) (se n c)) (se n c):=by kernel_rfl
def aen(n){a0}:GJ (n+1) a0=ask (wE n a0.1 (bs [39])) λo=>ask (ga n o) λz=>aa (!z) (some true) (ask (kl n a0.2) λc=>some (!c)):=by kernel_rfl
def Zo(n){a0 A o z c}:EG (n+1) a0 A o z c=ask (EM n a0 A o z c) λE=>some (decide ((E:Int)>=0)):=by kernel_rfl
def aeo(n){a0 c}:Sq (n+1) a0 c=aa ((a0.length:Int)!=(c.length:Int)) (some false) (Aa n c a0 (a0.length:Int) 0):=by kernel_rfl
def aep(n){a0 c}:GN (n+1) a0 c=ask (Sw n a0.2.2.2.1 c.2.2.2.1) λE=>ask (Sx n a0.2.2.2.2.2.2 c.2.2.2.2.2.2) λA=>ask (Sy n a0.2.2.2.2.2.1 c.2.2.2.2.2.1) λo=>aa E (aa A (aa o (aa (a0.2.2.1==c.2.2.1) (ask (GV n a0.2.1 c.2.1) λz=>some z) (some false)) (some false)) (some false)) (some false):=by kernel_rfl
def Nl(n){a0 c D A o z}:z6 (n+1) a0 c D A o z=aa (decide (c<a0)) (ab o c λ_=>eJ o c.toNat λr1=>ask (gu n A (gS r1 0)) λN=>aw (aO n (!N) (bs []) 8 D) λM=>z6 n a0 (be (c+1)) M A o z) (ask (wC n z D.2.1) λL=>ask (jN n L) λK=>aw (aO n K (bs []) 5 D) λJ=>ask (oM n z J.2.1) λF=>ask (jN n F) λE=>eP (aO n E (bs []) 5 J)):=by kernel_rfl
def OT(n){a0 A o z c}:A4 (n+1) a0 A o z c=aa (decide (o<A)) (ab a0 o λr1=>fits (c.length+([[.sc (.string (gS r1 0))]]:List (List AV)).length) 16 (fits (((c++[[.sc (.string (gS r1 0))]]):List (List AV)).length+(gD r1 1).length) 16 (A4 n a0 A (be (o+1)) z ((c++[[.sc (.string (gS r1 0))]])++(gD r1 1))))) (A6 n z.2 (z.2.length:Int) 0 c):=by kernel_rfl
def Zp(n){a0 A o z c}:EI (n+1) a0 A o z c=tI n a0 A o z c (a0.length:Int) 0:=by kernel_rfl
def Zq(n){a0}:qm (n+1) a0=aa (a0==3) (aa (a0==3) (some (1,true)) (qb n a0)) (aa (a0==21) (aa (a0==21) (some (1,true)) (qb n a0)) (aa (decide (a0>=46)) (aa (decide (a0<=51)) (aa (decide (a0<=51)) (some (1,true)) (qb n a0)) (aa (a0==52) (some (1,true)) (qb n a0))) (aa (a0==52) (some (1,true)) (qb n a0)))):=by kernel_rfl
def aer(n){a0}:BR (n+1) a0=aa (a0==8) (some true) (aa (a0==9) (some true) (aa (a0==55) (some true) (some (a0==56)))):=by kernel_rfl
def Zr(n){a0}:jv (n+1) a0=some (5,(bs []),[(cy a0)]):=by kernel_rfl
def aes(n){a0}:oF (n+1) a0=ask (vV n) λo=>ask (qO n a0) λc=>some (cB o c):=by kernel_rfl
def Zs(n){a0}:kG (n+1) a0=ab a0 0 λr1=>ask (BV n (aK r1 0)) λc=>ab a0 0 λr3=>aa ((gI r3 0)==5) (ask (qO n a0) λo=>some (cB c o)) (some (cB c false)):=by kernel_rfl
def Zt(n){a0}:gQ (n+1) a0=ab a0 0 λr1=>ask (gX n (aK r1 0)) λz=>ab a0 1 λr3=>ask (gX n (aK r3 0)) λc=>aa (!z.2.2.2) (some (0,(bs []),[],false)) (aa (!c.2.2.2) (some (0,(bs []),[],false)) (ask (G2 n (af z) (af c)) λo=>some (cB o true))):=by kernel_rfl
def Zu(n){a0}:uS (n+1) a0=ab a0 0 λr1=>ask (j7 n (aK r1 0)) λc=>aa (!c.2.2.2.2.2.2) (some (0,(bs []),[],false)) (ask (G8 n (af c) (af c.2.2.2) a0) λo=>some o):=by kernel_rfl
def aet(n){a0 c J A F E D o z}:GR (n+1) a0 c J A F E D o z=some (ay a0.1 c):=by kernel_rfl
def aeu(n){a0}:GU (n+1) a0=ask (ga n a0.1) λo=>aa (!o) (some true) (aa a0.2.2.2.2.2.2.2.2 (some true) (ask (kl n (qX a0.2)) λc=>some (!c))):=by kernel_rfl
def KJ(n){a0 E z D M c L K J A}:tH (n+1) a0 E z D M c L K J A=aa (decide (z<E)) (ab a0 z λr1=>ask (iI n D (cN r1 1)) λo=>aa (o.1 !=5) none (ab o.2.2.1 0 λr3=>fits (c.length+([(cy (aK r3 0))]:List (List AV)).length) 48 (ab o.2.2.1 0 λr4=>ask (np n D (gS r1 0) (aK r4 0)) λF=>tH n a0 E (be (z+1)) (F.1,F.2.1) M (c++[(cy (aK r3 0))]) L K J A))) (some c):=by kernel_rfl
def Dg(n){a0 o z c}:nJ (n+1) a0 o z c=uh n a0 (be (o+1)) z c:=by kernel_rfl
def aev(n){a0 o c}:Sz (n+1) a0 o c=Am n a0 (a0.length:Int) 0 o c:=by kernel_rfl
def Nn(n){a0 c o z}:EP (n+1) a0 c o z=emp a0 (some (0,(bs []),[],false)) (mA a0 λr1 F=>aa (ay (gS r1 0) c) (mA a0 λr3 E=>some (cB (aK r3 1) true)) (mA a0 λr5 A=>EP n A c o z)):=by kernel_rfl
def aew(n){a0 c}:BU (n+1) a0 c=some (4,(bs []),[(cy a0),(cy c)]):=by kernel_rfl
def aex(n){a0 o c}:G1 (n+1) a0 o c=ab c 1 λr1=>ask (gX n (aK r1 0)) λz=>ab c 0 λr3=>aa z.2.2.2 (ask (jI n (af z) o) λA=>some (cB (aK r3 0) A)) (some (cB (aK r3 0) false)):=by kernel_rfl
def aey(n){a0 c o}:G7 (n+1) a0 c o=ask (jv n c) λz=>some (cB z true):=by kernel_rfl
def KK(n){a0 F E D o z c}:tM (n+1) a0 F E D o z c=aa (decide (c<z)) (ab a0 c λr1=>ask (Hh n (eZ r1 0) F E D o) λA=>aa A (some c) (tM n a0 F E D o z (be (c+1)))) (some (-1)):=by kernel_rfl
def Np(n){a0 o z c}:Ak (n+1) a0 o z c=aa (decide (z<o)) (ab a0 z λr1=>fits (c.length+([[.sc (.string (gS r1 0))]]:List (List AV)).length) 16 (Ak n a0 o (be (z+1)) (c++[[.sc (.string (gS r1 0))]]))) (some c):=by kernel_rfl
def aez(n){a0 c}:Hc (n+1) a0 c=some ((ay a0.1 c),c):=by kernel_rfl
def Zv(n){a0 c}:Ot (n+1) a0 c=y5 n a0 c (a0.length:Int) 0:=by kernel_rfl
def aeA(n){a0 c A o z}:Hh (n+1) a0 c A o z=aa (ay a0.1 c) (some a0.2.1) (some false):=by kernel_rfl
def ahV(n){a0 c}:Im (n+1) a0 c=ask (Io n c a0) λo=>some ((!o),c):=by kernel_rfl
def WG(n){a0 o z c}:y5 (n+1) a0 o z c=aa (decide (c<z)) (ab a0 c λr1=>ask (SD n (aK r1 0) o) λA=>aa A (some c) (y5 n a0 o z (be (c+1)))) (some (-1)):=by kernel_rfl
def aeB(n){a0 c o}:BX (n+1) a0 c o=jx c.2 a0 (λr1=>some ((!(gB r1 0)),(dQ c o))) (some (true,(dQ c o))):=by kernel_rfl
def Zw(n){a0 o}:ER (n+1) a0 o=ask (ES n a0 o) λc=>some ((decide (c.1>=0)),c.2):=by kernel_rfl
def Zx(n){a0}:ET (n+1) a0=y6 n a0 (a0.length:Int) 0:=by kernel_rfl
def KL(n){a0 A c o}:tR (n+1) a0 A c o=aa (decide (c<A)) (ab a0 c λr1=>ask (Ho n ((gS r1 0),(gD r1 1)) o) λz=>aa z.1 (some (c,z.2)) (tR n a0 A (be (c+1)) z.2)) (some ((-1),o)):=by kernel_rfl
def aeC(n){a0}:SF (n+1) a0=ask (kl n a0) λc=>some (!c):=by kernel_rfl
def alA(n){a0 o A}:akt (n+1) a0 o A=ask (l4 n a0 o A) λx1=>aa ((x1:Int)!=0) (some ([],[],x1)) (ask (wC n a0 o) λz=>ask (jN n z) λD=>aa (!D) (some ([],[],5)) (ask (ajy n z) λx4=>some (dQ x4 0))):=by kernel_rfl
def alD(n){a0 E D A z o a6 a7 a8}:aj7 (n+1) a0 E D A z o a6 a7 a8=aa (decide (o<z)) (ab A o λr1=>ask (iI n a8 (cN r1 0)) λI=>aa (I.2.2.2 !=0) (some false) (aj7 n a0 E D A z (be (o+1)) a6 a7 a8)) (aj8 n a0 E D a7.2.2.2.2.2.2.2.2.2.2.2.2.2 (a7.2.2.2.2.2.2.2.2.2.2.2.2.2.length:Int) 0 a6 a8):=by kernel_rfl
def alJ(n){a0}:ak7 (n+1+1) a0=(ask (Gb (n+1) a0) λx1=>aa (decide ((x1.length:Int)=(x1.length:Int)/\(x1.length:Int)=(x1.length:Int))) (ajG (n+1) (x1.length:Int) 0 x1) none):=by kernel_rfl
def alP(n){a0 E D A o}:aka (n+1) a0 E D A o=aa (decide (D<E)) (ab a0 D λr1=>ask (iI n A (cN r1 1)) λz=>aa (z.2.2.2 !=0) (some false) (aa (z.1 !=5) (some false) (aa (((z.2.2.1.length:Int):Int)!=1) (some false) (ab z.2.2.1 0 λr3=>ask (np n A (gS r1 0) (aK r3 0)) λx4=>aa (x4.2.2 !=0) (some false) (aka n a0 E (be (D+1)) (x4.1,x4.2.1) o))))) (akb n o.2.2.2.2.1 (o.2.2.2.2.1.length:Int) 0 A o):=by kernel_rfl
def MX(n){a0 E D A z o a6 a7 a8}:lH (n+1) a0 E D A z o a6 a7 a8=aa (a0 !=0) (some false) (aa (!E) (some false) (ask (ajV n a6 (dQ a7 a8)) λx1=>aa (!x1) (some false) (ajU n D A (be (z+1)) o))):=by kernel_rfl
end
end Go.AI
end
