/- A part of the proof. -/
import Derived.Test.YteibmaelhdbgfaaGreatDoorGd
set_option linter.all false

section
namespace Go.AI
open Go Go.Proofs
set_option maxRecDepth 100000
noncomputable section
theorem eF9(n a0):F9 (n+1) a0=aa (decide ((a0.length:Int)>16)) (some (5,0,(bs []))) (vF n a0 (a0.length:Int) 0 (0,0,(bs [])) a0):=by kernel_rfl
theorem ahE(n a0 c):oK (n+1) a0 c=ask (H5 n a0 c) λo=>(some o):=by kernel_rfl
theorem ahF(n a0 c):H5 (n+1) a0 c=AJ n a0 c (a0.length:Int) 0:=by kernel_rfl
theorem ahH(n a0):Ia (n+1) a0=ask (BJ n a0.2.2.2.2.2.2.2.2.2.2.2.2.2.1 a0.2.2.2.2.2.2.2.2.2.2.2.2.2.2.1) λE=>(aw (aO n E (bs [105,110,105,116]) 1 a0) λo=>(ask (BK n o.1 o.2.1 (bs [105,110,105,116])) λz=>(aw (Ga n (bs [105,110,105,116]) a0.2.2.2.2.2.2.2.2.2.2.2.2.2.1 (qX z) z.2.2.2.2.2.2.2 o (vE a0.2.2)) λc=>(aw (sJ n (bs [105,110,105,116]) c.2.2.2.2.2.2.2.2.2.2.2.2.2.2.2.2.2.2.2.2.2.2.2.2.2.2.2.2.2.2.2.2.2.2.1 (c.2.2.2.2.2.2.2.2.2.2.2.2.2.2.2.2.1,c.2.2.2.2.2.2.2.2.2.2.2.2.2.2.2.2.2.1) false (F6 c)) λD=>(AR n c.2.2.2.2.2.2.2.2.2.2.2.2.2.2.2.2.2.2.2.2.2.2.2.2.2.2.2.2.2.1 (c.2.2.2.2.2.2.2.2.2.2.2.2.2.2.2.2.2.2.2.2.2.2.2.2.2.2.2.2.2.1.length:Int) 0 D c.2.2.2.2.2.2.2.2.2.2.2.2.2.2.2.2.2.2.2.2.2.2))))):=by kernel_rfl
theorem abF(n a0 c):sx (n+1) a0 c=aa (decide (((lg (lg (lg (lg (lg (lg (c.2.2.2.2.1.length:Int) (c.2.2.2.2.2.1.length:Int)) (c.2.2.2.2.2.2.1.length:Int)) (c.2.2.2.2.2.2.2.1.length:Int)) (c.2.2.2.2.2.2.2.2.1.length:Int)) (c.2.2.2.2.2.2.2.2.2.2.2.1.length:Int)) (c.2.2.2.2.2.2.2.2.2.2.2.2.1.length:Int)):Int)<=32)) (aa (decide ((c.2.2.2.2.2.2.2.2.2.2.2.2.2.length:Int)<=16)) (aw (aO n (decide ((c.2.2.2.2.2.2.2.2.2.1.length:Int)<=1)) (bs []) 5 a0) λD=>(vh n D c)) (aw (aO n false (bs []) 5 a0) λz=>(vh n z c))) (aw (aO n false (bs []) 5 a0) λo=>(vh n o c)):=by kernel_rfl
theorem OL(n a0 D z c o E):AO (n+1) a0 D z c o E=aa (decide (c<z)) (ab D c λr1=>(ask (ga n (gS r1 0)) λK=>(aa K (ask (kl n (cN r1 1)) λJ=>(aw (aO n J (gS r1 0) 1 o) λI=>(Fg n a0 c D z c I E (yr r1 0)))) (aw (aO n false (gS r1 0) 1 o) λF=>(Fg n a0 c D z c F E (yr r1 0)))))) (some (.ret o)):=by kernel_rfl
theorem adS(n a0 o D z c):sJ (n+1) a0 o D z c=ask (s3 n c.1 c.2.1) λE=>(oa n a0 o z o (o.length:Int) 0 c D E):=by kernel_rfl
theorem Fk(n a0 o c):jH (n+1) a0 o c=aa (o !=0) (some (.aN 29 (ahk (o,c.2.1,a0)) ())) (some (.ret c)):=by kernel_rfl
theorem SI(n a0 c):jh (n+1) a0 c=ab a0 c λr1=>(aa ((gI r1 0)==2) (ask (ko n a0 c) λo=>(aa (decide ((o:Int)>=0)) (ask (jh n a0 o) λz=>(PO n c a0 (eD r1 0) z)) (ub n c a0 (eD r1 0) []))) (ub n c a0 (eD r1 0) [])):=by kernel_rfl
theorem adT(n a0):Gb (n+1) a0=emp a0 (both (some []) (fits (([]:List (List AV)).length+a0.length) 40 (some ([]++a0)))) (fits (([]:List (List AV)).length+a0.length) 40 (some ([]++a0))):=by kernel_rfl
theorem adU(n a0 K J I F E D z o c):Gc (n+1) a0 K J I F E D z o c=ask (Gq n a0 K J I F E D z o c) λL=>(some (decide ((L:Int)>=0))):=by kernel_rfl
theorem ahI(n a0 c):ko (n+1) a0 c=ab a0 c λr1=>(aa (ay (gS r1 3) (bs [])) (some (-1)) (ab a0 c λr2=>(ask (oK n a0 (gS r2 3)) λo=>(some o)))):=by kernel_rfl
theorem adV(n a0):Gg (n+1) a0=ask (Eu n a0) λc=>(some c):=by kernel_rfl
theorem abG(n a0 z c):lM (n+1) a0 z c=aw (Gj n a0 z) λE=>(aw (Gk n c E) λD=>(aw (Gl n c D) λo=>(AW n c.2.2.2.2.1 (c.2.2.2.2.1.length:Int) 0 o.2.2.2 c (o.1,o.2.1) o.2.2.1))):=by kernel_rfl
theorem Ap(n a0 F E z o D c):mM (n+1) a0 F E z o D c=aa (decide (z<E)) (ab F z λr1=>(ask (oK n o (gS r1 0)) λJ=>(ask (jh n o J) λI=>(fits (c.length+I.length) 8 (mM n a0 F E (be (z+1)) o D (c++I)))))) (aa (D.1==1) (fits (c.length+([[.sc (.int .i64 a0)]]:List (List AV)).length) 8 (qk n (c++[[.sc (.int .i64 a0)]]))) (qk n c)):=by kernel_rfl
theorem Y7(n a0 c):Oi (n+1) a0 c=LN n a0 (a0.length:Int) 0 c:=by kernel_rfl
theorem adW(n a0 D z c):Gp (n+1) a0 D z c=ask (wB n a0 c.2.1) λF=>(ask (wC n a0 c.2.1) λo=>(ask (ko n c.1 c.2.1) λE=>(aa (decide ((E:Int)>=0)) (ab c.1 E λr4=>(zT n z (gD r4 7) c D F o.1 o.2)) (zT n z [] c D F o.1 o.2)))):=by kernel_rfl
theorem ahJ(n a0 c):Ct (n+1+1+1+1) a0 c=ask (jN (n+1+1+1) a0) λD=>(aa (!D) (some (0,(bs []),[],[],1)) (ask (kl (n+1+1+1) c) λz=>(aa (!z) (some (0,(bs []),[],[],1)) (ask (BO (n+1+1) a0) λo=>(aa (decide ((0:Int)<(a0.1.length:Int))) (ab a0.1 0 λr4=>(aa (decide ((1:Int)<(a0.1.length:Int))) (ab a0.1 1 λr5=>(aa (decide ((2:Int)<(a0.1.length:Int))) (ab a0.1 2 λr6=>(aa (decide ((3:Int)<(a0.1.length:Int))) (ab a0.1 3 λr7=>(aa (decide ((4:Int)<(a0.1.length:Int))) (ab a0.1 4 λr8=>(aa (decide ((5:Int)<(a0.1.length:Int))) (ab a0.1 5 λr9=>(aa (decide ((6:Int)<(a0.1.length:Int))) (ab a0.1 6 λs6=>(aa (decide ((7:Int)<(a0.1.length:Int))) (ab a0.1 7 λnq=>(aa (decide ((8:Int)<(a0.1.length:Int))) (ab a0.1 8 λCx=>none) (jB (n+1+1+1) c (0,(bs [])) (o,(bG (bG (bG (bG (bG (bG (bG (bG [] (gS r4 0) [.sc (.bool true)]) (gS r5 0) [.sc (.bool true)]) (gS r6 0) [.sc (.bool true)]) (gS r7 0) [.sc (.bool true)]) (gS r8 0) [.sc (.bool true)]) (gS r9 0) [.sc (.bool true)]) (gS s6 0) [.sc (.bool true)]) (gS nq 0) [.sc (.bool true)])) [] []))) (jB (n+1+1+1) c (0,(bs [])) (o,(bG (bG (bG (bG (bG (bG (bG [] (gS r4 0) [.sc (.bool true)]) (gS r5 0) [.sc (.bool true)]) (gS r6 0) [.sc (.bool true)]) (gS r7 0) [.sc (.bool true)]) (gS r8 0) [.sc (.bool true)]) (gS r9 0) [.sc (.bool true)]) (gS s6 0) [.sc (.bool true)])) [] []))) (jB (n+1+1+1) c (0,(bs [])) (o,(bG (bG (bG (bG (bG (bG [] (gS r4 0) [.sc (.bool true)]) (gS r5 0) [.sc (.bool true)]) (gS r6 0) [.sc (.bool true)]) (gS r7 0) [.sc (.bool true)]) (gS r8 0) [.sc (.bool true)]) (gS r9 0) [.sc (.bool true)])) [] []))) (jB (n+1+1+1) c (0,(bs [])) (o,(bG (bG (bG (bG (bG [] (gS r4 0) [.sc (.bool true)]) (gS r5 0) [.sc (.bool true)]) (gS r6 0) [.sc (.bool true)]) (gS r7 0) [.sc (.bool true)]) (gS r8 0) [.sc (.bool true)])) [] []))) (jB (n+1+1+1) c (0,(bs [])) (o,(bG (bG (bG (bG [] (gS r4 0) [.sc (.bool true)]) (gS r5 0) [.sc (.bool true)]) (gS r6 0) [.sc (.bool true)]) (gS r7 0) [.sc (.bool true)])) [] []))) (jB (n+1+1+1) c (0,(bs [])) (o,(bG (bG (bG [] (gS r4 0) [.sc (.bool true)]) (gS r5 0) [.sc (.bool true)]) (gS r6 0) [.sc (.bool true)])) [] []))) (jB (n+1+1+1) c (0,(bs [])) (o,(bG (bG [] (gS r4 0) [.sc (.bool true)]) (gS r5 0) [.sc (.bool true)])) [] []))) (jB (n+1+1+1) c (0,(bs [])) (o,(bG [] (gS r4 0) [.sc (.bool true)])) [] []))) (jB (n+1+1+1) c (0,(bs [])) (o,[]) [] [])))))):=by kernel_rfl
theorem M9(n a0 K J I F E c o D z):qj (n+1) a0 K J I F E c o D z=aa (decide (c<E)) (ab F c λr1=>(ask (Ez n a0 (gS r1 0) (gI r1 1) (gS r1 2) (gI r1 3) (gI r1 4) (gS r1 5) (gD r1 6) (gD r1 7)) λL=>(aa (decide ((L:Int)<0)) (zq n a0 K J I c F E c o D z (iN r1 0)) (ab I L λr3=>(ab J c λr4=>(ask (j6 n (aK r3 0) (aK r4 0)) λM=>(aa (!M) (zq n a0 K J I c F E c o D z (iN r1 0)) (qj n a0 K J I F E (be (c+1)) o D z)))))))) (ab o.1 K λr6=>(uI n (gD r6 7) ((gD r6 7).length:Int) 0 o D z)):=by kernel_rfl
theorem KC(n a0 F E D z c K J o):ky (n+1) a0 F E D z c K J o=aa (decide (c<z)) (ab D c λr1=>(ask (vJ n K.2.2.2.2.2.2.2.2.2.1 (gS r1 0) (gB r1 1) (gI r1 2) (gS r1 3) (gI r1 4) (gI r1 5) (gS r1 6) (gD r1 7) (gD r1 8)) λI=>(aw (aO n (decide ((I:Int)>=0)) a0 6 K) λL=>(ez F 0 c λS=>(ask (uz n S (gS r1 0) (gB r1 1) (gI r1 2) (gS r1 3) (gI r1 4) (gI r1 5) (gS r1 6) (gD r1 7) (gD r1 8)) λR=>(aa (!R) (aa E (ask (gu n o (gS r1 0)) λQ=>(aw (aO n (!Q) a0 36 L) λO=>(kD n a0 F E I D z c O J o (eZ r1 0)))) (aw (aO n true a0 36 L) λN=>(kD n a0 F E I D z c N J o (eZ r1 0)))) (aw (aO n false a0 36 L) λM=>(kD n a0 F E I D z c M J o (eZ r1 0))))))))) (some (.ret K)):=by kernel_rfl
theorem Y8(n a0):Eu (n+1) a0=ask (EB n a0) λc=>(some (decide ((c:Int)>=0))):=by kernel_rfl
theorem Na(n a0 J E I c D z L K):zR (n+1) a0 J E I c D z L K=aa (decide (E<J)) (ab a0 E λr1=>(ask (iI n D (cN r1 1)) λo=>(aw (jH n c.1 o.2.2.2 I) λN=>(aw (aO n (o.1==5) c.1 7 N) λM=>(ab o.2.2.1 0 λr5=>(fits (z.length+([(cy (aK r5 0))]:List (List AV)).length) 48 (ab o.2.2.1 0 λr6=>(aw (sM n c.1 D (gS r1 0) (aK r6 0) M) λF=>(zR n a0 J (be (E+1)) F.2.2 c (F.1,F.2.1) (z++[(cy (aK r5 0))]) L K))))))))) (some (.ret (dQ D (z,I)))):=by kernel_rfl
theorem PW(n a0):Gw (n+1) a0=aa (decide (a0>=48)) (some (decide (a0<=57))) (some false):=by kernel_rfl
theorem y8(n a0 F E z o D c):mq (n+1) a0 F E z o D c=aa (decide (z<E)) (ab F z λr1=>(ask (oK n o (gS r1 0)) λJ=>(ask (jh n o J) λI=>(fits (c.length+I.length) 8 (mq n a0 F E (be (z+1)) o D (c++I)))))) (aa (D.1==1) (fits (c.length+([[.sc (.int .i64 a0)]]:List (List AV)).length) 8 (pU n (c++[[.sc (.int .i64 a0)]]))) (pU n c)):=by kernel_rfl
theorem adX(n a0 c):Gy (n+1) a0 c=zW n a0 c (a0.length:Int) 0:=by kernel_rfl
theorem Y9(n a0 F c E D z o):zT (n+1) a0 F c E D z o=Ey n a0 F c.2.2.2.2.2.2.2.2.2.1 (c.2.2.2.2.2.2.2.2.2.1.length:Int) 0 c E D [] z o:=by kernel_rfl
theorem Nb(n a0 M L K J I F E D z o c):uE (n+1) a0 M L K J I F E D z o c=aa (decide (c<o)) (ab a0 c λr1=>(ask (GI n (yr r1 0) M L K J I F E D z) λN=>(aa N (some c) (uE n a0 M L K J I F E D z o (be (c+1)))))) (some (-1)):=by kernel_rfl
theorem Nc(n a0 o c):uF (n+1) a0 o c=aa (decide (c<o)) (ab a0 c λr1=>(ask (GJ n (iN r1 0)) λz=>(aa z (some c) (uF n a0 o (be (c+1)))))) (some (-1)):=by kernel_rfl
theorem Xy(n a0 M z L K J I F E D o c):zq (n+1) a0 M z L K J I F E D o c=ab z K λr1=>(fits (o.length+([(nT (c.1,(cB (aK r1 0) false)))]:List (List AV)).length) 72 (qj n a0 M z L J I (be (F+1)) E D (o++[(nT (c.1,(cB (aK r1 0) false)))]))):=by kernel_rfl
theorem Za(n a0 K J I F E D z o c):EA (n+1) a0 K J I F E D z o c=tD n a0 K J I F E D z o c (a0.length:Int) 0:=by kernel_rfl
theorem Nd(n a0 o c):zU (n+1) a0 o c=aa (decide (c<o)) (ab a0 c λr1=>(ask (Sr n (iN r1 0)) λz=>(aa z (some c) (zU n a0 o (be (c+1)))))) (some (-1)):=by kernel_rfl
theorem KD(n a0 c z J I o F E D):rF (n+1) a0 c z J I o F E D=aa (decide (o<I)) (ab J o λr1=>(yX n a0 c z 0 J I o c (c.length:Int) 0 F E D (ux r1 0))) (aw (aO n ((c.length:Int)==(z.length:Int)) a0 35 F) λK=>(tG n a0 z c (c.length:Int) 0 K E D)):=by kernel_rfl
theorem DJ(n a0 o c z):uc (n+1) a0 o c z=aa (decide (o<a0)) (ab z o λ_=>(eJ z o.toNat λr1=>(ask (l6 n c (gI r1 0)) λD=>(aa (!D) (fits (c.length+([[.sc (.int .i64 (gI r1 0))]]:List (List AV)).length) 8 (oc n a0 o (c++[[.sc (.int .i64 (gI r1 0))]]) z)) (oc n a0 o c z))))) (some c):=by kernel_rfl
theorem ahK(n a0):Cu (n+1) a0=ask (wE n a0 (bs [39])) λo=>(ask (ga n o) λc=>(some c)):=by kernel_rfl
theorem Zb(n a0 z o c):zW (n+1) a0 z o c=aa (decide (c<o)) (ab a0 c λr1=>(aa (ay z (gS r1 0)) (some c) (zW n a0 z o (be (c+1))))) (some (-1)):=by kernel_rfl
theorem Zc(n a0 D z o c):uM (n+1) a0 D z o c=ask (EJ n a0 D z o c) λE=>(some (decide ((E:Int)>=0))):=by kernel_rfl
theorem adY(n a0):GF (n+1) a0=aa (a0==1) (aa (a0==1) (some (0,true)) (qm n a0)) (aa (a0==2) (aa (a0==2) (some (0,true)) (qm n a0)) (aa (a0==19) (aa (a0==19) (some (0,true)) (qm n a0)) (aa (a0==20) (aa (a0==20) (some (0,true)) (qm n a0)) (aa (a0==29) (some (0,true)) (qm n a0))))):=by kernel_rfl
theorem Zd(n a0):se (n+1) a0=aa (a0.1==20) (ask (GG n a0.2.1) λz=>(ue n z a0)) (ask (sN n a0.1) λo=>(aa o (ask (ga n a0.2.1) λc=>(ue n c a0)) (ue n (ay a0.2.1 (bs [])) a0))):=by kernel_rfl
theorem OM(n a0 D o I z F c):A3 (n+1) a0 D o I z F c=aa (decide (o<D)) (ab a0 o λr1=>(ask (oN n (aK r1 0)) λE=>(fits (c.length+([(cy E)]:List (List AV)).length) 48 (A3 n a0 D (be (o+1)) I z F (c++[(cy E)]))))) (some (dQ z c)):=by kernel_rfl
theorem Ze(n a0 D z o c):EF (n+1) a0 D z o c=ask (EL n a0 D z o c) λE=>(some (decide ((E:Int)>=0))):=by kernel_rfl
theorem KE(n a0 M L K J I F E D z o c):tD (n+1) a0 M L K J I F E D z o c=aa (decide (c<o)) (ab a0 c λr1=>(ask (GS n (eZ r1 0) M L K J I F E D z) λN=>(aa N (some c) (tD n a0 M L K J I F E D z o (be (c+1)))))) (some (-1)):=by kernel_rfl
theorem KF(n a0 I D z c F o E):tF (n+1) a0 I D z c F o E=aa (decide (D<I)) (ab a0 D λr1=>(fits (o.length+([[.sc (.string (gS r1 0))]]:List (List AV)).length) 16 (ask (gu n E (gS r1 0)) λM=>(aw (aO n (!M) c.1 8 z) λL=>(tF n a0 I (be (D+1)) L c F (o++[[.sc (.string (gS r1 0))]]) E))))) (ask (j5 n F) λK=>(aa (!K) (ask (j5 n o) λJ=>(eP (aO n (!J) c.1 8 z))) (eP (aO n false c.1 8 z)))):=by kernel_rfl
theorem adZ(n a0):GO (n+1) a0=Ab n a0.2.2.2.2.1 (a0.2.2.2.2.1.length:Int) 0 a0 []:=by kernel_rfl
theorem abH(n a0 o):Fj (n+1) a0 o=ask (EN n a0 o) λc=>(some ((decide (c.1>=0)),c.2)):=by kernel_rfl
theorem LQ(n a0 c D z o):ug (n+1) a0 c D z o=aa (decide (c<a0)) (ab o c λ_=>(eJ o c.toNat λr1=>(ab D (gI r1 0) λr2=>(ask (s5 n z (gD r2 7)) λE=>(ug n a0 (be (c+1)) D E o))))) (some z):=by kernel_rfl
theorem Xz(n a0):qb (n+1) a0=aa (a0==28) (some ((-1),true)) (aa (decide (a0>=1)) (aa (decide (a0<=56)) (some (2,true)) (some (0,false))) (some (0,false))):=by kernel_rfl
theorem ad0(n a0 o E D z):vL (n+1) a0 o E D z=fits (z.length+([[.sc (.int .i64 o)]]:List (List AV)).length) 8 (ab a0.2.2.2.2.2.2 o λr1=>(ask (A8 n (cN r1 0) E D (z++[[.sc (.int .i64 o)]])) λc=>(aa (c.2.2.2.1==0) (aa (decide (0<=(be ((c.2.2.2.2.2.2.length:Int)-1))/\(be ((c.2.2.2.2.2.2.length:Int)-1))<=(c.2.2.2.2.2.2.length:Int))) (some (tq6 c (c.2.2.2.2.2.2.take ((be ((c.2.2.2.2.2.2.length:Int)-1)):Int).toNat))) none) (some c)))):=by kernel_rfl
theorem ad1(n a0 z o):vN (n+1) a0 z o=ask (s4 n a0) λD=>(ask (PR n D z o) λc=>(some ((!c.1),c.2))):=by kernel_rfl
theorem ad2(n a0):oE (n+1) a0=ab a0 0 λr1=>(ask (BS n (aK r1 0)) λc=>(ab a0 1 λr3=>(some (cB c ((gI r3 0)==2))))):=by kernel_rfl
theorem Zf(n a0 D z o c):uN (n+1) a0 D z o c=ask (Ad n a0 c) λE=>(some (D,z,o,(!E))):=by kernel_rfl
theorem Zg(n a0):od (n+1) a0=ab a0 0 λr1=>(ask (j7 n (aK r1 0)) λc=>(aa (!c.2.2.2.2.2.2) (some (0,(bs []),[],false)) (ask (G1 n (af c) (af c.2.2.2) a0) λo=>(some o)))):=by kernel_rfl
theorem Zh(n a0):uR (n+1) a0=ab a0 0 λr1=>(ask (j7 n (aK r1 0)) λc=>(aa (!c.2.2.2.2.2.2) (some (0,(bs []),[],false)) (ask (G7 n (af c) (af c.2.2.2) a0) λo=>(some o)))):=by kernel_rfl
theorem ad3(n a0):GQ (n+1) a0=Ae n a0.1 (a0.1.length:Int) 0 a0 [] [] [] []:=by kernel_rfl
theorem Zi(n a0 z o c):Aa (n+1) a0 z o c=aa (decide (c<o)) (ab z c λr1=>(ab a0 c λr2=>(ask (jI n (aK r1 0) (aK r2 0)) λD=>(aa (!D) (some false) (Aa n a0 z o (be (c+1))))))) (some true):=by kernel_rfl
theorem ad4(n a0 c):GV (n+1) a0 c=aa ((a0.length:Int)!=(c.length:Int)) (some false) (Ai n a0 c (a0.length:Int) 0):=by kernel_rfl
theorem Zj(n a0 z o c):Ac (n+1) a0 z o c=aa (decide (c<o)) (ab a0 c λr1=>(aa (z==(gI r1 0)) (some c) (Ac n a0 z o (be (c+1))))) (some (-1)):=by kernel_rfl
theorem abI(n a0 D z o c):A7 (n+1) a0 D z o c=A5 n D z (be (o+1)) (bG c a0 [.sc (.bool true)]):=by kernel_rfl
theorem VX(n a0 M L K J I F E D z o c):Kp (n+1) a0 M L K J I F E D z o c=ask (jN n (o,c)) λO=>(aw (aO n O z.1 5 I) λN=>(rG n a0 M L K (be (J+1)) N F E D o c)):=by kernel_rfl
theorem WD(n a0 o F z c E):bZ (n+1) a0 o F z c E=aa (!a0) (some (0,(bs []),[],7,(dQ o c))) (ask (qN n z) λD=>(some (wu D (dQ o c)))):=by kernel_rfl
theorem ad5(n a0):qO (n+1) a0=ab a0 0 λr1=>(aa ((gI r1 0)!=2) (ask (Ou n a0 a0) λc=>(some (!c.1))) (some false)):=by kernel_rfl
theorem ad6(n a0 D z):G0 (n+1) a0 D z=ab z 1 λr1=>(ask (j7 n (aK r1 0)) λc=>(ask (qP n a0 (af c.2.2.2)) λo=>(aa c.2.2.2.2.2.2 (ask (jI n D (af c)) λE=>(some (cB o E))) (some (cB o false))))):=by kernel_rfl
theorem ad7(n a0 z o):G6 (n+1) a0 z o=ask (jv n a0) λc=>(some (cB c true)):=by kernel_rfl
theorem KG(n a0 F E D z o c):tL (n+1) a0 F E D z o c=aa (decide (c<o)) (ab a0 c λr1=>(ask (Hg n (du r1 0) F E D z) λI=>(aa I (some c) (tL n a0 F E D z o (be (c+1)))))) (some (-1)):=by kernel_rfl
theorem Nf(n a0 L K o D z c J I F):Aj (n+1) a0 L K o D z c J I F=aa (decide (o<K)) (ab L o λr1=>(ab z o λr2=>(aw (sM n D.1 J (gS r1 0) (aK r2 0) c) λE=>(Aj n a0 L K (be (o+1)) D z E.2.2 (E.1,E.2.1) I F)))) (Ao n a0 c.2.2.2.2.2.2.2.2.2.1 (c.2.2.2.2.2.2.2.2.2.1.length:Int) 0 D z c J I F):=by kernel_rfl
theorem Ng(n a0 E c D z):Am (n+1) a0 E c D z=aa (decide (c<E)) (ab a0 c λr1=>(ask (SB n (aK r1 0) D z) λo=>(aa o.1 (some (c,o.2)) (Am n a0 E (be (c+1)) o.2.1 o.2.2)))) (some ((-1),D,z)):=by kernel_rfl
theorem Zk(n a0 o c):Oq (n+1) a0 o c=LO n a0 (a0.length:Int) 0 o c:=by kernel_rfl
theorem ad8(n a0 c D z o):Hg (n+1) a0 c D z o=some (ay a0.1 c):=by kernel_rfl
theorem KH(n a0 D c z):yZ (n+1) a0 D c z=aa (decide (c<D)) (ab a0 c λr1=>(ask (SC n (aK r1 0) z) λo=>(aa o.1 (some (c,o.2)) (yZ n a0 D (be (c+1)) o.2)))) (some ((-1),z)):=by kernel_rfl
theorem WE(n a0 E o D z):LO (n+1) a0 E o D z=aa (decide (o<E)) (ab a0 o λr1=>(ask (BX n (gS r1 0) D z) λc=>(aa c.1 (some (o,c.2)) (tP n a0 E (be (o+1)) (c.2.1,c.2.2.1) c.2.2.2)))) (some ((-1),(dQ D z))):=by kernel_rfl
theorem ahL(n a0 c):Io (n+1) a0 c=ask (ER n a0.1 c) λo=>(some o.1):=by kernel_rfl
theorem ad9(n a0 c):Hn (n+1) a0 c=aa (a0.1 !=c.1) (some false) (aa (a0.2.2.1 !=c.2.2.1) (some false) (ask (sO n (af a0.2.2.2) (af c.2.2.2)) λo=>(aa (!o) (some false) (aa ((a0.2.2.2.2.2.2.length:Int)!=(c.2.2.2.2.2.2.length:Int)) (some false) (aa (a0.1==20) (aa true (aa true (some (ay a0.2.1 c.2.1)) none) none) (Oy n (a0.2.2.2.2.2.2.length:Int) 0 a0 c [] [])))))):=by kernel_rfl
theorem Zl(n a0 c):ES (n+1) a0 c=tR n a0 (a0.length:Int) 0 c:=by kernel_rfl
theorem VY(n a0 F E D z o c):yG (n+1) a0 F E D z o c=ab D.2.2.2.2.2.2 a0 λr1=>(ab z.2.2.2.2.2.2 a0 λr2=>(ask (qn n (o,c) (cN r1 0) (cN r2 0)) λI=>(aa (!I) (some false) (nK n F (be (E+1)) D z o c)))):=by kernel_rfl
theorem aea(n a0 c):Ho (n+1) a0 c=some ((ay a0.1 c),c):=by kernel_rfl
end
end Go.AI
end

section
namespace Go.AI
open Go Go.Proofs
set_option maxRecDepth 100000
noncomputable section
theorem PX(n a0 F E D z o c):vH (n+1) a0 F E D z o c=aa (decide (c<o)) (ab z c λr1=>(aa (decide (((be (a0+(be ((be ((be ((be ((be (1+((gD r1 1).length:Int)))+((gD r1 3).length:Int)))+((gD r1 4).length:Int)))+((gD r1 5).length:Int)))+((gD r1 6).length:Int))))):Int)>4000)) (some false) (vH n (be (a0+(be ((be ((be ((be ((be (1+((gD r1 1).length:Int)))+((gD r1 3).length:Int)))+((gD r1 4).length:Int)))+((gD r1 5).length:Int)))+((gD r1 6).length:Int))))) F E D z o (be (c+1))))) (aa (decide (a0>4000)) (some false) (qK n a0 F E (be (D+1)))):=by kernel_rfl
theorem ON(n a0 o c):AH (n+1) a0 o c=aa (decide (o<a0)) (aw (Ic n o c) λD=>(AH n a0 (be (o+1)) D)) (ask (Ie n c.2.2.2.2.2.2.2.2.2.2.2.2.2.2.2.1) λz=>(eP (aO n (z==(decide ((c.2.2.2.2.2.2.2.2.2.2.2.1.length:Int)>0))) (bs [118,97,114,105,97,110,116]) 37 c))):=by kernel_rfl
theorem abK(n a0 E c):AM (n+1) a0 E c=ask (ga n c.2.1) λJ=>(aw (aO n J (bs []) 1 E) λo=>(aa a0 (aa (ay c.2.2.2.1 (bs [])) (aa (!c.2.2.2.2.2.2.2.2.2.2.1) (aw (aO n (((be ((be ((be ((be ((be ((c.2.2.2.2.2.2.2.1.length:Int)+(c.2.2.2.2.2.2.2.2.1.length:Int)))+(c.2.2.2.2.2.2.2.2.2.1.length:Int)))+(c.2.2.2.2.2.2.2.2.2.2.2.1.length:Int)))+(c.2.2.2.2.2.2.2.2.2.2.2.2.1.length:Int)))+(c.2.2.2.2.2.2.2.2.2.2.2.2.2.length:Int))):Int)==0) (bs []) 1 o) λI=>(sx n I c)) (aw (aO n false (bs []) 1 o) λF=>(sx n F c))) (aw (aO n false (bs []) 1 o) λD=>(sx n D c))) (aw (aO n (((be ((be ((c.2.2.2.2.1.length:Int)+(c.2.2.2.2.2.1.length:Int)))+(c.2.2.2.2.2.2.1.length:Int))):Int)==0) (bs []) 1 o) λz=>(sx n z c)))):=by kernel_rfl
theorem abL(n a0 o c):AP (n+1) a0 o c=AO n a0 a0 (a0.length:Int) 0 o c:=by kernel_rfl
theorem OO(n a0 D c z o):AR (n+1) a0 D c z o=aa (decide (c<D)) (ab a0 c λr1=>(ask (Er n o.2.2.2.2.2.2.2.2.2.2.2.2.1 (gS r1 0) (gI r1 1) (gS r1 2) (gD r1 3)) λF=>(aw (aO n F (bs [105,110,105,116]) 36 z) λE=>(AR n a0 D (be (c+1)) E o)))) (some (.ret z)):=by kernel_rfl
theorem SJ(n a0):wA (n+1) a0=aa (decide (a0>=97)) (aa (decide (a0<=122)) (some true) (aa (decide (a0>=65)) (some (decide (a0<=90))) (some false))) (aa (decide (a0>=65)) (some (decide (a0<=90))) (some false)):=by kernel_rfl
theorem OP(n a0 c E D I F z o):AU (n+1) a0 c E D I F z o=aa (decide (c<a0)) (ab D c λ_=>(eJ D c.toNat λr1=>(ab E (gI r1 0) λr2=>(fits (z.length+(gD r2 4).length) 40 (ab E (gI r1 0) λr3=>(fits (o.length+(gD r3 5).length) 64 (AU n a0 (be (c+1)) E D I F (z++(gD r2 4)) (o++(gD r3 5))))))))) (some (z,o)):=by kernel_rfl
theorem ahP(n a0):jN (n+1) a0=aa (decide ((a0.1.length:Int)>8)) (some false) (aa (decide ((a0.2.length:Int)>64)) (some false) (AY n a0.1 (a0.1.length:Int) 0 a0)):=by kernel_rfl
theorem ahQ(n a0 o):Cq (n+1) a0 o=ask (Ct n a0 o) λc=>(aa (c.2.2.2.2==0) (aa (c.1 !=2) (some 7) (some c.2.2.2.2)) (some c.2.2.2.2)):=by kernel_rfl
theorem aed(n a0 c):qM (n+1) a0 c=ask (Oj n a0.2.2.2.2.2.2.2.2.2.2.2.2.2 c) λo=>(some o):=by kernel_rfl
theorem aee(n a0):Gi (n+1) a0=ask (Gt n a0) λc=>(some (decide ((c:Int)>=0))):=by kernel_rfl
theorem aef(n a0):Gm (n+1) a0=uB n a0 (a0.length:Int) 0:=by kernel_rfl
theorem OQ(n a0 z c o):PO (n+1) a0 z c o=mM n a0 c.2.2.1 (c.2.2.1.length:Int) 0 z c o:=by kernel_rfl
theorem OS(n a0 z o c):AY (n+1) a0 z o c=aa (decide (o<z)) (ab a0 o λr1=>(ask (ga n (gS r1 0)) λD=>(aa (!D) (some false) (aa (decide ((((gD r1 1).length:Int):Int)>8)) (some false) (AZ n a0 z o (gD r1 1) ((gD r1 1).length:Int) 0 c))))) (A0 n c.2 (c.2.length:Int) 0 c):=by kernel_rfl
theorem ahR(n a0 o):l5 (n+1) a0 o=ask (oM n a0 o) λc=>(ab a0 o λr2=>(fits (c.2.length+(gD r2 7).length) 64 (some (c.1,(c.2++(gD r2 7)))))):=by kernel_rfl
theorem aeg(n a0):Gr (n+1) a0=uF n a0 (a0.length:Int) 0:=by kernel_rfl
theorem Nh(n a0 N M L K J I F E D z o c):zO (n+1) a0 N M L K J I F E D z o c=aa (decide (D<E)) (ab F D λr1=>(aa (ay (gS r1 0) c.1) (D0 n a0 N M (be (L+1)) K J I F E D z o c) (D0 n a0 N M L K J I F E D z o c))) (aw (aO n (L==1) a0 35 z) λO=>(sd n a0 N M K J (be (I+1)) O o)):=by kernel_rfl
theorem LR(n a0 M L K J I F E D z o c):zo (n+1) a0 M L K J I F E D z o c=ask (j6 n z (dQ o c)) λO=>(aw (aO n O a0 7 F) λN=>(ky n a0 M L K J (be (I+1)) N E D)):=by kernel_rfl
theorem aeh(n a0):Gt (n+1) a0=zU n a0 (a0.length:Int) 0:=by kernel_rfl
theorem aei(n a0 c):Gu (n+1) a0 c=aa (decide ((a0.2.1.length:Int)<2)) (some (.ret c)) (ask (ko n c.1 c.2.1) λD=>(ab c.1 D λr2=>(ab a0.2.1 0 λr3=>(ask (qM n (eD r2 0) (gS r3 0)) λz=>(ab (gD r2 13) z λr5=>(ez a0.2.1 1 (a0.2.1.length:Int) λo=>(zV n o (o.length:Int) 0 c a0 (eD r2 0) (hQ r5 0)))))))):=by kernel_rfl
theorem XA(n a0 z o c):zp (n+1) a0 z o c=aa (decide (c<o)) (ab a0 c λr1=>(ask (Sm n (eD r1 0) z) λD=>(aa D (some c) (zp n a0 z o (be (c+1)))))) (some (-1)):=by kernel_rfl
theorem Ni(n a0 o c):uC (n+1) a0 o c=aa (decide (c<o)) (ab a0 c λr1=>(ask (GB n (gS r1 0)) λz=>(aa z (some c) (uC n a0 o (be (c+1)))))) (some (-1)):=by kernel_rfl
theorem ahS(n a0):s4 (n+1+1) a0=ask (lq (n+1) a0) λo=>(aa (!o) (some []) (ask (jJ (n+1) a0 []) λc=>(aa (sa c) (some (mL c)) none))):=by kernel_rfl
theorem ahT(n a0 c):s5 (n+1) a0 c=ask (sL n a0) λo=>(vl n c (c.length:Int) 0 o):=by kernel_rfl
theorem aej(n a0):BO (n+1) a0=sf n a0.1 (a0.1.length:Int) 0 a0 []:=by kernel_rfl
theorem Nj(n a0 o c):uG (n+1) a0 o c=aa (decide (c<o)) (ab a0 c λr1=>(ask (GK n (eZ r1 0)) λz=>(aa z (some c) (uG n a0 o (be (c+1)))))) (some (-1)):=by kernel_rfl
theorem Nk(n a0 E z o D c):uI (n+1) a0 E z o D c=aa (decide (z<E)) (ab a0 z λr1=>(ask (EF n o.2.2.2.2.2.2.2.2.2.1 (gS r1 0) (gI r1 1) (gS r1 2) (gD r1 3)) λJ=>(ask (EG n D.2.2.2.2.2.2 (gS r1 0) (gI r1 1) (gS r1 2) (gD r1 3)) λI=>(aa (!J) (aa I (i7 (gS r1 0) (bs [39]) λF=>(fits (c.length+([(nT (F,(cB (aK r1 1) true)))]:List (List AV)).length) 72 (uf n a0 E z o D (c++[(nT (F,(cB (aK r1 1) true)))])))) (uf n a0 E z o D c)) (uf n a0 E z o D c))))) (some (c,o)):=by kernel_rfl
theorem aek(n a0 c):jI (n+1) a0 c=aa (a0.1==c.1) (aa (ay a0.2.1 c.2.1) (ask (Sq n a0.2.2 c.2.2) λo=>(some o)) (some false)) (some false):=by kernel_rfl
theorem Zm(n a0 I F E D z o c):EC (n+1) a0 I F E D z o c=yW n a0 I F E D z o c (a0.length:Int) 0:=by kernel_rfl
theorem ahU(n a0):Ik (n+1) a0=some (a0.2.2.1 !=0):=by kernel_rfl
theorem D4(n a0 z o c):oc (n+1) a0 z o c=uc n a0 (be (z+1)) o c:=by kernel_rfl
theorem SL(n a0):wD (n+1) a0=ask (lq n a0) λo=>(aa o (ask (wF n a0 2) λc=>(some (!c))) (some false)):=by kernel_rfl
theorem ael(n a0 o):jJ (n+1) a0 o=aa (a0.1==3) (aa (decide ((0:Int)<(a0.2.2.length:Int))) (ab a0.2.2 0 λr1=>(ask (jJ n (aK r1 0) (bG o a0.2.1 [.sc (.bool true)])) λE=>(aa (decide ((1:Int)<(a0.2.2.length:Int))) (ab a0.2.2 1 λr3=>(ask (jJ n (aK r3 0) E) λD=>(aa (decide ((2:Int)<(a0.2.2.length:Int))) (ab a0.2.2 2 λr5=>(ask (jJ n (aK r5 0) D) λI=>none)) (some D)))) (some E)))) (some (bG o a0.2.1 [.sc (.bool true)]))) (aa (decide ((0:Int)<(a0.2.2.length:Int))) (ab a0.2.2 0 λr7=>(ask (jJ n (aK r7 0) o) λz=>(aa (decide ((1:Int)<(a0.2.2.length:Int))) (ab a0.2.2 1 λr9=>(ask (jJ n (aK r9 0) z) λc=>(aa (decide ((2:Int)<(a0.2.2.length:Int))) (ab a0.2.2 2 λnq=>(ask (jJ n (aK nq 0) c) λF=>none)) (some c)))) (some z)))) (some o)):=by kernel_rfl
theorem KI(n a0 I F E o R L D z K c):rG (n+1) a0 I F E o R L D z K c=aa (decide (o<E)) (ab F o λr1=>(aw (sK n (du r1 0) R) λM=>(ask (uL n I (gS r1 0) (gI r1 1) (gS r1 2) (gD r1 3)) λJ=>(ask (uM n D (gS r1 0) (gI r1 1) (gS r1 2) (gD r1 3)) λV=>(ask (gu n a0 (gS r1 0)) λU=>(aa (!U) (ask (gu n z (gS r1 0)) λT=>(aa (!T) (aa J (aw (aO n true (gS r1 0) 8 M) λS=>(pP n a0 I J F E o S L D z (du r1 0) K c)) (aw (aO n (!V) (gS r1 0) 8 M) λQ=>(pP n a0 I J F E o Q L D z (du r1 0) K c))) (aw (aO n false (gS r1 0) 8 M) λO=>(pP n a0 I J F E o O L D z (du r1 0) K c)))) (aw (aO n false (gS r1 0) 8 M) λN=>(pP n a0 I J F E o N L D z (du r1 0) K c)))))))) (some (.ret R)):=by kernel_rfl
theorem aem(n a0):GG (n+1) a0=ask (wE n a0 (bs [39])) λo=>(ask (ga n o) λc=>(some c)):=by kernel_rfl
theorem Zn(n a0 c):zX (n+1) a0 c=aa (a0 !=(-1)) (aa ((c.2.2.2.2.2.2.length:Int)!=a0) (some false) (se n c)) (se n c):=by kernel_rfl
theorem aen(n a0):GJ (n+1) a0=ask (wE n a0.1 (bs [39])) λz=>(ask (ga n z) λo=>(aa (!o) (some true) (ask (kl n a0.2) λc=>(some (!c))))):=by kernel_rfl
theorem Zo(n a0 D z o c):EG (n+1) a0 D z o c=ask (EM n a0 D z o c) λE=>(some (decide ((E:Int)>=0))):=by kernel_rfl
theorem aeo(n a0 c):Sq (n+1) a0 c=aa ((a0.length:Int)!=(c.length:Int)) (some false) (Aa n c a0 (a0.length:Int) 0):=by kernel_rfl
theorem aep(n a0 c):GN (n+1) a0 c=ask (Sw n a0.2.2.2.1 c.2.2.2.1) λE=>(ask (Sx n a0.2.2.2.2.2.2 c.2.2.2.2.2.2) λD=>(ask (Sy n a0.2.2.2.2.2.1 c.2.2.2.2.2.1) λz=>(aa E (aa D (aa z (aa (a0.2.2.1==c.2.2.1) (ask (GV n a0.2.1 c.2.1) λo=>(some o)) (some false)) (some false)) (some false)) (some false)))):=by kernel_rfl
theorem Nl(n a0 c D I z o):z6 (n+1) a0 c D I z o=aa (decide (c<a0)) (ab z c λ_=>(eJ z c.toNat λr1=>(ask (gu n I (gS r1 0)) λN=>(aw (aO n (!N) (bs []) 8 D) λM=>(z6 n a0 (be (c+1)) M I z o))))) (ask (wC n o D.2.1) λL=>(ask (jN n L) λK=>(aw (aO n K (bs []) 5 D) λJ=>(ask (oM n o J.2.1) λF=>(ask (jN n F) λE=>(eP (aO n E (bs []) 5 J))))))):=by kernel_rfl
theorem OT(n a0 D z o c):A4 (n+1) a0 D z o c=aa (decide (z<D)) (ab a0 z λr1=>(fits (c.length+([[.sc (.string (gS r1 0))]]:List (List AV)).length) 16 (fits (((c++[[.sc (.string (gS r1 0))]]):List (List AV)).length+(gD r1 1).length) 16 (A4 n a0 D (be (z+1)) o ((c++[[.sc (.string (gS r1 0))]])++(gD r1 1)))))) (A6 n o.2 (o.2.length:Int) 0 c):=by kernel_rfl
theorem Zp(n a0 D z o c):EI (n+1) a0 D z o c=tI n a0 D z o c (a0.length:Int) 0:=by kernel_rfl
theorem Zq(n a0):qm (n+1) a0=aa (a0==3) (aa (a0==3) (some (1,true)) (qb n a0)) (aa (a0==21) (aa (a0==21) (some (1,true)) (qb n a0)) (aa (decide (a0>=46)) (aa (decide (a0<=51)) (aa (decide (a0<=51)) (some (1,true)) (qb n a0)) (aa (a0==52) (some (1,true)) (qb n a0))) (aa (a0==52) (some (1,true)) (qb n a0)))):=by kernel_rfl
theorem aer(n a0):BR (n+1) a0=aa (a0==8) (some true) (aa (a0==9) (some true) (aa (a0==55) (some true) (some (a0==56)))):=by kernel_rfl
theorem Zr(n a0):jv (n+1) a0=some (5,(bs []),[(cy a0)]):=by kernel_rfl
theorem aes(n a0):oF (n+1) a0=ask (vV n) λo=>(ask (qO n a0) λc=>(some (cB o c))):=by kernel_rfl
theorem Zs(n a0):kG (n+1) a0=ab a0 0 λr1=>(ask (BV n (aK r1 0)) λc=>(ab a0 0 λr3=>(aa ((gI r3 0)==5) (ask (qO n a0) λo=>(some (cB c o))) (some (cB c false))))):=by kernel_rfl
theorem Zt(n a0):gQ (n+1) a0=ab a0 0 λr1=>(ask (gX n (aK r1 0)) λo=>(ab a0 1 λr3=>(ask (gX n (aK r3 0)) λc=>(aa (!o.2.2.2) (some (0,(bs []),[],false)) (aa (!c.2.2.2) (some (0,(bs []),[],false)) (ask (G2 n (af o) (af c)) λz=>(some (cB z true)))))))):=by kernel_rfl
theorem Zu(n a0):uS (n+1) a0=ab a0 0 λr1=>(ask (j7 n (aK r1 0)) λc=>(aa (!c.2.2.2.2.2.2) (some (0,(bs []),[],false)) (ask (G8 n (af c) (af c.2.2.2) a0) λo=>(some o)))):=by kernel_rfl
theorem aet(n a0 c J I F E D z o):GR (n+1) a0 c J I F E D z o=some (ay a0.1 c):=by kernel_rfl
theorem aeu(n a0):GU (n+1) a0=ask (ga n a0.1) λo=>(aa (!o) (some true) (aa a0.2.2.2.2.2.2.2.2 (some true) (ask (kl n (qX a0.2)) λc=>(some (!c))))):=by kernel_rfl
theorem KJ(n a0 E o D M c L K J I):tH (n+1) a0 E o D M c L K J I=aa (decide (o<E)) (ab a0 o λr1=>(ask (iI n D (cN r1 1)) λz=>(aa (z.1 !=5) none (ab z.2.2.1 0 λr3=>(fits (c.length+([(cy (aK r3 0))]:List (List AV)).length) 48 (ab z.2.2.1 0 λr4=>(ask (np n D (gS r1 0) (aK r4 0)) λF=>(tH n a0 E (be (o+1)) (F.1,F.2.1) M (c++[(cy (aK r3 0))]) L K J I)))))))) (some c):=by kernel_rfl
theorem Dg(n a0 z o c):nJ (n+1) a0 z o c=uh n a0 (be (z+1)) o c:=by kernel_rfl
theorem aev(n a0 o c):Sz (n+1) a0 o c=Am n a0 (a0.length:Int) 0 o c:=by kernel_rfl
theorem Nn(n a0 c z o):EP (n+1) a0 c z o=emp a0 (some (0,(bs []),[],false)) (mA a0 λr1 F=>(aa (ay (gS r1 0) c) (mA a0 λr3 E=>(some (cB (aK r3 1) true))) (mA a0 λr5 D=>(EP n D c z o)))):=by kernel_rfl
theorem aew(n a0 c):BU (n+1) a0 c=some (4,(bs []),[(cy a0),(cy c)]):=by kernel_rfl
theorem aex(n a0 z c):G1 (n+1) a0 z c=ab c 1 λr1=>(ask (gX n (aK r1 0)) λo=>(ab c 0 λr3=>(aa o.2.2.2 (ask (jI n (af o) z) λD=>(some (cB (aK r3 0) D))) (some (cB (aK r3 0) false))))):=by kernel_rfl
theorem aey(n a0 c z):G7 (n+1) a0 c z=ask (jv n c) λo=>(some (cB o true)):=by kernel_rfl
theorem KK(n a0 F E D z o c):tM (n+1) a0 F E D z o c=aa (decide (c<o)) (ab a0 c λr1=>(ask (Hh n (eZ r1 0) F E D z) λI=>(aa I (some c) (tM n a0 F E D z o (be (c+1)))))) (some (-1)):=by kernel_rfl
theorem Np(n a0 z o c):Ak (n+1) a0 z o c=aa (decide (o<z)) (ab a0 o λr1=>(fits (c.length+([[.sc (.string (gS r1 0))]]:List (List AV)).length) 16 (Ak n a0 z (be (o+1)) (c++[[.sc (.string (gS r1 0))]])))) (some c):=by kernel_rfl
theorem aez(n a0 c):Hc (n+1) a0 c=some ((ay a0.1 c),c):=by kernel_rfl
theorem Zv(n a0 c):Ot (n+1) a0 c=y5 n a0 c (a0.length:Int) 0:=by kernel_rfl
theorem aeA(n a0 c D z o):Hh (n+1) a0 c D z o=aa (ay a0.1 c) (some a0.2.1) (some false):=by kernel_rfl
theorem ahV(n a0 c):Im (n+1) a0 c=ask (Io n c a0) λo=>(some ((!o),c)):=by kernel_rfl
theorem WG(n a0 z o c):y5 (n+1) a0 z o c=aa (decide (c<o)) (ab a0 c λr1=>(ask (SD n (aK r1 0) z) λD=>(aa D (some c) (y5 n a0 z o (be (c+1)))))) (some (-1)):=by kernel_rfl
theorem aeB(n a0 c o):BX (n+1) a0 c o=jx c.2 a0 (λr1=>(some ((!(gB r1 0)),(dQ c o)))) (some (true,(dQ c o))):=by kernel_rfl
theorem Zw(n a0 o):ER (n+1) a0 o=ask (ES n a0 o) λc=>(some ((decide (c.1>=0)),c.2)):=by kernel_rfl
theorem Zx(n a0):ET (n+1) a0=y6 n a0 (a0.length:Int) 0:=by kernel_rfl
theorem KL(n a0 D c z):tR (n+1) a0 D c z=aa (decide (c<D)) (ab a0 c λr1=>(ask (Ho n ((gS r1 0),(gD r1 1)) z) λo=>(aa o.1 (some (c,o.2)) (tR n a0 D (be (c+1)) o.2)))) (some ((-1),z)):=by kernel_rfl
theorem aeC(n a0):SF (n+1) a0=ask (kl n a0) λc=>(some (!c)):=by kernel_rfl
end
end Go.AI
end
