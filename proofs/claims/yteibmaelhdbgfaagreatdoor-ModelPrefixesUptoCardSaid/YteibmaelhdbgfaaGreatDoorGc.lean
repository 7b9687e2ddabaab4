/- A part of the proof. -/
import Derived.Test.YteibmaelhdbgfaaGreatDoorGd
set_option linter.all false

section
namespace Go.AI
open Go Go.Proofs
set_option maxRecDepth 100000
noncomputable section
theorem PZ(n a0 I F E D z o c):vG (n+1) a0 I F E D z o c=aa (decide (o<z)) (ab D o λr1=>(vG n (be (a0+((gD r1 1).length:Int))) I F E D z (be (o+1)) c)) (vH n a0 I F E c.2.2.2.2.2.2.2.2.2.2.2.2.2 (c.2.2.2.2.2.2.2.2.2.2.2.2.2.length:Int) 0):=by kernel_rfl
theorem ahW(n a0):H6 (n+1) a0=aa (a0.2.2.1==1) (aw (aO n true (bs []) 1 a0) λo=>(AM n (a0.2.2.1==1) o (vE a0.2.2))) (aw (aO n (a0.2.2.1==2) (bs []) 1 a0) λc=>(AM n (a0.2.2.1==1) c (vE a0.2.2))):=by kernel_rfl
theorem abM(n a0 z o c):AJ (n+1) a0 z o c=aa (decide (c<o)) (ab a0 c λr1=>(ask (T4 n (eD r1 0) z) λD=>(aa D (some c) (AJ n a0 z o (be (c+1)))))) (some (-1)):=by kernel_rfl
theorem SM(n a0 z o c):aO (n+1) a0 z o c=aa (!a0) (eP (jH n z o c)) (some (.ret c)):=by kernel_rfl
theorem aeE(n a0):BH (n+1) a0=emp a0 (both (some []) (fits (([]:List (List AV)).length+a0.length) 288 (some ([]++a0)))) (fits (([]:List (List AV)).length+a0.length) 288 (some ([]++a0))):=by kernel_rfl
theorem OU(n a0 o c F):vi (n+1) a0 o c F=aa (decide (c<o)) (ab a0 c λr1=>(ask (kl n (cN r1 0)) λK=>(aw (aO n K (bs [118,97,114,105,97,110,116]) 1 F) λD=>(ask (iI n (D.2.2.2.2.2.2.2.2.2.2.2.2.2.2.2.2.2.2.1,D.2.2.2.2.2.2.2.2.2.2.2.2.2.2.2.2.2.2.2.1) (cN r1 0)) λz=>(aw (jH n (bs [118,97,114,105,97,110,116]) z.2.2.2 D) λI=>(aa (z.1==1) (aw (aO n true (bs [118,97,114,105,97,110,116]) 7 I) λJ=>(vi n a0 o (be (c+1)) J)) (aw (aO n (z.1==5) (bs [118,97,114,105,97,110,116]) 7 I) λE=>(vi n a0 o (be (c+1)) E)))))))) (some (.ret F)):=by kernel_rfl
theorem ahX(n a0 c):Ic (n+1) a0 c=ab c.2.2.2.2.2.2.2.2.2.2.2.2.2.2.2.1 a0 λr1=>(ask (ga n (gS r1 0)) λQ=>(aa Q (aa (!ay (gS r1 0) (bs [105,110,105,116])) (aa (!ay (gS r1 0) (bs [99,111,110,118,101,114,103,101,110,116])) (aa (!ay (gS r1 0) (bs [97,110,116,105,99,105,112,97,116,101,100])) (aa (decide ((gI r1 2)>=0)) (aa (decide ((gI r1 2)<=2)) (ask (Gg n (gD r1 4)) λO=>(aa (!O) (ask (BJ n (gD r1 5) (gD r1 6)) λN=>(aa N (ask (Gi n (gD r1 3)) λM=>(aw (aO n (!M) (gS r1 0) 1 c) λL=>(lM n a0 L (hQ r1 0)))) (aw (aO n false (gS r1 0) 1 c) λK=>(lM n a0 K (hQ r1 0))))) (aw (aO n false (gS r1 0) 1 c) λJ=>(lM n a0 J (hQ r1 0))))) (aw (aO n false (gS r1 0) 1 c) λI=>(lM n a0 I (hQ r1 0)))) (aw (aO n false (gS r1 0) 1 c) λF=>(lM n a0 F (hQ r1 0)))) (aw (aO n false (gS r1 0) 1 c) λE=>(lM n a0 E (hQ r1 0)))) (aw (aO n false (gS r1 0) 1 c) λD=>(lM n a0 D (hQ r1 0)))) (aw (aO n false (gS r1 0) 1 c) λz=>(lM n a0 z (hQ r1 0)))) (aw (aO n false (gS r1 0) 1 c) λo=>(lM n a0 o (hQ r1 0))))):=by kernel_rfl
theorem ahY(n a0):Ig (n+1) a0=aa (ay a0 (bs [116,114,117,101])) (aa (ay a0 (bs [116,114,117,101])) (some true) (some false)) (aa (ay a0 (bs [102,97,108,115,101])) (aa (ay a0 (bs [102,97,108,115,101])) (some true) (some false)) (aa (ay a0 (bs [110,111,116])) (aa (ay a0 (bs [110,111,116])) (some true) (some false)) (aa (ay a0 (bs [111,114])) (aa (ay a0 (bs [111,114])) (some true) (some false)) (aa (ay a0 (bs [102,111,114,97,108,108])) (aa (ay a0 (bs [102,111,114,97,108,108])) (some true) (some false)) (aa (ay a0 (bs [101,120,105,115,116,115])) (aa (ay a0 (bs [101,120,105,115,116,115])) (some true) (some false)) (aa (ay a0 (bs [105,110])) (aa (ay a0 (bs [105,110])) (some true) (some false)) (aa (ay a0 (bs [110,111,116,105,110])) (aa (ay a0 (bs [110,111,116,105,110])) (some true) (some false)) (aa (ay a0 (bs [115,117,98])) (aa (ay a0 (bs [115,117,98])) (some true) (some false)) (aa (ay a0 (bs [109,111,100])) (aa (ay a0 (bs [109,111,100])) (some true) (some false)) (aa (ay a0 (bs [102,117,110])) (aa (ay a0 (bs [102,117,110])) (some true) (some false)) (aa (ay a0 (bs [99,97,114,100])) (aa (ay a0 (bs [99,97,114,100])) (some true) (some false)) (aa (ay a0 (bs [109,105,110])) (aa (ay a0 (bs [109,105,110])) (some true) (some false)) (aa (ay a0 (bs [109,97,120])) (aa (ay a0 (bs [109,97,120])) (some true) (some false)) (aa (ay a0 (bs [100,111,109])) (aa (ay a0 (bs [100,111,109])) (some true) (some false)) (aa (ay a0 (bs [114,97,110])) (aa (ay a0 (bs [114,97,110])) (some true) (some false)) (aa (ay a0 (bs [80,79,87])) (aa (ay a0 (bs [80,79,87])) (some true) (some false)) (aa (ay a0 (bs [105,110,116])) (aa (ay a0 (bs [105,110,116])) (some true) (some false)) (aa (ay a0 (bs [98,111,111,108])) (aa (ay a0 (bs [98,111,111,108])) (some true) (some false)) (aa (ay a0 (bs [115,101,116])) (aa (ay a0 (bs [115,101,116])) (some true) (some false)) (aa (ay a0 (bs [112,97,105,114])) (some true) (some false))))))))))))))))))))):=by kernel_rfl
theorem Nr(n a0 D z o c):zK (n+1) a0 D z o c=aa (decide (z<D)) (ab a0 z λr1=>(fits (c.length+([[.sc (.string (gS r1 0))]]:List (List AV)).length) 16 (fits (((c++[[.sc (.string (gS r1 0))]]):List (List AV)).length+(gD r1 1).length) 16 (zK n a0 D (be (z+1)) o ((c++[[.sc (.string (gS r1 0))]])++(gD r1 1)))))) (zL n o.2 (o.2.length:Int) 0 c):=by kernel_rfl
theorem Zy(n a0 M L K J c E I F D o):Eo (n+1) a0 M L K J c E I F D o=fits (o.length+E.length) 16 (ask (Gb n F) λz=>(fits (z.length+([[.sc (.string c.1),.aQ c.2 1]]:List (List AV)).length) 40 (ask (jN n ((z++[[.sc (.string c.1),.aQ c.2 1]]),D)) λO=>(aw (aO n O c.1 5 K) λN=>(AN n a0 M (be (L+1)) N J I (z++[[.sc (.string c.1),.aQ c.2 1]]) D (o++E)))))):=by kernel_rfl
theorem abN(n a0 I F E D z o c):Fg (n+1) a0 I F E D z o c=ez a0 0 I λN=>(ask (Gc n N c.1 c.2.1 c.2.2.1 c.2.2.2.1 c.2.2.2.2.1 c.2.2.2.2.2.1 c.2.2.2.2.2.2.1 c.2.2.2.2.2.2.2.1 c.2.2.2.2.2.2.2.2) λM=>(aw (aO n (!M) c.1 8 z) λL=>(ask (Cq n o (qX c.2)) λK=>(aw (jH n c.1 K L) λJ=>(AO n a0 F E (be (D+1)) J o))))):=by kernel_rfl
theorem aeF(n a0 c):Gf (n+1) a0 c=ask (ko n c.1 c.2.1) λo=>(ask (l5 n c.1 o) λE=>(ask (BM n E a0) λD=>(ask (Es n (c.2.2.2.2.2.2.2.2.2.2.2.2.2.2.2.2.2.2.1,c.2.2.2.2.2.2.2.2.2.2.2.2.2.2.2.2.2.2.2.1) ((bs []),0)) λz=>(qj n [] o D z a0.2.2.2.1 (a0.2.2.2.1.length:Int) 0 c a0 [])))):=by kernel_rfl
theorem aeG(n a0 c):Gj (n+1) a0 c=ab c.2.2.2.2.2.2.2.2.2.2.2.2.2.2.2.1 a0 λr1=>(ez c.2.2.2.2.2.2.2.2.2.2.2.2.2.2.2.1 0 a0 λD=>(ask (Fh n D (gS r1 0) (gD r1 1) (gI r1 2) (gD r1 3) (gD r1 4) (gD r1 5) (gD r1 6)) λz=>(aw (aO n (!z) (gS r1 0) 8 c) λo=>(zP n (gD r1 4) ((gD r1 4).length:Int) 0 o (hQ r1 0) [] [])))):=by kernel_rfl
theorem OV(n a0 F E D o z c):AX (n+1) a0 F E D o z c=aa (decide (o<D)) (ab E o λr1=>(ab z a0 λr2=>(ask (Gv n (gD r2 7) (gS r1 0) (gI r1 1) (gS r1 2) (gD r1 3)) λI=>(aa (I==F) (fits (c.length+([[.sc (.string (gS r1 0))]]:List (List AV)).length) 16 (Ex n a0 F E D o z (c++[[.sc (.string (gS r1 0))]]))) (Ex n a0 F E D o z c))))) (some c):=by kernel_rfl
theorem LS(n a0 z c o):ub (n+1) a0 z c o=mq n a0 c.2.2.1 (c.2.2.1.length:Int) 0 z c o:=by kernel_rfl
theorem aeH(n a0 c):sK (n+1) a0 c=ask (ga n a0.1) λz=>(aa z (ask (lq n a0.2) λo=>(aa o (eP (aO n (a0.2.1 !=2) a0.1 1 c)) (eP (aO n false a0.1 1 c)))) (eP (aO n false a0.1 1 c))):=by kernel_rfl
theorem ahZ(n a0 c):Cs (n+1) a0 c=ask (oM n a0 c) λo=>(ask (ko n a0 c) λz=>(aa (decide ((z:Int)>=0)) (ab a0 z λr3=>(A1 n c (gD r3 7) a0 [] [] o.1 o.2)) (A1 n c [] a0 [] [] o.1 o.2))):=by kernel_rfl
theorem aeI(n a0):Gs (n+1) a0=uG n a0 (a0.length:Int) 0:=by kernel_rfl
theorem Ns(n a0 z I F o E D):uy (n+1) a0 z I F o E D=aa (decide (o<F)) (ab I o λr1=>(ask (BP n z (gS r1 0) (gI r1 1) (gS r1 2) (gI r1 3) (gI r1 4) (gS r1 5) (gD r1 6) (gD r1 7)) λN=>(ab z N λr3=>(aw (GA n (gB r3 4) D E) λc=>(ask (iI n (c.1,c.2.1) (cN r1 1)) λJ=>(aw (jH n a0 J.2.2.2 c.2.2.2.2.2.2.2.2.2.2.2.2.2.2.2.2) λM=>(ask (j6 n (af J) (aK r3 1)) λL=>(aw (aO n L a0 7 M) λK=>(uy n a0 z I F (be (o+1)) K (vE c.2.2)))))))))) (some (.ret (oD E D))):=by kernel_rfl
theorem JM(n a0 L K J I F E D z o c):yF (n+1) a0 L K J I F E D z o c=ask (j6 n o c) λN=>(aw (aO n N a0 7 E) λM=>(ky n a0 L K J I (be (F+1)) M D z)):=by kernel_rfl
theorem abO(n a0 I F E D z o c):Fh (n+1) a0 I F E D z o c=ask (EC n a0 I F E D z o c) λJ=>(some (decide ((J:Int)>=0))):=by kernel_rfl
theorem Zz(n a0 E J I F D z o):Ew (n+1) a0 E J I F D z o=aa I (ask (EE n J F D) λc=>(rF n a0 E c.1 c.1 (c.1.length:Int) 0 c.2 z o)) (rF n a0 E [] [] 0 0 D z o):=by kernel_rfl
theorem aeJ(n a0):Gx (n+1) a0=ask (jh n a0.1 a0.2.1) λc=>(uK n (c.length:Int) 0 a0 [] c):=by kernel_rfl
theorem WH(n a0 D c z):LN (n+1) a0 D c z=aa (decide (c<D)) (ab a0 c λr1=>(ask (GC n (gS r1 0) z) λo=>(aa o.1 (some (c,o.2)) (tB n a0 D (be (c+1)) o.2)))) (some ((-1),z)):=by kernel_rfl
theorem Nt(n a0 z c o):uD (n+1) a0 z c o=aa (decide (c<z)) (ab a0 c λr1=>(ask (GD n o.1 (gS r1 0)) λD=>(aa (!D.1) (some false) (uD n a0 z (be (c+1)) o)))) (some true):=by kernel_rfl
theorem abP(n a0 E D I F z c):A1 (n+1) a0 E D I F z c=ab D a0 λr1=>(ask (s5 n E (gD r1 7)) λo=>(fits (c.length+o.length) 64 (some (z,(c++o))))):=by kernel_rfl
theorem ah0(n a0 o c):Ii (n+1) a0 o c=A2 n [] (a0.2.2.2.2.2.2.length:Int) 0 o c a0 (0,(bs [])) [] []:=by kernel_rfl
theorem WI(n a0 z o c):yV (n+1) a0 z o c=aa (decide (c<o)) (ab a0 c λr1=>(ask (Sp n (hQ r1 0) z) λD=>(aa D (some c) (yV n a0 z o (be (c+1)))))) (some (-1)):=by kernel_rfl
theorem LU(n a0 N M L K J I F E D z o c):D0 (n+1) a0 N M L K J I F E D z o c=zO n a0 N M L K J I F E (be (D+1)) z o c:=by kernel_rfl
theorem VZ(n a0 M L K J I F E D z o c):Dd (n+1) a0 M L K J I F E D z o c=ask (j6 n z (dQ o c)) λO=>(aw (aO n O a0 7 F) λN=>(oa n a0 M L K J (be (I+1)) N E D)):=by kernel_rfl
theorem ZA(n a0 I D z c F o E):ED (n+1) a0 I D z c F o E=aa (decide (D<I)) (ab a0 D λr1=>(fits (o.length+([[.sc (.string (gS r1 0))]]:List (List AV)).length) 16 (ask (gu n E (gS r1 0)) λM=>(aw (aO n (!M) c.1 8 z) λL=>(tF n a0 I (be (D+1)) L c F (o++[[.sc (.string (gS r1 0))]]) E))))) (ask (j5 n F) λK=>(aa (!K) (ask (j5 n o) λJ=>(eP (aO n (!J) c.1 8 z))) (eP (aO n false c.1 8 z)))):=by kernel_rfl
theorem ZB(n a0 D z o c):Ol (n+1) a0 D z o c=yY n a0 D z o c (a0.length:Int) 0:=by kernel_rfl
theorem KM(n a0):pU (n+1) a0=D1 n (a0.length:Int) 0 [] a0:=by kernel_rfl
theorem ah1(n a0 c):Cv (n+1) a0 c=ask (s4 n c) λz=>(ask (Fj n z a0) λo=>(some (!o.1))):=by kernel_rfl
theorem aeK(n a0 o):GD (n+1) a0 o=ask (GP n a0 o) λc=>(some ((decide (c.1>=0)),c.2)):=by kernel_rfl
theorem XB(n a0 M L K J I F E D z o c):zr (n+1) a0 M L K J I F E D z o c=ask (jN n (o,c)) λO=>(aw (aO n O z.1 5 I) λN=>(rG n a0 M L K (be (J+1)) N F E D o c)):=by kernel_rfl
theorem aeL(n a0):GH (n+1) a0=aa (a0.1==0) (aa (ay a0.2.1 (bs [])) (some ((a0.2.2.length:Int)==0)) (some false)) (some false):=by kernel_rfl
theorem aeM(n a0 o c):Sn (n+1) a0 o c=z7 n a0 (a0.length:Int) 0 o c:=by kernel_rfl
theorem aeN(n a0):GK (n+1) a0=ask (ga n a0.1) λo=>(aa (!o) (some true) (ask (kl n a0.2.2) λc=>(some (!c)))):=by kernel_rfl
theorem LV(n a0 E D z o c):uf (n+1) a0 E D z o c=uI n a0 E (be (D+1)) z o c:=by kernel_rfl
theorem aeO(n a0 c D z o):GM (n+1) a0 c D z o=some (ay a0.1 c):=by kernel_rfl
theorem ZC(n a0 c):EH (n+1) a0 c=tH n c.2.2 (c.2.2.length:Int) 0 a0 c [] [] [] [] []:=by kernel_rfl
theorem aeP(n a0 c):Ss (n+1) a0 c=Ac n a0 c (a0.length:Int) 0:=by kernel_rfl
theorem OW(n a0 z c o):A5 (n+1) a0 z c o=aa (decide (c<z)) (ab a0 c λr1=>(jx o (gS r1 0) (λr2=>(aa (gB r2 0) (some false) (A7 n (gS r1 0) a0 z c o))) (A7 n (gS r1 0) a0 z c o))) (some true):=by kernel_rfl
theorem ZD(n a0 D z o c):EJ (n+1) a0 D z o c=tJ n a0 D z o c (a0.length:Int) 0:=by kernel_rfl
theorem Nu(n a0 E c D z):z7 (n+1) a0 E c D z=aa (decide (c<E)) (ab a0 c λr1=>(ask (SA n (cN r1 0) D z) λo=>(aa o.1 (some (c,o.2)) (z7 n a0 E (be (c+1)) o.2.1 o.2.2)))) (some ((-1),D,z)):=by kernel_rfl
theorem aeQ(n a0):gX (n+1) a0=aa (a0.1 !=5) (some (0,(bs []),[],false)) (ab a0.2.2 0 λr1=>(some (cB (aK r1 0) true))):=by kernel_rfl
theorem aeR(n a0):qN (n+1) a0=ask (lq n a0) λc=>(aa (!c) (some (0,(bs []),[],5)) (some (cB a0 0))):=by kernel_rfl
theorem aeS(n a0):oG (n+1) a0=ab a0 1 λr1=>(ask (gX n (aK r1 0)) λo=>(ask (vV n) λc=>(aa o.2.2.2 (ab a0 0 λr4=>(ask (jI n (aK r4 0) (af o)) λz=>(some (cB c z)))) (some (cB c false))))):=by kernel_rfl
theorem aeT(n a0):vR (n+1) a0=ab a0 0 λr1=>(ask (gX n (aK r1 0)) λo=>(ab a0 1 λr3=>(ask (gX n (aK r3 0)) λc=>(aa (!o.2.2.2) (some (0,(bs []),[],false)) (aa (!c.2.2.2) (some (0,(bs []),[],false)) (ask (qP n (af o) (af c)) λz=>(some (cB z true)))))))):=by kernel_rfl
theorem aeU(n a0):vT (n+1) a0=ab a0 0 λr1=>(ask (gX n (aK r1 0)) λc=>(aa (!c.2.2.2) (some (0,(bs []),[],false)) (ask (G3 n (af c)) λo=>(some o)))):=by kernel_rfl
theorem ZE(n a0):uT (n+1) a0=ab a0 0 λr1=>(ask (j7 n (aK r1 0)) λc=>(aa (!c.2.2.2.2.2.2) (some (0,(bs []),[],false)) (ask (G9 n (af c) (af c.2.2.2) a0) λo=>(some o)))):=by kernel_rfl
theorem ZF(n a0 D z o c):EL (n+1) a0 D z o c=tL n a0 D z o c (a0.length:Int) 0:=by kernel_rfl
theorem aeV(n a0 c I F E D z o):Sv (n+1) a0 c I F E D z o=some (ay a0.1 c):=by kernel_rfl
theorem JN(n a0 O N M L K J I F E D z o c):Df (n+1) a0 O N M L K J I F E D z o c=yX n a0 O N M L K J I F (be (E+1)) D z o c:=by kernel_rfl
theorem aeW(n a0 c):GY (n+1) a0 c=ask (Hb n a0 c) λo=>(aa o (jE a0 0 (be ((a0.size:Int)-(c.size:Int))) λz=>(some z)) (some a0)):=by kernel_rfl
theorem Nv(n a0 D c z):uW (n+1) a0 D c z=aa (decide (c<D)) (ab a0 c λr1=>(ask (Hc n ((gS r1 0),(gD r1 1)) z) λo=>(aa o.1 (some (c,o.2)) (uW n a0 D (be (c+1)) o.2)))) (some ((-1),z)):=by kernel_rfl
theorem ZG(n a0 D z o c):EO (n+1) a0 D z o c=tO n a0 D z o c (a0.length:Int) 0:=by kernel_rfl
theorem abQ(n a0 z o):PR (n+1) a0 z o=ask (Oq n a0 z o) λc=>(some ((decide (c.1>=0)),c.2)):=by kernel_rfl
theorem aeX(n a0):BV (n+1) a0=some a0:=by kernel_rfl
theorem aeY(n a0 c):G2 (n+1) a0 c=ask (qP n a0 c) λz=>(ask (jv n z) λo=>(some o)):=by kernel_rfl
theorem aeZ(n a0 c z):G8 (n+1) a0 c z=ask (qP n c a0) λo=>(some (cB o true)):=by kernel_rfl
theorem ZH(n a0 z o c):Af (n+1) a0 z o c=aa (decide (c<o)) (ab z c λr1=>(ab a0 c λr2=>(ask (Hi n (iN r1 0) (iN r2 0)) λD=>(aa (!D) (some false) (Af n a0 z o (be (c+1))))))) (some true):=by kernel_rfl
theorem DK(n a0 o c z):uh (n+1) a0 o c z=aa (decide (o<a0)) (ab z o λ_=>(eJ z o.toNat λr1=>(ask (l6 n c (gI r1 0)) λD=>(aa (!D) (fits (c.length+([[.sc (.int .i64 (gI r1 0))]]:List (List AV)).length) 8 (nJ n a0 o (c++[[.sc (.int .i64 (gI r1 0))]]) z)) (nJ n a0 o c z))))) (some c):=by kernel_rfl
theorem ae0(n a0 D z o c):He (n+1) a0 D z o c=aa (ay a0.1 D) (ask (j6 n a0.2 (z,o,c)) λE=>(some E)) (some false):=by kernel_rfl
theorem ZI(n a0 o):Ou (n+1) a0 o=ask (Ov n a0 o) λc=>(some ((decide (c.1>=0)),c.2)):=by kernel_rfl
theorem ae1(n a0 c):Hi (n+1) a0 c=aa (ay a0.1 c.1) (ask (vW n a0.2 c.2) λo=>(some o)) (some false):=by kernel_rfl
theorem ae2(n a0 c z):SB (n+1) a0 c z=ask (BQ n a0 (be (c+1)) true z) λo=>(some ((!o.1),c,o.2)):=by kernel_rfl
theorem ZJ(n a0 c):Ov (n+1) a0 c=tQ n a0 (a0.length:Int) 0 c:=by kernel_rfl
theorem KN(n a0 E o D z):tP (n+1) a0 E o D z=aa (decide (o<E)) (ab a0 o λr1=>(ask (BX n (gS r1 0) D z) λc=>(aa c.1 (some (o,c.2)) (tP n a0 E (be (o+1)) (c.2.1,c.2.2.1) c.2.2.2)))) (some ((-1),(dQ D z))):=by kernel_rfl
theorem ae3(n a0 c):SE (n+1) a0 c=ab c 0 λr1=>(ask (jI n a0 (aK r1 0)) λo=>(some ((!o),c))):=by kernel_rfl
theorem ZK(n a0 c):Oz (n+1) a0 c=aa ((a0.length:Int)!=(c.length:Int)) (some false) (y7 n c a0 (a0.length:Int) 0):=by kernel_rfl
theorem KO(n a0 o c):y6 (n+1) a0 o c=aa (decide (c<o)) (ab a0 c λr1=>(ask (SF n (cN r1 0)) λz=>(aa z (some c) (y6 n a0 o (be (c+1)))))) (some (-1)):=by kernel_rfl
theorem V1(n a0 I F E o c D z):Kq (n+1) a0 I F E o c D z=ab o.2.2.2.2.2.2 a0 λr1=>(ab c.2.2.2.2.2.2 a0 λr2=>(ask (qn n (D,z) (cN r1 0) (cN r2 0)) λJ=>(aa (!J) (some false) (rH n I (be (F+1)) E o c)))):=by kernel_rfl
end
end Go.AI
end

section
namespace Go.AI
open Go Go.Proofs
set_option maxRecDepth 100000
noncomputable section
theorem P0(n a0 z o c):qK (n+1) a0 z o c=aa (decide (c<o)) (ab z c λr1=>(vG n (be (a0+(be ((be ((be ((be ((be ((be ((be ((be ((be (1+((gD r1 2).length:Int)))+((gD r1 4).length:Int)))+((gD r1 5).length:Int)))+((gD r1 7).length:Int)))+((gD r1 6).length:Int)))+((gD r1 8).length:Int)))+((gD r1 9).length:Int)))+((gD r1 11).length:Int)))+((gD r1 12).length:Int))))) z o c (gD r1 4) ((gD r1 4).length:Int) 0 (eD r1 0))) (some true):=by kernel_rfl
theorem ah3(n a0):H3 (n+1) a0=aw (H6 n a0) λE=>(aw (H7 n E) λD=>(aw (H8 n D) λc=>(aa (c.2.2.1==1) (some (.ret c)) (aw (H9 n c) λz=>(aw (Ia n z) λo=>(AH n (o.2.2.2.2.2.2.2.2.2.2.2.2.2.2.2.1.length:Int) 0 o)))))):=by kernel_rfl
theorem ah4(n a0):H7 (n+1) a0=ez a0.1 0 a0.2.1 λD=>(ask (BH n D) λo=>(fits (o.length+([(jj (H0 a0.2.2 ([],[],a0.2.2.2.2.2.2.2.2.1,[],(HZ a0.2.2.2.2.2.2.2.2.2.2))))]:List (List AV)).length) 288 (ask (oM n (o++[(jj (H0 a0.2.2 ([],[],a0.2.2.2.2.2.2.2.2.1,[],(HZ a0.2.2.2.2.2.2.2.2.2.2))))]) a0.2.1) λc=>(ask (BI n c) λz=>(AN n a0.2.2.2.2.2.2.1 (a0.2.2.2.2.2.2.1.length:Int) 0 a0 (vE a0.2.2) (o++[(jj (H0 a0.2.2 ([],[],a0.2.2.2.2.2.2.2.2.1,[],(HZ a0.2.2.2.2.2.2.2.2.2.2))))]) c.1 c.2 z))))):=by kernel_rfl
theorem SN(n a0):ga (n+1) a0=aa (ay a0 (bs [])) (some false) (aa (decide ((a0.size:Int)>16)) (some false) (i6 a0 0 λz=>(ask (wA n z) λo=>(aa (!o) (some false) (ask (Ig n a0) λc=>(aa c (some false) (sy n a0 (a0.size:Int) 0))))))):=by kernel_rfl
theorem ah5(n a0 o):oM (n+1) a0 o=ask (jh n a0 o) λc=>(AU n (c.length:Int) 0 a0 c [] [] [] []):=by kernel_rfl
theorem ae4(n a0 c):BJ (n+1) a0 c=ask (Gd n a0) λz=>(aa (!z) (ask (Ge n c) λo=>(some (!o))) (some false)):=by kernel_rfl
theorem ah6(n a0):Ie (n+1) a0=ask (Gm n a0) λc=>(some (decide ((c:Int)>=0))):=by kernel_rfl
theorem Aq(n a0 o c):sy (n+1) a0 o c=aa (decide (c<o)) (i6 a0 c λD=>(ask (Cr n D) λz=>(aa (!z) (some false) (sy n a0 o (be (c+1)))))) (some true):=by kernel_rfl
theorem ah7(n a0):Ih (n+1) a0=ask (Gn n a0) λc=>(some (decide ((c:Int)>=0))):=by kernel_rfl
theorem ZL(n a0 K J I F c E D z o):Ep (n+1) a0 K J I F c E D z o=fits (([[.sc (.string c.1)]]:List (List AV)).length+c.2.length) 16 (ask (j5 n ([[.sc (.string c.1)]]++c.2)) λO=>(aa (!O) (ask (Ff n ([[.sc (.string c.1)]]++c.2) o) λL=>(aw (aO n (!L.1) c.1 8 I) λN=>(Eo n a0 K J N F c ([[.sc (.string c.1)]]++c.2) E D z L.2))) (aw (aO n false c.1 8 I) λM=>(Eo n a0 K J M F c ([[.sc (.string c.1)]]++c.2) E D z o)))):=by kernel_rfl
theorem ah8(n a0 o):iI (n+1) a0 o=ask (Ct n a0 o) λc=>(aa (c.2.2.2.2==0) (aa (c.1==2) (some (0,(bs []),[],7)) (some (wt c c.2.2.2.2))) (some (wt c c.2.2.2.2))):=by kernel_rfl
theorem Nw(n a0 c z I F o E D):sd (n+1) a0 c z I F o E D=aa (decide (o<F)) (ab I o λr1=>(zO n a0 c z 0 I F o c (c.length:Int) 0 E D (ux r1 0))) (aw (aO n ((c.length:Int)==(z.length:Int)) a0 35 E) λJ=>(uy n a0 z c (c.length:Int) 0 J D)):=by kernel_rfl
theorem ae5(n a0 c):Gk (n+1) a0 c=ask (ko n c.1 c.2.1) λo=>(aa (decide ((o:Int)>=0)) (aw (aO n true a0.1 32 c) λD=>(zQ n o D a0)) (aw (aO n ((a0.2.1.length:Int)==0) a0.1 32 c) λz=>(zQ n o z a0))):=by kernel_rfl
theorem SO(n a0):Cr (n+1) a0=ask (wA n a0) λo=>(aa o (some true) (ask (Gw n a0) λc=>(aa c (some true) (some (a0==95))))):=by kernel_rfl
theorem Nx(n a0 z o c):zL (n+1) a0 z o c=aa (decide (o<z)) (ab a0 o λr1=>(fits (c.length+([[.sc (.string (gS r1 0))]]:List (List AV)).length) 16 (zL n a0 z (be (o+1)) (c++[[.sc (.string (gS r1 0))]])))) (some c):=by kernel_rfl
theorem ae6(n a0 c):gu (n+1) a0 c=ask (Gy n a0 c) λo=>(some (decide ((o:Int)>=0))):=by kernel_rfl
theorem ZM(n a0 o c):zN (n+1) a0 o c=ask (l5 n a0.1 a0.2.1) λD=>(ask (Cs n a0.1 a0.2.1) λz=>(some (.ret (ahj a0 (o,c,(dQ D z)))))):=by kernel_rfl
theorem ZN(n a0 c):Oj (n+1) a0 c=yV n a0 c (a0.length:Int) 0:=by kernel_rfl
theorem ae7(n a0 K J I F E D z o c):vJ (n+1) a0 K J I F E D z o c=uJ n a0 K J I F E D z o c (a0.length:Int) 0:=by kernel_rfl
theorem Ny(n a0 L K N J I F M o E c):kD (n+1) a0 L K N J I F M o E c=ask (iI n o c.2.2) λD=>(aw (jH n a0 D.2.2.2 M) λz=>(ab z.2.2.2.2.2.2.2.2.2.1 N λr3=>(aa c.2.1 (zo n a0 L K J I F z o E (af D) (5,(bs [])) [(cy (aK r3 1))]) (yF n a0 L K J I F z o E (af D) (aK r3 1))))):=by kernel_rfl
theorem Nz(n a0 F D o c z E):zP (n+1) a0 F D o c z E=aa (decide (D<F)) (ab a0 D λr1=>(fits (z.length+([[.sc (.string (gS r1 0))]]:List (List AV)).length) 16 (zP n a0 F (be (D+1)) o c (z++[[.sc (.string (gS r1 0))]]) E))) (ask (wC n o.1 o.2.1) λJ=>(ask (BI n J) λI=>(ED n c.2.2.2.1 (c.2.2.2.1.length:Int) 0 o c z E I))):=by kernel_rfl
theorem NA(n a0 o c):uB (n+1) a0 o c=aa (decide (c<o)) (ab a0 c λr1=>(ask (Ik n (hQ r1 0)) λz=>(aa z (some c) (uB n a0 o (be (c+1)))))) (some (-1)):=by kernel_rfl
theorem ZO(n a0 c):zS (n+1) a0 c=ask (j5 n c.2.2.1) λz=>(aw (aO n (!z) (bs []) 8 a0) λo=>(eP (Gx n o))):=by kernel_rfl
theorem OZ(n a0 F E D z c o):AZ (n+1) a0 F E D z c o=aa (decide (c<z)) (ab D c λr1=>(ask (ga n (gS r1 0)) λI=>(aa (!I) (some false) (AZ n a0 F E D z (be (c+1)) o)))) (AY n a0 F (be (E+1)) o):=by kernel_rfl
theorem ah9(n a0 o):wB (n+1) a0 o=ask (qZ n a0 o) λc=>(PQ n (c.length:Int) 0 a0 [] c):=by kernel_rfl
theorem P1(n a0 c):BN (n+1) a0 c=aa (decide (((be (c.1+1)):Int)<=c.2.1)) (some ((decide (a0<=c.2.2)),(be (c.1+1)),c.2)) (some (false,(be (c.1+1)),c.2)):=by kernel_rfl
theorem aia(n a0):Ij (n+1) a0=emp a0 (both (some []) (fits (([]:List (List AV)).length+a0.length) 8 (some ([]++a0)))) (fits (([]:List (List AV)).length+a0.length) 8 (some ([]++a0))):=by kernel_rfl
theorem NB(n a0 E o D I c):uH (n+1) a0 E o D I c=aa (decide (o<E)) (ab a0 o λr1=>(ask (iI n D (cN r1 1)) λz=>(aa (z.1 !=5) none (ab z.2.2.1 0 λr3=>(fits (c.length+([(cy (aK r3 0))]:List (List AV)).length) 48 (ab z.2.2.1 0 λr4=>(ask (np n D (gS r1 0) (aK r4 0)) λF=>(uH n a0 E (be (o+1)) (F.1,F.2.1) I (c++[(cy (aK r3 0))]))))))))) (some c):=by kernel_rfl
theorem ae8(n a0 J I F E D z o c):BP (n+1) a0 J I F E D z o c=zY n a0 J I F E D z o c (a0.length:Int) 0:=by kernel_rfl
theorem V2(n a0 L K J I F E D z o c):De (n+1) a0 L K J I F E D z o c=ask (j6 n o c) λN=>(aw (aO n N a0 7 E) λM=>(oa n a0 L K J I (be (F+1)) M D z)):=by kernel_rfl
theorem ae9(n a0 E D z o):sM (n+1) a0 E D z o=ask (np n E D z) λc=>(aw (jH n a0 c.2.2 o) λF=>(some (.ret (c.1,c.2.1,F)))):=by kernel_rfl
theorem afa(n a0 c):Sm (n+1) a0 c=some (ay a0.2.1 c):=by kernel_rfl
theorem afb(n a0):GB (n+1) a0=ask (ga n a0) λc=>(some (!c)):=by kernel_rfl
theorem aib(n a0):Cw (n+1) a0=A4 n a0.1 (a0.1.length:Int) 0 a0 []:=by kernel_rfl
theorem Hq(n a0 c):qZ (n+1) a0 c=ask (ko n a0 c) λz=>(aa (decide ((z:Int)>=0)) (ask (qZ n a0 z) λo=>(fits (o.length+([[.sc (.int .i64 c)]]:List (List AV)).length) 8 (some (o++[[.sc (.int .i64 c)]])))) (some [[.sc (.int .i64 c)]])):=by kernel_rfl
theorem XC(n a0 L Q K J I O E F D c z o):ud (n+1) a0 L Q K J I O E F D c z o=ask (vI n E c.2) λR=>(aw (aO n R c.1 6 O) λN=>(fits (D.length+([[.sc (.string c.1)]]:List (List AV)).length) 16 (aa (!Q) (ask (sL n o) λM=>(fits (M.length+([(fA c)]:List (List AV)).length) 64 (zr n a0 L K J I N E F (D++[[.sc (.string c.1)]]) c z (M++[(fA c)])))) (zr n a0 L K J I N E F (D++[[.sc (.string c.1)]]) c z o)))):=by kernel_rfl
theorem XD(n a0 c):p9 (n+1) a0 c=aa (c.1==29) (aa a0 (aa (c.2.2.2.1 !=2) (ask (lq n (af c.2.2.2)) λz=>(some z)) (some false)) (some false)) (aa a0 (ask (GH n (af c.2.2.2)) λo=>(some o)) (some false)):=by kernel_rfl
theorem afc(n a0 c K J I F E D z o):GI (n+1) a0 c K J I F E D z o=some (ay a0.1 c):=by kernel_rfl
theorem afd(n a0 c):Sp (n+1) a0 c=some (ay a0.1 c):=by kernel_rfl
theorem ZP(n a0 L K J I F E D z o c):zY (n+1) a0 L K J I F E D z o c=aa (decide (c<o)) (ab a0 c λr1=>(ask (Su n (ux r1 0) L K J I F E D z) λM=>(aa M (some c) (zY n a0 L K J I F E D z o (be (c+1)))))) (some (-1)):=by kernel_rfl
theorem KP(n a0 o c):tE (n+1) a0 o c=aa (decide (c<o)) (ab a0 c λr1=>(ask (GU n (yr r1 0)) λz=>(aa z (some c) (tE n a0 o (be (c+1)))))) (some (-1)):=by kernel_rfl
theorem KQ(n a0 O N M L K J I F E D z o c):yX (n+1) a0 O N M L K J I F E D z o c=aa (decide (E<F)) (ab I E λr1=>(aa (ay (gS r1 0) c.1) (Df n a0 O N (be (M+1)) L K J I F E D z o c) (Df n a0 O N M L K J I F E D z o c))) (aw (aO n (M==1) a0 35 D) λQ=>(rF n a0 O N L K (be (J+1)) Q z o)):=by kernel_rfl
theorem LW(n a0 o c z):D1 (n+1) a0 o c z=aa (decide (o<a0)) (ab z o λ_=>(eJ z o.toNat λr1=>(ask (l6 n c (gI r1 0)) λD=>(aa (!D) (fits (c.length+([[.sc (.int .i64 (gI r1 0))]]:List (List AV)).length) 8 (nJ n a0 o (c++[[.sc (.int .i64 (gI r1 0))]]) z)) (nJ n a0 o c z))))) (some c):=by kernel_rfl
theorem afe(n a0 z o):vK (n+1) a0 z o=ask (Sz n a0 z o) λc=>(some ((decide (c.1>=0)),c.2)):=by kernel_rfl
theorem V3(n a0 L Q K J I O E F D c z o):pP (n+1) a0 L Q K J I O E F D c z o=ask (vI n E c.2) λR=>(aw (aO n R c.1 6 O) λN=>(fits (D.length+([[.sc (.string c.1)]]:List (List AV)).length) 16 (aa (!Q) (ask (sL n o) λM=>(fits (M.length+([(fA c)]:List (List AV)).length) 64 (Ko n a0 L K J I N E F (D++[[.sc (.string c.1)]]) c z (M++[(fA c)])))) (Kp n a0 L K J I N E F (D++[[.sc (.string c.1)]]) c z o)))):=by kernel_rfl
theorem aff(n a0):St (n+1) a0=some (5,(bs []),[(cy (dQ a0 []))]):=by kernel_rfl
theorem LX(n a0 a1 J o c F D z E):zs (n+1) a0 a1 J o c F D z E=aa (decide (J<a1)) (ask (vL n c J a0 o z) λI=>(aa (I.2.2.2.1 !=0) (some (0,(bs []),[],I.2.2.2)) (fits (D.length+([(cy (af I))]:List (List AV)).length) 48 (aa (J==0) (ask (BR n c.1) λx2=>(aa x2 (ask (gX n (af I)) λx3=>(aa (!x3.2.2.2) (some (0,(bs []),[],7,I.2.2.2.2)) (mD n ((fA (c.2.1,(af x3)))::a0) a1 J (I.2.2.2.2.1,I.2.2.2.2.2.1) c F (D++[(cy (af I))]) I.2.2.2.2.2.2 E))) (mD n a0 a1 J (I.2.2.2.2.1,I.2.2.2.2.2.1) c F (D++[(cy (af I))]) I.2.2.2.2.2.2 E))) (mD n a0 a1 J (I.2.2.2.2.1,I.2.2.2.2.2.1) c F (D++[(cy (af I))]) I.2.2.2.2.2.2 E))))) (aa (c.1==20) (ask (vM n a0 c.2.1) λx4=>(aa x4.2.2.2 (some (wt x4 (0,(dQ o z)))) (jx o.1 c.2.1 (λr5=>(some (cB (aK r5 0) (0,(dQ o z))))) (some (0,(bs []),[],6,(dQ o z)))))) (aa (c.1==29) (ask (vN n (af c.2.2.2) o z) λx6=>(aa (!x6.1) (some (0,(bs []),[],6,x6.2)) (ask (jv n (af c.2.2.2)) λx7=>(ask (qN n x7) λx8=>(some (wu x8 x6.2)))))) (aa (c.1==0) none (aa (c.1==1) (ask (kX n D 2 (bs [])) λx9=>(bZ n x9.2.2.2 o F (af x9) z E)) (aa (c.1==2) (ask (kX n D 2 (bs [])) λoO=>(bZ n oO.2.2.2 o F (af oO) z E)) (aa (c.1==3) (ask (cF n D 2 (bs []) 2) λoP=>(bZ n oP.2.2.2 o F (af oP) z E)) (aa (c.1==4) (ask (cF n D 2 (bs []) 2) λoQ=>(bZ n oQ.2.2.2 o F (af oQ) z E)) (aa (c.1==5) (ask (cF n D 2 (bs []) 2) λoR=>(bZ n oR.2.2.2 o F (af oR) z E)) (aa (c.1==6) (ask (cF n D 2 (bs []) 2) λoS=>(bZ n oS.2.2.2 o F (af oS) z E)) (aa (c.1==7) (ask (cF n D 2 (bs []) 2) λoT=>(bZ n oT.2.2.2 o F (af oT) z E)) (aa (c.1==8) (ask (oE n D) λoU=>(bZ n oU.2.2.2 o F (af oU) z E)) (aa (c.1==9) (ask (oE n D) λoV=>(bZ n oV.2.2.2 o F (af oV) z E)) (aa (c.1==10) (ask (oF n D) λoW=>(bZ n oW.2.2.2 o F (af oW) z E)) (aa (c.1==11) (ask (oF n D) λoX=>(bZ n oX.2.2.2 o F (af oX) z E)) (aa (c.1==12) (ask (cF n D 2 (bs []) 1) λoY=>(bZ n oY.2.2.2 o F (af oY) z E)) (aa (c.1==13) (ask (cF n D 2 (bs []) 1) λoZ=>(bZ n oZ.2.2.2 o F (af oZ) z E)) (aa (c.1==14) (ask (cF n D 2 (bs []) 1) λo1=>(bZ n o1.2.2.2 o F (af o1) z E)) (aa (c.1==15) (ask (cF n D 2 (bs []) 1) λo3=>(bZ n o3.2.2.2 o F (af o3) z E)) (aa (c.1==16) (ask (oG n D) λo4=>(bZ n o4.2.2.2 o F (af o4) z E)) (aa (c.1==17) (ask (oG n D) λo5=>(bZ n o5.2.2.2 o F (af o5) z E)) (aa (c.1==18) (ask (vO n D) λo6=>(bZ n o6.2.2.2 o F (af o6) z E)) (aa (c.1==19) (ask (kX n D 1 (bs [])) λo7=>(bZ n o7.2.2.2 o F (af o7) z E)) (aa (c.1==20) none (aa (c.1==21) (ask (cF n D 1 (bs []) 1) λo8=>(bZ n o8.2.2.2 o F (af o8) z E)) (aa (c.1==22) (ask (cF n D 1 (bs []) 1) λo9=>(bZ n o9.2.2.2 o F (af o9) z E)) (aa (c.1==23) (ask (cF n D 1 (bs []) 1) λpa=>(bZ n pa.2.2.2 o F (af pa) z E)) (aa (c.1==24) (ask (cF n D 1 (bs []) 1) λpc=>(bZ n pc.2.2.2 o F (af pc) z E)) (aa (c.1==25) (ask (cF n D 1 (bs []) 1) λpd=>(bZ n pd.2.2.2 o F (af pd) z E)) (aa (c.1==26) (ask (cF n D 1 (bs []) 1) λpe=>(bZ n pe.2.2.2 o F (af pe) z E)) (aa (c.1==27) (ask (vP n D) λpf=>(bZ n pf.2.2.2 o F (af pf) z E)) (aa (c.1==28) (ask (vQ n D) λpg=>(bZ n pg.2.2.2 o F (af pg) z E)) (aa (c.1==29) none (aa (c.1==30) (ask (uN n D 5 (bs []) [(cy (1,(bs []),[]))] 1) λpk=>(bZ n pk.2.2.2 o F (af pk) z E)) (aa (c.1==31) (ask (kG n D) λpo=>(bZ n po.2.2.2 o F (af po) z E)) (aa (c.1==32) (ask (kG n D) λpq=>(bZ n pq.2.2.2 o F (af pq) z E)) (aa (c.1==33) (ask (kG n D) λpv=>(bZ n pv.2.2.2 o F (af pv) z E)) (aa (c.1==34) (ask (vR n D) λpw=>(bZ n pw.2.2.2 o F (af pw) z E)) (aa (c.1==35) (ask (vS n D) λpx=>(bZ n px.2.2.2 o F (af px) z E)) (aa (c.1==36) (ask (uO n D) λpy=>(bZ n py.2.2.2 o F (af py) z E)) (aa (c.1==37) (ask (oH n D) λpz=>(bZ n pz.2.2.2 o F (af pz) z E)) (aa (c.1==38) (ask (oH n D) λpA=>(bZ n pA.2.2.2 o F (af pA) z E)) (aa (c.1==39) (ask (od n D) λpB=>(bZ n pB.2.2.2 o F (af pB) z E)) (aa (c.1==40) (ask (od n D) λpC=>(bZ n pC.2.2.2 o F (af pC) z E)) (aa (c.1==41) (ask (gQ n D) λpD=>(bZ n pD.2.2.2 o F (af pD) z E)) (aa (c.1==42) (ask (gQ n D) λwI=>(bZ n wI.2.2.2 o F (af wI) z E)) (aa (c.1==43) (ask (gQ n D) λZ=>(bZ n Z.2.2.2 o F (af Z) z E)) (aa (c.1==44) (ask (gQ n D) λY=>(bZ n Y.2.2.2 o F (af Y) z E)) (aa (c.1==45) (ask (gQ n D) λX=>(bZ n X.2.2.2 o F (af X) z E)) (aa (c.1==46) (ask (vT n D) λV=>(bZ n V.2.2.2 o F (af V) z E)) (aa (c.1==47) (ask (uP n D) λU=>(bZ n U.2.2.2 o F (af U) z E)) (aa (c.1==48) (ask (oe n D) λT=>(bZ n T.2.2.2 o F (af T) z E)) (aa (c.1==49) (ask (oe n D) λS=>(bZ n S.2.2.2 o F (af S) z E)) (aa (c.1==50) (ask (uQ n D) λR=>(bZ n R.2.2.2 o F (af R) z E)) (aa (c.1==51) (ask (uR n D) λQ=>(bZ n Q.2.2.2 o F (af Q) z E)) (aa (c.1==52) (ask (uS n D) λO=>(bZ n O.2.2.2 o F (af O) z E)) (aa (c.1==53) (ask (uT n D) λN=>(bZ n N.2.2.2 o F (af N) z E)) (aa (c.1==54) (ask (uU n D) λM=>(bZ n M.2.2.2 o F (af M) z E)) (aa (c.1==55) (ask (uV n D) λL=>(bZ n L.2.2.2 o F (af L) z E)) (aa (c.1==56) (ask (vU n D) λK=>(bZ n K.2.2.2 o F (af K) z E)) none))))))))))))))))))))))))))))))))))))))))))))))))))))))))))):=by kernel_rfl
theorem afg(n a0 o c):kX (n+1) a0 o c=some (o,c,[],true):=by kernel_rfl
theorem afh(n a0):vO (n+1) a0=ab a0 0 λr1=>(ask (BS n (aK r1 0)) λc=>(ab a0 0 λr3=>(aa ((gI r3 0)==5) (ask (qO n a0) λo=>(some (cB c o))) (some (cB c false))))):=by kernel_rfl
theorem afi(n a0):vS (n+1) a0=ab a0 0 λr1=>(ask (j7 n (aK r1 0)) λc=>(aa (!c.2.2.2.2.2.2) (some (0,(bs []),[],false)) (ask (GZ n (af c) (af c.2.2.2) a0) λo=>(some o)))):=by kernel_rfl
theorem ZQ(n a0):uP (n+1) a0=ab a0 0 λr1=>(ask (gX n (aK r1 0)) λc=>(aa (!c.2.2.2) (some (0,(bs []),[],false)) (ask (G4 n (af c)) λo=>(some o)))):=by kernel_rfl
theorem ZR(n a0):uU (n+1) a0=ab a0 0 λr1=>(ask (j7 n (aK r1 0)) λc=>(aa (!c.2.2.2.2.2.2) (some (0,(bs []),[],false)) (ask (Ha n (af c) (af c.2.2.2) a0) λo=>(some o)))):=by kernel_rfl
theorem ZS(n a0 D z o c):EM (n+1) a0 D z o c=tM n a0 D z o c (a0.length:Int) 0:=by kernel_rfl
theorem afj(n a0 c):Sw (n+1) a0 c=aa ((a0.length:Int)!=(c.length:Int)) (some false) (Af n c a0 (a0.length:Int) 0):=by kernel_rfl
theorem afk(n a0 c z o):GW (n+1) a0 c z o=Aj n a0 c.2.2.2.1 (c.2.2.2.1.length:Int) 0 c z o o.2.2.2.2.2.2.2.2.2.2.2.2.2.2.2.2.2.2.2.2 [] []:=by kernel_rfl
theorem ZT(n a0 o):On (n+1) a0 o=ask (Oo n a0 o) λc=>(some ((decide (c.1>=0)),c.2)):=by kernel_rfl
theorem KR(n a0 F E D z o c):tI (n+1) a0 F E D z o c=aa (decide (c<o)) (ab a0 c λr1=>(ask (He n (du r1 0) F E D z) λI=>(aa I (some c) (tI n a0 F E D z o (be (c+1)))))) (some (-1)):=by kernel_rfl
theorem afl(n a0 c z):SA (n+1) a0 c z=ask (BL n a0 (be (c+1)) z) λo=>(some ((!o.1),c,o.2)):=by kernel_rfl
theorem ZU(n a0 c):Ad (n+1) a0 c=ask (Ot n a0 c) λo=>(some (decide ((o:Int)>=0))):=by kernel_rfl
theorem afm(n a0 c):qP (n+1) a0 c=ask (BU n a0 c) λz=>(ask (jv n z) λo=>(some o)):=by kernel_rfl
theorem afn(n a0):G3 (n+1) a0=ask (jv n a0) λo=>(ask (jv n o) λc=>(some (cB c true))):=by kernel_rfl
theorem afo(n a0 D z):G9 (n+1) a0 D z=ab z 1 λr1=>(ask (gX n (aK r1 0)) λo=>(ask (jv n D) λc=>(aa o.2.2.2 (ask (jI n (af o) a0) λE=>(some (cB c E))) (some (cB c false))))):=by kernel_rfl
theorem ZV(n a0 z o c):Ag (n+1) a0 z o c=aa (decide (c<o)) (ab z c λr1=>(ab a0 c λr2=>(ask (Hj n (eZ r1 0) (eZ r2 0)) λD=>(aa (!D) (some false) (Ag n a0 z o (be (c+1))))))) (some true):=by kernel_rfl
theorem afp(n a0 c):Hb (n+1) a0 c=aa (decide ((a0.size:Int)>=(c.size:Int))) (jE a0 (be ((a0.size:Int)-(c.size:Int))) (a0.size:Int) λo=>(some (ay o c))) (some false):=by kernel_rfl
theorem afq(n a0 c D z o):Hf (n+1) a0 c D z o=some (ay a0.1 c):=by kernel_rfl
theorem afr(n):BW (n+1)=some (1,(bs []),[]):=by kernel_rfl
theorem afs(n a0 c):Hj (n+1) a0 c=aa (ay a0.1 c.1) (aa (a0.2.1==c.2.1) (ask (vW n a0.2.2 c.2.2) λo=>(some o)) (some false)) (some false):=by kernel_rfl
theorem aft(n a0 c):vW (n+1) a0 c=ask (Hm n [(th a0),(th c)]) λz=>(aa z (ask (Hn n a0 c) λo=>(some o)) (some false)):=by kernel_rfl
theorem afu(n a0 c):SD (n+1) a0 c=some (a0.1 !=c):=by kernel_rfl
theorem ZW(n a0):Ox (n+1) a0=ask (ET n a0) λc=>(some (decide ((c:Int)>=0))):=by kernel_rfl
theorem ZX(n a0 c o):qn (n+1) a0 c o=aa (c.1 !=o.1) (some false) (aa (c.2.2.1 !=o.2.2.1) (some false) (ask (sO n (af c.2.2.2) (af o.2.2.2)) λz=>(aa (!z) (some false) (aa ((c.2.2.2.2.2.2.length:Int)!=(o.2.2.2.2.2.2.length:Int)) (some false) (aa (c.1==20) (aa (zI a0.1) (aa (zI a0.2) (aa (((ou a0.1 c.2.1):Int)==(ou a0.2 o.2.1)) (aa (decide (((ou a0.1 c.2.1):Int)>=0)) (some true) (some (ay c.2.1 o.2.1))) (some false)) none) none) (rH n (c.2.2.2.2.2.2.length:Int) 0 a0 c o)))))):=by kernel_rfl
theorem WJ(n a0 z o c):y7 (n+1) a0 z o c=aa (decide (c<o)) (ab z c λr1=>(ab a0 c λr2=>(ask (sO n (aK r1 0) (aK r2 0)) λD=>(aa (!D) (some false) (y7 n a0 z o (be (c+1))))))) (some true):=by kernel_rfl
theorem V4(n a0 F E D o c z):yI (n+1) a0 F E D o c z=ab o.2.2.2.2.2.2 a0 λr1=>(ab c.2.2.2.2.2.2 a0 λr2=>(ask (qn n z (cN r1 0) (cN r2 0)) λI=>(aa (!I) (some false) (rH n F (be (E+1)) D o c)))):=by kernel_rfl
end
end Go.AI
end
