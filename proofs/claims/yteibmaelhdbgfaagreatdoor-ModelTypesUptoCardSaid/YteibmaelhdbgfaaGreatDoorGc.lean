/- A part of the proof. -/
import Derived.Test.YteibmaelhdbgfaaGreatDoorGd
set_option linter.all false

section
namespace Go.AI
open Go Go.Proofs
set_option maxRecDepth 100000
noncomputable section
def PZ(n){a0 A F E D o z c}:vG (n+1) a0 A F E D o z c=aa (decide (z<o)) (ab D z λr1=>vG n (be (a0+((gD r1 1).length:Int))) A F E D o (be (z+1)) c) (vH n a0 A F E c.2.2.2.2.2.2.2.2.2.2.2.2.2 (c.2.2.2.2.2.2.2.2.2.2.2.2.2.length:Int) 0):=by kernel_rfl
def ahW(n){a0}:H6 (n+1) a0=aa (a0.2.2.1==1) (aw (aO n true (bs []) 1 a0) λo=>AM n (a0.2.2.1==1) o (vE a0.2.2)) (aw (aO n (a0.2.2.1==2) (bs []) 1 a0) λc=>AM n (a0.2.2.1==1) c (vE a0.2.2)):=by kernel_rfl
def abM(n){a0 o z c}:AJ (n+1) a0 o z c=aa (decide (c<z)) (ab a0 c λr1=>ask (T4 n (eD r1 0) o) λA=>aa A (some c) (AJ n a0 o z (be (c+1)))) (some (-1)):=by kernel_rfl
def SM(n){a0 o z c}:aO (n+1) a0 o z c=aa (!a0) (eP (jH n o z c)) (some (.ret c)):=by kernel_rfl
def aeE(n){a0}:BH (n+1) a0=emp a0 (both (some []) (fits (([]:List (List AV)).length+a0.length) 288 (some ([]++a0)))) (fits (([]:List (List AV)).length+a0.length) 288 (some ([]++a0))):=by kernel_rfl
def OU(n){a0 z c F}:vi (n+1) a0 z c F=aa (decide (c<z)) (ab a0 c λr1=>ask (kl n (cN r1 0)) λK=>aw (aO n K (bs [118,97,114,105,97,110,116]) 1 F) λD=>ask (iI n (D.2.2.2.2.2.2.2.2.2.2.2.2.2.2.2.2.2.2.1,D.2.2.2.2.2.2.2.2.2.2.2.2.2.2.2.2.2.2.2.1) (cN r1 0)) λo=>aw (jH n (bs [118,97,114,105,97,110,116]) o.2.2.2 D) λA=>aa (o.1==1) (aw (aO n true (bs [118,97,114,105,97,110,116]) 7 A) λJ=>vi n a0 z (be (c+1)) J) (aw (aO n (o.1==5) (bs [118,97,114,105,97,110,116]) 7 A) λE=>vi n a0 z (be (c+1)) E)) (some (.ret F)):=by kernel_rfl
def ahX(n){a0 c}:Ic (n+1) a0 c=ab c.2.2.2.2.2.2.2.2.2.2.2.2.2.2.2.1 a0 λr1=>ask (ga n (gS r1 0)) λQ=>aa Q (aa (!ay (gS r1 0) (bs [105,110,105,116])) (aa (!ay (gS r1 0) (bs [99,111,110,118,101,114,103,101,110,116])) (aa (!ay (gS r1 0) (bs [97,110,116,105,99,105,112,97,116,101,100])) (aa (decide ((gI r1 2)>=0)) (aa (decide ((gI r1 2)<=2)) (ask (Gg n (gD r1 4)) λA=>aa (!A) (ask (BJ n (gD r1 5) (gD r1 6)) λN=>aa N (ask (Gi n (gD r1 3)) λM=>aw (aO n (!M) (gS r1 0) 1 c) λL=>lM n a0 L (hQ r1 0)) (aw (aO n false (gS r1 0) 1 c) λK=>lM n a0 K (hQ r1 0))) (aw (aO n false (gS r1 0) 1 c) λJ=>lM n a0 J (hQ r1 0))) (aw (aO n false (gS r1 0) 1 c) λD=>lM n a0 D (hQ r1 0))) (aw (aO n false (gS r1 0) 1 c) λF=>lM n a0 F (hQ r1 0))) (aw (aO n false (gS r1 0) 1 c) λE=>lM n a0 E (hQ r1 0))) (aw (aO n false (gS r1 0) 1 c) λI=>lM n a0 I (hQ r1 0))) (aw (aO n false (gS r1 0) 1 c) λo=>lM n a0 o (hQ r1 0))) (aw (aO n false (gS r1 0) 1 c) λz=>lM n a0 z (hQ r1 0)):=by kernel_rfl
def ahY(n){a0}:Ig (n+1) a0=aa (ay a0 (bs [116,114,117,101])) (aa (ay a0 (bs [116,114,117,101])) (some true) (some false)) (aa (ay a0 (bs [102,97,108,115,101])) (aa (ay a0 (bs [102,97,108,115,101])) (some true) (some false)) (aa (ay a0 (bs [110,111,116])) (aa (ay a0 (bs [110,111,116])) (some true) (some false)) (aa (ay a0 (bs [111,114])) (aa (ay a0 (bs [111,114])) (some true) (some false)) (aa (ay a0 (bs [102,111,114,97,108,108])) (aa (ay a0 (bs [102,111,114,97,108,108])) (some true) (some false)) (aa (ay a0 (bs [101,120,105,115,116,115])) (aa (ay a0 (bs [101,120,105,115,116,115])) (some true) (some false)) (aa (ay a0 (bs [105,110])) (aa (ay a0 (bs [105,110])) (some true) (some false)) (aa (ay a0 (bs [110,111,116,105,110])) (aa (ay a0 (bs [110,111,116,105,110])) (some true) (some false)) (aa (ay a0 (bs [115,117,98])) (aa (ay a0 (bs [115,117,98])) (some true) (some false)) (aa (ay a0 (bs [109,111,100])) (aa (ay a0 (bs [109,111,100])) (some true) (some false)) (aa (ay a0 (bs [102,117,110])) (aa (ay a0 (bs [102,117,110])) (some true) (some false)) (aa (ay a0 (bs [99,97,114,100])) (aa (ay a0 (bs [99,97,114,100])) (some true) (some false)) (aa (ay a0 (bs [109,105,110])) (aa (ay a0 (bs [109,105,110])) (some true) (some false)) (aa (ay a0 (bs [109,97,120])) (aa (ay a0 (bs [109,97,120])) (some true) (some false)) (aa (ay a0 (bs [100,111,109])) (aa (ay a0 (bs [100,111,109])) (some true) (some false)) (aa (ay a0 (bs [114,97,110])) (aa (ay a0 (bs [114,97,110])) (some true) (some false)) (aa (ay a0 (bs [80,79,87])) (aa (ay a0 (bs [80,79,87])) (some true) (some false)) (aa (ay a0 (bs [105,110,116])) (aa (ay a0 (bs [105,110,116])) (some true) (some false)) (aa (ay a0 (bs [98,111,111,108])) (aa (ay a0 (bs [98,111,111,108])) (some true) (some false)) (aa (ay a0 (bs [115,101,116])) (aa (ay a0 (bs [115,101,116])) (some true) (some false)) (aa (ay a0 (bs [112,97,105,114])) (some true) (some false))))))))))))))))))))):=by kernel_rfl
def Nr(n){a0 A o z c}:zK (n+1) a0 A o z c=aa (decide (o<A)) (ab a0 o λr1=>fits (c.length+([[.sc (.string (gS r1 0))]]:List (List AV)).length) 16 (fits (((c++[[.sc (.string (gS r1 0))]]):List (List AV)).length+(gD r1 1).length) 16 (zK n a0 A (be (o+1)) z ((c++[[.sc (.string (gS r1 0))]])++(gD r1 1))))) (zL n z.2 (z.2.length:Int) 0 c):=by kernel_rfl
def Zy(n){a0 M L K J c E D F I z}:Eo (n+1) a0 M L K J c E D F I z=fits (z.length+E.length) 16 (ask (Gb n F) λo=>fits (o.length+([[.sc (.string c.1),.aQ c.2 1]]:List (List AV)).length) 40 (ask (jN n ((o++[[.sc (.string c.1),.aQ c.2 1]]),I)) λA=>aw (aO n A c.1 5 K) λN=>AN n a0 M (be (L+1)) N J D (o++[[.sc (.string c.1),.aQ c.2 1]]) I (z++E))):=by kernel_rfl
def abN(n){a0 A F E D o z c}:Fg (n+1) a0 A F E D o z c=ez a0 0 A λN=>ask (Gc n N c.1 c.2.1 c.2.2.1 c.2.2.2.1 c.2.2.2.2.1 c.2.2.2.2.2.1 c.2.2.2.2.2.2.1 c.2.2.2.2.2.2.2.1 c.2.2.2.2.2.2.2.2) λM=>aw (aO n (!M) c.1 8 o) λL=>ask (Cq n z (qX c.2)) λK=>aw (jH n c.1 K L) λJ=>AO n a0 F E (be (D+1)) J z:=by kernel_rfl
def aeF(n){a0 c}:Gf (n+1) a0 c=ask (ko n c.1 c.2.1) λz=>ask (l5 n c.1 z) λE=>ask (BM n E a0) λA=>ask (Es n (c.2.2.2.2.2.2.2.2.2.2.2.2.2.2.2.2.2.2.1,c.2.2.2.2.2.2.2.2.2.2.2.2.2.2.2.2.2.2.2.1) ((bs []),0)) λo=>qj n [] z A o a0.2.2.2.1 (a0.2.2.2.1.length:Int) 0 c a0 []:=by kernel_rfl
def aeG(n){a0 c}:Gj (n+1) a0 c=ab c.2.2.2.2.2.2.2.2.2.2.2.2.2.2.2.1 a0 λr1=>ez c.2.2.2.2.2.2.2.2.2.2.2.2.2.2.2.1 0 a0 λA=>ask (Fh n A (gS r1 0) (gD r1 1) (gI r1 2) (gD r1 3) (gD r1 4) (gD r1 5) (gD r1 6)) λo=>aw (aO n (!o) (gS r1 0) 8 c) λz=>zP n (gD r1 4) ((gD r1 4).length:Int) 0 z (hQ r1 0) [] []:=by kernel_rfl
def OV(n){a0 F E D z o c}:AX (n+1) a0 F E D z o c=aa (decide (z<D)) (ab E z λr1=>ab o a0 λr2=>ask (Gv n (gD r2 7) (gS r1 0) (gI r1 1) (gS r1 2) (gD r1 3)) λA=>aa (A==F) (fits (c.length+([[.sc (.string (gS r1 0))]]:List (List AV)).length) 16 (Ex n a0 F E D z o (c++[[.sc (.string (gS r1 0))]]))) (Ex n a0 F E D z o c)) (some c):=by kernel_rfl
def LS(n){a0 o c z}:ub (n+1) a0 o c z=mq n a0 c.2.2.1 (c.2.2.1.length:Int) 0 o c z:=by kernel_rfl
def aeH(n){a0 c}:sK (n+1) a0 c=ask (ga n a0.1) λo=>aa o (ask (lq n a0.2) λz=>aa z (eP (aO n (a0.2.1 !=2) a0.1 1 c)) (eP (aO n false a0.1 1 c))) (eP (aO n false a0.1 1 c)):=by kernel_rfl
def ahZ(n){a0 c}:Cs (n+1) a0 c=ask (oM n a0 c) λz=>ask (ko n a0 c) λo=>aa (decide ((o:Int)>=0)) (ab a0 o λr3=>A1 n c (gD r3 7) a0 [] [] z.1 z.2) (A1 n c [] a0 [] [] z.1 z.2):=by kernel_rfl
def aeI(n){a0}:Gs (n+1) a0=uG n a0 (a0.length:Int) 0:=by kernel_rfl
def Ns(n){a0 o A F z E D}:uy (n+1) a0 o A F z E D=aa (decide (z<F)) (ab A z λr1=>ask (BP n o (gS r1 0) (gI r1 1) (gS r1 2) (gI r1 3) (gI r1 4) (gS r1 5) (gD r1 6) (gD r1 7)) λN=>ab o N λr3=>aw (GA n (gB r3 4) D E) λc=>ask (iI n (c.1,c.2.1) (cN r1 1)) λJ=>aw (jH n a0 J.2.2.2 c.2.2.2.2.2.2.2.2.2.2.2.2.2.2.2.2) λM=>ask (j6 n (af J) (aK r3 1)) λL=>aw (aO n L a0 7 M) λK=>uy n a0 o A F (be (z+1)) K (vE c.2.2)) (some (.ret (oD E D))):=by kernel_rfl
def JM(n){a0 L K J A F E D o z c}:yF (n+1) a0 L K J A F E D o z c=ask (j6 n z c) λN=>aw (aO n N a0 7 E) λM=>ky n a0 L K J A (be (F+1)) M D o:=by kernel_rfl
def abO(n){a0 A F E D o z c}:Fh (n+1) a0 A F E D o z c=ask (EC n a0 A F E D o z c) λJ=>some (decide ((J:Int)>=0)):=by kernel_rfl
def Zz(n){a0 E J A F D o z}:Ew (n+1) a0 E J A F D o z=aa A (ask (EE n J F D) λc=>rF n a0 E c.1 c.1 (c.1.length:Int) 0 c.2 o z) (rF n a0 E [] [] 0 0 D o z):=by kernel_rfl
def aeJ(n){a0}:Gx (n+1) a0=ask (jh n a0.1 a0.2.1) λc=>uK n (c.length:Int) 0 a0 [] c:=by kernel_rfl
def WH(n){a0 A c o}:LN (n+1) a0 A c o=aa (decide (c<A)) (ab a0 c λr1=>ask (GC n (gS r1 0) o) λz=>aa z.1 (some (c,z.2)) (tB n a0 A (be (c+1)) z.2)) (some ((-1),o)):=by kernel_rfl
def Nt(n){a0 o c z}:uD (n+1) a0 o c z=aa (decide (c<o)) (ab a0 c λr1=>ask (GD n z.1 (gS r1 0)) λA=>aa (!A.1) (some false) (uD n a0 o (be (c+1)) z)) (some true):=by kernel_rfl
def abP(n){a0 E D A F o c}:A1 (n+1) a0 E D A F o c=ab D a0 λr1=>ask (s5 n E (gD r1 7)) λz=>fits (c.length+z.length) 64 (some (o,(c++z))):=by kernel_rfl
def ah0(n){a0 o c}:Ii (n+1) a0 o c=A2 n [] (a0.2.2.2.2.2.2.length:Int) 0 o c a0 (0,(bs [])) [] []:=by kernel_rfl
def WI(n){a0 o z c}:yV (n+1) a0 o z c=aa (decide (c<z)) (ab a0 c λr1=>ask (Sp n (hQ r1 0) o) λA=>aa A (some c) (yV n a0 o z (be (c+1)))) (some (-1)):=by kernel_rfl
def LU(n){a0 N M L K J A F E D o z c}:D0 (n+1) a0 N M L K J A F E D o z c=zO n a0 N M L K J A F E (be (D+1)) o z c:=by kernel_rfl
def VZ(n){a0 M L K J D F E I o z c}:Dd (n+1) a0 M L K J D F E I o z c=ask (j6 n o (dQ z c)) λA=>aw (aO n A a0 7 F) λN=>oa n a0 M L K J (be (D+1)) N E I:=by kernel_rfl
def ZA(n){a0 A D o c F z E}:ED (n+1) a0 A D o c F z E=aa (decide (D<A)) (ab a0 D λr1=>fits (z.length+([[.sc (.string (gS r1 0))]]:List (List AV)).length) 16 (ask (gu n E (gS r1 0)) λM=>aw (aO n (!M) c.1 8 o) λL=>tF n a0 A (be (D+1)) L c F (z++[[.sc (.string (gS r1 0))]]) E)) (ask (j5 n F) λK=>aa (!K) (ask (j5 n z) λJ=>eP (aO n (!J) c.1 8 o)) (eP (aO n false c.1 8 o))):=by kernel_rfl
def ZB(n){a0 A o z c}:Ol (n+1) a0 A o z c=yY n a0 A o z c (a0.length:Int) 0:=by kernel_rfl
def KM(n){a0}:pU (n+1) a0=D1 n (a0.length:Int) 0 [] a0:=by kernel_rfl
def ah1(n){a0 c}:Cv (n+1) a0 c=ask (s4 n c) λo=>ask (Fj n o a0) λz=>some (!z.1):=by kernel_rfl
def aeK(n){a0 o}:GD (n+1) a0 o=ask (GP n a0 o) λc=>some ((decide (c.1>=0)),c.2):=by kernel_rfl
def XB(n){a0 M L K J D F E I o z c}:zr (n+1) a0 M L K J D F E I o z c=ask (jN n (z,c)) λA=>aw (aO n A o.1 5 D) λN=>rG n a0 M L K (be (J+1)) N F E I z c:=by kernel_rfl
def aeL(n){a0}:GH (n+1) a0=aa (a0.1==0) (aa (ay a0.2.1 (bs [])) (some ((a0.2.2.length:Int)==0)) (some false)) (some false):=by kernel_rfl
def aeM(n){a0 o c}:Sn (n+1) a0 o c=z7 n a0 (a0.length:Int) 0 o c:=by kernel_rfl
def aeN(n){a0}:GK (n+1) a0=ask (ga n a0.1) λo=>aa (!o) (some true) (ask (kl n a0.2.2) λc=>some (!c)):=by kernel_rfl
def LV(n){a0 E A o z c}:uf (n+1) a0 E A o z c=uI n a0 E (be (A+1)) o z c:=by kernel_rfl
def aeO(n){a0 c A o z}:GM (n+1) a0 c A o z=some (ay a0.1 c):=by kernel_rfl
def ZC(n){a0 c}:EH (n+1) a0 c=tH n c.2.2 (c.2.2.length:Int) 0 a0 c [] [] [] [] []:=by kernel_rfl
def aeP(n){a0 c}:Ss (n+1) a0 c=Ac n a0 c (a0.length:Int) 0:=by kernel_rfl
def OW(n){a0 o c z}:A5 (n+1) a0 o c z=aa (decide (c<o)) (ab a0 c λr1=>jx z (gS r1 0) (λr2=>aa (gB r2 0) (some false) (A7 n (gS r1 0) a0 o c z)) (A7 n (gS r1 0) a0 o c z)) (some true):=by kernel_rfl
def ZD(n){a0 A o z c}:EJ (n+1) a0 A o z c=tJ n a0 A o z c (a0.length:Int) 0:=by kernel_rfl
def Nu(n){a0 E c A o}:z7 (n+1) a0 E c A o=aa (decide (c<E)) (ab a0 c λr1=>ask (SA n (cN r1 0) A o) λz=>aa z.1 (some (c,z.2)) (z7 n a0 E (be (c+1)) z.2.1 z.2.2)) (some ((-1),A,o)):=by kernel_rfl
def aeQ(n){a0}:gX (n+1) a0=aa (a0.1 !=5) (some (0,(bs []),[],false)) (ab a0.2.2 0 λr1=>some (cB (aK r1 0) true)):=by kernel_rfl
def aeR(n){a0}:qN (n+1) a0=ask (lq n a0) λc=>aa (!c) (some (0,(bs []),[],5)) (some (cB a0 0)):=by kernel_rfl
def aeS(n){a0}:oG (n+1) a0=ab a0 1 λr1=>ask (gX n (aK r1 0)) λz=>ask (vV n) λc=>aa z.2.2.2 (ab a0 0 λr4=>ask (jI n (aK r4 0) (af z)) λo=>some (cB c o)) (some (cB c false)):=by kernel_rfl
def aeT(n){a0}:vR (n+1) a0=ab a0 0 λr1=>ask (gX n (aK r1 0)) λz=>ab a0 1 λr3=>ask (gX n (aK r3 0)) λc=>aa (!z.2.2.2) (some (0,(bs []),[],false)) (aa (!c.2.2.2) (some (0,(bs []),[],false)) (ask (qP n (af z) (af c)) λo=>some (cB o true))):=by kernel_rfl
def aeU(n){a0}:vT (n+1) a0=ab a0 0 λr1=>ask (gX n (aK r1 0)) λc=>aa (!c.2.2.2) (some (0,(bs []),[],false)) (ask (G3 n (af c)) λo=>some o):=by kernel_rfl
def ZE(n){a0}:uT (n+1) a0=ab a0 0 λr1=>ask (j7 n (aK r1 0)) λc=>aa (!c.2.2.2.2.2.2) (some (0,(bs []),[],false)) (ask (G9 n (af c) (af c.2.2.2) a0) λo=>some o):=by kernel_rfl
def ZF(n){a0 A o z c}:EL (n+1) a0 A o z c=tL n a0 A o z c (a0.length:Int) 0:=by kernel_rfl
def aeV(n){a0 c A F E D o z}:Sv (n+1) a0 c A F E D o z=some (ay a0.1 c):=by kernel_rfl
def JN(n){a0 A N M L K J D F E I o z c}:Df (n+1) a0 A N M L K J D F E I o z c=yX n a0 A N M L K J D F (be (E+1)) I o z c:=by kernel_rfl
def aeW(n){a0 c}:GY (n+1) a0 c=ask (Hb n a0 c) λz=>aa z (jE a0 0 (be ((a0.size:Int)-(c.size:Int))) λo=>some o) (some a0):=by kernel_rfl
def Nv(n){a0 A c o}:uW (n+1) a0 A c o=aa (decide (c<A)) (ab a0 c λr1=>ask (Hc n ((gS r1 0),(gD r1 1)) o) λz=>aa z.1 (some (c,z.2)) (uW n a0 A (be (c+1)) z.2)) (some ((-1),o)):=by kernel_rfl
def ZG(n){a0 A o z c}:EO (n+1) a0 A o z c=tO n a0 A o z c (a0.length:Int) 0:=by kernel_rfl
def abQ(n){a0 o z}:PR (n+1) a0 o z=ask (Oq n a0 o z) λc=>some ((decide (c.1>=0)),c.2):=by kernel_rfl
def aeX(n){a0}:BV (n+1) a0=some a0:=by kernel_rfl
def aeY(n){a0 c}:G2 (n+1) a0 c=ask (qP n a0 c) λo=>ask (jv n o) λz=>some z:=by kernel_rfl
def aeZ(n){a0 c o}:G8 (n+1) a0 c o=ask (qP n c a0) λz=>some (cB z true):=by kernel_rfl
def ZH(n){a0 o z c}:Af (n+1) a0 o z c=aa (decide (c<z)) (ab o c λr1=>ab a0 c λr2=>ask (Hi n (iN r1 0) (iN r2 0)) λA=>aa (!A) (some false) (Af n a0 o z (be (c+1)))) (some true):=by kernel_rfl
def DK(n){a0 z c o}:uh (n+1) a0 z c o=aa (decide (z<a0)) (ab o z λ_=>eJ o z.toNat λr1=>ask (l6 n c (gI r1 0)) λA=>aa (!A) (fits (c.length+([[.sc (.int .i64 (gI r1 0))]]:List (List AV)).length) 8 (nJ n a0 z (c++[[.sc (.int .i64 (gI r1 0))]]) o)) (nJ n a0 z c o)) (some c):=by kernel_rfl
def ae0(n){a0 A o z c}:He (n+1) a0 A o z c=aa (ay a0.1 A) (ask (j6 n a0.2 (o,z,c)) λE=>some E) (some false):=by kernel_rfl
def ZI(n){a0 o}:Ou (n+1) a0 o=ask (Ov n a0 o) λc=>some ((decide (c.1>=0)),c.2):=by kernel_rfl
def ae1(n){a0 c}:Hi (n+1) a0 c=aa (ay a0.1 c.1) (ask (vW n a0.2 c.2) λo=>some o) (some false):=by kernel_rfl
def ae2(n){a0 c o}:SB (n+1) a0 c o=ask (BQ n a0 (be (c+1)) true o) λz=>some ((!z.1),c,z.2):=by kernel_rfl
def ZJ(n){a0 c}:Ov (n+1) a0 c=tQ n a0 (a0.length:Int) 0 c:=by kernel_rfl
def KN(n){a0 E z A o}:tP (n+1) a0 E z A o=aa (decide (z<E)) (ab a0 z λr1=>ask (BX n (gS r1 0) A o) λc=>aa c.1 (some (z,c.2)) (tP n a0 E (be (z+1)) (c.2.1,c.2.2.1) c.2.2.2)) (some ((-1),(dQ A o))):=by kernel_rfl
def ae3(n){a0 c}:SE (n+1) a0 c=ab c 0 λr1=>ask (jI n a0 (aK r1 0)) λo=>some ((!o),c):=by kernel_rfl
def ZK(n){a0 c}:Oz (n+1) a0 c=aa ((a0.length:Int)!=(c.length:Int)) (some false) (y7 n c a0 (a0.length:Int) 0):=by kernel_rfl
def KO(n){a0 z c}:y6 (n+1) a0 z c=aa (decide (c<z)) (ab a0 c λr1=>ask (SF n (cN r1 0)) λo=>aa o (some c) (y6 n a0 z (be (c+1)))) (some (-1)):=by kernel_rfl
def V1(n){a0 A F E z c D o}:Kq (n+1) a0 A F E z c D o=ab z.2.2.2.2.2.2 a0 λr1=>ab c.2.2.2.2.2.2 a0 λr2=>ask (qn n (D,o) (cN r1 0) (cN r2 0)) λJ=>aa (!J) (some false) (rH n A (be (F+1)) E z c):=by kernel_rfl
def ak9(n){a0 o z}:ajH (n+1+1) a0 o z=aa (decide (o<a0)) (ab z o λ_=>eJ z o.toNat λr1=>ask (aj9 n (aK r1 1)) λA=>eJ z o.toNat λr3=>ajH (n+1) a0 (be (o+1)) (z.set o.toNat (dO r3 1 (cy A)))) (some z):=by kernel_rfl
def alE(n){a0 o}:akv (n+1) a0 o=aka n o.2.2.2.1 (o.2.2.2.1.length:Int) 0 a0 o:=by kernel_rfl
def alK(n){a0}:aj9 (n+1+1) a0=(ask (akB (n+1) a0.2.2) λx1=>aa (decide ((x1.length:Int)=(x1.length:Int)/\(x1.length:Int)=(x1.length:Int))) (qQ (n+1) (x1.length:Int) 0 (a0.1,a0.2.1) (0,(bs [])) x1 []) none):=by kernel_rfl
def alQ(n){a0 o}:ajV (n+1) a0 o=aa (a0.1 !=o.1) (some false) (aa (!ay a0.2.1 o.2.1) (some false) (aa (((a0.2.2.length:Int):Int)!=(o.2.2.length:Int)) (some false) (ajW n 0 a0 o))):=by kernel_rfl
def eF4(n){a0 o}:F4 (n+1) a0 o=ask (akr n a0 o true) λx1=>some x1:=by kernel_rfl
end
end Go.AI
end

section
namespace Go.AI
open Go Go.Proofs
set_option maxRecDepth 100000
noncomputable section
def P0(n){a0 o z c}:qK (n+1) a0 o z c=aa (decide (c<z)) (ab o c λr1=>vG n (be (a0+(be ((be ((be ((be ((be ((be ((be ((be ((be (1+((gD r1 2).length:Int)))+((gD r1 4).length:Int)))+((gD r1 5).length:Int)))+((gD r1 7).length:Int)))+((gD r1 6).length:Int)))+((gD r1 8).length:Int)))+((gD r1 9).length:Int)))+((gD r1 11).length:Int)))+((gD r1 12).length:Int))))) o z c (gD r1 4) ((gD r1 4).length:Int) 0 (eD r1 0)) (some true):=by kernel_rfl
def ah3(n){a0}:H3 (n+1) a0=aw (H6 n a0) λE=>aw (H7 n E) λA=>aw (H8 n A) λc=>aa (c.2.2.1==1) (some (.ret c)) (aw (H9 n c) λo=>aw (Ia n o) λz=>AH n (z.2.2.2.2.2.2.2.2.2.2.2.2.2.2.2.1.length:Int) 0 z):=by kernel_rfl
def ah4(n){a0}:H7 (n+1) a0=ez a0.1 0 a0.2.1 λA=>ask (BH n A) λz=>fits (z.length+([(jj (H0 a0.2.2 ([],[],a0.2.2.2.2.2.2.2.2.1,[],(HZ a0.2.2.2.2.2.2.2.2.2.2))))]:List (List AV)).length) 288 (ask (oM n (z++[(jj (H0 a0.2.2 ([],[],a0.2.2.2.2.2.2.2.2.1,[],(HZ a0.2.2.2.2.2.2.2.2.2.2))))]) a0.2.1) λc=>ask (BI n c) λo=>AN n a0.2.2.2.2.2.2.1 (a0.2.2.2.2.2.2.1.length:Int) 0 a0 (vE a0.2.2) (z++[(jj (H0 a0.2.2 ([],[],a0.2.2.2.2.2.2.2.2.1,[],(HZ a0.2.2.2.2.2.2.2.2.2.2))))]) c.1 c.2 o):=by kernel_rfl
def SN(n){a0}:ga (n+1) a0=aa (ay a0 (bs [])) (some false) (aa (decide ((a0.size:Int)>16)) (some false) (i6 a0 0 λo=>ask (wA n o) λz=>aa (!z) (some false) (ask (Ig n a0) λc=>aa c (some false) (sy n a0 (a0.size:Int) 0)))):=by kernel_rfl
def ah5(n){a0 o}:oM (n+1) a0 o=ask (jh n a0 o) λc=>AU n (c.length:Int) 0 a0 c [] [] [] []:=by kernel_rfl
def ae4(n){a0 c}:BJ (n+1) a0 c=ask (Gd n a0) λo=>aa (!o) (ask (Ge n c) λz=>some (!z)) (some false):=by kernel_rfl
def ah6(n){a0}:Ie (n+1) a0=ask (Gm n a0) λc=>some (decide ((c:Int)>=0)):=by kernel_rfl
def Aq(n){a0 z c}:sy (n+1) a0 z c=aa (decide (c<z)) (i6 a0 c λA=>ask (Cr n A) λo=>aa (!o) (some false) (sy n a0 z (be (c+1)))) (some true):=by kernel_rfl
def ah7(n){a0}:Ih (n+1) a0=ask (Gn n a0) λc=>some (decide ((c:Int)>=0)):=by kernel_rfl
def ZL(n){a0 K J D F c E I o z}:Ep (n+1) a0 K J D F c E I o z=fits (([[.sc (.string c.1)]]:List (List AV)).length+c.2.length) 16 (ask (j5 n ([[.sc (.string c.1)]]++c.2)) λA=>aa (!A) (ask (Ff n ([[.sc (.string c.1)]]++c.2) z) λL=>aw (aO n (!L.1) c.1 8 D) λN=>Eo n a0 K J N F c ([[.sc (.string c.1)]]++c.2) E I o L.2) (aw (aO n false c.1 8 D) λM=>Eo n a0 K J M F c ([[.sc (.string c.1)]]++c.2) E I o z)):=by kernel_rfl
def ah8(n){a0 o}:iI (n+1) a0 o=ask (Ct n a0 o) λc=>aa (c.2.2.2.2==0) (aa (c.1==2) (some (0,(bs []),[],7)) (some (wt c c.2.2.2.2))) (some (wt c c.2.2.2.2)):=by kernel_rfl
def Nw(n){a0 c o A F z E D}:sd (n+1) a0 c o A F z E D=aa (decide (z<F)) (ab A z λr1=>zO n a0 c o 0 A F z c (c.length:Int) 0 E D (ux r1 0)) (aw (aO n ((c.length:Int)==(o.length:Int)) a0 35 E) λJ=>uy n a0 o c (c.length:Int) 0 J D):=by kernel_rfl
def ae5(n){a0 c}:Gk (n+1) a0 c=ask (ko n c.1 c.2.1) λz=>aa (decide ((z:Int)>=0)) (aw (aO n true a0.1 32 c) λA=>zQ n z A a0) (aw (aO n ((a0.2.1.length:Int)==0) a0.1 32 c) λo=>zQ n z o a0):=by kernel_rfl
def SO(n){a0}:Cr (n+1) a0=ask (wA n a0) λo=>aa o (some true) (ask (Gw n a0) λc=>aa c (some true) (some (a0==95))):=by kernel_rfl
def Nx(n){a0 o z c}:zL (n+1) a0 o z c=aa (decide (z<o)) (ab a0 z λr1=>fits (c.length+([[.sc (.string (gS r1 0))]]:List (List AV)).length) 16 (zL n a0 o (be (z+1)) (c++[[.sc (.string (gS r1 0))]]))) (some c):=by kernel_rfl
def ae6(n){a0 c}:gu (n+1) a0 c=ask (Gy n a0 c) λo=>some (decide ((o:Int)>=0)):=by kernel_rfl
def ZM(n){a0 z c}:zN (n+1) a0 z c=ask (l5 n a0.1 a0.2.1) λA=>ask (Cs n a0.1 a0.2.1) λo=>some (.ret (ahj a0 (z,c,(dQ A o)))):=by kernel_rfl
def ZN(n){a0 c}:Oj (n+1) a0 c=yV n a0 c (a0.length:Int) 0:=by kernel_rfl
def ae7(n){a0 K J A F E D o z c}:vJ (n+1) a0 K J A F E D o z c=uJ n a0 K J A F E D o z c (a0.length:Int) 0:=by kernel_rfl
def Ny(n){a0 L K N J A F M z E c}:kD (n+1) a0 L K N J A F M z E c=ask (iI n z c.2.2) λD=>aw (jH n a0 D.2.2.2 M) λo=>ab o.2.2.2.2.2.2.2.2.2.1 N λr3=>aa c.2.1 (zo n a0 L K J A F o z E (af D) (5,(bs [])) [(cy (aK r3 1))]) (yF n a0 L K J A F o z E (af D) (aK r3 1)):=by kernel_rfl
def Nz(n){a0 F D z c o E}:zP (n+1) a0 F D z c o E=aa (decide (D<F)) (ab a0 D λr1=>fits (o.length+([[.sc (.string (gS r1 0))]]:List (List AV)).length) 16 (zP n a0 F (be (D+1)) z c (o++[[.sc (.string (gS r1 0))]]) E)) (ask (wC n z.1 z.2.1) λJ=>ask (BI n J) λA=>ED n c.2.2.2.1 (c.2.2.2.1.length:Int) 0 z c o E A):=by kernel_rfl
def NA(n){a0 z c}:uB (n+1) a0 z c=aa (decide (c<z)) (ab a0 c λr1=>ask (Ik n (hQ r1 0)) λo=>aa o (some c) (uB n a0 z (be (c+1)))) (some (-1)):=by kernel_rfl
def ZO(n){a0 c}:zS (n+1) a0 c=ask (j5 n c.2.2.1) λo=>aw (aO n (!o) (bs []) 8 a0) λz=>eP (Gx n z):=by kernel_rfl
def OZ(n){a0 F E D o c z}:AZ (n+1) a0 F E D o c z=aa (decide (c<o)) (ab D c λr1=>ask (ga n (gS r1 0)) λA=>aa (!A) (some false) (AZ n a0 F E D o (be (c+1)) z)) (AY n a0 F (be (E+1)) z):=by kernel_rfl
def ah9(n){a0 o}:wB (n+1) a0 o=ask (qZ n a0 o) λc=>PQ n (c.length:Int) 0 a0 [] c:=by kernel_rfl
def P1(n){a0 c}:BN (n+1) a0 c=aa (decide (((be (c.1+1)):Int)<=c.2.1)) (some ((decide (a0<=c.2.2)),(be (c.1+1)),c.2)) (some (false,(be (c.1+1)),c.2)):=by kernel_rfl
def aia(n){a0}:Ij (n+1) a0=emp a0 (both (some []) (fits (([]:List (List AV)).length+a0.length) 8 (some ([]++a0)))) (fits (([]:List (List AV)).length+a0.length) 8 (some ([]++a0))):=by kernel_rfl
def NB(n){a0 E z D A c}:uH (n+1) a0 E z D A c=aa (decide (z<E)) (ab a0 z λr1=>ask (iI n D (cN r1 1)) λo=>aa (o.1 !=5) none (ab o.2.2.1 0 λr3=>fits (c.length+([(cy (aK r3 0))]:List (List AV)).length) 48 (ab o.2.2.1 0 λr4=>ask (np n D (gS r1 0) (aK r4 0)) λF=>uH n a0 E (be (z+1)) (F.1,F.2.1) A (c++[(cy (aK r3 0))])))) (some c):=by kernel_rfl
def ae8(n){a0 J A F E D o z c}:BP (n+1) a0 J A F E D o z c=zY n a0 J A F E D o z c (a0.length:Int) 0:=by kernel_rfl
def V2(n){a0 L K J A F E D o z c}:De (n+1) a0 L K J A F E D o z c=ask (j6 n z c) λN=>aw (aO n N a0 7 E) λM=>oa n a0 L K J A (be (F+1)) M D o:=by kernel_rfl
def ae9(n){a0 E A o z}:sM (n+1) a0 E A o z=ask (np n E A o) λc=>aw (jH n a0 c.2.2 z) λF=>some (.ret (c.1,c.2.1,F)):=by kernel_rfl
def afa(n){a0 c}:Sm (n+1) a0 c=some (ay a0.2.1 c):=by kernel_rfl
def afb(n){a0}:GB (n+1) a0=ask (ga n a0) λc=>some (!c):=by kernel_rfl
def aib(n){a0}:Cw (n+1) a0=A4 n a0.1 (a0.1.length:Int) 0 a0 []:=by kernel_rfl
def Hq(n){a0 c}:qZ (n+1) a0 c=ask (ko n a0 c) λo=>aa (decide ((o:Int)>=0)) (ask (qZ n a0 o) λz=>fits (z.length+([[.sc (.int .i64 c)]]:List (List AV)).length) 8 (some (z++[[.sc (.int .i64 c)]]))) (some [[.sc (.int .i64 c)]]):=by kernel_rfl
def XC(n){a0 L Q K J D A E F I c o z}:ud (n+1) a0 L Q K J D A E F I c o z=ask (vI n E c.2) λR=>aw (aO n R c.1 6 A) λN=>fits (I.length+([[.sc (.string c.1)]]:List (List AV)).length) 16 (aa (!Q) (ask (sL n z) λM=>fits (M.length+([(fA c)]:List (List AV)).length) 64 (zr n a0 L K J D N E F (I++[[.sc (.string c.1)]]) c o (M++[(fA c)]))) (zr n a0 L K J D N E F (I++[[.sc (.string c.1)]]) c o z)):=by kernel_rfl
def XD(n){a0 c}:p9 (n+1) a0 c=aa (c.1==29) (aa a0 (aa (c.2.2.2.1 !=2) (ask (lq n (af c.2.2.2)) λo=>some o) (some false)) (some false)) (aa a0 (ask (GH n (af c.2.2.2)) λz=>some z) (some false)):=by kernel_rfl
def afc(n){a0 c K J A F E D o z}:GI (n+1) a0 c K J A F E D o z=some (ay a0.1 c):=by kernel_rfl
def afd(n){a0 c}:Sp (n+1) a0 c=some (ay a0.1 c):=by kernel_rfl
def ZP(n){a0 L K J A F E D o z c}:zY (n+1) a0 L K J A F E D o z c=aa (decide (c<z)) (ab a0 c λr1=>ask (Su n (ux r1 0) L K J A F E D o) λM=>aa M (some c) (zY n a0 L K J A F E D o z (be (c+1)))) (some (-1)):=by kernel_rfl
def KP(n){a0 z c}:tE (n+1) a0 z c=aa (decide (c<z)) (ab a0 c λr1=>ask (GU n (yr r1 0)) λo=>aa o (some c) (tE n a0 z (be (c+1)))) (some (-1)):=by kernel_rfl
def KQ(n){a0 A N M L K J D F E I o z c}:yX (n+1) a0 A N M L K J D F E I o z c=aa (decide (E<F)) (ab D E λr1=>aa (ay (gS r1 0) c.1) (Df n a0 A N (be (M+1)) L K J D F E I o z c) (Df n a0 A N M L K J D F E I o z c)) (aw (aO n (M==1) a0 35 I) λQ=>rF n a0 A N L K (be (J+1)) Q o z):=by kernel_rfl
def LW(n){a0 z c o}:D1 (n+1) a0 z c o=aa (decide (z<a0)) (ab o z λ_=>eJ o z.toNat λr1=>ask (l6 n c (gI r1 0)) λA=>aa (!A) (fits (c.length+([[.sc (.int .i64 (gI r1 0))]]:List (List AV)).length) 8 (nJ n a0 z (c++[[.sc (.int .i64 (gI r1 0))]]) o)) (nJ n a0 z c o)) (some c):=by kernel_rfl
def afe(n){a0 o z}:vK (n+1) a0 o z=ask (Sz n a0 o z) λc=>some ((decide (c.1>=0)),c.2):=by kernel_rfl
def V3(n){a0 L Q K J D A E F I c o z}:pP (n+1) a0 L Q K J D A E F I c o z=ask (vI n E c.2) λR=>aw (aO n R c.1 6 A) λN=>fits (I.length+([[.sc (.string c.1)]]:List (List AV)).length) 16 (aa (!Q) (ask (sL n z) λM=>fits (M.length+([(fA c)]:List (List AV)).length) 64 (Ko n a0 L K J D N E F (I++[[.sc (.string c.1)]]) c o (M++[(fA c)]))) (Kp n a0 L K J D N E F (I++[[.sc (.string c.1)]]) c o z)):=by kernel_rfl
def aff(n){a0}:St (n+1) a0=some (5,(bs []),[(cy (dQ a0 []))]):=by kernel_rfl
def LX(n){a0 o J O c F a7 I E}:zs (n+1) a0 o J O c F a7 I E=aa (decide (J<o)) (ask (vL n c J a0 O I) λa6=>aa (a6.2.2.2.1 !=0) (some (0,(bs []),[],a6.2.2.2)) (fits (a7.length+([(cy (af a6))]:List (List AV)).length) 48 (aa (J==0) (ask (BR n c.1) λD=>aa D (ask (gX n (af a6)) λz=>aa (!z.2.2.2) (some (0,(bs []),[],7,a6.2.2.2.2)) (mD n ((fA (c.2.1,(af z)))::a0) o J (a6.2.2.2.2.1,a6.2.2.2.2.2.1) c F (a7++[(cy (af a6))]) a6.2.2.2.2.2.2 E)) (mD n a0 o J (a6.2.2.2.2.1,a6.2.2.2.2.2.1) c F (a7++[(cy (af a6))]) a6.2.2.2.2.2.2 E)) (mD n a0 o J (a6.2.2.2.2.1,a6.2.2.2.2.2.1) c F (a7++[(cy (af a6))]) a6.2.2.2.2.2.2 E)))) (aa (c.1==20) (ask (vM n a0 c.2.1) λx4=>aa x4.2.2.2 (some (wt x4 (0,(dQ O I)))) (jx O.1 c.2.1 (λr5=>some (cB (aK r5 0) (0,(dQ O I)))) (some (0,(bs []),[],6,(dQ O I))))) (aa (c.1==29) (ask (vN n (af c.2.2.2) O I) λx6=>aa (!x6.1) (some (0,(bs []),[],6,x6.2)) (ask (jv n (af c.2.2.2)) λx7=>ask (qN n x7) λx8=>some (wu x8 x6.2))) (aa (c.1==0) none (aa (c.1==1) (ask (kX n a7 2 (bs [])) λx9=>bZ n x9.2.2.2 O F (af x9) I E) (aa (c.1==2) (ask (kX n a7 2 (bs [])) λoO=>bZ n oO.2.2.2 O F (af oO) I E) (aa (c.1==3) (ask (cF n a7 2 (bs []) 2) λoP=>bZ n oP.2.2.2 O F (af oP) I E) (aa (c.1==4) (ask (cF n a7 2 (bs []) 2) λoQ=>bZ n oQ.2.2.2 O F (af oQ) I E) (aa (c.1==5) (ask (cF n a7 2 (bs []) 2) λoR=>bZ n oR.2.2.2 O F (af oR) I E) (aa (c.1==6) (ask (cF n a7 2 (bs []) 2) λoS=>bZ n oS.2.2.2 O F (af oS) I E) (aa (c.1==7) (ask (cF n a7 2 (bs []) 2) λoT=>bZ n oT.2.2.2 O F (af oT) I E) (aa (c.1==8) (ask (oE n a7) λoU=>bZ n oU.2.2.2 O F (af oU) I E) (aa (c.1==9) (ask (oE n a7) λoV=>bZ n oV.2.2.2 O F (af oV) I E) (aa (c.1==10) (ask (oF n a7) λoW=>bZ n oW.2.2.2 O F (af oW) I E) (aa (c.1==11) (ask (oF n a7) λoX=>bZ n oX.2.2.2 O F (af oX) I E) (aa (c.1==12) (ask (cF n a7 2 (bs []) 1) λoY=>bZ n oY.2.2.2 O F (af oY) I E) (aa (c.1==13) (ask (cF n a7 2 (bs []) 1) λoZ=>bZ n oZ.2.2.2 O F (af oZ) I E) (aa (c.1==14) (ask (cF n a7 2 (bs []) 1) λo1=>bZ n o1.2.2.2 O F (af o1) I E) (aa (c.1==15) (ask (cF n a7 2 (bs []) 1) λo3=>bZ n o3.2.2.2 O F (af o3) I E) (aa (c.1==16) (ask (oG n a7) λo4=>bZ n o4.2.2.2 O F (af o4) I E) (aa (c.1==17) (ask (oG n a7) λo5=>bZ n o5.2.2.2 O F (af o5) I E) (aa (c.1==18) (ask (vO n a7) λo6=>bZ n o6.2.2.2 O F (af o6) I E) (aa (c.1==19) (ask (kX n a7 1 (bs [])) λo7=>bZ n o7.2.2.2 O F (af o7) I E) (aa (c.1==20) none (aa (c.1==21) (ask (cF n a7 1 (bs []) 1) λo8=>bZ n o8.2.2.2 O F (af o8) I E) (aa (c.1==22) (ask (cF n a7 1 (bs []) 1) λo9=>bZ n o9.2.2.2 O F (af o9) I E) (aa (c.1==23) (ask (cF n a7 1 (bs []) 1) λpa=>bZ n pa.2.2.2 O F (af pa) I E) (aa (c.1==24) (ask (cF n a7 1 (bs []) 1) λpc=>bZ n pc.2.2.2 O F (af pc) I E) (aa (c.1==25) (ask (cF n a7 1 (bs []) 1) λpd=>bZ n pd.2.2.2 O F (af pd) I E) (aa (c.1==26) (ask (cF n a7 1 (bs []) 1) λpe=>bZ n pe.2.2.2 O F (af pe) I E) (aa (c.1==27) (ask (vP n a7) λpf=>bZ n pf.2.2.2 O F (af pf) I E) (aa (c.1==28) (ask (vQ n a7) λpg=>bZ n pg.2.2.2 O F (af pg) I E) (aa (c.1==29) none (aa (c.1==30) (ask (uN n a7 5 (bs []) [(cy (1,(bs []),[]))] 1) λpk=>bZ n pk.2.2.2 O F (af pk) I E) (aa (c.1==31) (ask (kG n a7) λpo=>bZ n po.2.2.2 O F (af po) I E) (aa (c.1==32) (ask (kG n a7) λpq=>bZ n pq.2.2.2 O F (af pq) I E) (aa (c.1==33) (ask (kG n a7) λpv=>bZ n pv.2.2.2 O F (af pv) I E) (aa (c.1==34) (ask (vR n a7) λpw=>bZ n pw.2.2.2 O F (af pw) I E) (aa (c.1==35) (ask (vS n a7) λpx=>bZ n px.2.2.2 O F (af px) I E) (aa (c.1==36) (ask (uO n a7) λpy=>bZ n py.2.2.2 O F (af py) I E) (aa (c.1==37) (ask (oH n a7) λpz=>bZ n pz.2.2.2 O F (af pz) I E) (aa (c.1==38) (ask (oH n a7) λpA=>bZ n pA.2.2.2 O F (af pA) I E) (aa (c.1==39) (ask (od n a7) λpB=>bZ n pB.2.2.2 O F (af pB) I E) (aa (c.1==40) (ask (od n a7) λpC=>bZ n pC.2.2.2 O F (af pC) I E) (aa (c.1==41) (ask (gQ n a7) λpD=>bZ n pD.2.2.2 O F (af pD) I E) (aa (c.1==42) (ask (gQ n a7) λA=>bZ n A.2.2.2 O F (af A) I E) (aa (c.1==43) (ask (gQ n a7) λU=>bZ n U.2.2.2 O F (af U) I E) (aa (c.1==44) (ask (gQ n a7) λX=>bZ n X.2.2.2 O F (af X) I E) (aa (c.1==45) (ask (gQ n a7) λY=>bZ n Y.2.2.2 O F (af Y) I E) (aa (c.1==46) (ask (vT n a7) λV=>bZ n V.2.2.2 O F (af V) I E) (aa (c.1==47) (ask (uP n a7) λZ=>bZ n Z.2.2.2 O F (af Z) I E) (aa (c.1==48) (ask (oe n a7) λT=>bZ n T.2.2.2 O F (af T) I E) (aa (c.1==49) (ask (oe n a7) λS=>bZ n S.2.2.2 O F (af S) I E) (aa (c.1==50) (ask (uQ n a7) λR=>bZ n R.2.2.2 O F (af R) I E) (aa (c.1==51) (ask (uR n a7) λQ=>bZ n Q.2.2.2 O F (af Q) I E) (aa (c.1==52) (ask (uS n a7) λa2=>bZ n a2.2.2.2 O F (af a2) I E) (aa (c.1==53) (ask (uT n a7) λN=>bZ n N.2.2.2 O F (af N) I E) (aa (c.1==54) (ask (uU n a7) λM=>bZ n M.2.2.2 O F (af M) I E) (aa (c.1==55) (ask (uV n a7) λL=>bZ n L.2.2.2 O F (af L) I E) (aa (c.1==56) (ask (vU n a7) λK=>bZ n K.2.2.2 O F (af K) I E) none))))))))))))))))))))))))))))))))))))))))))))))))))))))))))):=by kernel_rfl
def afg(n){a0 o c}:kX (n+1) a0 o c=some (o,c,[],true):=by kernel_rfl
def afh(n){a0}:vO (n+1) a0=ab a0 0 λr1=>ask (BS n (aK r1 0)) λc=>ab a0 0 λr3=>aa ((gI r3 0)==5) (ask (qO n a0) λo=>some (cB c o)) (some (cB c false)):=by kernel_rfl
def afi(n){a0}:vS (n+1) a0=ab a0 0 λr1=>ask (j7 n (aK r1 0)) λc=>aa (!c.2.2.2.2.2.2) (some (0,(bs []),[],false)) (ask (GZ n (af c) (af c.2.2.2) a0) λo=>some o):=by kernel_rfl
def ZQ(n){a0}:uP (n+1) a0=ab a0 0 λr1=>ask (gX n (aK r1 0)) λc=>aa (!c.2.2.2) (some (0,(bs []),[],false)) (ask (G4 n (af c)) λo=>some o):=by kernel_rfl
def ZR(n){a0}:uU (n+1) a0=ab a0 0 λr1=>ask (j7 n (aK r1 0)) λc=>aa (!c.2.2.2.2.2.2) (some (0,(bs []),[],false)) (ask (Ha n (af c) (af c.2.2.2) a0) λo=>some o):=by kernel_rfl
def ZS(n){a0 A o z c}:EM (n+1) a0 A o z c=tM n a0 A o z c (a0.length:Int) 0:=by kernel_rfl
def afj(n){a0 c}:Sw (n+1) a0 c=aa ((a0.length:Int)!=(c.length:Int)) (some false) (Af n c a0 (a0.length:Int) 0):=by kernel_rfl
def afk(n){a0 c o z}:GW (n+1) a0 c o z=Aj n a0 c.2.2.2.1 (c.2.2.2.1.length:Int) 0 c o z z.2.2.2.2.2.2.2.2.2.2.2.2.2.2.2.2.2.2.2.2 [] []:=by kernel_rfl
def ZT(n){a0 o}:On (n+1) a0 o=ask (Oo n a0 o) λc=>some ((decide (c.1>=0)),c.2):=by kernel_rfl
def KR(n){a0 F E D o z c}:tI (n+1) a0 F E D o z c=aa (decide (c<z)) (ab a0 c λr1=>ask (He n (du r1 0) F E D o) λA=>aa A (some c) (tI n a0 F E D o z (be (c+1)))) (some (-1)):=by kernel_rfl
def afl(n){a0 c o}:SA (n+1) a0 c o=ask (BL n a0 (be (c+1)) o) λz=>some ((!z.1),c,z.2):=by kernel_rfl
def ZU(n){a0 c}:Ad (n+1) a0 c=ask (Ot n a0 c) λo=>some (decide ((o:Int)>=0)):=by kernel_rfl
def afm(n){a0 c}:qP (n+1) a0 c=ask (BU n a0 c) λo=>ask (jv n o) λz=>some z:=by kernel_rfl
def afn(n){a0}:G3 (n+1) a0=ask (jv n a0) λo=>ask (jv n o) λc=>some (cB c true):=by kernel_rfl
def afo(n){a0 A o}:G9 (n+1) a0 A o=ab o 1 λr1=>ask (gX n (aK r1 0)) λz=>ask (jv n A) λc=>aa z.2.2.2 (ask (jI n (af z) a0) λE=>some (cB c E)) (some (cB c false)):=by kernel_rfl
def ZV(n){a0 o z c}:Ag (n+1) a0 o z c=aa (decide (c<z)) (ab o c λr1=>ab a0 c λr2=>ask (Hj n (eZ r1 0) (eZ r2 0)) λA=>aa (!A) (some false) (Ag n a0 o z (be (c+1)))) (some true):=by kernel_rfl
def afp(n){a0 c}:Hb (n+1) a0 c=aa (decide ((a0.size:Int)>=(c.size:Int))) (jE a0 (be ((a0.size:Int)-(c.size:Int))) (a0.size:Int) λo=>some (ay o c)) (some false):=by kernel_rfl
def afq(n){a0 c A o z}:Hf (n+1) a0 c A o z=some (ay a0.1 c):=by kernel_rfl
def afr(n):BW (n+1)=some (1,(bs []),[]):=by kernel_rfl
def afs(n){a0 c}:Hj (n+1) a0 c=aa (ay a0.1 c.1) (aa (a0.2.1==c.2.1) (ask (vW n a0.2.2 c.2.2) λo=>some o) (some false)) (some false):=by kernel_rfl
def aft(n){a0 c}:vW (n+1) a0 c=ask (Hm n [(th a0),(th c)]) λo=>aa o (ask (Hn n a0 c) λz=>some z) (some false):=by kernel_rfl
def afu(n){a0 c}:SD (n+1) a0 c=some (a0.1 !=c):=by kernel_rfl
def ZW(n){a0}:Ox (n+1) a0=ask (ET n a0) λc=>some (decide ((c:Int)>=0)):=by kernel_rfl
def ZX(n){a0 c z}:qn (n+1) a0 c z=aa (c.1 !=z.1) (some false) (aa (c.2.2.1 !=z.2.2.1) (some false) (ask (sO n (af c.2.2.2) (af z.2.2.2)) λo=>aa (!o) (some false) (aa ((c.2.2.2.2.2.2.length:Int)!=(z.2.2.2.2.2.2.length:Int)) (some false) (aa (c.1==20) (aa (zI a0.1) (aa (zI a0.2) (aa (((ou a0.1 c.2.1):Int)==(ou a0.2 z.2.1)) (aa (decide (((ou a0.1 c.2.1):Int)>=0)) (some true) (some (ay c.2.1 z.2.1))) (some false)) none) none) (rH n (c.2.2.2.2.2.2.length:Int) 0 a0 c z))))):=by kernel_rfl
def WJ(n){a0 o z c}:y7 (n+1) a0 o z c=aa (decide (c<z)) (ab o c λr1=>ab a0 c λr2=>ask (sO n (aK r1 0) (aK r2 0)) λA=>aa (!A) (some false) (y7 n a0 o z (be (c+1)))) (some true):=by kernel_rfl
def V4(n){a0 F E D z c o}:yI (n+1) a0 F E D z c o=ab z.2.2.2.2.2.2 a0 λr1=>ab c.2.2.2.2.2.2 a0 λr2=>ask (qn n o (cN r1 0) (cN r2 0)) λA=>aa (!A) (some false) (rH n F (be (E+1)) D z c):=by kernel_rfl
def alB(n){a0 D A z o}:akb (n+1) a0 D A z o=aa (decide (A<D)) (ab a0 A λr1=>ask (Cq n z (cN r1 1)) λE=>aa ((E:Int)!=0) (some false) (akb n a0 D (be (A+1)) z o)) (ajU n o.2.2.2.2.2.2 (o.2.2.2.2.2.2.length:Int) 0 z):=by kernel_rfl
def alF(n){a0 E z o}:ajU (n+1) a0 E z o=aa (decide (z<E)) (ab a0 z λr1=>ask (iI n o (cN r1 2)) λD=>ask (akH n o (gS r1 0)) λA=>aa (gB r1 1) (lH n D.2.2.2 A.2.2.2 a0 E z o (af D) (5,(bs [])) [(cy (af A))]) (A9 n D.2.2.2 A.2.2.2 a0 E z o (af D) (af A))) (some true):=by kernel_rfl
def alL(n){a0 o}:akH (n+1) a0 o=ask (jN n a0) λx1=>aa (!x1) (some (0,(bs []),[],false)) (ask (BO n a0) λz=>jx z o (λr3=>ask (oN n (aK r3 0)) λx4=>some (cB x4 true)) (ask (aly n (0,(bs []))) λx5=>some (cB x5 false))):=by kernel_rfl
def alR(n){a0 o A}:akq (n+1) a0 o A=ask (l4 n a0 o A) λx1=>aa ((x1:Int)!=0) (some ([],[],x1)) (ask (oM n a0 o) λz=>ask (jN n z) λD=>aa (!D) (some ([],[],5)) (ask (ajy n z) λx4=>some (dQ x4 0))):=by kernel_rfl
def alV(n){a0 o A}:aks (n+1) a0 o A=ask (l4 n a0 o A) λx1=>aa ((x1:Int)!=0) (some ([],[],x1)) (ask (Cs n a0 o) λz=>ask (jN n z) λD=>aa (!D) (some ([],[],5)) (ask (ajy n z) λx4=>some (dQ x4 0))):=by kernel_rfl
end
end Go.AI
end
