/- A part of the proof. -/
import Derived.Test.YteibmaelhdbgfaaGreatDoorPa
set_option linter.all false

namespace Go.AI
open Go
def afE(a0 D F E o z)(h1:bd D)(h4:bd o)(K:∀I,T (λn=>qK n I D F (be (E+1))) bd)(N:0<=z)(M:z<=(o.length:Int)):T (λn=>vH n a0 D F E o (o.length:Int) z) bd:=by
 have hl:=bq h4
 refine T.dx (σ:=Int) (L:=λi s n=>match s with|(a0)=>vH n a0 D F E o (o.length:Int) i) (o.length) (λs=>match s with|(a0)=>True) ?_ ?_ z N M (a0) trivial
 .rintro a0 _
  refine .step (λn=>PX n) (.neg (by simp) ?_)
  refine .ite (λc=>?_) (λc=>?_)
  .replace c:=cO c;exact .ret (bM _)
  simp_all
 .rintro i a0 hi _ O
  refine .step (λn=>PX n) (.pos (by simp;omega) ?_)
  refine .ab (by omega) (by omega) λr1 J=>?_
  refine .ite (λc=>?_) (λc=>?_)
  .replace c:=cO c;exact .ret (bM _)
  .replace c:=eU c;rw[aE (i:=(i:Int)+1) (by omega) (by omega)];simp_all
def afF(a0 D F E o z c)(h1:bd D)(h4:bd o)(M:bd c)(K:∀I,T (λn=>qK n I D F (be (E+1))) bd)(O:0<=z)(N:z<=(o.length:Int)):T (λn=>vG n a0 D F E o (o.length:Int) z c) bd:=by
 have hl:=bq h4
 refine T.dx (σ:=Int) (L:=λi s n=>match s with|(a0)=>vG n a0 D F E o (o.length:Int) i c) (o.length) (λs=>match s with|(a0)=>True) ?_ ?_ z O N (a0) trivial
 .rintro a0 _;refine .step (λn=>PZ n) (.neg (by simp) ?_);exact(afE _ _ _ _ _ _ h1 (aB c.2.2.2.2.2.2.2.2.2.2.2.2 (aB c.2.2.2.2.2.2.2.2.2.2.2 (aB c.2.2.2.2.2.2.2.2.2.2 (aB c.2.2.2.2.2.2.2.2.2 (aB c.2.2.2.2.2.2.2.2 (aB c.2.2.2.2.2.2.2 (aB c.2.2.2.2.2.2 (aB c.2.2.2.2.2 (aB c.2.2.2.2 (aB c.2.2.2 (aB c.2.2 (aB c.2 (aB c M))))))))))))) (λI=>K _) (by omega) (by omega))
 .rintro i a0 hi _ Q;refine .step (λn=>PZ n) (.pos (by simp;omega) ?_);refine .ab (by omega) (by omega) λr1 J=>?_;rw[aE (i:=(i:Int)+1) (by omega) (by omega)];simp_all
def afG(a0 o z)(h1:bd o)(E:0<=z)(D:z<=(o.length:Int)):T (λn=>qK n a0 o (o.length:Int) z) bd:=by
 have hl:=bq h1
 refine T.dx (σ:=Int) (L:=λi s n=>match s with|(a0)=>qK n a0 o (o.length:Int) i) (o.length) (λs=>match s with|(a0)=>True) ?_ ?_ z E D (a0) trivial
 .rintro a0 _;refine .step (λn=>P0 n) (.neg (by simp) ?_);exact .ret (bM _)
 .rintro i a0 hi _ I;refine .step (λn=>P0 n) (.pos (by simp;omega) ?_);refine .ab (by omega) (by omega) λr1 c=>?_;exact(afF _ _ _ _ _ _ _ h1 (ai (an h1 c) 4) ⟨(de _),(ak (an h1 c) 1),(ai (an h1 c) 2),(ak (an h1 c) 3),(ai (an h1 c) 4),(ai (an h1 c) 5),(ai (an h1 c) 6),(ai (an h1 c) 7),(ai (an h1 c) 8),(ai (an h1 c) 9),(bM _),(ai (an h1 c) 11),(ai (an h1 c) 12),(ai (an h1 c) 13)⟩ (λF=>by rw[aE (i:=(i:Int)+1) (by omega) (by omega)];simp_all) (by omega) (by omega))
def Uc(a0)(h0:bd a0):T (λn=>F7 n a0) bd:=by refine .step (λn=>eF7 n) ?_;exact(afG _ _ _ h0 (by omega) (by omega))
def afH(a0 E K D J I z o c F)(h0:bd a0)(h1:bd E)(h3:bd D)(h6:bd z)(M:bd o)(L:bd c):T (λn=>GI n a0 E K D J I z o c F) bd:=by refine .step (λn=>afc n) ?_;exact .ret (bM _)
def ZZ(a0 I N F M K E D z J o)(h0:bd a0)(h1:bd I)(h3:bd F)(h6:bd E)(R:bd D)(Q:bd z)(V:0<=o)(U:o<=(a0.length:Int)):T (λn=>uE n a0 I N F M K E D z J (a0.length:Int) o) (λr=>-1<=r/\r<(a0.length:Int)):=by
 have hl:=bq h0
 refine T.dx (σ:=Unit) (L:=λi _ n=>uE n a0 I N F M K E D z J (a0.length:Int) i) (a0.length) (λ_=>True) ?_ ?_ o V U () trivial
 .rintro _ _;refine .step (λn=>Nb n) (.neg (by simp) ?_);exact .ret ⟨by omega,by omega⟩
 .rintro i _ hi _ Y
  refine .step (λn=>Nb n) (.pos (by simp;omega) ?_)
  refine .ab (by omega) (by omega) λr1 c=>?_
  refine .ask (afH _ _ _ _ _ _ _ _ _ _ ⟨(ak (an h0 c) 0),(de _),(ak (an h0 c) 2),(de _),(de _),(ak (an h0 c) 5),(ai (an h0 c) 6),(ai (an h0 c) 7),(bM _)⟩ h1 h3 h6 R Q) λX O=>?_
  refine .ite (λS=>?_) (λS=>?_)
  .exact .ret ⟨by omega,by omega⟩
  .rw[aE (i:=(i:Int)+1) (by omega) (by omega)];simp_all
def afI(a0 E M D L K z o c J)(h0:bd a0)(h1:bd E)(h3:bd D)(h6:bd z)(I:bd o)(F:bd c):T (λn=>Gq n a0 E M D L K z o c J) (λr=>-1<=r/\r<(a0.length:Int)):=by refine .step (λn=>adz n) ?_;exact(ZZ _ _ _ _ _ _ _ _ _ _ _ h0 h1 h3 h6 I F (by omega) (by omega))
def afJ(a0 I O F N M E D z L)(h0:bd a0)(h1:bd I)(h3:bd F)(h6:bd E)(K:bd D)(J:bd z):T (λn=>Gc n a0 I O F N M E D z L) bd:=by refine .step (λn=>adU n) ?_;refine .ask (afI _ _ _ _ _ _ _ _ _ _ h0 h1 h3 h6 K J) λo c=>?_;replace c:-1<=o/\o<((a0).length:Int):=c;exact .ret (bM _)
def afK(a0 c)(h0:bd a0)(h1:bd c):T (λn=>Hc n a0 c) bd:=by refine .step (λn=>aez n) ?_;exact .ret ⟨(bM _),h1⟩
def Z0(a0 D c)(h0:bd a0)(h3:bd c)(K:0<=D)(J:D<=(a0.length:Int)):T (λn=>uW n a0 (a0.length:Int) D c) bd:=by
 have hl:=bq h0
 refine T.dx (σ:=ByteArray) (L:=λi s n=>match s with|(c)=>uW n a0 (a0.length:Int) i c) (a0.length) (λs=>match s with|(c)=>bd c) ?_ ?_ D K J (c) h3
 .rintro c h3;refine .step (λn=>Nv n) (.neg (by simp) ?_);exact .ret ⟨(de _),h3⟩
 .rintro i c hi h3 F
  refine .step (λn=>Nv n) (.pos (by simp;omega) ?_)
  refine .ab (by omega) (by omega) λr1 z=>?_
  refine .ask (afK _ _ ⟨(ak (an h0 z) 0),(ai (an h0 z) 1)⟩ h3) λE o=>?_
  refine .ite (λI=>?_) (λI=>?_)
  .exact .ret ⟨(de _),(aB E o)⟩
  .rw[aE (i:=(i:Int)+1) (by omega) (by omega)];exact F (E.2) (aB E o)
def afL(a0 c)(h0:bd a0)(h1:bd c):T (λn=>GP n a0 c) bd:=by refine .step (λn=>adE n) ?_;exact(Z0 _ _ _ h0 h1 (by omega) (by omega))
def afM(a0 o)(h0:bd a0)(h1:bd o):T (λn=>GD n a0 o) bd:=by refine .step (λn=>aeK n) ?_;refine .ask (afL _ _ h0 h1) λz c=>?_;exact .ret ⟨(bM _),(aB z c)⟩
def Z1(a0 z o)(h0:bd a0)(h3:bd o)(I:0<=z)(F:z<=(a0.length:Int)):T (λn=>uD n a0 (a0.length:Int) z o) bd:=by
 have hl:=bq h0
 refine T.dx (σ:=Unit) (L:=λi _ n=>uD n a0 (a0.length:Int) i o) (a0.length) (λ_=>True) ?_ ?_ z I F () trivial
 .rintro _ _;refine .step (λn=>Nt n) (.neg (by simp) ?_);exact .ret (bM _)
 .rintro i _ hi _ K
  refine .step (λn=>Nt n) (.pos (by simp;omega) ?_)
  refine .ab (by omega) (by omega) λr1 D=>?_
  refine .ask (afM _ _ (dc o h3) (ak (an h0 D) 0)) λJ E=>?_
  refine .ite (λc=>?_) (λc=>?_)
  .replace c:=qR c;exact .ret (bM _)
  .replace c:=iD c;rw[aE (i:=(i:Int)+1) (by omega) (by omega)];simp_all
def Fm(a0 o)(h0:bd a0)(h1:bd o):T (λn=>vI n a0 o) bd:=by refine .step (λn=>ada n) ?_;refine .ask (SW _ h1) λz c=>?_;exact(Z1 _ _ _ c h0 (by omega) (by omega))
def afN(a0)(h0:bd a0):T (λn=>GJ n a0) bd:=by
 refine .step (λn=>aen n) ?_
 refine .ask (Hs _ _ (dc a0 h0) dz) λI o=>?_
 refine .ask (lW _ o) λF D=>?_
 refine .ite (λc=>?_) (λc=>?_)
 .replace c:=qR c;exact .ret (bM _)
 .replace c:=iD c;refine .ask (Ht _ (aB a0 h0)) λE z=>?_;exact .ret (bM _)
def Z2(a0 o)(h0:bd a0)(F:0<=o)(E:o<=(a0.length:Int)):T (λn=>uF n a0 (a0.length:Int) o) (λr=>-1<=r/\r<(a0.length:Int)):=by
 have hl:=bq h0
 refine T.dx (σ:=Unit) (L:=λi _ n=>uF n a0 (a0.length:Int) i) (a0.length) (λ_=>True) ?_ ?_ o F E () trivial
 .rintro _ _;refine .step (λn=>Nc n) (.neg (by simp) ?_);exact .ret ⟨by omega,by omega⟩
 .rintro i _ hi _ J
  refine .step (λn=>Nc n) (.pos (by simp;omega) ?_)
  refine .ab (by omega) (by omega) λr1 c=>?_
  refine .ask (afN _ ⟨(ak (an h0 c) 0),(de _),(ak (an h0 c) 2),(de _),(de _),(ak (an h0 c) 5),(ai (an h0 c) 6),(ai (an h0 c) 7)⟩) λI z=>?_
  refine .ite (λD=>?_) (λD=>?_)
  .exact .ret ⟨by omega,by omega⟩
  .rw[aE (i:=(i:Int)+1) (by omega) (by omega)];simp_all
def afO(a0)(h0:bd a0):T (λn=>Gr n a0) (λr=>-1<=r/\r<(a0.length:Int)):=by refine .step (λn=>aeg n) ?_;exact(Z2 _ _ h0 (by omega) (by omega))
def afP(a0)(h0:bd a0):T (λn=>Gd n a0) bd:=by refine .step (λn=>ac7 n) ?_;refine .ask (afO _ h0) λo c=>?_;replace c:-1<=o/\o<((a0).length:Int):=c;exact .ret (bM _)
def afS(a0 E K J D I F z o c)(h0:bd a0)(h1:bd E)(h4:bd D)(N:bd z)(M:bd o)(L:bd c):T (λn=>GS n a0 E K J D I F z o c) bd:=by refine .step (λn=>adK n) ?_;exact .ret (bM _)
def WL(a0 I N M F K J E D z o)(h0:bd a0)(h1:bd I)(h4:bd F)(S:bd E)(R:bd D)(Q:bd z)(X:0<=o)(V:o<=(a0.length:Int)):T (λn=>tD n a0 I N M F K J E D z (a0.length:Int) o) (λr=>-1<=r/\r<(a0.length:Int)):=by
 have hl:=bq h0
 refine T.dx (σ:=Unit) (L:=λi _ n=>tD n a0 I N M F K J E D z (a0.length:Int) i) (a0.length) (λ_=>True) ?_ ?_ o X V () trivial
 .rintro _ _;refine .step (λn=>KE n) (.neg (by simp) ?_);exact .ret ⟨by omega,by omega⟩
 .rintro i _ hi _ Z
  refine .step (λn=>KE n) (.pos (by simp;omega) ?_)
  refine .ab (by omega) (by omega) λr1 c=>?_
  refine .ask (afS _ _ _ _ _ _ _ _ _ _ ⟨(ak (an h0 c) 0),(bM _),(de _),(ak (an h0 c) 3),(de _),(de _),(ak (an h0 c) 6),(ai (an h0 c) 7),(ai (an h0 c) 8)⟩ h1 h4 S R Q) λY O=>?_
  refine .ite (λU=>?_) (λU=>?_)
  .exact .ret ⟨by omega,by omega⟩
  .rw[aE (i:=(i:Int)+1) (by omega) (by omega)];simp_all
def Z4(a0 E N M D L K z o c)(h0:bd a0)(h1:bd E)(h4:bd D)(J:bd z)(I:bd o)(F:bd c):T (λn=>EA n a0 E N M D L K z o c) (λr=>-1<=r/\r<(a0.length:Int)):=by refine .step (λn=>Za n) ?_;exact(WL _ _ _ _ _ _ _ _ _ _ _ h0 h1 h4 J I F (by omega) (by omega))
def Z5(a0 I Q O F N M E D z)(h0:bd a0)(h1:bd I)(h4:bd F)(L:bd E)(K:bd D)(J:bd z):T (λn=>uz n a0 I Q O F N M E D z) bd:=by refine .step (λn=>YL n) ?_;refine .ask (Z4 _ _ _ _ _ _ _ _ _ _ h0 h1 h4 L K J) λo c=>?_;replace c:-1<=o/\o<((a0).length:Int):=c;exact .ret (bM _)
def afT(a0)(h0:bd a0):T (λn=>GB n a0) bd:=by refine .step (λn=>afb n) ?_;refine .ask (lW _ h0) λo c=>?_;exact .ret (bM _)
def Z6(a0 c)(h0:bd a0)(F:0<=c)(E:c<=(a0.length:Int)):T (λn=>uC n a0 (a0.length:Int) c) (λr=>-1<=r/\r<(a0.length:Int)):=by
 have hl:=bq h0
 refine T.dx (σ:=Unit) (L:=λi _ n=>uC n a0 (a0.length:Int) i) (a0.length) (λ_=>True) ?_ ?_ c F E () trivial
 .rintro _ _;refine .step (λn=>Ni n) (.neg (by simp) ?_);exact .ret ⟨by omega,by omega⟩
 .rintro i _ hi _ J
  refine .step (λn=>Ni n) (.pos (by simp;omega) ?_)
  refine .ab (by omega) (by omega) λr1 o=>?_
  refine .ask (afT _ (ak (an h0 o) 0)) λI z=>?_
  refine .ite (λD=>?_) (λD=>?_)
  .exact .ret ⟨by omega,by omega⟩
  .rw[aE (i:=(i:Int)+1) (by omega) (by omega)];simp_all
def afU(a0)(h0:bd a0):T (λn=>Gn n a0) (λr=>-1<=r/\r<(a0.length:Int)):=by refine .step (λn=>ac9 n) ?_;exact(Z6 _ _ h0 (by omega) (by omega))
def SX(a0)(h0:bd a0):T (λn=>Cu n a0) bd:=by refine .step (λn=>ahK n) ?_;refine .ask (Hs _ _ h0 dz) λD c=>?_;refine .ask (lW _ c) λz o=>?_;exact .ret (bM _)
def aie(a0)(h0:bd a0):T (λn=>wD n a0) bd:=by
 refine .step (λn=>SL n) ?_
 refine .ask (B0 _ h0) λE o=>?_
 refine .ite (λz=>?_) (λz=>?_)
 .refine .ask (SR _ _ h0) λD c=>?_;exact .ret (bM _)
 .exact .ret (bM _)
def afV(a0 c)(h0:bd a0)(h1:bd c):T (λn=>Ho n a0 c) bd:=by refine .step (λn=>aea n) ?_;exact .ret ⟨(bM _),h1⟩
def WM(a0 D c)(h0:bd a0)(h3:bd c)(K:0<=D)(J:D<=(a0.length:Int)):T (λn=>tR n a0 (a0.length:Int) D c) bd:=by
 have hl:=bq h0
 refine T.dx (σ:=ByteArray) (L:=λi s n=>match s with|(c)=>tR n a0 (a0.length:Int) i c) (a0.length) (λs=>match s with|(c)=>bd c) ?_ ?_ D K J (c) h3
 .rintro c h3;refine .step (λn=>KL n) (.neg (by simp) ?_);exact .ret ⟨(de _),h3⟩
 .rintro i c hi h3 F
  refine .step (λn=>KL n) (.pos (by simp;omega) ?_)
  refine .ab (by omega) (by omega) λr1 z=>?_
  refine .ask (afV _ _ ⟨(ak (an h0 z) 0),(ai (an h0 z) 1)⟩ h3) λE o=>?_
  refine .ite (λI=>?_) (λI=>?_)
  .exact .ret ⟨(de _),(aB E o)⟩
  .rw[aE (i:=(i:Int)+1) (by omega) (by omega)];exact F (E.2) (aB E o)
def Z7(a0 c)(h0:bd a0)(h1:bd c):T (λn=>ES n a0 c) bd:=by refine .step (λn=>Zl n) ?_;exact(WM _ _ _ h0 h1 (by omega) (by omega))
def Z8(a0 o)(h0:bd a0)(h1:bd o):T (λn=>ER n a0 o) bd:=by refine .step (λn=>Zw n) ?_;refine .ask (Z7 _ _ h0 h1) λz c=>?_;exact .ret ⟨(bM _),(aB z c)⟩
def aif(a0 c)(h0:bd a0)(h1:bd c):T (λn=>Io n a0 c) bd:=by refine .step (λn=>ahL n) ?_;refine .ask (Z8 _ _ (dc a0 h0) h1) λz o=>?_;exact .ret (bM _)
def aih(a0 c)(h0:bd a0)(h1:bd c):T (λn=>Im n a0 c) bd:=by refine .step (λn=>ahV n) ?_;refine .ask (aif _ _ h1 h0) λz o=>?_;exact .ret ⟨(bM _),h1⟩
def WN(a0 z c)(h0:bd a0)(h3:bd c)(K:0<=z)(J:z<=(a0.length:Int)):T (λn=>tN n a0 (a0.length:Int) z c) bd:=by
 have hl:=bq h0
 refine T.dx (σ:=(Rows×Rows)) (L:=λi s n=>match s with|(c)=>tN n a0 (a0.length:Int) i c) (a0.length) (λs=>match s with|(c)=>bd c) ?_ ?_ z K J (c) h3
 .rintro c h3;refine .step (λn=>KA n) (.neg (by simp) ?_);exact .ret ⟨(de _),h3⟩
 .rintro i c hi h3 F
  refine .step (λn=>KA n) (.pos (by simp;omega) ?_)
  refine .ab (by omega) (by omega) λr1 E=>?_
  refine .ask (aih _ _ (ak (an h0 E) 0) h3) λD o=>?_
  refine .ite (λI=>?_) (λI=>?_)
  .exact .ret ⟨(de _),(aB D o)⟩
  .rw[aE (i:=(i:Int)+1) (by omega) (by omega)];exact F (D.2) (aB D o)
def Z9(a0 c)(h0:bd a0)(h1:bd c):T (λn=>EN n a0 c) bd:=by refine .step (λn=>YR n) ?_;exact(WN _ _ _ h0 h1 (by omega) (by omega))
def abZ(a0 o)(h0:bd a0)(h1:bd o):T (λn=>Fj n a0 o) bd:=by refine .step (λn=>abH n) ?_;refine .ask (Z9 _ _ h0 h1) λz c=>?_;exact .ret ⟨(bM _),(aB z c)⟩
def SY(a0 o)(h0:bd a0)(h1:bd o):T (λn=>Cv n a0 o) bd:=by refine .step (λn=>ah1 n) ?_;refine .ask (SW _ h1) λE c=>?_;refine .ask (abZ _ _ c h0) λD z=>?_;exact .ret (bM _)
def afW(a0 z D o c)(h0:bd a0)(h1:bd z)(h3:bd o)(h4:bd c):T (λn=>GM n a0 z D o c) bd:=by refine .step (λn=>aeO n) ?_;exact .ret (bM _)
def WO(a0 E F D z o)(h0:bd a0)(h1:bd E)(h3:bd D)(h4:bd z)(M:0<=o)(K:o<=(a0.length:Int)):T (λn=>tA n a0 E F D z (a0.length:Int) o) (λr=>-1<=r/\r<(a0.length:Int)):=by
 have hl:=bq h0
 refine T.dx (σ:=Unit) (L:=λi _ n=>tA n a0 E F D z (a0.length:Int) i) (a0.length) (λ_=>True) ?_ ?_ o M K () trivial
 .rintro _ _;refine .step (λn=>Kr n) (.neg (by simp) ?_);exact .ret ⟨by omega,by omega⟩
 .rintro i _ hi _ O
  refine .step (λn=>Kr n) (.pos (by simp;omega) ?_)
  refine .ab (by omega) (by omega) λr1 c=>?_
  refine .ask (afW _ _ _ _ _ ⟨(ak (an h0 c) 0),(bM _),(de _),(ak (an h0 c) 3),(de _),(de _),(ak (an h0 c) 6),(ai (an h0 c) 7),(ai (an h0 c) 8)⟩ h1 h3 h4) λN I=>?_
  refine .ite (λJ=>?_) (λJ=>?_)
  .exact .ret ⟨by omega,by omega⟩
  .rw[aE (i:=(i:Int)+1) (by omega) (by omega)];simp_all
def aii(a0)(h0:bd a0):T (λn=>Ih n a0) bd:=by refine .step (λn=>ah7 n) ?_;refine .ask (afU _ h0) λo c=>?_;replace c:-1<=o/\o<((a0).length:Int):=c;exact .ret (bM _)
def afY(a0)(h0:bd a0):T (λn=>GK n a0) bd:=by
 refine .step (λn=>aeN n) ?_
 refine .ask (lW _ (dc a0 h0)) λE z=>?_
 refine .ite (λc=>?_) (λc=>?_)
 .replace c:=qR c;exact .ret (bM _)
 .replace c:=iD c;refine .ask (Ht _ (aB a0.2 (aB a0 h0))) λD o=>?_;exact .ret (bM _)
def aaa(a0 o)(h0:bd a0)(F:0<=o)(E:o<=(a0.length:Int)):T (λn=>uG n a0 (a0.length:Int) o) (λr=>-1<=r/\r<(a0.length:Int)):=by
 have hl:=bq h0
 refine T.dx (σ:=Unit) (L:=λi _ n=>uG n a0 (a0.length:Int) i) (a0.length) (λ_=>True) ?_ ?_ o F E () trivial
 .rintro _ _;refine .step (λn=>Nj n) (.neg (by simp) ?_);exact .ret ⟨by omega,by omega⟩
 .rintro i _ hi _ J
  refine .step (λn=>Nj n) (.pos (by simp;omega) ?_)
  refine .ab (by omega) (by omega) λr1 c=>?_
  refine .ask (afY _ ⟨(ak (an h0 c) 0),(bM _),(de _),(ak (an h0 c) 3),(de _),(de _),(ak (an h0 c) 6),(ai (an h0 c) 7),(ai (an h0 c) 8)⟩) λI z=>?_
  refine .ite (λD=>?_) (λD=>?_)
  .exact .ret ⟨by omega,by omega⟩
  .rw[aE (i:=(i:Int)+1) (by omega) (by omega)];simp_all
def afZ(a0)(h0:bd a0):T (λn=>Gs n a0) (λr=>-1<=r/\r<(a0.length:Int)):=by refine .step (λn=>aeI n) ?_;exact(aaa _ _ h0 (by omega) (by omega))
def af0(a0)(h0:bd a0):T (λn=>Ge n a0) bd:=by refine .step (λn=>adx n) ?_;refine .ask (afZ _ h0) λo c=>?_;replace c:-1<=o/\o<((a0).length:Int):=c;exact .ret (bM _)
def aab(a0 z D o c)(h0:bd a0)(h1:bd z)(h3:bd o)(h4:bd c):T (λn=>Et n a0 z D o c) (λr=>-1<=r/\r<(a0.length:Int)):=by refine .step (λn=>YW n) ?_;exact(WO _ _ _ _ _ _ h0 h1 h3 h4 (by omega) (by omega))
def aac(a0 E F D z)(h0:bd a0)(h1:bd E)(h3:bd D)(h4:bd z):T (λn=>Er n a0 E F D z) bd:=by refine .step (λn=>YU n) ?_;refine .ask (aab _ _ _ _ _ h0 h1 h3 h4) λo c=>?_;replace c:-1<=o/\o<((a0).length:Int):=c;exact .ret (bM _)
def sC(a0 c)(h0:bd a0)(h1:bd c):T (λn=>j6 n a0 c) bd:=by
 refine .step (λn=>adA n) ?_
 refine .ask (B0 _ h0) λK D=>?_
 refine .ite (λE=>?_) (λE=>?_)
 .refine .ask (B0 _ h1) λJ z=>?_
  refine .ite (λF=>?_) (λF=>?_)
  .refine .ask (P4 _ _ h0 h1) λI o=>?_;exact .ret (bM _)
  .exact .ret (bM _)
 .exact .ret (bM _)
def af2(a0 E J D I F z o c)(h0:bd a0)(h1:bd E)(h3:bd D)(h6:bd z)(L:bd o)(K:bd c):T (λn=>GR n a0 E J D I F z o c) bd:=by refine .step (λn=>aet n) ?_;exact .ret (bM _)
def WS(a0 I M F K J E D z o)(h0:bd a0)(h1:bd I)(h3:bd F)(h6:bd E)(Q:bd D)(O:bd z)(U:0<=o)(S:o<=(a0.length:Int)):T (λn=>tC n a0 I M F K J E D z (a0.length:Int) o) (λr=>-1<=r/\r<(a0.length:Int)):=by
 have hl:=bq h0
 refine T.dx (σ:=Unit) (L:=λi _ n=>tC n a0 I M F K J E D z (a0.length:Int) i) (a0.length) (λ_=>True) ?_ ?_ o U S () trivial
 .rintro _ _;refine .step (λn=>Kz n) (.neg (by simp) ?_);exact .ret ⟨by omega,by omega⟩
 .rintro i _ hi _ X
  refine .step (λn=>Kz n) (.pos (by simp;omega) ?_)
  refine .ab (by omega) (by omega) λr1 c=>?_
  refine .ask (af2 _ _ _ _ _ _ _ _ _ ⟨(ak (an h0 c) 0),(de _),(ak (an h0 c) 2),(de _),(de _),(ak (an h0 c) 5),(ai (an h0 c) 6),(ai (an h0 c) 7)⟩ h1 h3 h6 Q O) λV N=>?_
  refine .ite (λR=>?_) (λR=>?_)
  .exact .ret ⟨by omega,by omega⟩
  .rw[aE (i:=(i:Int)+1) (by omega) (by omega)];simp_all
def aah(a0 E L D K J z o c)(h0:bd a0)(h1:bd E)(h3:bd D)(h6:bd z)(I:bd o)(F:bd c):T (λn=>Ez n a0 E L D K J z o c) (λr=>-1<=r/\r<(a0.length:Int)):=by refine .step (λn=>YZ n) ?_;exact(WS _ _ _ _ _ _ _ _ _ _ h0 h1 h3 h6 I F (by omega) (by omega))
def af3(a0)(h0:bd a0):T (λn=>GU n a0) bd:=by
 refine .step (λn=>aeu n) ?_
 refine .ask (lW _ (dc a0 h0)) λF z=>?_
 refine .ite (λc=>?_) (λc=>?_)
 .replace c:=qR c;exact .ret (bM _)
 .replace c:=iD c
  refine .ite (λD=>?_) (λD=>?_)
  .exact .ret (bM _)
  .refine .ask (Ht _ ⟨(dc a0.2 (aB a0 h0)),(dc a0.2.2 (aB a0.2 (aB a0 h0))),(dc a0.2.2.2 (aB a0.2.2 (aB a0.2 (aB a0 h0)))),(dc a0.2.2.2.2 (aB a0.2.2.2 (aB a0.2.2 (aB a0.2 (aB a0 h0))))),(dc a0.2.2.2.2.2 (aB a0.2.2.2.2 (aB a0.2.2.2 (aB a0.2.2 (aB a0.2 (aB a0 h0)))))),(dc a0.2.2.2.2.2.2 (aB a0.2.2.2.2.2 (aB a0.2.2.2.2 (aB a0.2.2.2 (aB a0.2.2 (aB a0.2 (aB a0 h0))))))),(dc a0.2.2.2.2.2.2.2 (aB a0.2.2.2.2.2.2 (aB a0.2.2.2.2.2 (aB a0.2.2.2.2 (aB a0.2.2.2 (aB a0.2.2 (aB a0.2 (aB a0 h0))))))))⟩) λE o=>?_;exact .ret (bM _)
def WT(a0 o)(h0:bd a0)(F:0<=o)(E:o<=(a0.length:Int)):T (λn=>tE n a0 (a0.length:Int) o) (λr=>-1<=r/\r<(a0.length:Int)):=by
 have hl:=bq h0
 refine T.dx (σ:=Unit) (L:=λi _ n=>tE n a0 (a0.length:Int) i) (a0.length) (λ_=>True) ?_ ?_ o F E () trivial
 .rintro _ _;refine .step (λn=>KP n) (.neg (by simp) ?_);exact .ret ⟨by omega,by omega⟩
 .rintro i _ hi _ J
  refine .step (λn=>KP n) (.pos (by simp;omega) ?_)
  refine .ab (by omega) (by omega) λr1 c=>?_
  refine .ask (af3 _ ⟨(ak (an h0 c) 0),(de _),(ak (an h0 c) 2),(de _),(de _),(ak (an h0 c) 5),(ai (an h0 c) 6),(ai (an h0 c) 7),(bM _)⟩) λI z=>?_
  refine .ite (λD=>?_) (λD=>?_)
  .exact .ret ⟨by omega,by omega⟩
  .rw[aE (i:=(i:Int)+1) (by omega) (by omega)];simp_all
def aai(a0)(h0:bd a0):T (λn=>EB n a0) (λr=>-1<=r/\r<(a0.length:Int)):=by refine .step (λn=>Y0 n) ?_;exact(WT _ _ h0 (by omega) (by omega))
def Qc(a0 o)(h0:bd a0)(h1:bd o):T (λn=>BJ n a0 o) bd:=by
 refine .step (λn=>ae4 n) ?_
 refine .ask (afP _ h0) λF D=>?_
 refine .ite (λc=>?_) (λc=>?_)
 .replace c:=qR c;refine .ask (af0 _ h1) λE z=>?_;exact .ret (bM _)
 .replace c:=iD c;exact .ret (bM _)
def aal(a0)(h0:bd a0):T (λn=>Eu n a0) bd:=by refine .step (λn=>Y8 n) ?_;refine .ask (aai _ h0) λo c=>?_;replace c:-1<=o/\o<((a0).length:Int):=c;exact .ret (bM _)
def af5(a0)(h0:bd a0):T (λn=>Gg n a0) bd:=by refine .step (λn=>adV n) ?_;refine .ask (aal _ h0) λo c=>?_;exact .ret (bM _)
def af6(a0 z D o c)(h0:bd a0)(h1:bd z)(h3:bd o)(h4:bd c):T (λn=>Hg n a0 z D o c) bd:=by refine .step (λn=>ad8 n) ?_;exact .ret (bM _)
def WV(a0 E F D z o)(h0:bd a0)(h1:bd E)(h3:bd D)(h4:bd z)(M:0<=o)(K:o<=(a0.length:Int)):T (λn=>tL n a0 E F D z (a0.length:Int) o) (λr=>-1<=r/\r<(a0.length:Int)):=by
 have hl:=bq h0
 refine T.dx (σ:=Unit) (L:=λi _ n=>tL n a0 E F D z (a0.length:Int) i) (a0.length) (λ_=>True) ?_ ?_ o M K () trivial
 .rintro _ _;refine .step (λn=>KG n) (.neg (by simp) ?_);exact .ret ⟨by omega,by omega⟩
 .rintro i _ hi _ O
  refine .step (λn=>KG n) (.pos (by simp;omega) ?_)
  refine .ab (by omega) (by omega) λr1 c=>?_
  refine .ask (af6 _ _ _ _ _ ⟨(ak (an h0 c) 0),(de _),(ak (an h0 c) 2),(ai (an h0 c) 3)⟩ h1 h3 h4) λN I=>?_
  refine .ite (λJ=>?_) (λJ=>?_)
  .exact .ret ⟨by omega,by omega⟩
  .rw[aE (i:=(i:Int)+1) (by omega) (by omega)];simp_all
def aam(a0 z D o c)(h0:bd a0)(h1:bd z)(h3:bd o)(h4:bd c):T (λn=>EL n a0 z D o c) (λr=>-1<=r/\r<(a0.length:Int)):=by refine .step (λn=>ZF n) ?_;exact(WV _ _ _ _ _ _ h0 h1 h3 h4 (by omega) (by omega))
def aan(a0 E F D z)(h0:bd a0)(h1:bd E)(h3:bd D)(h4:bd z):T (λn=>EF n a0 E F D z) bd:=by refine .step (λn=>Ze n) ?_;refine .ask (aam _ _ _ _ _ h0 h1 h3 h4) λo c=>?_;replace c:-1<=o/\o<((a0).length:Int):=c;exact .ret (bM _)
def af7(a0 z E o c)(h0:bd a0)(h1:bd z)(h3:bd o)(h4:bd c):T (λn=>Hh n a0 z E o c) bd:=by
 refine .step (λn=>aeA n) ?_
 refine .ite (λD=>?_) (λD=>?_)
 .exact .ret (bM _)
 .exact .ret (bM _)
def WW(a0 E F D z o)(h0:bd a0)(h1:bd E)(h3:bd D)(h4:bd z)(M:0<=o)(K:o<=(a0.length:Int)):T (λn=>tM n a0 E F D z (a0.length:Int) o) (λr=>-1<=r/\r<(a0.length:Int)):=by
 have hl:=bq h0
 refine T.dx (σ:=Unit) (L:=λi _ n=>tM n a0 E F D z (a0.length:Int) i) (a0.length) (λ_=>True) ?_ ?_ o M K () trivial
 .rintro _ _;refine .step (λn=>KK n) (.neg (by simp) ?_);exact .ret ⟨by omega,by omega⟩
 .rintro i _ hi _ O
  refine .step (λn=>KK n) (.pos (by simp;omega) ?_)
  refine .ab (by omega) (by omega) λr1 c=>?_
  refine .ask (af7 _ _ _ _ _ ⟨(ak (an h0 c) 0),(bM _),(de _),(ak (an h0 c) 3),(de _),(de _),(ak (an h0 c) 6),(ai (an h0 c) 7),(ai (an h0 c) 8)⟩ h1 h3 h4) λN I=>?_
  refine .ite (λJ=>?_) (λJ=>?_)
  .exact .ret ⟨by omega,by omega⟩
  .rw[aE (i:=(i:Int)+1) (by omega) (by omega)];simp_all
def aao(a0 z D o c)(h0:bd a0)(h1:bd z)(h3:bd o)(h4:bd c):T (λn=>EM n a0 z D o c) (λr=>-1<=r/\r<(a0.length:Int)):=by refine .step (λn=>ZS n) ?_;exact(WW _ _ _ _ _ _ h0 h1 h3 h4 (by omega) (by omega))
def aap(a0 E F D z)(h0:bd a0)(h1:bd E)(h3:bd D)(h4:bd z):T (λn=>EG n a0 E F D z) bd:=by refine .step (λn=>Zo n) ?_;refine .ask (aao _ _ _ _ _ h0 h1 h3 h4) λo c=>?_;replace c:-1<=o/\o<((a0).length:Int):=c;exact .ret (bM _)
def aij(a0)(h0:bd a0):T (λn=>Ik n a0) bd:=by refine .step (λn=>ahU n) ?_;exact .ret (bM _)
def aaq(a0 o)(h0:bd a0)(F:0<=o)(E:o<=(a0.length:Int)):T (λn=>uB n a0 (a0.length:Int) o) (λr=>-1<=r/\r<(a0.length:Int)):=by
 have hl:=bq h0
 refine T.dx (σ:=Unit) (L:=λi _ n=>uB n a0 (a0.length:Int) i) (a0.length) (λ_=>True) ?_ ?_ o F E () trivial
 .rintro _ _;refine .step (λn=>NA n) (.neg (by simp) ?_);exact .ret ⟨by omega,by omega⟩
 .rintro i _ hi _ J
  refine .step (λn=>NA n) (.pos (by simp;omega) ?_)
  refine .ab (by omega) (by omega) λr1 c=>?_
  refine .ask (aij _ ⟨(ak (an h0 c) 0),(ai (an h0 c) 1),(de _),(ai (an h0 c) 3),(ai (an h0 c) 4),(ai (an h0 c) 5),(ai (an h0 c) 6)⟩) λI z=>?_
  refine .ite (λD=>?_) (λD=>?_)
  .exact .ret ⟨by omega,by omega⟩
  .rw[aE (i:=(i:Int)+1) (by omega) (by omega)];simp_all
def af8(a0)(h0:bd a0):T (λn=>Gm n a0) (λr=>-1<=r/\r<(a0.length:Int)):=by refine .step (λn=>aef n) ?_;exact(aaq _ _ h0 (by omega) (by omega))
def aik(a0)(h0:bd a0):T (λn=>Ie n a0) bd:=by refine .step (λn=>ah6 n) ?_;refine .ask (af8 _ h0) λo c=>?_;replace c:-1<=o/\o<((a0).length:Int):=c;exact .ret (bM _)
end Go.AI
