/- A part of the proof. -/
import Derived.Test.YteibmaelhdbgfaaGreatDoorPa
set_option linter.all false

namespace Go.AI
open Go
def vo(a0)(h0:cG a0)(p0:1<=a0.length):T (λn=>qO n a0) bd:=.step (λn=>ad5 n) (.ab (by omega) (by omega) λr hr=>.ite (λ_=>.ask (Q':=bd) (.step (λn=>ZI n) (.ask (Q':=λr=>r.2=a0) (.step (λn=>ZJ n) (WK a0 a0 h0 h0 p0)) λy hy=>.ret ⟨trivial,by show bd y.2;rw[hy];exact h0.1⟩)) λ_ _=>.ret trivial) (λ_=>.ret trivial))
def ND(a0 c)(h0:cG a0):T (λn=>Ad n a0 c) bd:=.step (λn=>ZU n) (.ask (Q':=bd) (.step (λn=>Zv n) (.of (nI (J:=λn i=>y5 n a0 c (a0.length:Int) i) (by have:=bq h0.1;omega) (λn i=>WG n) λr _=>.step (λn=>afu n) (.ret _)) trivial)) λ_ _=>.ret trivial)
def Qd(a0)(h0:cG a0)(p0:1<=a0.length):T (λn=>oF n a0) c7:=by refine .step (λn=>aes n) ?_;refine .ask (Fl) λD c=>?_;refine .ask (vo _ h0 (by omega)) λz o=>?_;exact .ret c
def Qe(a0)(h0:cG a0)(p0:2<=a0.length):T (λn=>oH n a0) c7:=by
 refine .step (λn=>adI n) ?_
 refine .ab (by omega) (by omega) λr1 E=>?_
 refine .ask (iy _ (cL h0 E)) λK z=>?_
 refine .ab (by omega) (by omega) λr3 D=>?_
 refine .ask (lN _ (cL h0 D)) λJ o=>?_
 refine .ab (by omega) (by omega) λr5 c=>?_
 refine .ite (λ_=>?_) (λ_=>?_)
 .refine .ite (λ_=>?_) (λ_=>?_)
  .refine .ask (qz _ _ z o.1) λI F=>?_;exact .ret (cL h0 c)
  .exact .ret (cL h0 c)
 .exact .ret (cL h0 c)
def af9(a0 E D)(h0:ty a0)(h1:ty E)(h2:cG D)(p0:2<=D.length):T (λn=>G1 n a0 E D) c7:=by
 refine .step (λn=>aex n) ?_
 refine .ab (by omega) (by omega) λr1 z=>?_
 refine .ask (iy _ (cL h2 z)) λJ o=>?_
 refine .ab (by omega) (by omega) λr3 c=>?_
 refine .ite (λ_=>?_) (λ_=>?_)
 .refine .ask (qz _ _ o h1) λI F=>?_;exact .ret (cL h2 c)
 .exact .ret (cL h2 c)
def aga(a0)(h0:ty a0):T (λn=>G5 n a0) c7:=by refine .step (λn=>adO n) ?_;refine .ask (P9) λo c=>?_;exact .ret c
def Qf(a0)(h0:ty a0):T (λn=>BS n a0) ty:=by refine .step (λn=>ado n) ?_;refine .ask (Fl) λo c=>?_;exact .ret c
def Qg(a0)(h0:ty a0):T (λn=>BV n a0) ty:=by refine .step (λn=>aeX n) ?_;exact .ret h0
def Qh(a0)(h0:cG a0)(p0:2<=a0.length):T (λn=>oG n a0) c7:=by
 refine .step (λn=>aeS n) ?_
 refine .ab (by omega) (by omega) λr1 D=>?_
 refine .ask (iy _ (cL h0 D)) λJ o=>?_
 refine .ask (Fl) λI c=>?_
 refine .ite (λ_=>?_) (λ_=>?_)
 .refine .ab (by omega) (by omega) λr4 z=>?_;refine .ask (qz _ _ (cL h0 z) o) λF E=>?_;exact .ret c
 .exact .ret c
def agb(a0)(h0:cG a0)(p0:2<=a0.length):T (λn=>vP n a0) c7:=by
 refine .step (λn=>adk n) ?_
 refine .ab (by omega) (by omega) λr1 z=>?_
 refine .ab (by omega) (by omega) λr2 o=>?_
 refine .ask (Qa _ _ (cL h0 z) (cL h0 o)) λF c=>?_
 refine .ab (by omega) (by omega) λr4 E=>?_
 refine .ite (λ_=>?_) (λ_=>?_)
 .refine .ab (by omega) (by omega) λr5 D=>?_;exact .ret c
 .exact .ret c
def agc(a0)(h0:cG a0)(p0:1<=a0.length):T (λn=>vQ n a0) c7:=by refine .step (λn=>adH n) ?_;refine .ab (by omega) (by omega) λr1 o=>?_;refine .ask (mr _ (cL h0 o)) λE c=>?_;refine .ask (vo _ h0 (by omega)) λD z=>?_;exact .ret c
def agd(a0 z o)(h0:ty a0)(h1:ty z)(h2:cG o)(p0:1<=o.length):T (λn=>GZ n a0 z o) c7:=by refine .step (λn=>adN n) ?_;refine .ab (by omega) (by omega) λr1 c=>?_;refine .ask (vo _ h2 (by omega)) λE D=>?_;exact .ret (cL h2 c)
def age(a0 E D)(h0:ty a0)(h1:ty E)(h2:cG D)(p0:2<=D.length):T (λn=>G0 n a0 E D) c7:=by
 refine .step (λn=>ad6 n) ?_
 refine .ab (by omega) (by omega) λr1 z=>?_
 refine .ask (lN _ (cL h2 z)) λK o=>?_
 refine .ask (vn _ _ h0 o.2) λJ c=>?_
 refine .ite (λ_=>?_) (λ_=>?_)
 .refine .ask (qz _ _ h1 o.1) λI F=>?_;exact .ret c
 .exact .ret c
def agf(a0)(h0:ty a0):T (λn=>G3 n a0) c7:=by refine .step (λn=>afn n) ?_;refine .ask (mr _ h0) λD o=>?_;refine .ask (mr _ o) λz c=>?_;exact .ret c
def agh(a0)(h0:ty a0):T (λn=>G4 n a0) c7:=by refine .step (λn=>adq n) ?_;refine .ask (P9) λo c=>?_;exact .ret c
def agi(a0 z o)(h0:ty a0)(h1:ty z)(h2:cG o):T (λn=>G6 n a0 z o) c7:=by refine .step (λn=>ad7 n) ?_;refine .ask (mr _ h0) λD c=>?_;exact .ret c
def agj(a0 z o)(h0:ty a0)(h1:ty z)(h2:cG o):T (λn=>G7 n a0 z o) c7:=by refine .step (λn=>aey n) ?_;refine .ask (mr _ h1) λD c=>?_;exact .ret c
def agk(a0 z o)(h0:ty a0)(h1:ty z)(h2:cG o):T (λn=>G8 n a0 z o) c7:=by refine .step (λn=>aeZ n) ?_;refine .ask (vn _ _ h1 h0) λD c=>?_;exact .ret c
def agl(a0 E D)(h0:ty a0)(h1:ty E)(h2:cG D)(p0:2<=D.length):T (λn=>G9 n a0 E D) c7:=by
 refine .step (λn=>afo n) ?_
 refine .ab (by omega) (by omega) λr1 z=>?_
 refine .ask (iy _ (cL h2 z)) λK o=>?_
 refine .ask (mr _ h1) λJ c=>?_
 refine .ite (λ_=>?_) (λ_=>?_)
 .refine .ask (qz _ _ o h0) λI F=>?_;exact .ret c
 .exact .ret c
def agm(a0 z o)(h0:ty a0)(h1:ty z)(h2:cG o)(p0:2<=o.length):T (λn=>Ha n a0 z o) c7:=by refine .step (λn=>adr n) ?_;refine .ab (by omega) (by omega) λr1 c=>?_;refine .ask (qz _ _ (cL h2 c) h0) λE D=>?_;exact .ret h1
def agn(a0)(h0:cG a0)(p0:2<=a0.length):T (λn=>vU n a0) c7:=by
 refine .step (λn=>adJ n) ?_
 refine .ab (by omega) (by omega) λr1 D=>?_
 refine .ask (iy _ (cL h0 D)) λI o=>?_
 refine .ab (by omega) (by omega) λr3 z=>?_
 refine .ask (vn _ _ o (cL h0 z)) λF c=>?_
 refine .ite (λ_=>?_) (λ_=>?_)
 .refine .ab (by omega) (by omega) λr5 E=>?_;exact .ret c
 .exact .ret c
def iz(a0 c o D)(h0:cG a0)(h2:bd o)(q0:c≠4/\c≠5):T (λn=>cF n a0 c o D) c7:=by refine .step (λn=>adG n) ?_;refine .ask (ND _ _ h0) λE z=>?_;exact .ret (ra _ h2 q0)
def Fo(a0 c o)(h0:cG a0)(h2:bd o)(q0:c≠4/\c≠5):T (λn=>kX n a0 c o) c7:=by refine .step (λn=>afg n) ?_;exact .ret (ra _ h2 q0)
def ago(a0)(h0:cG a0)(p0:2<=a0.length):T (λn=>vR n a0) c7:=by
 refine .step (λn=>aeT n) ?_
 refine .ab (by omega) (by omega) λr1 E=>?_
 refine .ask (iy _ (cL h0 E)) λJ z=>?_
 refine .ab (by omega) (by omega) λr3 D=>?_
 refine .ask (iy _ (cL h0 D)) λI o=>?_
 refine .ite (λ_=>?_) (λ_=>?_)
 .exact .ret dY
 .refine .ite (λ_=>?_) (λ_=>?_)
  .exact .ret dY
  .refine .ask (vn _ _ z o) λF c=>?_;exact .ret c
def ui(a0)(h0:cG a0)(p0:2<=a0.length):T (λn=>gQ n a0) c7:=by
 refine .step (λn=>Zt n) ?_
 refine .ab (by omega) (by omega) λr1 E=>?_
 refine .ask (iy _ (cL h0 E)) λJ z=>?_
 refine .ab (by omega) (by omega) λr3 D=>?_
 refine .ask (iy _ (cL h0 D)) λI o=>?_
 refine .ite (λ_=>?_) (λ_=>?_)
 .exact .ret dY
 .refine .ite (λ_=>?_) (λ_=>?_)
  .exact .ret dY
  .refine .ask (afC _ _ z o) λF c=>?_;exact .ret c
def agp(a0)(h0:cG a0)(p0:1<=a0.length):T (λn=>vS n a0) c7:=by
 refine .step (λn=>afi n) ?_
 refine .ab (by omega) (by omega) λr1 z=>?_
 refine .ask (lN _ (cL h0 z)) λE c=>?_
 refine .ite (λ_=>?_) (λ_=>?_)
 .exact .ret dY
 .refine .ask (agd _ _ _ c.1 c.2 h0 (by omega)) λD o=>?_;exact .ret o
def aar(a0)(h0:cG a0)(p0:2<=a0.length):T (λn=>uO n a0) c7:=by
 refine .step (λn=>YO n) ?_
 refine .ab (by omega) (by omega) λr1 z=>?_
 refine .ask (lN _ (cL h0 z)) λE c=>?_
 refine .ite (λ_=>?_) (λ_=>?_)
 .exact .ret dY
 .refine .ask (age _ _ _ c.1 c.2 h0 (by omega)) λD o=>?_;exact .ret o
def NF(a0)(h0:cG a0)(p0:2<=a0.length):T (λn=>od n a0) c7:=by
 refine .step (λn=>Zg n) ?_
 refine .ab (by omega) (by omega) λr1 z=>?_
 refine .ask (lN _ (cL h0 z)) λE c=>?_
 refine .ite (λ_=>?_) (λ_=>?_)
 .exact .ret dY
 .refine .ask (af9 _ _ _ c.1 c.2 h0 (by omega)) λD o=>?_;exact .ret o
def aas(a0)(h0:cG a0)(p0:1<=a0.length):T (λn=>uQ n a0) c7:=by
 refine .step (λn=>Y4 n) ?_
 refine .ab (by omega) (by omega) λr1 z=>?_
 refine .ask (lN _ (cL h0 z)) λE c=>?_
 refine .ite (λ_=>?_) (λ_=>?_)
 .exact .ret dY
 .refine .ask (agi _ _ _ c.1 c.2 h0) λD o=>?_;exact .ret o
def aat(a0)(h0:cG a0)(p0:1<=a0.length):T (λn=>uR n a0) c7:=by
 refine .step (λn=>Zh n) ?_
 refine .ab (by omega) (by omega) λr1 z=>?_
 refine .ask (lN _ (cL h0 z)) λE c=>?_
 refine .ite (λ_=>?_) (λ_=>?_)
 .exact .ret dY
 .refine .ask (agj _ _ _ c.1 c.2 h0) λD o=>?_;exact .ret o
def aau(a0)(h0:cG a0)(p0:1<=a0.length):T (λn=>uS n a0) c7:=by
 refine .step (λn=>Zu n) ?_
 refine .ab (by omega) (by omega) λr1 z=>?_
 refine .ask (lN _ (cL h0 z)) λE c=>?_
 refine .ite (λ_=>?_) (λ_=>?_)
 .exact .ret dY
 .refine .ask (agk _ _ _ c.1 c.2 h0) λD o=>?_;exact .ret o
def aav(a0)(h0:cG a0)(p0:2<=a0.length):T (λn=>uT n a0) c7:=by
 refine .step (λn=>ZE n) ?_
 refine .ab (by omega) (by omega) λr1 z=>?_
 refine .ask (lN _ (cL h0 z)) λE c=>?_
 refine .ite (λ_=>?_) (λ_=>?_)
 .exact .ret dY
 .refine .ask (agl _ _ _ c.1 c.2 h0 (by omega)) λD o=>?_;exact .ret o
def aaw(a0)(h0:cG a0)(p0:2<=a0.length):T (λn=>uU n a0) c7:=by
 refine .step (λn=>ZR n) ?_
 refine .ab (by omega) (by omega) λr1 z=>?_
 refine .ask (lN _ (cL h0 z)) λE c=>?_
 refine .ite (λ_=>?_) (λ_=>?_)
 .exact .ret dY
 .refine .ask (agm _ _ _ c.1 c.2 h0 (by omega)) λD o=>?_;exact .ret o
def agq(a0)(h0:cG a0)(p0:1<=a0.length):T (λn=>vT n a0) c7:=by
 refine .step (λn=>aeU n) ?_
 refine .ab (by omega) (by omega) λr1 z=>?_
 refine .ask (iy _ (cL h0 z)) λE o=>?_
 refine .ite (λ_=>?_) (λ_=>?_)
 .exact .ret dY
 .refine .ask (agf _ o) λD c=>?_;exact .ret c
def aax(a0)(h0:cG a0)(p0:1<=a0.length):T (λn=>uP n a0) c7:=by
 refine .step (λn=>ZQ n) ?_
 refine .ab (by omega) (by omega) λr1 z=>?_
 refine .ask (iy _ (cL h0 z)) λE o=>?_
 refine .ite (λ_=>?_) (λ_=>?_)
 .exact .ret dY
 .refine .ask (agh _ o) λD c=>?_;exact .ret c
def NG(a0)(h0:cG a0)(p0:1<=a0.length):T (λn=>oe n a0) c7:=by
 refine .step (λn=>YP n) ?_
 refine .ab (by omega) (by omega) λr1 z=>?_
 refine .ask (iy _ (cL h0 z)) λE o=>?_
 refine .ite (λ_=>?_) (λ_=>?_)
 .exact .ret dY
 .refine .ask (aga _ o) λD c=>?_;exact .ret c
def Qi(a0)(h0:cG a0)(p0:2<=a0.length):T (λn=>oE n a0) c7:=by refine .step (λn=>ad2 n) ?_;refine .ab (by omega) (by omega) λr1 o=>?_;refine .ask (Qf _ (cL h0 o)) λD c=>?_;refine .ab (by omega) (by omega) λr3 z=>?_;exact .ret c
def aay(a0)(h0:cG a0)(p0:2<=a0.length):T (λn=>uV n a0) c7:=by refine .step (λn=>YQ n) ?_;refine .ab (by omega) (by omega) λr1 o=>?_;refine .ask (Qg _ (cL h0 o)) λD c=>?_;refine .ab (by omega) (by omega) λr3 z=>?_;exact .ret c
def agr(a0)(h0:cG a0)(p0:1<=a0.length):T (λn=>vO n a0) c7:=by
 refine .step (λn=>afh n) ?_
 refine .ab (by omega) (by omega) λr1 o=>?_
 refine .ask (Qf _ (cL h0 o)) λF c=>?_
 refine .ab (by omega) (by omega) λr3 D=>?_
 refine .ite (λ_=>?_) (λ_=>?_)
 .refine .ask (vo _ h0 (by omega)) λE z=>?_;exact .ret c
 .exact .ret c
def D5(a0)(h0:cG a0)(p0:1<=a0.length):T (λn=>kG n a0) c7:=by
 refine .step (λn=>Zs n) ?_
 refine .ab (by omega) (by omega) λr1 o=>?_
 refine .ask (Qg _ (cL h0 o)) λF c=>?_
 refine .ab (by omega) (by omega) λr3 D=>?_
 refine .ite (λ_=>?_) (λ_=>?_)
 .refine .ask (vo _ h0 (by omega)) λE z=>?_;exact .ret c
 .exact .ret c
def aaz(a0)(h0:cG a0):T (λn=>uN n a0 5 (bs []) [(cy (1,(bs []),[]))] 1) c7:=.step (λn=>Zf n) (.ask (ND _ _ h0) λ_ _=>.ret (Hu (ra 1 dz (by omega))))
section
set_option maxRecDepth 10000
abbrev Cz:=Int×ByteArray×Rows×Int×Rows×Rows×Rows
def CA(m:Rows×Rows)(p:Rows)(r:Cz):Prop:=ty (r.1,r.2.1,r.2.2.1)/\r.2.2.2.2.1=m.1/\r.2.2.2.2.2.1=m.2/\r.2.2.2.2.2.2=p
def lr(sc:Rows):Prop:=∀r,r∈sc->ty (aK r 1)
def iJ(m:Rows):Prop:=∀r,r∈m->ty (aK (r.drop 1) 0)
def Fp(a0)(h0:ty a0):T (λn=>qN n a0) tyI:=.step (λn=>aeR n) (.ask (B0 _ h0.1) λ_ _=>.ite (λ_=>.ret dY) (λ_=>.ret h0))
def ags(s:ByteArray):∀(sc:Rows),lr sc->T (λn=>vM n sc s) c7:=by intro sc c;refine .step (λn=>adF n) ?_;induction sc with|nil=>exact .step (λn=>Nn n) (.emp (λ_=>.ret dY) (λh=>absurd rfl h))|cons r sc o=>refine .step (λn=>Nn n) (.emp (λh=>by cases h) (λh=>.mA h λx xs e=>?_));cases e;exact .ite (λ_=>.mA (by simp) λx xs e=>by cases e;exact .ret (c r (by simp))) (λ_=>.mA (by simp) λx xs e=>by cases e;exact o λq hq=>c q (by simp[hq]))
def XF{m:Rows}{s:ByteArray}{r:List AV}(h:mP m s=some r):r∈m:=List.mem_of_find?_eq_some h
def SZ(t:fl)(sc K:Rows)(m:Rows×Rows)(p:Rows)(o:Nat->Bool->fv->Option Cz)(D:∀b x,ty x->T (λn=>o n b x) (CA m p))(ht:bd t)(CB:sP t.1 K.length)(sQ:ov t)(E:cG K)(hsc:lr sc)(hm:iJ m.1):T (λn=>(aa (t.1==20) (ask (vM n sc t.2.1) λx4=>(aa x4.2.2.2 (some (wt x4 (0,(dQ m p)))) (jx m.1 t.2.1 (λr5=>(some (cB (aK r5 0) (0,(dQ m p))))) (some (0,(bs []),[],6,(dQ m p)))))) (aa (t.1==29) (ask (vN n (af t.2.2.2) m p) λx6=>(aa (!x6.1) (some (0,(bs []),[],6,x6.2)) (ask (jv n (af t.2.2.2)) λx7=>(ask (qN n x7) λx8=>(some (wu x8 x6.2)))))) (aa (t.1==0) none (aa (t.1==1) (ask (kX n K 2 (bs [])) λx9=>(o n x9.2.2.2 (af x9))) (aa (t.1==2) (ask (kX n K 2 (bs [])) λoO=>(o n oO.2.2.2 (af oO))) (aa (t.1==3) (ask (cF n K 2 (bs []) 2) λoP=>(o n oP.2.2.2 (af oP))) (aa (t.1==4) (ask (cF n K 2 (bs []) 2) λoQ=>(o n oQ.2.2.2 (af oQ))) (aa (t.1==5) (ask (cF n K 2 (bs []) 2) λoR=>(o n oR.2.2.2 (af oR))) (aa (t.1==6) (ask (cF n K 2 (bs []) 2) λoS=>(o n oS.2.2.2 (af oS))) (aa (t.1==7) (ask (cF n K 2 (bs []) 2) λoT=>(o n oT.2.2.2 (af oT))) (aa (t.1==8) (ask (oE n K) λoU=>(o n oU.2.2.2 (af oU))) (aa (t.1==9) (ask (oE n K) λoV=>(o n oV.2.2.2 (af oV))) (aa (t.1==10) (ask (oF n K) λoW=>(o n oW.2.2.2 (af oW))) (aa (t.1==11) (ask (oF n K) λoX=>(o n oX.2.2.2 (af oX))) (aa (t.1==12) (ask (cF n K 2 (bs []) 1) λoY=>(o n oY.2.2.2 (af oY))) (aa (t.1==13) (ask (cF n K 2 (bs []) 1) λoZ=>(o n oZ.2.2.2 (af oZ))) (aa (t.1==14) (ask (cF n K 2 (bs []) 1) λo1=>(o n o1.2.2.2 (af o1))) (aa (t.1==15) (ask (cF n K 2 (bs []) 1) λo3=>(o n o3.2.2.2 (af o3))) (aa (t.1==16) (ask (oG n K) λo4=>(o n o4.2.2.2 (af o4))) (aa (t.1==17) (ask (oG n K) λo5=>(o n o5.2.2.2 (af o5))) (aa (t.1==18) (ask (vO n K) λo6=>(o n o6.2.2.2 (af o6))) (aa (t.1==19) (ask (kX n K 1 (bs [])) λo7=>(o n o7.2.2.2 (af o7))) (aa (t.1==20) none (aa (t.1==21) (ask (cF n K 1 (bs []) 1) λo8=>(o n o8.2.2.2 (af o8))) (aa (t.1==22) (ask (cF n K 1 (bs []) 1) λo9=>(o n o9.2.2.2 (af o9))) (aa (t.1==23) (ask (cF n K 1 (bs []) 1) λpa=>(o n pa.2.2.2 (af pa))) (aa (t.1==24) (ask (cF n K 1 (bs []) 1) λpc=>(o n pc.2.2.2 (af pc))) (aa (t.1==25) (ask (cF n K 1 (bs []) 1) λpd=>(o n pd.2.2.2 (af pd))) (aa (t.1==26) (ask (cF n K 1 (bs []) 1) λpe=>(o n pe.2.2.2 (af pe))) (aa (t.1==27) (ask (vP n K) λpf=>(o n pf.2.2.2 (af pf))) (aa (t.1==28) (ask (vQ n K) λpg=>(o n pg.2.2.2 (af pg))) (aa (t.1==29) none (aa (t.1==30) (ask (uN n K 5 (bs []) [(cy (1,(bs []),[]))] 1) λpk=>(o n pk.2.2.2 (af pk))) (aa (t.1==31) (ask (kG n K) λpo=>(o n po.2.2.2 (af po))) (aa (t.1==32) (ask (kG n K) λpq=>(o n pq.2.2.2 (af pq))) (aa (t.1==33) (ask (kG n K) λpv=>(o n pv.2.2.2 (af pv))) (aa (t.1==34) (ask (vR n K) λpw=>(o n pw.2.2.2 (af pw))) (aa (t.1==35) (ask (vS n K) λpx=>(o n px.2.2.2 (af px))) (aa (t.1==36) (ask (uO n K) λpy=>(o n py.2.2.2 (af py))) (aa (t.1==37) (ask (oH n K) λpz=>(o n pz.2.2.2 (af pz))) (aa (t.1==38) (ask (oH n K) λpA=>(o n pA.2.2.2 (af pA))) (aa (t.1==39) (ask (od n K) λpB=>(o n pB.2.2.2 (af pB))) (aa (t.1==40) (ask (od n K) λpC=>(o n pC.2.2.2 (af pC))) (aa (t.1==41) (ask (gQ n K) λpD=>(o n pD.2.2.2 (af pD))) (aa (t.1==42) (ask (gQ n K) λZ=>(o n Z.2.2.2 (af Z))) (aa (t.1==43) (ask (gQ n K) λY=>(o n Y.2.2.2 (af Y))) (aa (t.1==44) (ask (gQ n K) λX=>(o n X.2.2.2 (af X))) (aa (t.1==45) (ask (gQ n K) λV=>(o n V.2.2.2 (af V))) (aa (t.1==46) (ask (vT n K) λU=>(o n U.2.2.2 (af U))) (aa (t.1==47) (ask (uP n K) λS=>(o n S.2.2.2 (af S))) (aa (t.1==48) (ask (oe n K) λR=>(o n R.2.2.2 (af R))) (aa (t.1==49) (ask (oe n K) λQ=>(o n Q.2.2.2 (af Q))) (aa (t.1==50) (ask (uQ n K) λO=>(o n O.2.2.2 (af O))) (aa (t.1==51) (ask (uR n K) λN=>(o n N.2.2.2 (af N))) (aa (t.1==52) (ask (uS n K) λM=>(o n M.2.2.2 (af M))) (aa (t.1==53) (ask (uT n K) λL=>(o n L.2.2.2 (af L))) (aa (t.1==54) (ask (uU n K) λJ=>(o n J.2.2.2 (af J))) (aa (t.1==55) (ask (uV n K) λI=>(o n I.2.2.2 (af I))) (aa (t.1==56) (ask (vU n K) λF=>(o n F.2.2.2 (af F))) none)))))))))))))))))))))))))))))))))))))))))))))))))))))))))))) (CA m p):=by
 have h3:bd t.2.2.2:=aB _ (aB _ (aB t ht))
 have h4:bd t.2.2.2.2:=aB _ h3
 have h5:bd t.2.2.2.2.2:=aB _ h4
 unfold sP nr nt at CB
 refine .ite (λc=>.ask (ags _ _ hsc) λx hx=>.ite (λ_=>.ret ⟨hx,rfl,rfl,rfl⟩) (λ_=>.jx (λr hr=>.ret ⟨hm r (XF hr),rfl,rfl,rfl⟩) (λ_=>.ret ⟨dY,rfl,rfl,rfl⟩))) (λc=>?_)
 replace c:=bA c
 refine .ite (λc=>.ask (abX _ ⟨trivial,dc t.2.2.2.2 h4,dc t.2.2.2.2.2 h5⟩ m p) λx hx=>.ite (λ_=>.ret ⟨dY,by grind,by grind,by grind⟩) (λ_=>.ask (mr _ ⟨⟨trivial,dc t.2.2.2.2 h4,dc t.2.2.2.2.2 h5⟩,(sQ (fO c)).s⟩) λy hy=>.ask (Fp _ hy) λz hz=>.ret ⟨hz,by show x.2.1=_;rw[hx],by show x.2.2.1=_;rw[hx],by show x.2.2.2=_;rw[hx]⟩)) (λc=>?_)
 replace c:=bA c
 refine .ite (λc=>?_) (λc=>?_)
 .grind
 replace c:=bA c
 refine .ite (λc=>.ask (Fo _ _ _ E dz (by omega)) λx hx=>D _ _ hx) (λc=>?_)
 replace c:=bA c
 refine .ite (λc=>.ask (Fo _ _ _ E dz (by omega)) λx hx=>D _ _ hx) (λc=>?_)
 replace c:=bA c
 refine .ite (λc=>.ask (iz _ _ _ _ E dz (by omega)) λx hx=>D _ _ hx) (λc=>?_)
 replace c:=bA c
 refine .ite (λc=>.ask (iz _ _ _ _ E dz (by omega)) λx hx=>D _ _ hx) (λc=>?_)
 replace c:=bA c
 refine .ite (λc=>.ask (iz _ _ _ _ E dz (by omega)) λx hx=>D _ _ hx) (λc=>?_)
 replace c:=bA c
 refine .ite (λc=>.ask (iz _ _ _ _ E dz (by omega)) λx hx=>D _ _ hx) (λc=>?_)
 replace c:=bA c
 refine .ite (λc=>.ask (iz _ _ _ _ E dz (by omega)) λx hx=>D _ _ hx) (λc=>?_)
 replace c:=bA c
 refine .ite (λc=>.ask (Qi _ E (by grind)) λx hx=>D _ _ hx) (λc=>?_)
 replace c:=bA c
 refine .ite (λc=>.ask (Qi _ E (by grind)) λx hx=>D _ _ hx) (λc=>?_)
 replace c:=bA c
 refine .ite (λc=>.ask (Qd _ E (by grind)) λx hx=>D _ _ hx) (λc=>?_)
 replace c:=bA c
 refine .ite (λc=>.ask (Qd _ E (by grind)) λx hx=>D _ _ hx) (λc=>?_)
 replace c:=bA c
 refine .ite (λc=>.ask (iz _ _ _ _ E dz (by omega)) λx hx=>D _ _ hx) (λc=>?_)
 replace c:=bA c
 refine .ite (λc=>.ask (iz _ _ _ _ E dz (by omega)) λx hx=>D _ _ hx) (λc=>?_)
 replace c:=bA c
 refine .ite (λc=>.ask (iz _ _ _ _ E dz (by omega)) λx hx=>D _ _ hx) (λc=>?_)
 replace c:=bA c
 refine .ite (λc=>.ask (iz _ _ _ _ E dz (by omega)) λx hx=>D _ _ hx) (λc=>?_)
 replace c:=bA c
 refine .ite (λc=>.ask (Qh _ E (by grind)) λx hx=>D _ _ hx) (λc=>?_)
 replace c:=bA c
 refine .ite (λc=>.ask (Qh _ E (by grind)) λx hx=>D _ _ hx) (λc=>?_)
 replace c:=bA c
 refine .ite (λc=>.ask (agr _ E (by grind)) λx hx=>D _ _ hx) (λc=>?_)
 replace c:=bA c
 refine .ite (λc=>.ask (Fo _ _ _ E dz (by omega)) λx hx=>D _ _ hx) (λc=>?_)
 replace c:=bA c
 refine .ite (λc=>?_) (λc=>?_)
 .grind
 replace c:=bA c
 refine .ite (λc=>.ask (iz _ _ _ _ E dz (by omega)) λx hx=>D _ _ hx) (λc=>?_)
 replace c:=bA c
 refine .ite (λc=>.ask (iz _ _ _ _ E dz (by omega)) λx hx=>D _ _ hx) (λc=>?_)
 replace c:=bA c
 refine .ite (λc=>.ask (iz _ _ _ _ E dz (by omega)) λx hx=>D _ _ hx) (λc=>?_)
 replace c:=bA c
 refine .ite (λc=>.ask (iz _ _ _ _ E dz (by omega)) λx hx=>D _ _ hx) (λc=>?_)
 replace c:=bA c
 refine .ite (λc=>.ask (iz _ _ _ _ E dz (by omega)) λx hx=>D _ _ hx) (λc=>?_)
 replace c:=bA c
 refine .ite (λc=>.ask (iz _ _ _ _ E dz (by omega)) λx hx=>D _ _ hx) (λc=>?_)
 replace c:=bA c
 refine .ite (λc=>.ask (agb _ E (by grind)) λx hx=>D _ _ hx) (λc=>?_)
 replace c:=bA c
 refine .ite (λc=>.ask (agc _ E (by grind)) λx hx=>D _ _ hx) (λc=>?_)
 replace c:=bA c
 refine .ite (λc=>?_) (λc=>?_)
 .grind
 replace c:=bA c;refine .ite (λc=>.ask (aaz K E) λx hx=>D _ _ hx) (λc=>?_);replace c:=bA c;refine .ite (λc=>.ask (D5 _ E (by grind)) λx hx=>D _ _ hx) (λc=>?_);replace c:=bA c;refine .ite (λc=>.ask (D5 _ E (by grind)) λx hx=>D _ _ hx) (λc=>?_);replace c:=bA c;refine .ite (λc=>.ask (D5 _ E (by grind)) λx hx=>D _ _ hx) (λc=>?_);replace c:=bA c;refine .ite (λc=>.ask (ago _ E (by grind)) λx hx=>D _ _ hx) (λc=>?_);replace c:=bA c;refine .ite (λc=>.ask (agp _ E (by grind)) λx hx=>D _ _ hx) (λc=>?_);replace c:=bA c;refine .ite (λc=>.ask (aar _ E (by grind)) λx hx=>D _ _ hx) (λc=>?_);replace c:=bA c;refine .ite (λc=>.ask (Qe _ E (by grind)) λx hx=>D _ _ hx) (λc=>?_);replace c:=bA c;refine .ite (λc=>.ask (Qe _ E (by grind)) λx hx=>D _ _ hx) (λc=>?_);replace c:=bA c;refine .ite (λc=>.ask (NF _ E (by grind)) λx hx=>D _ _ hx) (λc=>?_);replace c:=bA c;refine .ite (λc=>.ask (NF _ E (by grind)) λx hx=>D _ _ hx) (λc=>?_);replace c:=bA c;refine .ite (λc=>.ask (ui _ E (by grind)) λx hx=>D _ _ hx) (λc=>?_);replace c:=bA c;refine .ite (λc=>.ask (ui _ E (by grind)) λx hx=>D _ _ hx) (λc=>?_);replace c:=bA c;refine .ite (λc=>.ask (ui _ E (by grind)) λx hx=>D _ _ hx) (λc=>?_);replace c:=bA c;refine .ite (λc=>.ask (ui _ E (by grind)) λx hx=>D _ _ hx) (λc=>?_);replace c:=bA c;refine .ite (λc=>.ask (ui _ E (by grind)) λx hx=>D _ _ hx) (λc=>?_);replace c:=bA c;refine .ite (λc=>.ask (agq _ E (by grind)) λx hx=>D _ _ hx) (λc=>?_);replace c:=bA c;refine .ite (λc=>.ask (aax _ E (by grind)) λx hx=>D _ _ hx) (λc=>?_);replace c:=bA c;refine .ite (λc=>.ask (NG _ E (by grind)) λx hx=>D _ _ hx) (λc=>?_);replace c:=bA c;refine .ite (λc=>.ask (NG _ E (by grind)) λx hx=>D _ _ hx) (λc=>?_);replace c:=bA c;refine .ite (λc=>.ask (aas _ E (by grind)) λx hx=>D _ _ hx) (λc=>?_);replace c:=bA c;refine .ite (λc=>.ask (aat _ E (by grind)) λx hx=>D _ _ hx) (λc=>?_);replace c:=bA c;refine .ite (λc=>.ask (aau _ E (by grind)) λx hx=>D _ _ hx) (λc=>?_);replace c:=bA c;refine .ite (λc=>.ask (aav _ E (by grind)) λx hx=>D _ _ hx) (λc=>?_);replace c:=bA c;refine .ite (λc=>.ask (aaw _ E (by grind)) λx hx=>D _ _ hx) (λc=>?_);replace c:=bA c;refine .ite (λc=>.ask (aay _ E (by grind)) λx hx=>D _ _ hx) (λc=>?_);replace c:=bA c;refine .ite (λc=>.ask (agn _ E (by grind)) λx hx=>D _ _ hx) (λc=>?_);grind
end
def l7(m:Rows×Rows)(p:Rows)(r:Cz):Prop:=ty (r.1,r.2.1,r.2.2.1)/\r.2.2.2.2.1=m.1/\r.2.2.2.2.2.1=m.2/\(r.2.2.2.1=0->r.2.2.2.2.2.2=p)/\r.2.2.2.2.2.2.length<=1000
def CA.e{m:Rows×Rows}{p:Rows}{r:Cz}(hp:p.length<=1000)(h:CA m p r):l7 m p r:=⟨h.1,h.2.1,h.2.2.1,λ_=>h.2.2.2,by rw[h.2.2.2];exact hp⟩
def T.lO{σ β:Type}{Q:β->Prop}{L:Int->σ->Nat->Option β}(m:Nat)(c:Nat->σ->Prop)(o:∀s,c m s->T (L m s) Q)
 (eO:∀(i:Nat)s,i<m->c i s->(∀s',c (i+1) s'->T (L ((i:Int)+1) s') Q)->T (L i s) Q)(k:Nat)(hk:k<=m)(s:σ)(h:c k s):T (L k s) Q:=by
 have key:∀d i s,i+d=m->c i s->T (L (i:Int) s) Q:=by intro d;induction d with|zero=>grind|succ d z=>grind
 exact key (m-k) k s (by omega) h
def O7{l:Rows}{x:fv}(h:cG l)(hl:l.length<1099511627776)(hx:ty x):cG (l++[cy x]):=by
 refine⟨⟨by simp;omega,dt h.1.2 (dL (qS hx.1) eg)⟩,λr hr=>?_⟩
 rcases List.mem_append.1 hr with hr|hr
 .exact h.2 r hr
 .obtain rfl:=List.mem_singleton.1 hr;exact hx.2
section
def Qj(t:fl)(ht:bd t)(k:Nat)(hk:k<t.2.2.2.2.2.2.length)(sc:Rows)(m:Rows×Rows)(p:Rows)(hp:p.length<=1000)
 (z:∀r,r∈t.2.2.2.2.2.2->∀(q:Rows),q.length=p.length+1->T (λn=>A8 n (cN r 0) sc m q) (l7 m q)):T (λn=>vL n t (k:Int) sc m p) (l7 m p):=by
 refine .step (λn=>ad0 n) (.fits (by simp;omega) (.ab (by omega) (by omega) λr hr=>?_))
 refine .ask (z r (List.mem_of_getElem? hr) _ (by simp)) λx hx=>.ite (λc=>?_) (λc=>.ret ⟨hx.1,hx.2.1,hx.2.2.1,λe=>absurd e (bA c),hx.2.2.2.2⟩)
 have o:=hx.2.2.2.1 (fO c)
 have hlen:x.2.2.2.2.2.2.length=p.length+1:=by grind
 rw[aE (i:=(x.2.2.2.2.2.2.length:Int)-1) (by omega) (by omega)]
 have hk:(((p.length+1:Nat):Int)-1).toNat=p.length:=by omega
 have ht:x.2.2.2.2.2.2.take (((x.2.2.2.2.2.2.length:Nat):Int)-1).toNat=p:=by grind
 exact .pos (tX ⟨by omega,by omega⟩) (.ret ⟨hx.1,hx.2.1,hx.2.2.1,λ_=>ht,by show(x.2.2.2.2.2.2.take _).length<=1000;grind⟩)
def LZ{s:ByteArray}{x:fv}{sc:Rows}(h:lr sc)(hx:ty x):lr (fA (s,x)::sc):=λr hr=>by
 rcases List.mem_cons.1 hr with rfl|hr
 .exact hx
 .exact h r hr
section
variable (t:fl)(ht:bd t)(CB:sP t.1 t.2.2.2.2.2.2.length)(sQ:ov t)(m:Rows×Rows)(hm:iJ m.1)(p:Rows)(hp:p.length<=1000)(B1:∀k,k<t.2.2.2.2.2.2.length->∀sc,lr sc->T (λn=>vL n t (k:Int) sc m p) (l7 m p))
include ht CB sQ hm B1 hp
def aaA(E:Int×ByteArray)(D:Rows)(i:Nat)(hi:i<=t.2.2.2.2.2.2.length)(sc K:Rows)(F:lr sc)(J:cG K)(hl:K.length=i):T (λn=>zs n sc (t.2.2.2.2.2.2.length:Int) (i:Int) m t E K p D) (l7 m p):=by
 have z:=bq (aB _ (aB _ (aB _ (aB _ (aB _ (aB t ht))))))
 have z:t.2.2.2.2.2.2.length<=1099511627776:=z
 refine T.lO (σ:=Rows×Rows) (L:=λi s n=>zs n s.1 (t.2.2.2.2.2.2.length:Int) i m t E s.2 p D) t.2.2.2.2.2.2.length (λi s=>lr s.1/\cG s.2/\s.2.length=i) ?_ ?_ i hi (sc,K) ⟨F,J,hl⟩
 .rintro⟨sc,K⟩⟨h1,h2,h3⟩;refine .step (λn=>LX n) (.neg (by simp) ?_);have h3:K.length=t.2.2.2.2.2.2.length:=h3;exact(SZ t sc K m p (λn b x=>bZ n b m E x p D) (λb x hx=>.step (λn=>WD n) (.ite (λ_=>.ret ⟨dY,rfl,rfl,rfl⟩) (λ_=>.ask (Fp _ hx) λy hy=>.ret ⟨hy,rfl,rfl,rfl⟩))) ht (by grind) sQ h2 h1 hm).mono λ_ h=>h.e hp
 .rintro i⟨sc,K⟩hi⟨h1,h2,h3⟩I
  have h3:K.length=i:=h3
  refine .step (λn=>LX n) (.pos (by simp;omega) (.ask (B1 i hi sc h1) λx hx=>.ite (λc=>.ret ⟨dY,hx.2.1,hx.2.2.1,λe=>absurd e (Hr c),hx.2.2.2.2⟩) (λc=>?_)))
  have c:=ib c
  have em:(x.2.2.2.2.1,x.2.2.2.2.2.1)=m:=Prod.ext hx.2.1 hx.2.2.1
  have M:=hx.2.2.2.1 c
  rw[em,M]
  have next:∀o,lr o->T (λn=>mD n o (t.2.2.2.2.2.2.length:Int) (i:Int) m t E (K++[cy (af x)]) p D) (l7 m p):=λo hs=>by refine .step (λn=>MW n) ?_;rw[aE (i:=(i:Int)+1) (by omega) (by omega)];exact I (o,K++[cy (af x)]) ⟨hs,O7 h2 (by omega) hx.1,by simp;omega⟩
  refine .fits (by simp;omega) (.ite (λ_=>.ask (P8 _) λ_ _=>.ite (λ_=>.ask (iy _ hx.1) λy hy=>.ite (λ_=>?_) (λ_=>next _ (LZ h1 hy))) (λ_=>next _ h1)) (λ_=>next _ h1));exact .ret ⟨dY,hx.2.1,hx.2.2.1,λe=>absurd e (by grind),hx.2.2.2.2⟩
def L0(I:Int×ByteArray)(F:Rows)(sc:Rows)(o:lr sc):T (λn=>A2 n sc (t.2.2.2.2.2.2.length:Int) 0 m p t I [] F) (l7 m p):=by
 have E:=bq (aB _ (aB _ (aB _ (aB _ (aB _ (aB t ht))))))
 have E:t.2.2.2.2.2.2.length<=1099511627776:=E
 have D:cG []:=⟨cK,by simp⟩
 refine .step (λn=>abC n) (.ite (λc=>?_) (λc=>?_))
 .have c:=cO c
  refine .ask (B1 0 (by omega) sc o) λx hx=>.ite (λc=>.ret ⟨dY,hx.2.1,hx.2.2.1,λe=>absurd e (Hr c),hx.2.2.2.2⟩) (λc=>?_)
  have c:=ib c
  have em:(x.2.2.2.2.1,x.2.2.2.2.2.1)=m:=Prod.ext hx.2.1 hx.2.2.1
  have J:=hx.2.2.2.1 c
  rw[em,J]
  have next:∀z,lr z->T (λn=>mD n z (t.2.2.2.2.2.2.length:Int) 0 m t I ([]++[cy (af x)]) p F) (l7 m p):=λz hs=>by refine .step (λn=>MW n) ?_;rw[aE (i:=(0:Int)+1) (by omega) (by omega)];exact aaA t ht CB sQ m hm p hp B1 I F 1 (by omega) z _ hs (O7 D (by simp) hx.1) (by simp)
  refine .fits (by simp) (.ite (λ_=>.ask (P8 _) λ_ _=>.ite (λ_=>.ask (iy _ hx.1) λy hy=>.ite (λ_=>?_) (λ_=>next _ (LZ o hy))) (λ_=>next _ o)) (λ_=>next _ o));exact .ret ⟨dY,hx.2.1,hx.2.2.1,λe=>absurd e (by grind),hx.2.2.2.2⟩
 .have c:=eU c
  have h3:([]:Rows).length=t.2.2.2.2.2.2.length:=by grind
  exact(SZ t sc [] m p (λn b x=>b0 n b m p I x F) (λb x hx=>.step (λn=>YN n) (.ite (λ_=>.ret ⟨dY,rfl,rfl,rfl⟩) (λ_=>.ask (Fp _ hx) λy hy=>.ret ⟨hy,rfl,rfl,rfl⟩))) ht (by grind) sQ D o hm).mono λ_ h=>h.e hp
end
def Qk{t:fl}(ht:bd t){r:List AV}(hr:r∈t.2.2.2.2.2.2):bd (cN r 0):=by have h:=dG (aB _ (aB _ (aB _ (aB _ (aB _ (aB t ht)))))) hr;exact⟨trivial,ak h 1,trivial,trivial,ak h 4,ai h 5,ai h 6⟩
def O8:∀(d:Nat)(t:fl)(sc:Rows)(m:Rows×Rows)(p:Rows),fC d t->bd t->lr sc->iJ m.1->p.length+d<=1000->T (λn=>A8 n t sc m p) (l7 m p)|0,_,_,_,_,h,_,_,_,_=>by cases h|d+1,t,sc,m,p,h,ht,c,hm,hp=>by cases h with|mk h1 h2 h3=>exact .step (λn=>abD n) (L0 t ht h1 h2 m hm p (by omega) (λk hk sc c=>Qj t ht k hk sc m p (by omega) λr hr q hq=>O8 d _ sc m q (h3 r hr) (Qk ht hr) c hm (by omega)) _ _ sc c)
def ail(t:fl)(m:Rows×Rows)(h:fC 64 t)(ht:bd t)(hm:iJ m.1):T (λn=>Ii n t m []) (l7 m []):=by cases h with|mk h1 h2 h3=>exact .step (λn=>ah0 n) (L0 t ht h1 h2 m hm [] (by simp) (λk hk sc c=>Qj t ht k hk sc m [] (by simp) λr hr q hq=>O8 63 _ sc m q (h3 r hr) (Qk ht hr) c hm (by grind)) _ _ [] (by intro r hr;cases hr))
end
end Go.AI
