/- A part. -/
import Derived.Test.YteibmaelhdbgfaaGreatDoorQa
set_option linter.all false

namespace Go.AI
open Go
theorem Pg(d:ByteArray×fv)(x:ar)(h:bd d):T (λn=>sK n d x) (AQ x.2.1 λy=>y=x):=by
 have no:T (λn=>Go.AI.eP (aO n false d.1 1 x)) (AQ x.2.1 λy=>y=x):=.ow (by omega) λc=>by cases c
 exact .step (λn=>aeH n _ _) (.ask (sD d.1 h.1) λ_ _=>.ite (λ_=>.ask (vm d.2 h.2) λ_ _=>.ite (λ_=>.ow (by omega) λ_=>rfl) (λ_=>no)) (λ_=>no))
def sR(vs:Rows)(j:Nat)(x:Rows×Rows):Prop:=(bj x.1=bj (vs.take j)/\(bj x.1).Nodup/\cb 1099511627776 x.1)/\x.2.length<=1100+j/\cb 1099511627776 x.2
theorem DL{vs:Rows}{j:Nat}{d:List AV}{a b b':Rows}(h:sR vs j (a,b))(hd:vs[j]?=some d)(hn:gS d 0∉bj a)(c:bd (gS d 0))(h1:b'.length<=1100+(j+1))(h2:cb 1099511627776 b'):sR vs (j+1) (a++[[.sc (.string (gS d 0))]],b'):=by
 refine⟨⟨?_,?_,dt h.1.2.2 (dL (bm (dv c) ed) eg)⟩,h1,h2⟩
 .have:=h.1.1;rw[fJ hd];simp only[bj,List.map_append,List.map_cons,List.map_nil]at this⊢;rw[this];rfl
 .have:=h.1.2.1;simp only[bj,List.map_append,List.map_cons,List.map_nil]at this⊢;rw[yu];exact⟨this,hn⟩
theorem L2{used dir z vs:Rows}(gC:bd vs)(Z:vs.length<=32)(hu:bd used)(E:bd dir)(F:bd z){Q:ar->Prop}{j:Nat}{a b:Rows}(hj:j<vs.length)(O:sR vs j (a,b))
 {J:Nat->List AV->Bool->ar->Option (aW ar Unit)}{J':Nat->List AV->Bool->ar->Option (aW ar Unit)}{S:ar}
 (hJ:∀d x,vs[j]?=some d->gS d 0∉bj a->T (λn=>J n d x S) (AQ S.2.1 Q)):
 T (λn=>(ab vs (j:Int) λr1=>(aw (sK n (du r1 0) S) λI=>(ask (uL n dir (gS r1 0) (gI r1 1) (gS r1 2) (gD r1 3)) λD=>(ask (uM n z (gS r1 0) (gI r1 1) (gS r1 2) (gD r1 3)) λY=>(ask (gu n used (gS r1 0)) λX=>(aa (!X) (ask (gu n a (gS r1 0)) λV=>(aa (!V) (aa D (aw (aO n true (gS r1 0) 8 I) λU=>(J n r1 D U)) (aw (aO n (!Y) (gS r1 0) 8 I) λM=>(J n r1 D M))) (aw (aO n false (gS r1 0) 8 I) λL=>(J n r1 D L)))) (aw (aO n false (gS r1 0) 8 I) λK=>(J' n r1 D K))))))))) (AQ S.2.1 Q):=by
 refine .ab (by omega) (by omega) λd o=>?_
 have o:vs[j]?=some d:=by grind
 have k:=an gC o
 have Uf:a.length=j:=by have:=congrArg List.length O.1.1;simp only[bj,List.length_map,List.length_take]at this;omega
 have N:bd a:=⟨by omega,O.1.2.2⟩
 refine .aw (Pg (du d 0) S ⟨ak k 0,trivial,ak k 2,ai k 3⟩) λx hx=>?_
 subst hx
 refine .ask (aae dir _ _ _ _ E (ak k 0) (ak k 2) (ai k 3)) λR _=>.ask (aag z _ _ _ _ F (ak k 0) (ak k 2) (ai k 3)) λb4 _=>.ask (kH used _ hu) λb5 _=>.ite (λ_=>?_) (λ_=>.bw (by omega) λc=>by cases c)
 refine .ask (kH a _ N) λb6 h6=>.ite (λc=>?_) (λ_=>.bw (by omega) λc=>by cases c)
 have c:gS d 0∉bj a:=λe=>by grind
 exact .ite (λ_=>.bw (by omega) λ_=>hJ d R o c) (λ_=>.bw (by omega) λ_=>hJ d R o c)
theorem XG{env:Env}(he:bd env){used dir o vs:Rows}(gC:bd vs)(O:vs.length<=32)(hu:bd used)(F:bd dir)(K:bd o){Q:ar->Prop}{S:ar}{al:Rows}(I:bd al)(U:(bj vs).Nodup->Q S){j:Nat}(hj:j<=vs.length){a b:Rows}(z:sR vs j (a,b)):
 T (λn=>rG n used dir vs (vs.length:Int) (j:Int) S env o a al b) (AQ S.2.1 Q):=by
 refine T.lO (σ:=Rows×Rows) (L:=λj t n=>rG n used dir vs (vs.length:Int) j S env o t.1 al t.2) vs.length (sR vs) ?_ ?_ j hj (a,b) z
 .intro t ht;refine .step (λn=>KI n _ _ _ _ _ _ _ _ _ _ _) (.neg (by simp) (.ok (U ?_)));have:=ht.1.2.1;rw[ht.1.1]at this;grind
 .rintro j⟨a,b⟩hj z R
  refine .step (λn=>KI n _ _ _ _ _ _ _ _ _ _ _) (.pos (by simp;omega) ?_)
  refine L2 gC O hu F K hj z (J:=λn r1 N M=>pP n used dir N vs (vs.length:Int) (j:Int) M env o a (du r1 0) al b) (J':=λn r1 N M=>pP n used dir N vs (vs.length:Int) (j:Int) M env o a (du r1 0) al b) λd x D E=>?_
  have k:=an gC D
  have hall:a.length=j:=by have:=congrArg List.length z.1.1;simp only[bj,List.length_map,List.length_take]at this;omega
  have eR:=z.2.1
  have eR:b.length<=1100+j:=eR
  refine .step (λn=>V3 n _ _ _ _ _ _ _ _ _ _ _ _ _) (.ask (Fm env _ he ⟨trivial,ak k 2,ai k 3⟩) λ_ _=>.bw (by omega) λ_=>.fits (by simp;omega) (.ite (λ_=>?_) (λ_=>?_)))
  .refine .ask (Ar b (by omega)) λc hc=>?_;subst hc;refine .fits (by simp;omega) (.step (λn=>VV n _ _ _ _ _ _ _ _ _ _ _ _) ?_);have h2:cb 1099511627776 (c++[fA (du d 0)]):=dt z.2.2 (dL (CC (ak k 0) (x:=(gI d 1,gS d 2,gD d 3)) ⟨trivial,ak k 2,ai k 3⟩) eg);refine .ask (lP (al,c++[fA (du d 0)]) ⟨I,by simp;omega,h2⟩) λ_ _=>.bw (by omega) λ_=>?_;rw[aE (i:=(j:Int)+1) (by omega) (by omega)];exact R (_,_) (DL z D E (ak k 0) (by simp;omega) h2)
  .refine .step (λn=>VX n _ _ _ _ _ _ _ _ _ _ _ _) ?_;refine .ask (lP (al,b) ⟨I,by grind,z.2.2⟩) λ_ _=>.bw (by omega) λ_=>?_;rw[aE (i:=(j:Int)+1) (by omega) (by omega)];exact R (_,_) (DL z D E (ak k 0) (by omega) z.2.2)
theorem aaC{env:Env}(he:bd env){used dir o vs:Rows}(gC:bd vs)(F:vs.length<=32)(hu:bd used)(z:bd dir)(D:bd o){Q:ar->Prop}{S:ar}{al b:Rows}(K:bd al)(E:bd b)(eR:b.length<=1100)(O:(bj vs).Nodup->Q S):
 T (λn=>Ey n used dir vs (vs.length:Int) 0 S env o [] al b) (AQ S.2.1 Q):=by
 have R:sR vs 0 ([],b):=⟨⟨by simp,by simp,trivial⟩,eR,E.2⟩
 refine .step (λn=>YY n _ _ _ _ _ _ _ _ _ _ _) (.ite (λc=>?_) (λc=>.ok (O ?_)))
 .have c:=cO c
  refine L2 (j:=0) gC F hu z D (by omega) R (J:=λn r1 M L=>ud n used dir M vs (vs.length:Int) 0 L env o [] (du r1 0) al b) (J':=λn r1 M L=>Km n used dir M vs (vs.length:Int) 0 L env o [] (du r1 0) al b) λd x I N=>?_
  have k:=an gC I
  have go:∀b':Rows,b'.length<=1101->cb 1099511627776 b'->T (λn=>zr n used dir vs (vs.length:Int) 0 S env o [[.sc (.string (gS d 0))]] (du d 0) al b') (AQ S.2.1 Q):=λb' h1 h2=>by refine .step (λn=>XB n _ _ _ _ _ _ _ _ _ _ _ _) (.ask (lP (al,b') ⟨K,by grind,h2⟩) λ_ _=>.bw (by omega) λ_=>?_);rw[aE (i:=(0:Int)+1) (by omega) (by omega)];exact XG he gC F hu z D K O (j:=1) (by omega) (DL (a:=[]) R I N (ak k 0) (by omega) h2)
  refine .step (λn=>XC n _ _ _ _ _ _ _ _ _ _ _ _ _) (.ask (Fm env _ he ⟨trivial,ak k 2,ai k 3⟩) λ_ _=>.bw (by omega) λ_=>.fits (by simp) (.ite (λ_=>?_) (λ_=>go b (by omega) E.2)));refine .ask (Ar b (by omega)) λc hc=>?_;subst hc;exact .fits (by simp;omega) (go _ (by simp;omega) (dt E.2 (dL (CC (ak k 0) (x:=(gI d 1,gS d 2,gD d 3)) ⟨trivial,ak k 2,ai k 3⟩) eg)))
 simp_all
section
open BD(cA)
theorem aaD(l u:Rows)(hl:bd l)(hu:bd u):T (λn=>Ff n l u) λx=>x.2=u:=by
 have h1:=bq hl
 have lp:∀(o:Int),0<=o->o<=(l.length:Int)->T (λn=>tB n l (l.length:Int) o u) λx=>x.2=u:=λo D z=>by
  refine T.dx (σ:=Unit) (L:=λi _ n=>tB n l (l.length:Int) i u) l.length (λ_=>True) ?_ ?_ o D z () trivial
  .exactλ_ _=>.step (λn=>Ky n _ _ _ _) (.neg (by simp) (.ret rfl))
  .intro i _ hi _ E;refine .step (λn=>Ky n _ _ _ _) (.pos (by simp;omega) (.ab (by omega) (by omega) λr hr=>.ask (Q':=λx=>x.2=u) (.step (λn=>PV n _ _) (.ask (kH u _ hu) λ_ _=>.ret rfl)) λx hx=>.ite (λ_=>.ret hx) (λ_=>?_)));rw[aE (i:=(i:Int)+1) (by omega) (by omega),hx];simp_all
 refine .step (λn=>abA n _ _) (.ask (Q':=λx=>x.2=u) (.step (λn=>Y7 n _ _) (.step (λn=>WH n _ _ _ _) (.ite (λc=>?_) (λ_=>.ret rfl)))) λx hx=>.ret hx);have c:=cO c;refine .ab (by omega) (by omega) λr hr=>.ask (Q':=λx=>x.2=u) (.step (λn=>PV n _ _) (.ask (kH u _ hu) λ_ _=>.ret rfl)) λx hx=>.ite (λ_=>.ret hx) (λ_=>?_);rw[aE (i:=(0:Int)+1) (by omega) (by omega),hx];exact lp _ (by omega) (by omega)
def Hw(p:Rows)(i:Nat)(r:List AV)(x:ar):Prop:=∃s l g:Env,x=aH p i r s l g/\bd s/\bd l/\bd g/\Ev (λn=>l5 n p (i:Int)) l/\Ev (λn=>Cs n p (i:Int)) g/\(gI r 0=2->(bj (gD r 7)).Nodup)
section
variable {p:Rows}{i:Nat}{r:List AV}{s l g:Env}(hb:cA 16777216 p)(hn:p.length<=16)(hr:p[i]?=some r)(hp:∀(k:Nat)q,k<i->p[k]?=some q->Hd p k q)(hd:Hd p i r)
include hb hn hr hp hd
theorem vp:Sur p i:=Pe hb hn hr hp hd.ln (λe=>let h:=hd.rf e;⟨h.1,h.2.1⟩) λq hq=>let h:=hd.ex q hq;⟨h.1,h.2.1⟩
theorem L3(a b:Rows)(ha:bd a)(c:bd b)(hv:gI r 0=2->(bj (gD r 7)).Nodup):T (λn=>zN n (aH p i r s l g) a b) (AQ i (Hw p i r)):=by have hs:=vp hb hn hr hp hd;exact .step (λn=>ZM n _ _ _) (.mV hs.loc λx z hx=>.mV hs.glu λy o hy=>.ok ⟨(a,b),x,y,rfl,⟨ha,c⟩,hx.1,hy.1,z,o,hv⟩)
theorem ab7{w:List AV}(hw:Sur (p.take i++[w]) i)(env:Env)(used:Rows)(he:bd env)(hu:bd used):T (λn=>Gp n (p.take i++[w]) env used (aH p i r s l g)) (AQ i λx=>x=aH p i r s l g/\(bj (gD r 7)).Nodup):=by have hs:=vp hb hn hr hp hd;have D:=dG hs.bp (List.mem_of_getElem? hr);have hi:=hs.hi;have hlt:=lI hs.hh (by omega) hr;refine .step (λn=>adW n _ _ _ _) (.ask hw.Iq λv hv=>.ask hw.Ir λe o=>.cR (iY p i r hs.bp hr) ?_);have fin:∀dir:Rows,bd dir->T (λn=>zT n used dir (aH p i r s l g) env v e.1 e.2) (AQ i λx=>x=aH p i r s l g/\(bj (gD r 7)).Nodup):=λdir z=>.step (λn=>Y9 n _ _ _ _ _ _ _) (aaC (vs:=gD r 7) he (ai D 7) hd.ln.2.2 hu z hv.1 (dc e o.1) (aB e o.1) o.2.2.1 λh=>⟨rfl,h⟩);refine .ite (λc=>?_) (λ_=>fin [] cK);have c:=cO c;exact .ab c (by grind) λq hq=>fin _ (ai (an hs.bp hq) 7)
theorem aaE{w:List AV}(hw:Sur (p.take i++[w]) i)(a b used:Rows)(ha:bd a)(o:bd b)(eR:b.length<=600)(hu:bd used)(D:used.length<=1001000000000):
 T (λn=>vk n (gD r 5) ((gD r 5).length:Int) 0 (aH p i r s l g) (ct r) (p.take i++[w]) a b used) (AQ i (Hw p i r)):=by
 have hs:=vp hb hn hr hp hd
 have F:=dG hs.bp (List.mem_of_getElem? hr)
 have J:=hd.ln.2.1
 refine T.loop (σ:=Rows×Rows) (L:=λj t n=>vk n (gD r 5) ((gD r 5).length:Int) j (aH p i r s l g) (ct r) (p.take i++[w]) a t.1 t.2) (gD r 5).length (λj t=>(t.1.length<=600+j/\cb 1099511627776 t.1)/\t.2.length<=1001000000000+j/\cb 1099511627776 t.2) ?_ ?_ (b,used) ⟨⟨eR,o.2⟩,D,hu.2⟩
 .rintro⟨b,u⟩⟨⟨h1,h2⟩,h3,h4⟩;have h1:b.length<=600+(gD r 5).length:=h1;have h3:u.length<=1001000000000+(gD r 5).length:=h3;have o:bd b:=⟨by omega,h2⟩;have z:bd u:=⟨by omega,h4⟩;refine .step (λn=>OB n _ _ _ _ _ _ _ _ _) (.neg (by simp) (.ite (λ_=>.aw (ab7 hb hn hr hp hd hw (a,b) u ⟨ha,o⟩ z) λx hx=>?_) (λc=>L3 hb hn hr hp hd a b ha o λe=>absurd e (by grind))));obtain⟨rfl,hx⟩:=hx;exact L3 hb hn hr hp hd a b ha o λ_=>hx
 .rintro j⟨b,u⟩hj⟨⟨h1,h2⟩,h3,h4⟩I;have h1:b.length<=600+j:=h1;have h3:u.length<=1001000000000+j:=h3;have o:bd b:=⟨by omega,h2⟩;have z:bd u:=⟨by omega,h4⟩;refine .step (λn=>OB n _ _ _ _ _ _ _ _ _) (.pos (by simp;omega) (.ab (by omega) (by omega) λd E=>?_));have k:=an (ai F 5) E;refine .aw (Pg (du d 0) _ ⟨ak k 0,trivial,ak k 2,ai k 3⟩) λx hx=>?_;subst hx;refine .ask (kH u _ z) λ_ _=>.bw (by omega) λ_=>.ask (Fm (a,b) _ ⟨ha,o⟩ ⟨trivial,ak k 2,ai k 3⟩) λ_ _=>.bw (by omega) λ_=>.fits (by simp;omega) (.ask (Ar b (by omega)) λc hc=>?_);subst hc;have h5:cb 1099511627776 (c++[fA (du d 0)]):=dt h2 (dL (CC (ak k 0) (x:=(gI d 1,gS d 2,gD d 3)) ⟨trivial,ak k 2,ai k 3⟩) eg);refine .fits (by simp;omega) (.ask (lP (a,c++[fA (du d 0)]) ⟨ha,by simp;omega,h5⟩) λ_ _=>.bw (by omega) λ_=>?_);rw[aE (i:=(j:Int)+1) (by omega) (by omega)];exact I (_,_) ⟨⟨by simp;omega,h5⟩,by simp;omega,dt h4 (dL (bm (dv (ak k 0)) ed) eg)⟩
theorem agy:T (λn=>H7 n (aH p i r s l g)) (AQ i (Hw p i r)):=by
 have hs:=vp hb hn hr hp hd
 have J:=hs.bp
 have o:r∈p:=List.mem_of_getElem? hr
 have I:=dG J o
 have hi:=hs.hi
 have M:=hd.ln.1
 refine .step (λn=>ah4 n _) (.ez (by grind) (.ask (O6 _ (by simp;omega)) λq hq=>?_))
 have e1:((p.drop (0:Int).toNat).take ((i:Int).toNat-(0:Int).toNat))=p.take i:=by simp
 have hq:q=p.take i:=hq.trans e1
 subst hq
 refine .fits (by simp;omega) ?_
 have hm:=dG hb o
 have hw:eS 16777216 (jj (gI r 0,gS r 1,gD r 2,gS r 3,[],[],gD r 6,[],gD r 8,gD r 9,gB r 10,gD r 11,gD r 12,gD r 13)):=bm ki (bm (dv (ak hm 1)) (bm (ef (ai hm 2)) (bm (dv (ak hm 3)) (bm (ef cK) (bm (ef cK) (bm (ef (ai hm 6)) (bm (ef cK) (bm (ef (ai hm 8)) (bm (ef (ai hm 9)) (bm HW (bm (ef (ai hm 11)) (bm (ef (ai hm 12)) (bm (ef (ai hm 13)) ed)))))))))))))
 have z:Sur (p.take i++[jj (gI r 0,gS r 1,gD r 2,gS r 3,[],[],gD r 6,[],gD r 8,gD r 9,gB r 10,gD r 11,gD r 12,gD r 13)]) i:=Sur.put hb hn hr (Pd hb hn hr hp) (λk q hk hq=>(hp k q hk hq).ln) (λe=>let h:=hd.rf e;⟨h.1,h.2.1⟩) (λq hq=>let h:=hd.ex q hq;⟨h.1,h.2.1⟩) hw ⟨Nat.zero_le _,Nat.zero_le _,Nat.zero_le _⟩
 refine .ask z.stat λe he=>.ask (Pa e he.1 (by have:=he.2.1;omega) (by have:=he.2.2.1;omega) he.2.2.2) λu hu=>?_
 have E:=hu.2
 have F:=he.2.1
 have N:=he.2.2.1
 refine T.loop (σ:=Rows×Rows) (L:=λj t n=>AN n (gD r 4) ((gD r 4).length:Int) j (aH p i r s l g) (ct r) (p.take i++[jj (gI r 0,gS r 1,gD r 2,gS r 3,[],[],gD r 6,[],gD r 8,gD r 9,gB r 10,gD r 11,gD r 12,gD r 13)]) t.1 e.2 t.2) (gD r 4).length (λj t=>(t.1.length<=544+j/\cb 1099511627776 t.1)/\t.2.length<=1000000000000+16777217*j/\cb 1099511627776 t.2) ?_ ?_ (e.1,u) ⟨⟨F,(dc e he.1).2⟩,E,hu.1.2⟩
 .rintro⟨a,v⟩⟨⟨h1,h2⟩,h3,h4⟩;have h1:a.length<=544+(gD r 4).length:=h1;have h3:v.length<=1000000000000+16777217*(gD r 4).length:=h3;exact .step (λn=>OE n _ _ _ _ _ _ _ _ _) (.neg (by simp) (aaE hb hn hr hp hd z a e.2 v ⟨by omega,h2⟩ (aB e he.1) (by omega) ⟨by omega,h4⟩ (by omega)))
 .rintro j⟨a,v⟩hj⟨⟨h1,h2⟩,h3,h4⟩K;have h1:a.length<=544+j:=h1;have h3:v.length<=1000000000000+16777217*j:=h3;refine .step (λn=>OE n _ _ _ _ _ _ _ _ _) (.pos (by simp;omega) (.ab (by omega) (by omega) λd D=>?_));have k:=an (ai I 4) D;have O:=hs.cs o 4 (List.mem_of_getElem? D);refine .ask (sD _ (ak k 0)) λ_ _=>.ite (λ_=>.ask (aii (gD d 1) (ai k 1)) λ_ _=>.bw (by omega) λ_=>?_) (λ_=>.bw (by omega) λc=>by cases c);have ha:bd ([[.sc (.string (gS d 0))]]++gD d 1):=⟨by simp;omega,dt (dL (bm (dv (ak k 0)) ed) eg) (ai k 1).2⟩;refine .step (λn=>ZL n _ _ _ _ _ _ _ _ _ _) (.fits (by simp;omega) (.ask (sg _ ha) λ_ _=>.ite (λ_=>.ask (aaD _ v ha ⟨by omega,h4⟩) λx hx=>.bw (by omega) λ_=>?_) (λ_=>.bw (by omega) λc=>by cases c)));rw[hx];refine .step (λn=>Zy n _ _ _ _ _ _ _ _ _ _ _) (.fits (by simp;omega) (.ask (abY a (by omega)) λc hc=>?_));subst hc;have h5:cb 1099511627776 (c++[[.sc (.string (gS d 0)),.aQ (gD d 1) 1]]):=dt h2 (dL (bm (dv (ak k 0)) (bm (ef (ai k 1)) ed)) eg);refine .fits (by simp;omega) (.ask (lP (c++[[.sc (.string (gS d 0)),.aQ (gD d 1) 1]],e.2) ⟨⟨by simp;omega,h5⟩,aB e he.1⟩) λ_ _=>.bw (by omega) λ_=>?_);rw[aE (i:=(j:Int)+1) (by omega) (by omega)];exact K (_,_) ⟨⟨by simp;omega,h5⟩,by simp;omega,dt h4 ha.2⟩
end
end
section
open BD(cA)
theorem NI(cl:Rows)(S:ar)(env:Env)(o:bd cl)(he:bd env):T (λn=>AP n cl S env) (AQ S.2.1 λx=>x=S):=by
 have hl:=bq o
 refine .step (λn=>abL n _ _ _) ?_
 refine T.loop (σ:=Unit) (L:=λj _ n=>AO n cl cl (cl.length:Int) j S env) cl.length (λ_ _=>True) ?_ ?_ () trivial
 .exactλ_ _=>.step (λn=>OL n _ _ _ _ _ _) (.neg (by simp) (.ok rfl))
 .intro j _ hj _ D;refine .step (λn=>OL n _ _ _ _ _ _) (.pos (by simp;omega) (.ab (by omega) (by omega) λq hq=>?_));have k:=an o hq;have z:bd (cN q 1):=⟨trivial,ak k 2,trivial,trivial,ak k 5,ai k 6,ai k 7⟩;refine .ask (sD _ (ak k 0)) λ_ _=>.ite (λ_=>.ask (sB _ z) λ_ _=>.bw (by omega) λ_=>?_) (λ_=>.bw (by omega) λc=>by cases c);refine .step (λn=>abN n _ _ _ _ _ _ _ _) (.ez (by omega) (.ask (afJ _ _ _ _ _ _ _ _ _ _ (wk o) (ak k 0) (ak k 2) (ak k 5) (ai k 6) (ai k 7)) λ_ _=>.bw (by omega) λ_=>.ask (S2 env _ he z) λ_ _=>.fail λ_=>?_));rw[aE (i:=(j:Int)+1) (by omega) (by omega)];simp_all
theorem agz{p:Rows}{i:Nat}{r:List AV}(hs:Sur p i)(hr:p[i]?=some r):T (λn=>s3 n p (i:Int)) bd:=by
 have hlt:=lI hs.hh (by omega) hr
 have hi:=hs.hi
 have fin:∀q,(0<=bR p r->p[(bR p r).toNat]?=some q)->(0<=bR p r->q∈p)->T (λn=>s3 n p (i:Int)) bd:=λq hq c=>by
  refine .step (λn=>SH n _ _) (.cR (Qq p i r true hs.bp hr (λr hr j=>hs.e hr j) q hq) (.ret ?_))
  split
  .exact cK
  .have c:=c (by omega)
   have:=hs.e c 7
   refine⟨?_,lL λx hx=>?_⟩
   .unfold da;grind
   .unfold da at hx;obtain⟨d,hd,rfl⟩:=List.mem_map.1 hx;exact bm (dv (ak (dG (ai (dG hs.bp c) 7) (List.mem_filter.1 hd).1) 0)) ed
 grind
section
variable {p:Rows}{i:Nat}{r:List AV}{s l g:Env}(hs:Sur p i)(hr:p[i]?=some r)(eC:bd s)(eR:bd l)(gG:bd g)
include hs hr
theorem sE:bd (gD r 7):=ai (dG hs.bp (List.mem_of_getElem? hr)) 7
include gG eC
theorem agA:T (λn=>H8 n (aH p i r s l g)) (AQ i λx=>x=aH p i r s l g):=by have k:=dG hs.bp (List.mem_of_getElem? hr);exact .step (λn=>aho n _) (.ite (λ_=>NI (gD r 8) _ g (ai k 8) gG) (λ_=>NI (gD r 6) _ s (ai k 6) eC))
omit gG eC
include eR
theorem agB:T (λn=>H9 n (aH p i r s l g)) (AQ i λx=>x=aH p i r s l g):=by
 have k:=dG hs.bp (List.mem_of_getElem? hr)
 have c:=ai k 9
 have hl:=bq c
 refine .step (λn=>ahx n _) ?_
 refine T.loop (σ:=Unit) (L:=λj _ n=>vi n (gD r 9) ((gD r 9).length:Int) j (aH p i r s l g)) (gD r 9).length (λ_ _=>True) ?_ ?_ () trivial
 .exactλ_ _=>.step (λn=>OU n _ _ _ _) (.neg (by simp) (.ok rfl))
 .intro j _ hj _ z;refine .step (λn=>OU n _ _ _ _) (.pos (by simp;omega) (.ab (by omega) (by omega) λq hq=>?_));have k:=an c hq;have o:bd (cN q 0):=⟨trivial,ak k 1,trivial,trivial,ak k 4,ai k 5,ai k 6⟩;refine .ask (sB _ o) λ_ _=>.bw (by omega) λ_=>.ask (B3 l _ eR o) λ_ _=>.fail λ_=>?_;rw[aE (i:=(j:Int)+1) (by omega) (by omega)];exact .ite (λ_=>.bw (by omega) λ_=>z () trivial) (λ_=>.bw (by omega) λ_=>z () trivial)
omit eR
theorem L4{cl:ByteArray}{acts kp:Rows}{fr:Bool}(ha:bd acts)(hk:bd kp){Q:ar->Prop}{j:Nat}(hj:j<acts.length){J1 J2 J3:Nat->List AV->Int->ar->Option (aW ar Unit)}
 (h1:∀q(x:Int),acts[j]?=some q->0<=x->x<(gD r 7).length->T (λn=>J1 n q x (aH p i r s l g)) (AQ i Q))(h2:∀q(x:Int),acts[j]?=some q->0<=x->x<(gD r 7).length->T (λn=>J2 n q x (aH p i r s l g)) (AQ i Q)):
 T (λn=>ab acts (j:Int) λr1=>(ask (vJ n (gD r 7) (gS r1 0) (gB r1 1) (gI r1 2) (gS r1 3) (gI r1 4) (gI r1 5) (gS r1 6) (gD r1 7) (gD r1 8)) λo=>(aw (aO n (decide ((o:Int)>=0)) cl 6 (aH p i r s l g)) λz=>(ez acts 0 (j:Int) λK=>(ask (uz n K (gS r1 0) (gB r1 1) (gI r1 2) (gS r1 3) (gI r1 4) (gI r1 5) (gS r1 6) (gD r1 7) (gD r1 8)) λJ=>(aa (!J) (aa fr (ask (gu n kp (gS r1 0)) λI=>(aw (aO n (!I) cl 36 z) λF=>(J1 n r1 o F))) (aw (aO n true cl 36 z) λE=>(J2 n r1 o E))) (aw (aO n false cl 36 z) λD=>(J3 n r1 o D)))))))) (AQ i Q):=by
 have hl:=bq ha
 have hv:=sE hs hr
 refine .ab (by omega) (by omega) λq hq=>?_
 have hq:acts[j]?=some q:=by grind
 have k:=an ha hq;refine .ask (afR (gD r 7) _ _ _ _ _ _ _ _ _ hv (ak k 0) (ak k 3) (ak k 6) (ai k 7) (ai k 8)) λx hx=>.bw (by omega) λc=>?_;have c:=cO c;refine .ez (by omega) (.ask (Z5 _ _ _ _ _ _ _ _ _ _ (wk ha) (ak k 0) (ak k 3) (ak k 6) (ai k 7) (ai k 8)) λ_ _=>.ite (λ_=>.ite (λ_=>.ask (kH kp _ hk) λ_ _=>.bw (by omega) λ_=>h1 q x hq c hx.2) (λ_=>.bw (by omega) λ_=>h2 q x hq c hx.2)) (λ_=>.bw (by omega) λc=>by cases c))
theorem EW{cl:ByteArray}{env:Env}(he:bd env){q:List AV}(hq:cA 1099511627776 q){x:Int}(h0:0<=x)(h1:x<(gD r 7).length){Q:ar->Prop}{J1 J2:Nat->ar->Option (aW ar Unit)}(D:T (λn=>J1 n (aH p i r s l g)) (AQ i Q))(z:T (λn=>J2 n (aH p i r s l g)) (AQ i Q)){K1 K2:Nat->Int×ByteArray×Rows×Int->ar->List AV->Option (aW ar Unit)}(e1:∀n o c r3,K1 (n+1) o c r3=(ask (j6 n (af o) (dQ (5,(bs [])) [(cy (aK r3 1))])) λo=>(aw (aO n o cl 7 c) λc=>J1 n c)))(e2:∀n o c r3,K2 (n+1) o c r3=(ask (j6 n (af o) (aK r3 1)) λo=>(aw (aO n o cl 7 c) λc=>J2 n c))):T (λn=>(ask (iI n env (cN q 2)) λo=>(aw (jH n cl o.2.2.2 (aH p i r s l g)) λc=>(ab c.2.2.2.2.2.2.2.2.2.1 x λr3=>(aa (gB q 1) (K1 n o c r3) (K2 n o c r3)))))) (AQ i Q):=by have hv:=sE hs hr;refine .ask (B3 env _ he ⟨trivial,ak hq 3,trivial,trivial,ak hq 6,ai hq 7,ai hq 8⟩) λx hx=>.fail λ_=>.ab h0 h1 λd hd=>?_;have k:=an hv hd;have E:bd (aK d 1):=⟨trivial,ak k 2,ai k 3⟩;have h3:bd (af x):=⟨trivial,hx.2.1,hx.2.2.1⟩;exact .ite (λ_=>.step (λn=>e1 n _ _ _) (.ask (sC _ _ h3 ⟨trivial,dz,bdO (qS E) (by omega)⟩) λ_ _=>.bw (by omega) λ_=>D)) (λ_=>.step (λn=>e2 n _ _ _) (.ask (sC _ _ h3 E) λ_ _=>.bw (by omega) λ_=>z))
theorem Ph{cl:ByteArray}{acts:Rows}(ha:bd acts){env:Env}(he:bd env)(fr:Bool):T (λn=>sJ n cl acts env fr (aH p i r s l g)) (AQ i λx=>x=aH p i r s l g):=by
 have hl:=bq ha
 refine .step (λn=>adS n _ _ _ _ _) (.ask (agz hs hr) λkp hk=>?_)
 have J:∀(k:Nat),k<=acts.length->T (λn=>ky n cl acts fr acts (acts.length:Int) (k:Int) (aH p i r s l g) env kp) (AQ i λx=>x=aH p i r s l g):=by
  intro k E
  refine T.lO (σ:=Unit) (L:=λj _ n=>ky n cl acts fr acts (acts.length:Int) j (aH p i r s l g) env kp) acts.length (λ_ _=>True) ?_ ?_ k E () trivial
  .exactλ_ _=>.step (λn=>KC n _ _ _ _ _ _ _ _ _) (.neg (by simp) (.ok rfl))
  .intro j _ hj _ D
   refine .step (λn=>KC n _ _ _ _ _ _ _ _ _) (.pos (by simp;omega) ?_)
   have go:∀q(x:Int),acts[j]?=some q->0<=x->x<(gD r 7).length->T (λn=>kD n cl acts fr x acts (acts.length:Int) (j:Int) (aH p i r s l g) env kp (eZ q 0)) (AQ i λx=>x=aH p i r s l g):=λq x hq h0 h1=>by
    have z:T (λn=>ky n cl acts fr acts (acts.length:Int) (be ((j:Int)+1)) (aH p i r s l g) env kp) (AQ i λx=>x=aH p i r s l g):=by rw[aE (i:=(j:Int)+1) (by omega) (by omega)];exact D () trivial
    exact .step (λn=>Ny n _ _ _ _ _ _ _ _ _ _ _) (EW hs hr he (an ha hq) h0 h1 (J1:=λn S=>ky n cl acts fr acts (acts.length:Int) (be ((j:Int)+1)) S env kp) (J2:=λn S=>ky n cl acts fr acts (acts.length:Int) (be ((j:Int)+1)) S env kp) z z (K1:=λn o c r3=>zo n cl acts fr acts (acts.length:Int) (j:Int) c env kp (af o) (5,(bs [])) [(cy (aK r3 1))]) (K2:=λn o c r3=>yF n cl acts fr acts (acts.length:Int) (j:Int) c env kp (af o) (aK r3 1)) (λn o c r3=>LR n _ _ _ _ _ _ _ _ _ _ _ _) (λn o c r3=>JM n _ _ _ _ _ _ _ _ _ _ _))
   exact L4 hs hr ha hk hj (J1:=λn r1 c S=>kD n cl acts fr c acts (acts.length:Int) (j:Int) S env kp (eZ r1 0)) (J2:=λn r1 c S=>kD n cl acts fr c acts (acts.length:Int) (j:Int) S env kp (eZ r1 0)) (J3:=λn r1 c S=>kD n cl acts fr c acts (acts.length:Int) (j:Int) S env kp (eZ r1 0)) go go
 refine T.loop (σ:=Unit) (L:=λj _ n=>oa n cl acts fr acts (acts.length:Int) j (aH p i r s l g) env kp) acts.length (λ_ _=>True) ?_ ?_ () trivial
 .exactλ_ _=>.step (λn=>MQ n _ _ _ _ _ _ _ _ _) (.neg (by simp) (.ok rfl))
 .intro j _ hj _ D
  refine .step (λn=>MQ n _ _ _ _ _ _ _ _ _) (.pos (by simp;omega) ?_)
  have I:∀q(x:Int),acts[j]?=some q->0<=x->x<(gD r 7).length->T (λn=>kD n cl acts fr x acts (acts.length:Int) (j:Int) (aH p i r s l g) env kp (eZ q 0)) (AQ i λx=>x=aH p i r s l g):=λq x hq h0 h1=>by
   have z:T (λn=>ky n cl acts fr acts (acts.length:Int) (be ((j:Int)+1)) (aH p i r s l g) env kp) (AQ i λx=>x=aH p i r s l g):=by rw[aE (i:=(j:Int)+1) (by omega) (by omega)];exact J (j+1) (by omega)
   exact .step (λn=>Ny n _ _ _ _ _ _ _ _ _ _ _) (EW hs hr he (an ha hq) h0 h1 (J1:=λn S=>ky n cl acts fr acts (acts.length:Int) (be ((j:Int)+1)) S env kp) (J2:=λn S=>ky n cl acts fr acts (acts.length:Int) (be ((j:Int)+1)) S env kp) z z (K1:=λn o c r3=>zo n cl acts fr acts (acts.length:Int) (j:Int) c env kp (af o) (5,(bs [])) [(cy (aK r3 1))]) (K2:=λn o c r3=>yF n cl acts fr acts (acts.length:Int) (j:Int) c env kp (af o) (aK r3 1)) (λn o c r3=>LR n _ _ _ _ _ _ _ _ _ _ _ _) (λn o c r3=>JM n _ _ _ _ _ _ _ _ _ _ _))
  have F:∀q(x:Int),acts[j]?=some q->0<=x->x<(gD r 7).length->T (λn=>rE n cl acts fr x acts (acts.length:Int) (j:Int) (aH p i r s l g) env kp (eZ q 0)) (AQ i λx=>x=aH p i r s l g):=λq x hq h0 h1=>by
   have z:T (λn=>oa n cl acts fr acts (acts.length:Int) (be ((j:Int)+1)) (aH p i r s l g) env kp) (AQ i λx=>x=aH p i r s l g):=by rw[aE (i:=(j:Int)+1) (by omega) (by omega)];exact D () trivial
   exact .step (λn=>Wz n _ _ _ _ _ _ _ _ _ _ _) (EW hs hr he (an ha hq) h0 h1 (J1:=λn S=>oa n cl acts fr acts (acts.length:Int) (be ((j:Int)+1)) S env kp) (J2:=λn S=>oa n cl acts fr acts (acts.length:Int) (be ((j:Int)+1)) S env kp) z z (K1:=λn o c r3=>Dd n cl acts fr acts (acts.length:Int) (j:Int) c env kp (af o) (5,(bs [])) [(cy (aK r3 1))]) (K2:=λn o c r3=>De n cl acts fr acts (acts.length:Int) (j:Int) c env kp (af o) (aK r3 1)) (λn o c r3=>VZ n _ _ _ _ _ _ _ _ _ _ _ _) (λn o c r3=>V2 n _ _ _ _ _ _ _ _ _ _ _))
  exact L4 hs hr ha hk hj (J1:=λn r1 c S=>kD n cl acts fr c acts (acts.length:Int) (j:Int) S env kp (eZ r1 0)) (J2:=λn r1 c S=>rE n cl acts fr c acts (acts.length:Int) (j:Int) S env kp (eZ r1 0)) (J3:=λn r1 c S=>rE n cl acts fr c acts (acts.length:Int) (j:Int) S env kp (eZ r1 0)) I F
end
end
section
open BD(cA)
inductive PT:Env->Rows->Prop|nil{e:Env}:PT e []|cons{e e':Env}{q k:List AV}{qs:Rows}{x:Int×ByteArray×Rows×Int}{er:Int}:Ev (λn=>iI n e (cN q 1)) x->x.1=5->x.2.2.1[0]?=some k->Ev (λn=>np n e (gS q 0) (aK k 0)) (e'.1,e'.2,er)->PT e' qs->PT e (q::qs)
structure Ps(p:Rows)(i:Nat)(r:List AV):Prop extends Hd p i r where
 vd:gI r 0=2->(bj (gD r 7)).Nodup
 pt:gI r 0=2->∀e,e∈gD r 13->(bj (gD e 3)).Nodup/\(∀x,x∈gD e 3->ji (gS x 0))/\∀l,Ev (λn=>l5 n p (i:Int)) l->PT l (gD e 3)
def fE(l:Rows)(s:ByteArray):Int:=gr (λe=>ay (gS e 0) s) l
theorem sj{l:Rows}{s:ByteArray}(h:0<=fE l s):fE l s<l.length:=by unfold fE gr at*;cases e:l.findIdx? λe=>ay (gS e 0) s with|none=>grind|some k=>have:=(List.findIdx?_eq_some_iff_getElem.1 e).1;grind
theorem u2(c:dA)(s:ByteArray)(hc:bd c.2.2.2.2.2.2.2.2.2.2.2.2.2):Ev (λn=>qM n c s) (fE c.2.2.2.2.2.2.2.2.2.2.2.2.2 s):=.step (λn=>aed n _ _) (.ask (.step (λn=>ZN n _ _) (nI (J:=λn j=>yV n c.2.2.2.2.2.2.2.2.2.2.2.2.2 s (c.2.2.2.2.2.2.2.2.2.2.2.2.2.length:Int) j) (p:=λe=>ay (gS e 0) s) (by have:=bq hc;omega) (λn j=>WI n _ _ _ _) λe _=>.step (λn=>afd n _ _) (.ret _))) (.ret _))
def sS(p:Rows)(i:Nat)(r:List AV)(x:ByteArray×Rows×Int×Rows×Rows×Rows×Rows×Bool):Prop:=bd x/\(x.2.2.2.2.2.2.2=true->∃(k:Nat)(q:List AV),bR p r=k/\k<i/\p[k]?=some q/\gI q 0=2/\(x.2.2.2.1=[]\/∃e,e∈gD q 13/\x.2.2.2.1=gD e 3))
section
variable {p:Rows}{i:Nat}{r:List AV}{s l g:Env}(hs:Sur p i)(hr:p[i]?=some r)(hd:Hd p i r)
include hs hr hd
theorem ab8(nm:ByteArray)(O:bd nm)(K:ay nm (bs [105,110,105,116])=false->∀(n:Nat)e,fE (gD r 13) nm=n->(gD r 13)[n]?=some e->∀(k:Nat)q,bR p r=k->p[k]?=some q->∀x,x∈gD e 1->0<=fE (gD q 13) (gS x 0)):
 T (λn=>BK n p (i:Int) nm) (sS p i r):=by
 have E:=hs.bp
 have hi:=hs.hi
 have L:=dG E (List.mem_of_getElem? hr)
 have hlt:=lI hs.hh (by omega) hr
 have no:T (λn=>(some ((bs []),[],0,[],[],[],[],false):Option (ByteArray×Rows×Int×Rows×Rows×Rows×Rows×Bool))) (sS p i r):=.ret ⟨⟨dz,cK,trivial,cK,cK,cK,cK,trivial⟩,λe=>by cases e⟩
 refine .step (λn=>PU n _ _ _) (.cR (iY p i r E hr) (.ite (λ_=>no) λc=>?_))
 have c:=eU c
 obtain⟨k,hk⟩:∃k:Nat,bR p r=k:=⟨(bR p r).toNat,by omega⟩
 have I:∀q,p[k]?=some q->gI q 0=2:=λq hq=>by
  have e:ay (gS r 3) (bs [])=false:=by cases e:ay (gS r 3) (bs [])with|false=>rfl|true=>unfold bR at c;grind
  refine(hd.rf e).2.2 q ?_
  have:bc p (gS r 3)=k:=by rw[<-hk];unfold bR;grind
  grind
 rw[hk]
 refine .ab (by omega) (by omega) λq hq=>?_
 have hq:p[k]?=some q:=by grind
 have z:=an E hq
 refine .ite (λ_=>.ret ⟨⟨dz,cK,trivial,cK,cK,ai z 11,ai z 12,trivial⟩,λ_=>⟨k,q,hk,by omega,hq,I q hq,.inl rfl⟩⟩) (λS=>?_)
 refine .ab (by omega) (by omega) λr' o=>?_
 have o:p[i]?=some r':=by grind
 rw[hr]at o
 obtain rfl:=Option.some.inj o
 refine .cR (u2 (ct r) nm (ai L 13)) (.ite (λ_=>no) λN=>?_)
 have N:¬fE (gD r 13) nm<0:=eU N
 obtain⟨m,hm⟩:∃m:Nat,fE (gD r 13) nm=m:=⟨(fE (gD r 13) nm).toNat,by omega⟩
 have Q:=sj (l:=gD r 13) (s:=nm) (by omega)
 have M:∀{k:Nat->List AV->Option (ByteArray×Rows×Int×Rows×Rows×Rows×Rows×Bool)},T (λn=>k n r) (sS p i r)->T (λn=>ab p (i:Int) (k n)) (sS p i r):=λh=>.ab (by omega) (by omega) λr' o=>by grind
 have e1:fE (ct r).2.2.2.2.2.2.2.2.2.2.2.2.2 nm=m:=hm
 rw[e1]
 refine M (.ab (by omega) (by omega) λe he=>.ite (λ_=>no) λR=>?_)
 have he:(gD r 13)[m]?=some e:=by simp_all
 have R:¬((gD e 1).length:Int)=0:=by grind
 refine M (.ab (by omega) (by omega) λe' D=>?_)
 have D:(gD r 13)[m]?=some e':=by grind
 rw[he]at D;obtain rfl:=Option.some.inj D;refine .ab (by omega) (by omega) λx hx=>?_;have F:=K S m e hm he k q hk hq x (List.mem_of_getElem? hx);have J:=sj F;refine .cR (u2 (ct q) (gS x 0) (ai z 13)) (.ab F J λf hf=>?_);have kf:=an (ai z 13) hf;exact .ret ⟨⟨ak kf 0,ai kf 1,trivial,ai kf 3,ai kf 4,ai kf 5,ai kf 6,trivial⟩,λ_=>⟨k,q,hk,by omega,hq,I q hq,.inr ⟨f,List.mem_of_getElem? hf,rfl⟩⟩⟩
end
theorem NJ{env:Env}{ps:Rows}(he:bd env)(O:bd ps){j:Nat}(hj:j<ps.length)(I:PT env (ps.drop j)){o:Rows}(ha:o.length=j)(R:cb 1099511627776 o){β:Type}{Q:β->Prop}{J:Nat->Env->Rows->Option β}
 (hJ:∀e' c,bd e'->PT e' (ps.drop (j+1))->c.length=j+1->cb 1099511627776 c->T (λn=>J n e' c) Q)(hl:ps.length<=16777216):
 T (λn=>ab ps (j:Int) λr1=>(ask (iI n env (cN r1 1)) λN=>(aa (N.1 !=5) none (ab N.2.2.1 0 λr3=>(fits (o.length+([(cy (aK r3 0))]:List (List AV)).length) 48 (ab N.2.2.1 0 λr4=>(ask (np n env (gS r1 0) (aK r4 0)) λK=>(J n (K.1,K.2.1) (o++[(cy (aK r3 0))]))))))))) Q:=by
 have e0:ps.drop j=ps[j]::ps.drop (j+1):=List.drop_eq_getElem_cons hj
 rw[e0]at I
 have F:ps[j]?=some ps[j]:=by simp[hj]
 generalize ps[j]=q at I F
 refine .ab (by omega) (by omega) λr1 E=>?_
 have E:ps[j]?=some r1:=by grind
 rw[F]at E
 obtain rfl:=Option.some.inj E
 have k:=an O F
 cases I with
 |@cons _ e' _ U _ x er v1 K V X D=>
 refine .mV (Fq env _ he ⟨trivial,ak k 2,trivial,trivial,ak k 5,ai k 6,ai k 7⟩) λy hv hy=>?_
 obtain rfl:=hv.HU v1
 refine .neg (by rw[K];rfl) ?_
 have Z:=hy.2 K
 have g0:∀{k':Nat->List AV->Option β},T (λn=>k' n U) Q->T (λn=>ab y.2.2.1 0 (k' n)) Q:=λh=>.ab (by omega) (by omega) λr3 Y=>by grind
 have L:=an hy.1.2.2.1 V;have S:bd (aK U 0):=⟨trivial,ak L 1,ai L 2⟩;refine g0 (.fits (by simp;omega) (g0 (.mV (S3 env _ _ he (ak k 0) S) λz hz M=>?_)));obtain rfl:=hz.HU X;exact hJ (e'.1,e'.2) _ ⟨M.1,M.2.1⟩ D (by simp[ha]) (dt R (dL (qS S) eg))
theorem Pj{env:Env}(a:cv)(he:bd env)(z:bd a.2.2.2.1)(hl:a.2.2.2.1.length<=16777216)(o:PT env a.2.2.2.1):T (λn=>BM n env a) λt=>bd t/\t.length=a.2.2.2.1.length:=by
 refine .step (λn=>ade n _ _) ?_
 refine T.loop (σ:=Env×Rows) (L:=λj t n=>uH n a.2.2.2.1 (a.2.2.2.1.length:Int) j t.1 a t.2) a.2.2.2.1.length (λj t=>bd t.1/\PT t.1 (a.2.2.2.1.drop j)/\t.2.length=j/\cb 1099511627776 t.2) ?_ ?_ (env,[]) ⟨he,o,rfl,trivial⟩
 .intro t ht;have h1:=ht.2.2.1;exact .step (λn=>NB n _ _ _ _ _ _) (.neg (by simp) (.ret ⟨⟨by omega,ht.2.2.2⟩,h1⟩))
 .intro j t hj ht D;refine .step (λn=>NB n _ _ _ _ _ _) (.pos (by simp;omega) ?_);rw[aE (i:=(j:Int)+1) (by omega) (by omega)];exact NJ ht.1 z hj ht.2.1 ht.2.2.1 ht.2.2.2 (J:=λn e' c=>uH n a.2.2.2.1 (a.2.2.2.1.length:Int) ((j:Int)+1) e' a c) (λe' c h1 h2 h3 h4=>D (e',c) ⟨h1,h2,h3,h4⟩) (by omega)
theorem XH{env:Env}(a:ByteArray×Int×Rows)(he:bd env)(z:bd a.2.2)(hl:a.2.2.length<=16777216)(o:PT env a.2.2):T (λn=>EH n env a) λt=>bd t/\t.length=a.2.2.length:=by
 refine .step (λn=>ZC n _ _) ?_
 refine T.loop (σ:=Env×Rows) (L:=λj t n=>tH n a.2.2 (a.2.2.length:Int) j t.1 a t.2 [] [] [] []) a.2.2.length (λj t=>bd t.1/\PT t.1 (a.2.2.drop j)/\t.2.length=j/\cb 1099511627776 t.2) ?_ ?_ (env,[]) ⟨he,o,rfl,trivial⟩
 .intro t ht;have h1:=ht.2.2.1;exact .step (λn=>KJ n _ _ _ _ _ _ _ _ _ _) (.neg (by simp) (.ret ⟨⟨by omega,ht.2.2.2⟩,h1⟩))
 .intro j t hj ht D;refine .step (λn=>KJ n _ _ _ _ _ _ _ _ _ _) (.pos (by simp;omega) ?_);rw[aE (i:=(j:Int)+1) (by omega) (by omega)];exact NJ ht.1 z hj ht.2.1 ht.2.2.1 ht.2.2.2 (J:=λn e' c=>tH n a.2.2 (a.2.2.length:Int) ((j:Int)+1) e' a c [] [] [] []) (λe' c h1 h2 h3 h4=>D (e',c) ⟨h1,h2,h3,h4⟩) (by omega)
theorem XI(env:Env)(a:ByteArray×Int):T (λn=>Es n env a) λt=>t=[]:=.step (λn=>YV n _ _) (.step (λn=>WA n _ _ _ _ _ _ _ _ _ _ _) (.neg rfl (.ret rfl)))
theorem XJ{s:ByteArray}(h:ji s)(t:ByteArray):s≠t++bs [39]:=λe=>by refine h 39 ?_ rfl;simp_all
theorem WX{s t:ByteArray}(h:s++bs [39]=t++bs [39]):s=t:=by simp_all
def ox(t:Rows):Prop:=bd t/\(bj t).Nodup/\t.length<=33554432
theorem Sur.le{p:Rows}{i k:Nat}(h:Sur p i)(hk:k<=i):Sur p k:=⟨h.hb,h.hn,⟨λj q hj hq he=>h.hh.rf j q (by omega) hq he,λj q hj hq x hx=>h.hh.ex j q (by omega) hq x hx⟩,by have:=h.hi;omega,λj q hj hq=>h.hl j q (by omega) hq⟩
theorem Ug{s:ByteArray}{x:fv}{b:Bool}(hs:bd s)(h:bd x):eS 1099511627776 (nT (s,(cB x b))):=bm (dv hs) (bm ki (bm (dv (dc x.2 (aB x h))) (bm (ef (aB x.2 (aB x h))) (bm HW ed))))
theorem jR(t:Rows)(w:List AV):bj (t++[w])=bj t++[gS w 0]:=by simp[bj]
theorem aaF{l:Rows}{j:Nat}{s:ByteArray}(h:s∈bj (l.take j)):s∈bj (l.take (j+1)):=by grind
theorem Au{l:Rows}{j:Nat}{x:List AV}(h:l[j]?=some x):gS x 0∈bj (l.take (j+1)):=by rw[fJ h,jR];simp
theorem NK{l:Rows}{j:Nat}{x:List AV}(h:l[j]?=some x)(hn:(bj l).Nodup):gS x 0∉bj (l.take j):=by
 have h1:(bj (l.take (j+1))).Nodup:=by grind
 rw[fJ h,jR,yu]at h1;exact h1.2
section
variable {p:Rows}{i:Nat}{r:List AV}{s l g:Env}(hs:Sur p i)(hr:p[i]?=some r)
include hs hr
theorem XK(a:cv)(ha:bd a){vs:Rows}(gC:cA 16777216 vs)(hn:(bj vs).Nodup){t0:Rows}(h0:cb 1099511627776 t0)(I:t0.length<=16777216)(c:(bj t0).Nodup)(hq:∀s,s∈bj t0->ji s):
 T (λn=>uI n vs (vs.length:Int) 0 (aH p i r s l g) a t0) λx=>x.2=aH p i r s l g/\ox x.1:=by
 have E:vs.length<=16777216:=gC.1
 have hv:=iF gC
 have o:=sE hs hr
 refine T.loop (σ:=Rows) (L:=λj t n=>uI n vs (vs.length:Int) j (aH p i r s l g) a t) vs.length (λj t=>((bj t).Nodup/\∀s,s∈bj t->s∈bj t0\/∃v,v∈bj (vs.take j)/\s=v++bs [39])/\t.length<=16777216+j/\cb 1099511627776 t) ?_ ?_ t0 ⟨⟨c,λs h=>.inl h⟩,by omega,h0⟩
 .intro t ht;have h1:=ht.2.1;exact .step (λn=>Nk n _ _ _ _ _ _) (.neg (by simp) (.ret ⟨rfl,⟨by grind,ht.2.2⟩,ht.1.1,by grind⟩))
 .intro j t hj ht z
  have h1:=ht.2.1
  refine .step (λn=>Nk n _ _ _ _ _ _) (.pos (by simp;omega) (.ab (by omega) (by omega) λd hd=>?_))
  have hd:vs[j]?=some d:=by simp_all
  have k:=an hv hd
  have J:(gS d 0).size<=16777216:=ak (an gC hd) 0
  have ck:T (λn=>uf n vs (vs.length:Int) (j:Int) (aH p i r s l g) a t) λx=>x.2=aH p i r s l g/\ox x.1:=by
   refine .step (λn=>LV n _ _ _ _ _ _) ?_
   rw[aE (i:=(j:Int)+1) (by omega) (by omega)]
   refine z t ⟨⟨ht.1.1,λs hs=>?_⟩,by omega,ht.2.2⟩
   rcases ht.1.2 s hs with h|⟨v,h,e⟩
   .exact .inl h
   .grind
  refine .ask (aan (gD r 7) _ _ _ _ o (ak k 0) (ak k 2) (ai k 3)) λ_ _=>.ask (aap a.2.2.2.2.2.2 _ _ _ _ ha.2.2.2.2.2.2 (ak k 0) (ak k 2) (ai k 3)) λ_ _=>.ite (λ_=>.ite (λ_=>?_) (λ_=>ck)) (λ_=>ck)
  have F:(bs [39]).size=1:=rfl
  refine .i7 (by omega) (.fits (by simp;omega) (.step (λn=>LV n _ _ _ _ _ _) ?_))
  rw[aE (i:=(j:Int)+1) (by omega) (by omega)]
  have eC:bd (gS d 0++bs [39]):=by show(gS d 0++bs [39]).size<=_;rw[ByteArray.size_append];omega
  have D:gS (nT (gS d 0++bs [39],(cB (aK d 1) true))) 0=gS d 0++bs [39]:=rfl
  refine z _ ⟨⟨?_,λs hs=>?_⟩,by simp;omega,dt ht.2.2 (dL (Ug eC (x:=(gI d 1,gS d 2,gD d 3)) ⟨trivial,ak k 2,ai k 3⟩) eg)⟩
  .rw[jR,yu,D]
   refine⟨ht.1.1,λh=>?_⟩
   rcases ht.1.2 _ h with h|⟨v,h,e⟩
   .exact XJ (hq _ h) _ rfl
   .exact NK hd hn (by rw[WX e];exact h)
  .rw[jR,D]at hs
   rcases List.mem_append.1 hs with hs|hs
   .rcases ht.1.2 s hs with h|⟨v,h,e⟩
    .exact .inl h
    grind
   .rw[List.mem_singleton]at hs;exact .inr ⟨_,Au hd,hs⟩
theorem L5(a:cv)(ha:bd a)(U:a.2.2.2.1.length<=16777216)(K:(bj a.2.2.2.1).Nodup)(R:∀x,x∈a.2.2.2.1->ji (gS x 0)){own ts os:Rows}(ho:bd own)(E:bd ts)(J:bd os)(h1:ts.length=a.2.2.2.1.length)(h2:os.length=own.length)
 {k:Nat}{q:List AV}(hq:p[k]?=some q)(F:(bj (gD q 7)).Nodup):
 T (λn=>qj n own (k:Int) ts os a.2.2.2.1 (a.2.2.2.1.length:Int) 0 (aH p i r s l g) a []) λx=>x.2=aH p i r s l g/\ox x.1:=by
 have I:bd a.2.2.2.1:=ha.2.2.2.1
 refine T.loop (σ:=Rows) (L:=λj t n=>qj n own (k:Int) ts os a.2.2.2.1 (a.2.2.2.1.length:Int) j (aH p i r s l g) a t) a.2.2.2.1.length (λj t=>((bj t).Nodup/\∀s,s∈bj t->s∈bj (a.2.2.2.1.take j))/\t.length<=j/\cb 1099511627776 t) ?_ ?_ [] ⟨⟨by simp,by simp⟩,by simp,trivial⟩
 .intro t ht
  have h3:=ht.2.1
  have S:k<p.length:=(List.getElem?_eq_some_iff.1 hq).1
  refine .step (λn=>M9 n _ _ _ _ _ _ _ _ _ _) (.neg (by simp) (.ab (by omega) (by grind) λQ o=>?_))
  have o:p[k]?=some Q:=by grind
  rw[hq]at o;obtain rfl:=Option.some.inj o;refine XK hs hr a ha (ai (an hs.hb hq) 7) F ht.2.2 (by omega) ht.1.1 λs hs=>?_;grind
 .intro j t hj ht N
  have h3:=ht.2.1
  refine .step (λn=>M9 n _ _ _ _ _ _ _ _ _ _) (.pos (by simp;omega) (.ab (by omega) (by omega) λd hd=>?_))
  have hd:a.2.2.2.1[j]?=some d:=by simp_all
  have kd:=an I hd
  have add:T (λn=>zq n own (k:Int) ts os (j:Int) a.2.2.2.1 (a.2.2.2.1.length:Int) (j:Int) (aH p i r s l g) a t (iN d 0)) λx=>x.2=aH p i r s l g/\ox x.1:=by
   refine .step (λn=>Xy n _ _ _ _ _ _ _ _ _ _ _ _) (.ab (by omega) (by omega) λy hy=>.fits (by simp;omega) ?_)
   rw[aE (i:=(j:Int)+1) (by omega) (by omega)]
   have D:=an E hy
   have O:gS (nT (gS d 0,(cB (aK y 0) false))) 0=gS d 0:=rfl
   refine N (t++[nT (gS d 0,(cB (aK y 0) false))]) ⟨⟨?_,λs hs=>?_⟩,by simp;omega,dt ht.2.2 (dL (Ug (ak kd 0) (x:=(gI y 0,gS y 1,gD y 2)) ⟨trivial,ak D 1,ai D 2⟩) eg)⟩
   .rw[jR,yu,O];exact⟨ht.1.1,λh=>NK hd K (ht.1.2 _ h)⟩
   .rw[jR,O]at hs
    rcases List.mem_append.1 hs with hs|hs
    .grind
    .rw[List.mem_singleton]at hs;rw[hs];exact Au hd
  refine .ask (aah own _ _ _ _ _ _ _ _ ho (ak kd 0) (ak kd 2) (ak kd 5) (ai kd 6) (ai kd 7)) λx hx=>.ite (λ_=>add) (λc=>?_);have c:=eU c;refine .ab (by omega) (by omega) λy hy=>.ab (by omega) (by omega) λz hz=>?_;have D:=an J hy;have M:=an E hz;refine .ask (sC _ _ ⟨trivial,ak D 1,ai D 2⟩ ⟨trivial,ak M 1,ai M 2⟩) λ_ _=>.ite (λ_=>add) (λ_=>?_);rw[aE (i:=(j:Int)+1) (by omega) (by omega)];exact N t ⟨⟨ht.1.1,λs hs=>aaF (ht.1.2 s hs)⟩,by omega,ht.2.2⟩
theorem ab9(a:cv)(ha:bd a){k:Nat}{q:List AV}(hk:bR p r=k)(z:k<i)(hq:p[k]?=some q)(o:(bj (gD q 7)).Nodup)(h0:a.2.2.2.1=[]):T (λn=>Gf n a (aH p i r s l g)) λx=>x.2=aH p i r s l g/\ox x.1:=by refine .step (λn=>aeF n _ _) (.cR (iY p i r hs.bp hr) ?_);rw[hk];refine .ask (hs.le (Nat.le_of_lt z)).loc λe he=>.ask (Pj a he.1 ha.2.2.2.1 (by grind) (by rw[h0];exact .nil)) λts c=>.ask (XI _ _) λos ho=>?_;subst ho;exact L5 hs hr a ha (by grind) (by grind) (by grind) cK c.1 cK c.2 rfl hq o
theorem XL(a:cv)(ha:bd a){k:Nat}{q:List AV}(hk:bR p r=k)(K:k<i)(hq:p[k]?=some q)(D:(bj (gD q 7)).Nodup)(z:a.2.2.2.1.length<=16777216)(J:(bj a.2.2.2.1).Nodup)(I:∀x,x∈a.2.2.2.1->ji (gS x 0))(E:∀e,Ev (λn=>l5 n p (k:Int)) e->PT e a.2.2.2.1){own:Rows}(ho:cA 16777216 own)(eR:bd l)(F:PT l own):T (λn=>EE n a own (aH p i r s l g)) λx=>x.2=aH p i r s l g/\ox x.1:=by refine .step (λn=>Y1 n _ _ _) (.cR (iY p i r hs.bp hr) ?_);rw[hk];refine .mV (hs.le (Nat.le_of_lt K)).loc λe L he=>.ask (Pj a he.1 ha.2.2.2.1 z (E e L)) λts c=>.ask (XH (env:=l) (bs [],0,own) eR (iF ho) ho.1 F) λos o=>?_;exact L5 hs hr a ha z J I (iF ho) c.1 o.1 c.2 o.2 hq D
end
end
end Go.AI
