/- A part. -/
import Derived.Test.YteibmaelhdbgfaaGreatDoorQa
set_option linter.all false

namespace Go.AI
open Go
section
open BD (cA)
theorem Pg(d:ByteArray×fv)(x:ar)(h:bd d):T (λn=>sK n d x) (AQ x.2.1 λy=>y=x):=by
 have no:T (λn=>Go.AI.eP (aO n false d.1 1 x)) (AQ x.2.1 λy=>y=x):=.ow (by omega) λc=>by cases c
 exact .step (λn=>aeH n) (.ask (sD d.1 h.1) λ_ _=>.ite (λ_=>.ask (vm d.2 h.2) λ_ _=>.ite (λ_=>.ow (by omega) λ_=>rfl) (λ_=>no)) (λ_=>no))
theorem ak0{l:Rows}{d:List AV}(hl:bd l)(hd:d∈l):bd (aK d 1):=⟨trivial,ak (dG hl hd) 2,ai (dG hl hd) 3⟩
def ajD(dir:Rows)(d:List AV):Prop:=∃a,a∈dir/\gS a 0=gS d 0/\ajq (aK a 1) (aK d 1)
theorem alo(l:Rows)(d:List AV)(hl:bd l)(hd:cA 1099511627776 d):T (λn=>uL n l (gS d 0) (gI d 1) (gS d 2) (gD d 3)) λb=>b=true->ajD l d:=by
 have h1:=bq hl
 refine .step (λn=>Y2 n) (.ask (Q':=λx=>x>=0->ajD l d) (.step (λn=>Zp n) ?_) λx hx=>.ret λc=>hx (cO c))
 refine T.lst (σ:=Unit) (L:=λi _ n=>tI n l (gS d 0) (gI d 1) (gS d 2) (gD d 3) (l.length:Int) i) (by omega) (λn _ _=>KR n) (λ_ _=>True) ?_ ?_ () trivial
 .exactλ_ _=>(.ret λe=>by omega)
 .intro i _ hi _ o;refineλr hr=>.ask (Q':=λb=>b=true->ajD l d) (.step (λn=>ae0 n) (.ite (λc=>.ask (akl _ _ (ak0 hl (List.mem_of_getElem? hr)) ⟨trivial,ak hd 2,ai hd 3⟩) λb hb=>.ret λe=>⟨r,List.mem_of_getElem? hr,gh.1 c,hb e⟩) (λ_=>.ret λe=>by cases e))) λb hb=>.ite (λc=>.ret λ_=>hb c) (λ_=>?_);exact o () trivial
section
variable {env:Env}(he:bd env){used dir abv vs:Rows}(hvs:bd vs)(hvl:vs.length<=32)(hu:bd used)(hdir:bd dir)(habv:bd abv){al st:Rows}(hal:bd al)(hst:st.length<=544)(hab:abv.length<=544)(hcd:ajz vs)(hda:∀a,a∈dir->a∈abv)
structure sR(vs dir abv al st:Rows)(j:Nat)(a b:Rows):Prop where
 n:bj a=bj (vs.take j)
 d:(bj a).Nodup
 h:cb 1099511627776 a
 l:b.length<=1100+j
 k:cb 1099511627776 b
 e:b=st++ajc abv (vs.take j)v:ai8 (al,b)q:∀d,d∈vs.take j->ajD dir d\/gS d 0∉bj abv
theorem sR.len{j:Nat}{a b:Rows}(h:sR vs dir abv al st j a b)(hj:j<=vs.length):a.length=j:=by have:=congrArg List.length h.n;simp only[bj,List.length_map,List.length_take]at this;omega
include hvs hvl hu hdir habv hal hcd hda
def ajE(vs dir abv al st:Rows)(j:Nat)(b:Rows)(d:List AV)(x:Bool):Prop:=if x=true then st++ajc abv (vs.take (j+1))=b/\ajD dir d else st++ajc abv (vs.take (j+1))=b++[d]/\gS d 0∉bj abv
theorem L2{Q:ar->Prop}{j:Nat}{a b:Rows}(hj:j<vs.length)(hI:sR vs dir abv al st j a b){J:Nat->List AV->Bool->ar->Option (aW ar Unit)}{J':Nat->List AV->Bool->ar->Option (aW ar Unit)}{S:ar}(hJ:∀d x,vs[j]?=some d->gS d 0∉bj a->ajE vs dir abv al st j b d x->T (λn=>J n d x S) (AQ S.2.1 Q)):T (λn=>(ab vs (j:Int) λr1=>(aw (sK n (du r1 0) S) λA=>(ask (uL n dir (gS r1 0) (gI r1 1) (gS r1 2) (gD r1 3)) λz=>(ask (uM n abv (gS r1 0) (gI r1 1) (gS r1 2) (gD r1 3)) λx4=>(ask (gu n used (gS r1 0)) λx5=>(aa (!x5) (ask (gu n a (gS r1 0)) λx6=>(aa (!x6) (aa z (aw (aO n true (gS r1 0) 8 A) λx7=>(J n r1 z x7)) (aw (aO n (!x4) (gS r1 0) 8 A) λI=>(J n r1 z I))) (aw (aO n false (gS r1 0) 8 A) λE=>(J n r1 z E)))) (aw (aO n false (gS r1 0) 8 A) λD=>(J' n r1 z D))))))))) (AQ S.2.1 Q):=by
 refine .ab (by omega) (by omega) λd o=>?_
 have o:vs[j]?=some d:=by simpa using o
 have k:=an hvs o
 have L:bd a:=⟨by have:=hI.len (by omega);omega,hI.h⟩
 refine .aw (Pg (du d 0) S ⟨ak k 0,trivial,ak k 2,ai k 3⟩) λx hx=>?_
 subst hx
 have em:=akJ (l:=abv) o
 unfold aji at em
 refine .ask (alo dir d hdir k) λN h3=>.cR (ale abv _ _ _ _ habv) (.ask (kH used _ hu) λU _=>.ite (λ_=>?_) (λ_=>.bw (by omega) λc=>by cases c))
 refine .ask (kH a _ L) λO h6=>.ite (λc=>?_) (λ_=>.bw (by omega) λc=>by cases c)
 have c:gS d 0∉bj a:=λe=>by rw[h6.2 e]at c;cases c
 refine .ite (λc3=>.bw (by omega) λ_=>hJ d N o c ?_) (λc3=>.bw (by omega) λc4=>hJ d N o c ?_)
 .have h4:=h3 c3;obtain⟨y,h1,h2,_⟩:=id h4;rw[ajE,if_pos c3,em,if_pos (ajL.2 (h2▸List.mem_map_of_mem (ajM (hda y h1)))),hI.e];exact⟨rfl,h4⟩
 .have hn:gS d 0∉bj abv:=λh=>by rw[ajL.2 h]at c4;cases c4
  rw[ajE,if_neg (by rw[c3];simp),em,if_neg,hI.e,List.append_assoc]
  .exact⟨rfl,hn⟩
  .rw[ajL]
   intro h
   obtain⟨y,hy,e⟩:=List.mem_map.1 h
   rcases ajX hy with hy|hy
   .exact hn (e▸List.mem_map_of_mem hy)
   .exact c (by rw[hI.n];exact e▸List.mem_map_of_mem hy)
omit hvs hvl hu hdir habv hal hcd hda in
theorem sR.add{j:Nat}{d:List AV}{a b b':Rows}{x:Bool}(h:sR vs dir abv al st j a b)(hd:vs[j]?=some d)(hn:gS d 0∉bj a)(hbd:bd (gS d 0))(h1:b'.length<=1100+(j+1))(h2:cb 1099511627776 b')(hx:ajE vs dir abv al st j b d x)(hb:b'=if x=true then b else b++[d])(hv:ai8 (al,b')):sR vs dir abv al st (j+1) (a++[[.sc (.string (gS d 0))]]) b':=by
 have e1:bj (a++[[.sc (.string (gS d 0))]])=bj a++[gS d 0]:=by simp[bj,Ub]
 refine⟨?_,?_,dt h.h (dL (bm (dv hbd) ed) eg),h1,h2,?_,hv,?_⟩
 .rw[e1,h.n,fJ hd];simp[bj]
 .rw[e1];exact yu.2 ⟨h.d,hn⟩
 .unfold ajE at hx;subst hb;split at hx
  .rename_i c;rw[if_pos c,hx.1]
  .rename_i c;rw[if_neg c,hx.1]
 .refine ajl hd h.q ?_
  unfold ajE at hx;split at hx
  .exact .inl hx.2
  .exact .inr hx.2
include he
theorem XG{Q:ar->Prop}{S:ar}(hQ:∀a b,sR vs dir abv al st vs.length a b->Q S){j:Nat}(hj:j<=vs.length){a b:Rows}(hI:sR vs dir abv al st j a b):T (λn=>rG n used dir vs (vs.length:Int) (j:Int) S env abv a al b) (AQ S.2.1 Q):=by
 refine T.lO (σ:=Rows×Rows) (L:=λj t n=>rG n used dir vs (vs.length:Int) j S env abv t.1 al t.2) vs.length (λj t=>sR vs dir abv al st j t.1 t.2) ?_ ?_ j hj (a,b) hI
 .exactλt ht=>.step (λn=>KI n) (.neg (by simp) (.ok (hQ _ _ ht)))
 .rintro j⟨a,b⟩hj hI E
  refine .step (λn=>KI n) (.pos (by simp;omega) ?_)
  refine L2 hvs hvl hu hdir habv hal hcd hda hj hI (J:=λn r1 A x7=>pP n used dir A vs (vs.length:Int) (j:Int) x7 env abv a (du r1 0) al b) (J':=λn r1 A x7=>pP n used dir A vs (vs.length:Int) (j:Int) x7 env abv a (du r1 0) al b) λd x o z hx=>?_
  have k:=an hvs o
  have hall:=hI.len (by omega)
  have hbl:=hI.l
  have D:=(hcd d (List.mem_of_getElem? o)).1
  have hall:a.length=j:=hall
  have hbl:b.length<=1100+j:=hbl
  refine .step (λn=>V3 n) (.ask (Fm env _ he ⟨trivial,ak k 2,ai k 3⟩) λ_ _=>.bw (by omega) λ_=>.fits (by simp;omega) (.ite (λai9=>?_) (λai9=>?_)))
  .refine .ask (Ar b (by omega)) λc hc=>?_;subst hc;rw[<-D];refine .fits (by simp;omega) (.step (λn=>VV n) ?_);have h2:cb 1099511627776 (c++[d]):=dt hI.k (dL k eg);refine .ask (ajm (al,c++[d]) ⟨hal,by simp;omega,h2⟩) λ_ hv=>.bw (by omega) λajb=>?_;rw[aE (i:=(j:Int)+1) (by omega) (by omega)];exact E (_,_) (hI.add o z (ak k 0) (by simp;omega) h2 hx (by rw[if_neg (by simpa using ai9)]) (hv.1 ajb))
  .refine .step (λn=>VX n) ?_;refine .ask (ajm (al,b) ⟨hal,by show b.length<=_;omega,hI.k⟩) λ_ hv=>.bw (by omega) λajb=>?_;rw[aE (i:=(j:Int)+1) (by omega) (by omega)];exact E (_,b) (hI.add o z (ak k 0) (by show b.length<=_;omega) hI.k hx (by rw[if_pos (by simpa using ai9)]) (hv.1 ajb))
include hst hab
theorem aaC{Q:ar->Prop}{S:ar}(hb:cb 1099511627776 (st++abv))(hv:ai8 (al,st++abv))(hQ:∀a b,sR vs dir abv al st vs.length a b->Q S):T (λn=>Ey n used dir vs (vs.length:Int) 0 S env abv [] al (st++abv)) (AQ S.2.1 Q):=by
 have hbl:(st++abv).length<=1100:=by rw[List.length_append];omega
 have hI:sR vs dir abv al st 0 [] (st++abv):=⟨by simp,by simp,trivial,hbl,hb,rfl,hv,by simp⟩
 refine .step (λn=>YY n) (.ite (λc=>?_) (λc=>.ok (hQ [] (st++abv) ?_)))
 .have c:=cO c
  refine L2 (j:=0) hvs hvl hu hdir habv hal hcd hda (by omega) hI (J:=λn r1 z x7=>ud n used dir z vs (vs.length:Int) 0 x7 env abv [] (du r1 0) al (st++abv)) (J':=λn r1 z x7=>Km n used dir z vs (vs.length:Int) 0 x7 env abv [] (du r1 0) al (st++abv)) λd x o A hx=>?_
  have k:=an hvs o
  have D:=(hcd d (List.mem_of_getElem? o)).1
  have go:∀b':Rows,b'.length<=1101->cb 1099511627776 b'->(b'=if x=true then st++abv else st++abv++[d])->T (λn=>zr n used dir vs (vs.length:Int) 0 S env abv [[.sc (.string (gS d 0))]] (du d 0) al b') (AQ S.2.1 Q):=λb' h1 h2 h3=>by refine .step (λn=>XB n) (.ask (ajm (al,b') ⟨hal,by show b'.length<=_;omega,h2⟩) λ_ hv=>.bw (by omega) λajb=>?_);rw[aE (i:=(0:Int)+1) (by omega) (by omega)];exact XG he hvs hvl hu hdir habv hal hcd hda hQ (j:=1) (by omega) (hI.add o A (ak k 0) (by omega) h2 hx h3 (hv.1 ajb))
  refine .step (λn=>XC n) (.ask (Fm env _ he ⟨trivial,ak k 2,ai k 3⟩) λ_ _=>.bw (by omega) λ_=>.fits (by simp) (.ite (λai9=>?_) (λai9=>go _ (by omega) hb (by rw[if_pos (by simpa using ai9)]))));refine .ask (Ar (st++abv) (by omega)) λc hc=>?_;subst hc;rw[<-D];exact .fits (by simp;omega) (go _ (by simp at hbl⊢;omega) (dt hb (dL k eg)) (by rw[if_neg (by simpa using ai9)]))
 .have c:=eU c;have:vs=[]:=List.length_eq_zero_iff.1 (by omega);subst this;exact hI
end
end
section
open BD (cA)
theorem aaD(l u:Rows)(hl:bd l)(hu:bd u):T (λn=>Ff n l u) λx=>x.2=u:=by
 have h1:=bq hl
 have lp:∀(o:Int),0<=o->o<=(l.length:Int)->T (λn=>tB n l (l.length:Int) o u) λx=>x.2=u:=λo b0 b1=>by
  refine T.dx (σ:=Unit) (L:=λi _ n=>tB n l (l.length:Int) i u) l.length (λ_=>True) ?_ ?_ o b0 b1 () trivial
  .exactλ_ _=>.step (λn=>Ky n) (.neg (by simp) (.ret rfl))
  .intro i _ hi _ z;refine .step (λn=>Ky n) (.pos (by simp;omega) (.ab (by omega) (by omega) λr hr=>.ask (Q':=λx=>x.2=u) (.step (λn=>PV n) (.ask (kH u _ hu) λ_ _=>.ret rfl)) λx hx=>.ite (λ_=>.ret hx) (λ_=>?_)));rw[aE (i:=(i:Int)+1) (by omega) (by omega),hx];exact z () trivial
 refine .step (λn=>abA n) (.ask (Q':=λx=>x.2=u) (.step (λn=>Y7 n) (.step (λn=>WH n) (.ite (λc=>?_) (λ_=>.ret rfl)))) λx hx=>.ret hx);have c:=cO c;refine .ab (by omega) (by omega) λr hr=>.ask (Q':=λx=>x.2=u) (.step (λn=>PV n) (.ask (kH u _ hu) λ_ _=>.ret rfl)) λx hx=>.ite (λ_=>.ret hx) (λ_=>?_);rw[aE (i:=(0:Int)+1) (by omega) (by omega),hx];exact lp _ (by omega) (by omega)
abbrev aj2(r:List AV):List AV:=jj (gI r 0,gS r 1,gD r 2,gS r 3,[],[],gD r 6,[],gD r 8,gD r 9,gB r 10,gD r 11,gD r 12,gD r 13)
def aj3(p:Rows)(i:Nat)(r:List AV):Prop:=(bj (gD r 7)).Nodup/\ai8 ((sb p i).1,(sb p i).2++ajc (ajg p i) (gD r 7))/\∀d,d∈gD r 7->ajD (dir p r) d\/gS d 0∉bj (ajg p i)
def Hw(p:Rows)(i:Nat)(r:List AV)(x:ar):Prop:=∃s l g:Env,x=aH p i r s l g/\bd s/\bd l/\bd g/\(s=((sb p i).1++gD r 4,(sb p i).2++gD r 5)/\ai8 s)/\(Ev (λn=>l5 n p (i:Int)) l/\l=((ai6 p i).1,(ai6 p i).2++gD r 7))/\(Ev (λn=>Cs n p (i:Int)) g/\g=((ai6 p i).1,(ai6 p i).2++ajc (dir p r) (gD r 7)))/\(gI r 0=2->aj3 p i r)
section
variable {p:Rows}{i:Nat}{r:List AV}{s l g:Env}(hb:cA 16777216 p)(hc:∀r,r∈p->ajn r)(hn:p.length<=16)(hr:p[i]?=some r)(hp:∀(k:Nat)q,k<i->p[k]?=some q->Hd p k q)(hd:Hd p i r)(hda:gI r 0=2->∀a,a∈dir p r->a∈ajg p i)
include hb hc hn hr hp hd
theorem vp:Sur p i:=Pe hb hc hn hr hp hd.ln (λe=>let h:=hd.rf e;⟨h.1,h.2.1⟩) λq hq=>let h:=hd.ex q hq;⟨h.1,h.2.1⟩
theorem L3(a b:Rows)(ha:bd a)(o:bd b)(e1:a=(sb p i).1++gD r 4)(e2:b=(sb p i).2++gD r 5)(hv:ai8 (a,b))(hw:gI r 0=2->aj3 p i r):T (λn=>zN n (aH p i r s l g) a b) (AQ i (Hw p i r)):=by have hs:=vp hb hc hn hr hp hd;exact .step (λn=>ZM n) (.mV (hs.loc hr) λx vx hx=>.mV (hs.glu hr) λy vy hy=>.ok ⟨(a,b),x,y,rfl,⟨ha,o⟩,hx.1.1,hy.1.1,⟨by rw[e1,e2],hv⟩,⟨vx,hx.2⟩,⟨vy,hy.2⟩,hw⟩)
theorem ab7{w:List AV}(hw:Sur (p.take i++[w]) i)(ep:ai6 (p.take i++[w]) i=sb p i/\ajb (p.take i++[w]) i=ajg p i)(h2:gI r 0=2)(hda:∀a,a∈dir p r->a∈ajg p i)(env:Env)(used:Rows)(he:bd env)(hu:bd used):T (λn=>Gp n (p.take i++[w]) env used (aH p i r s l g)) (AQ i λx=>x=aH p i r s l g/\aj3 p i r):=by
 have hs:=vp hb hc hn hr hp hd
 have D:=List.mem_of_getElem? hr
 have J:=dG hs.bp D
 have hi:=hs.hi
 have hlt:=lI hs.hh (by omega) hr
 obtain⟨N,_,E,L⟩:=hw.stat
 have hst:=E.2.2.1
 rw[L,ep.1]at hst
 refine .step (λn=>adW n) (.ask hw.Iq λv hv=>.ask hw.Ir λe o=>.cR (iY p i r hs.bp hr) ?_)
 obtain⟨A,z,rfl⟩:=hv
 obtain⟨o,rfl⟩:=o
 rw[ep.2]at A z
 rw[ep.1,ep.2]at o⊢
 have fin:∀dr:Rows,bd dr->dr=dir p r->T (λn=>zT n used dr (aH p i r s l g) env (ajg p i) (sb p i).1 ((sb p i).2++ajg p i)) (AQ i λx=>x=aH p i r s l g/\aj3 p i r):=λdr I e=>by
  subst e
  refine .step (λn=>Y9 n) (aaC (vs:=gD r 7) he (ai J 7) hd.ln.2.2 hu I A (dc _ o.1) hst z (hc r D).v hda (aB _ o.1).2 (hd.vj h2) λa b h=>⟨rfl,?_,?_,?_⟩)
  .have:=h.d;rw[h.n]at this;simpa using this
  .have:=h.v;rw[h.e,List.take_length]at this;exact this
  .have:=h.q;rw[List.take_length]at this;exact this
 refine .ite (λc=>?_) (λc=>fin [] cK (if_neg (eU c)).symm);have c:=cO c;exact .ab c (by show _<(p.length:Int);omega) λq hq=>fin _ (ai (an hs.bp hq) 7) (by rw[dir,if_pos c,ajt hq])
include hda
theorem aaE{w:List AV}(hw:Sur (p.take i++[w]) i)(ep:ai6 (p.take i++[w]) i=sb p i/\ajb (p.take i++[w]) i=ajg p i)(a b used:Rows)(ha:bd a)(o:bd b)(hbl:b.length<=600)(hu:bd used)(E:used.length<=1001000000000)(ea:a=(sb p i).1++gD r 4)(eb:b=(sb p i).2)(hv:ai8 (a,b)):T (λn=>vk n (gD r 5) ((gD r 5).length:Int) 0 (aH p i r s l g) (ct r) (p.take i++[w]) a b used) (AQ i (Hw p i r)):=by
 have hs:=vp hb hc hn hr hp hd
 have D:=List.mem_of_getElem? hr
 have I:=dG hs.bp D
 have Q:=hd.ln.2.1
 refine T.loop (σ:=Rows×Rows) (L:=λj t n=>vk n (gD r 5) ((gD r 5).length:Int) j (aH p i r s l g) (ct r) (p.take i++[w]) a t.1 t.2) (gD r 5).length (λj t=>(t.1.length<=600+j/\cb 1099511627776 t.1)/\(t.2.length<=1001000000000+j/\cb 1099511627776 t.2)/\t.1=(sb p i).2++(gD r 5).take j/\ai8 (a,t.1)) ?_ ?_ (b,used) ⟨⟨hbl,o.2⟩,⟨E,hu.2⟩,by simpa using eb,hv⟩
 .rintro⟨b,u⟩⟨⟨h1,h2⟩,⟨h3,h4⟩,h5,h6⟩;have h1:b.length<=600+(gD r 5).length:=h1;have h3:u.length<=1001000000000+(gD r 5).length:=h3;rw[List.take_length]at h5;have o:bd b:=⟨by omega,h2⟩;have A:bd u:=⟨by omega,h4⟩;refine .step (λn=>OB n) (.neg (by simp) (.ite (λc=>.aw (ab7 hb hc hn hr hp hd hw ep (fO c) (hda (fO c)) (a,b) u ⟨ha,o⟩ A) λx hx=>?_) (λc=>L3 hb hc hn hr hp hd a b ha o ea h5 h6 λe=>absurd e (by simpa using c))));obtain⟨rfl,hx⟩:=hx;exact L3 hb hc hn hr hp hd a b ha o ea h5 h6 λ_=>hx
 .rintro j⟨b,u⟩hj⟨⟨h1,h2⟩,⟨h3,h4⟩,h5,h6⟩O
  have h1:b.length<=600+j:=h1
  have h3:u.length<=1001000000000+j:=h3
  have h5:b=(sb p i).2++(gD r 5).take j:=h5
  have o:bd b:=⟨by omega,h2⟩
  have A:bd u:=⟨by omega,h4⟩
  refine .step (λn=>OB n) (.pos (by simp;omega) (.ab (by omega) (by omega) λd z=>?_))
  have k:=an (ai I 5) z
  have z:(gD r 5)[j]?=some d:=by simpa using z
  have J:=((hc r D).k d (List.mem_of_getElem? z)).1;refine .aw (Pg (du d 0) _ ⟨ak k 0,trivial,ak k 2,ai k 3⟩) λx hx=>?_;subst hx;refine .ask (kH u _ A) λ_ _=>.bw (by omega) λ_=>.ask (Fm (a,b) _ ⟨ha,o⟩ ⟨trivial,ak k 2,ai k 3⟩) λ_ _=>.bw (by omega) λ_=>.fits (by simp;omega) (.ask (Ar b (by omega)) λc hc=>?_);subst hc;rw[<-J];have N:cb 1099511627776 (c++[d]):=dt h2 (dL k eg);refine .fits (by simp;omega) (.ask (ajm (a,c++[d]) ⟨ha,by simp;omega,N⟩) λ_ hv=>.bw (by omega) λajb=>?_);rw[aE (i:=(j:Int)+1) (by omega) (by omega)];exact O (_,_) ⟨⟨by simp;omega,N⟩,⟨by simp;omega,dt h4 (dL (bm (dv (ak k 0)) ed) eg)⟩,by rw[h5,fJ z,List.append_assoc],hv.1 ajb⟩
theorem agy:T (λn=>H7 n (aH p i r s l g)) (AQ i (Hw p i r)):=by
 have hs:=vp hb hc hn hr hp hd
 have N:=hs.bp
 have z:r∈p:=List.mem_of_getElem? hr
 have J:=dG N z
 have hi:=hs.hi
 have U:=hd.ln.1
 refine .step (λn=>ah4 n) (.ez (by dsimp only;omega) (.ask (O6 _ (by simp;omega)) λq hq=>?_))
 have e1:((p.drop (0:Int).toNat).take ((i:Int).toNat-(0:Int).toNat))=p.take i:=by simp
 have hq:q=p.take i:=hq.trans e1
 subst hq
 refine .fits (by simp;omega) ?_
 have hm:=dG hb z
 have hw:eS 16777216 (aj2 r):=bm ki (bm (dv (ak hm 1)) (bm (ef (ai hm 2)) (bm (dv (ak hm 3)) (bm (ef cK) (bm (ef cK) (bm (ef (ai hm 6)) (bm (ef cK) (bm (ef (ai hm 8)) (bm (ef (ai hm 9)) (bm HW (bm (ef (ai hm 11)) (bm (ef (ai hm 12)) (bm (ef (ai hm 13)) ed)))))))))))))
 have ep:=akS hs.hh hr (w:=aj2 r) rfl rfl rfl rfl rfl
 have A:Sur (p.take i++[aj2 r]) i:=Sur.put hb hc ⟨λx h=>absurd h List.not_mem_nil,λx h=>absurd h List.not_mem_nil,λx h=>absurd h List.not_mem_nil⟩ hn hr (Pd hb hc hn hr hp) (λk q hk hq=>(hp k q hk hq).ln) (λe=>let h:=hd.rf e;⟨h.1,h.2.1⟩) (λq hq=>let h:=hd.ex q hq;⟨h.1,h.2.1⟩) hw ⟨Nat.zero_le _,Nat.zero_le _,Nat.zero_le _⟩
 refine .ask A.stat λe he=>.ask (Pa e he.1.1 (by have:=he.1.2.1;omega) (by have:=he.1.2.2.1;omega) he.1.2.2.2) λu hu=>?_
 have E:=hu.2
 obtain⟨he,D⟩:=he
 have I:=he.2.1
 have V:=he.2.2.1
 have D:e=sb p i:=D.trans ep.1
 refine T.loop (σ:=Rows×Rows) (L:=λj t n=>AN n (gD r 4) ((gD r 4).length:Int) j (aH p i r s l g) (ct r) (p.take i++[aj2 r]) t.1 e.2 t.2) (gD r 4).length (λj t=>(t.1.length<=544+j/\cb 1099511627776 t.1)/\(t.2.length<=1000000000000+16777217*j/\cb 1099511627776 t.2)/\t.1=e.1++(gD r 4).take j/\ai8 (t.1,e.2)) ?_ ?_ (e.1,u) ⟨⟨I,(dc e he.1).2⟩,⟨E,hu.1.2⟩,by simp,by rw[D];exact hd.vs⟩
 .rintro⟨a,v⟩⟨⟨h1,h2⟩,⟨h3,h4⟩,h5,h6⟩;have h1:a.length<=544+(gD r 4).length:=h1;have h3:v.length<=1000000000000+16777217*(gD r 4).length:=h3;have h5:a=e.1++(gD r 4).take (gD r 4).length:=h5;rw[List.take_length]at h5;exact .step (λn=>OE n) (.neg (by simp) (aaE hb hc hn hr hp hd hda A ep a e.2 v ⟨by omega,h2⟩ (aB e he.1) (by omega) ⟨by omega,h4⟩ (by omega) (by rw[h5,D]) (by rw[D]) h6))
 .rintro j⟨a,v⟩hj⟨⟨h1,h2⟩,⟨h3,h4⟩,h5,h6⟩S
  have h1:a.length<=544+j:=h1
  have h3:v.length<=1000000000000+16777217*j:=h3
  have h5:a=e.1++(gD r 4).take j:=h5
  refine .step (λn=>OE n) (.pos (by simp;omega) (.ab (by omega) (by omega) λd o=>?_))
  have k:=an (ai J 4) o
  have kl:=hs.ai4 z 4 (List.mem_of_getElem? o)
  have o:(gD r 4)[j]?=some d:=by simpa using o
  have O:=(hc r z).c d (List.mem_of_getElem? o);refine .ask (sD _ (ak k 0)) λ_ _=>.ite (λ_=>.ask (aii (gD d 1) (ai k 1)) λ_ _=>.bw (by omega) λ_=>?_) (λ_=>.bw (by omega) λc=>by cases c);have ha:bd ([[.sc (.string (gS d 0))]]++gD d 1):=⟨by simp;omega,dt (dL (bm (dv (ak k 0)) ed) eg) (ai k 1).2⟩;refine .step (λn=>ZL n) (.fits (by simp;omega) (.ask (sg _ ha) λ_ _=>.ite (λ_=>.ask (aaD _ v ha ⟨by omega,h4⟩) λx hx=>.bw (by omega) λ_=>?_) (λ_=>.bw (by omega) λc=>by cases c)));rw[hx];refine .step (λn=>Zy n) (.fits (by simp;omega) (.ask (abY a (by omega)) λc hc=>?_));subst hc;rw[<-O];have Q:cb 1099511627776 (c++[d]):=dt h2 (dL k eg);refine .fits (by simp;omega) (.ask (ajm (c++[d],e.2) ⟨⟨by simp;omega,Q⟩,aB e he.1⟩) λ_ hv=>.bw (by omega) λajb=>?_);rw[aE (i:=(j:Int)+1) (by omega) (by omega)];exact S (_,_) ⟨⟨by simp;omega,Q⟩,⟨by simp;omega,dt h4 ha.2⟩,by rw[h5,fJ o,List.append_assoc],hv.1 ajb⟩
end
end
section
open BD (cA)
def ajr(e:Env)(l:Rows):Prop:=∀q,q∈l->Ev (λn=>Cq n e (cN q 1)) 0
theorem NI(cl:Rows)(S:ar)(env:Env)(o:bd cl)(he:bd env):T (λn=>AP n cl S env) (AQ S.2.1 λx=>x=S/\ajr env cl):=by
 have hl:=bq o
 refine .step (λn=>abL n) ?_
 refine T.lst (σ:=Unit) (L:=λj _ n=>AO n cl cl (cl.length:Int) j S env) (by omega) (λn _ _=>OL n) (λj _=>ajr env (cl.take j)) ?_ ?_ () (by intro q hq;simp at hq)
 .intro _ h;rw[List.take_length]at h;exact(.ok ⟨rfl,h⟩)
 .intro j _ hj h D;intro q hq;have k:=an o hq;have A:bd (cN q 1):=⟨trivial,ak k 2,trivial,trivial,ak k 5,ai k 6,ai k 7⟩;refine .ask (sD _ (ak k 0)) λ_ _=>.ite (λ_=>.ask (sB _ A) λ_ _=>.bw (by omega) λ_=>?_) (λ_=>.bw (by omega) λc=>by cases c);refine .step (λn=>abN n) (.ez (by omega) (.ask (afJ _ _ _ _ _ _ _ _ _ _ (wk o) (ak k 0) (ak k 2) (ak k 5) (ai k 6) (ai k 7)) λ_ _=>.bw (by omega) λ_=>.mV (S2 env _ he A) λv hv _=>.fail λz=>?_));have z:v=0:=z;subst z;exact D () (ajl hq h hv)
theorem agz{p:Rows}{i:Nat}{r:List AV}(hs:Sur p i)(hr:p[i]?=some r):T (λn=>s3 n p (i:Int)) bd:=by
 have hlt:=lI hs.hh (by omega) hr
 have hi:=hs.hi
 have fin:∀q,(0<=bR p r->p[(bR p r).toNat]?=some q)->(0<=bR p r->q∈p)->T (λn=>s3 n p (i:Int)) bd:=λq hq o=>by
  refine .step (λn=>SH n) (.cR (Qq p i r true hs.bp hr (λr hr j=>hs.e hr j) q hq) (.ret ?_))
  split
  .exact cK
  .have o:=o (by omega)
   have:=hs.e o 7
   refine⟨?_,lL λx hx=>?_⟩
   .unfold da;rw[List.length_map];exact Nat.le_trans (List.length_filter_le ..) (by omega)
   .unfold da at hx;obtain⟨d,hd,rfl⟩:=List.mem_map.1 hx;exact bm (dv (ak (dG (ai (dG hs.bp o) 7) (List.mem_filter.1 hd).1) 0)) ed
 by_cases h:0<=bR p r
 .have h2:(bR p r).toNat<p.length:=by omega
  exact fin p[(bR p r).toNat] (λ_=>by simp[h2]) λ_=>List.getElem_mem h2
 .exact fin [] (λe=>absurd e h) λe=>absurd e h
def fE(l:Rows)(s:ByteArray):Int:=gr (λe=>ay (gS e 0) s) l
theorem sj{l:Rows}{s:ByteArray}(h:0<=fE l s):fE l s<l.length/\∀d,l[(fE l s).toNat]?=some d->gS d 0=s:=by
 unfold fE gr at*
 cases e:l.findIdx? λe=>ay (gS e 0) s with
 |none=>rw[e]at h;simp at h
 |some k=>
  obtain⟨h1,h2,_⟩:=List.findIdx?_eq_some_iff_getElem.1 e
  refine⟨by simp only;omega,λd hd=>?_⟩
  have hd:l[k]?=some d:=by simpa using hd
  rw[List.getElem?_eq_getElem h1]at hd;obtain rfl:=Option.some.inj hd;exact gh.1 h2
theorem alp(l:Rows)(s:ByteArray)(E D A z a6 a7 a8 o)(hl:bd l):Ev (λn=>vJ n l s E D A z a6 a7 a8 o) (fE l s):=.step (λn=>ae7 n) (nI (J:=λn i=>uJ n l s E D A z a6 a7 a8 o (l.length:Int) i) (P:=λn r=>GL n (du r 0) s E D A z a6 a7 a8 o) (by have:=bq hl;omega) (λn i=>M1 n) λr _=>.step (λn=>adD n) (.ret _))
def ajS(r:List AV)(env:Env)(q:List AV):Prop:=∃t d,d∈gD r 7/\gS d 0=gS q 0/\Ev (λn=>iI n env (cN q 2)) t/\t.2.2.2=0/\(gB q 1=true->ajq (af t) (5,bs [],[cy (aK d 1)]))/\(gB q 1=false->ajq (af t) (aK d 1))
def ajx(r q:List AV)(x:Int):Prop:=0<=x/\x<(gD r 7).length/\∀d,(gD r 7)[x.toNat]?=some d->gS d 0=gS q 0
section
variable {p:Rows}{i:Nat}{r:List AV}{s l g:Env}(hs:Sur p i)(hr:p[i]?=some r)(hbs:bd s)(hbl:bd l)(hbg:bd g)
include hs hr
theorem sE:bd (gD r 7):=ai (dG hs.bp (List.mem_of_getElem? hr)) 7
include hbg hbs
theorem agA:T (λn=>H8 n (aH p i r s l g)) (AQ i λx=>x=aH p i r s l g/\(gI r 0=2->ajr g (gD r 8))/\(gI r 0≠2->ajr s (gD r 6))):=by
 have k:=dG hs.bp (List.mem_of_getElem? hr)
 have up:∀{F:Nat->Option (aW ar Unit)}{Q Q':ar->Prop},T F (AQ i Q)->(∀x,Q x->Q' x)->T F (AQ i Q'):=λh hq=>h.mono λx hx=>by cases x with|aN=>exact hx|ret x=>exact hq x hx
 refine .step (λn=>aho n) (.ite (λc=>?_) (λc=>?_))
 .have c:gI r 0=2:=fO c;exact up (NI (gD r 8) _ g (ai k 8) hbg) λx hx=>⟨hx.1,λ_=>hx.2,λe=>absurd c e⟩
 .have c:¬gI r 0=2:=by simpa using c
  exact up (NI (gD r 6) _ s (ai k 6) hbs) λx hx=>⟨hx.1,λe=>absurd e c,λ_=>hx.2⟩
omit hbg hbs
include hbl
theorem agB:T (λn=>H9 n (aH p i r s l g)) (AQ i λx=>x=aH p i r s l g/\∀q,q∈gD r 9->∃t,Ev (λn=>iI n l (cN q 0)) t/\t.2.2.2=0):=by
 have k:=dG hs.bp (List.mem_of_getElem? hr)
 have kv:=ai k 9
 have hl:=bq kv
 refine .step (λn=>ahx n) ?_
 refine T.lst (σ:=Unit) (L:=λj _ n=>vi n (gD r 9) ((gD r 9).length:Int) j (aH p i r s l g)) (by omega) (λn _ _=>OU n) (λj _=>∀q,q∈(gD r 9).take j->∃t,Ev (λn=>iI n l (cN q 0)) t/\t.2.2.2=0) ?_ ?_ () (by simp)
 .intro _ h;rw[List.take_length]at h;exact(.ok ⟨rfl,h⟩)
 .intro j _ hj h o;intro q hq;have k:=an kv hq;have z:bd (cN q 0):=⟨trivial,ak k 1,trivial,trivial,ak k 4,ai k 5,ai k 6⟩;refine .ask (sB _ z) λ_ _=>.bw (by omega) λ_=>.mV (B3 l _ hbl z) λt ht _=>.fail λA=>?_;have o:=o () (ajl hq h ⟨t,ht,A⟩);exact .ite (λ_=>.bw (by omega) λ_=>o) (λ_=>.bw (by omega) λ_=>o)
omit hbl
theorem L4{cl:ByteArray}{acts kp:Rows}{fr:Bool}(ha:bd acts)(hk:bd kp){Q:ar->Prop}{j:Nat}(hj:j<acts.length){J1 J2 J3:Nat->List AV->Int->ar->Option (aW ar Unit)}(h1:∀q(x:Int),acts[j]?=some q->ajx r q x->T (λn=>J1 n q x (aH p i r s l g)) (AQ i Q))(h2:∀q(x:Int),acts[j]?=some q->ajx r q x->T (λn=>J2 n q x (aH p i r s l g)) (AQ i Q)):T (λn=>ab acts (j:Int) λr1=>(ask (vJ n (gD r 7) (gS r1 0) (gB r1 1) (gI r1 2) (gS r1 3) (gI r1 4) (gI r1 5) (gS r1 6) (gD r1 7) (gD r1 8)) λo=>(aw (aO n (decide ((o:Int)>=0)) cl 6 (aH p i r s l g)) λz=>(ez acts 0 (j:Int) λl4=>(ask (uz n l4 (gS r1 0) (gB r1 1) (gI r1 2) (gS r1 3) (gI r1 4) (gI r1 5) (gS r1 6) (gD r1 7) (gD r1 8)) λx5=>(aa (!x5) (aa fr (ask (gu n kp (gS r1 0)) λx6=>(aw (aO n (!x6) cl 36 z) λx7=>(J1 n r1 o x7))) (aw (aO n true cl 36 z) λD=>(J2 n r1 o D))) (aw (aO n false cl 36 z) λA=>(J3 n r1 o A)))))))) (AQ i Q):=by
 have hl:=bq ha
 have hv:=sE hs hr
 refine .ab (by omega) (by omega) λq hq=>?_
 have hq:acts[j]?=some q:=by simpa using hq
 have k:=an ha hq;refine .cR (alp (gD r 7) (gS q 0) _ _ _ _ _ _ _ _ hv) (.bw (by omega) λc=>?_);have c:=cO c;have hx:ajx r q (fE (gD r 7) (gS q 0)):=⟨c,sj c⟩;refine .ez (by omega) (.ask (Z5 _ _ _ _ _ _ _ _ _ _ (wk ha) (ak k 0) (ak k 3) (ak k 6) (ai k 7) (ai k 8)) λ_ _=>.ite (λ_=>.ite (λ_=>.ask (kH kp _ hk) λ_ _=>.bw (by omega) λ_=>h1 q _ hq hx) (λ_=>.bw (by omega) λ_=>h2 q _ hq hx)) (λ_=>.bw (by omega) λc=>by cases c))
theorem EW{cl:ByteArray}{env:Env}(he:bd env){q:List AV}(hq:cA 1099511627776 q){x:Int}(h:ajx r q x){Q:ar->Prop}{J:Nat->ar->Option (aW ar Unit)}(hJ:ajS r env q->T (λn=>J n (aH p i r s l g)) (AQ i Q)){K1 K2:Nat->Int×ByteArray×Rows×Int->ar->List AV->Option (aW ar Unit)}(e1:∀n x1 o r3,K1 (n+1) x1 o r3=(ask (j6 n (af x1) (dQ (5,(bs [])) [(cy (aK r3 1))])) λx1=>(aw (aO n x1 cl 7 o) λo=>J n o)))(e2:∀n x1 o r3,K2 (n+1) x1 o r3=(ask (j6 n (af x1) (aK r3 1)) λx1=>(aw (aO n x1 cl 7 o) λo=>J n o))):T (λn=>(ask (iI n env (cN q 2)) λx1=>(aw (jH n cl x1.2.2.2 (aH p i r s l g)) λo=>(ab o.2.2.2.2.2.2.2.2.2.1 x λr3=>(aa (gB q 1) (K1 n x1 o r3) (K2 n x1 o r3)))))) (AQ i Q):=by have hv:=sE hs hr;refine .mV (B3 env _ he ⟨trivial,ak hq 3,trivial,trivial,ak hq 6,ai hq 7,ai hq 8⟩) λy vy hx=>.fail λD=>.ab h.1 h.2.1 λd hd=>?_;have k:=an hv hd;have A:bd (aK d 1):=⟨trivial,ak k 2,ai k 3⟩;have h3:bd (af y):=⟨trivial,hx.2.1,hx.2.2.1⟩;have z:=List.mem_of_getElem? hd;exact .ite (λcB=>.step (λn=>e1 n _ _ _) (.ask (akl _ _ h3 ⟨trivial,dz,bdO (qS A) (by omega)⟩) λ_ hb=>.bw (by omega) λc=>hJ ⟨y,d,z,h.2.2 d hd,vy,D,λ_=>hb c,λe=>by rw[e]at cB;cases cB⟩)) (λcB=>.step (λn=>e2 n _ _ _) (.ask (akl _ _ h3 A) λ_ hb=>.bw (by omega) λc=>hJ ⟨y,d,z,h.2.2 d hd,vy,D,(λe=>by rw[e]at cB;cases cB),λ_=>hb c⟩))
theorem Ph{cl:ByteArray}{acts:Rows}(ha:bd acts){env:Env}(he:bd env)(fr:Bool):T (λn=>sJ n cl acts env fr (aH p i r s l g)) (AQ i λx=>x=aH p i r s l g/\∀q,q∈acts->ajS r env q):=by
 have hl:=bq ha
 refine .step (λn=>adS n) (.ask (agz hs hr) λkp hk=>?_)
 let Q:ar->Prop:=λx=>x=aH p i r s l g/\∀q,q∈acts->ajS r env q
 let N:Nat->Unit->Prop:=λj _=>∀q,q∈acts.take j->ajS r env q
 have fin:N acts.length ()->Q (aH p i r s l g):=λh=>⟨rfl,by simpa only[N,List.take_length]using h⟩
 have I:∀(k:Nat),k<=acts.length->N k ()->T (λn=>ky n cl acts fr acts (acts.length:Int) (k:Int) (aH p i r s l g) env kp) (AQ i Q):=by
  intro k A hI
  refine T.lO (σ:=Unit) (L:=λj _ n=>ky n cl acts fr acts (acts.length:Int) j (aH p i r s l g) env kp) acts.length N ?_ ?_ k A () hI
  .exactλ_ h=>.step (λn=>KC n) (.neg (by simp) (.ok (fin h)))
  .intro j _ hj h z
   refine .step (λn=>KC n) (.pos (by simp;omega) ?_)
   have go:∀q(x:Int),acts[j]?=some q->ajx r q x->T (λn=>kD n cl acts fr x acts (acts.length:Int) (j:Int) (aH p i r s l g) env kp (eZ q 0)) (AQ i Q):=λq x hq hx=>by refine .step (λn=>Ny n) (EW hs hr he (an ha hq) hx (J:=λn S=>ky n cl acts fr acts (acts.length:Int) (be ((j:Int)+1)) S env kp) (λhk=>?_) (K1:=λn x1 o r3=>zo n cl acts fr acts (acts.length:Int) (j:Int) o env kp (af x1) (5,(bs [])) [(cy (aK r3 1))]) (K2:=λn x1 o r3=>yF n cl acts fr acts (acts.length:Int) (j:Int) o env kp (af x1) (aK r3 1)) (λn x1 o r3=>LR n) (λn x1 o r3=>JM n));rw[aE (i:=(j:Int)+1) (by omega) (by omega)];exact z () (ajl hq h hk)
   exact L4 hs hr ha hk hj (J1:=λn r1 o S=>kD n cl acts fr o acts (acts.length:Int) (j:Int) S env kp (eZ r1 0)) (J2:=λn r1 o S=>kD n cl acts fr o acts (acts.length:Int) (j:Int) S env kp (eZ r1 0)) (J3:=λn r1 o S=>kD n cl acts fr o acts (acts.length:Int) (j:Int) S env kp (eZ r1 0)) go go
 refine T.loop (σ:=Unit) (L:=λj _ n=>oa n cl acts fr acts (acts.length:Int) j (aH p i r s l g) env kp) acts.length N ?_ ?_ () (by simp[N])
 .exactλ_ h=>.step (λn=>MQ n) (.neg (by simp) (.ok (fin h)))
 .intro j _ hj h z
  refine .step (λn=>MQ n) (.pos (by simp;omega) ?_)
  have E:∀q(x:Int),acts[j]?=some q->ajx r q x->T (λn=>kD n cl acts fr x acts (acts.length:Int) (j:Int) (aH p i r s l g) env kp (eZ q 0)) (AQ i Q):=λq x hq hx=>by refine .step (λn=>Ny n) (EW hs hr he (an ha hq) hx (J:=λn S=>ky n cl acts fr acts (acts.length:Int) (be ((j:Int)+1)) S env kp) (λhk=>?_) (K1:=λn x1 o r3=>zo n cl acts fr acts (acts.length:Int) (j:Int) o env kp (af x1) (5,(bs [])) [(cy (aK r3 1))]) (K2:=λn x1 o r3=>yF n cl acts fr acts (acts.length:Int) (j:Int) o env kp (af x1) (aK r3 1)) (λn x1 o r3=>LR n) (λn x1 o r3=>JM n));rw[aE (i:=(j:Int)+1) (by omega) (by omega)];exact I (j+1) (by omega) (ajl hq h hk)
  have D:∀q(x:Int),acts[j]?=some q->ajx r q x->T (λn=>rE n cl acts fr x acts (acts.length:Int) (j:Int) (aH p i r s l g) env kp (eZ q 0)) (AQ i Q):=λq x hq hx=>by refine .step (λn=>Wz n) (EW hs hr he (an ha hq) hx (J:=λn S=>oa n cl acts fr acts (acts.length:Int) (be ((j:Int)+1)) S env kp) (λhk=>?_) (K1:=λn x1 o r3=>Dd n cl acts fr acts (acts.length:Int) (j:Int) o env kp (af x1) (5,(bs [])) [(cy (aK r3 1))]) (K2:=λn x1 o r3=>De n cl acts fr acts (acts.length:Int) (j:Int) o env kp (af x1) (aK r3 1)) (λn x1 o r3=>VZ n) (λn x1 o r3=>V2 n));rw[aE (i:=(j:Int)+1) (by omega) (by omega)];exact z () (ajl hq h hk)
  exact L4 hs hr ha hk hj (J1:=λn r1 o S=>kD n cl acts fr o acts (acts.length:Int) (j:Int) S env kp (eZ r1 0)) (J2:=λn r1 o S=>rE n cl acts fr o acts (acts.length:Int) (j:Int) S env kp (eZ r1 0)) (J3:=λn r1 o S=>rE n cl acts fr o acts (acts.length:Int) (j:Int) S env kp (eZ r1 0)) E D
end
end
section
open BD (cA)
inductive PT:Env->Rows->Env->Prop|nil{e:Env}:PT e [] e|cons{e e' v:Env}{q k:List AV}{qs:Rows}{x:Int×ByteArray×Rows×Int}:Ev (λn=>iI n e (cN q 1)) x->x.1=5/\x.2.2.2=0->x.2.2.1[0]?=some k->Ev (λn=>np n e (gS q 0) (aK k 0)) (e'.1,e'.2,0)->ajB e.2 e'.2->PT e' qs v->PT e (q::qs) v
def akn(r:List AV)(l:Env)(e:List AV):Prop:=∃v,PT l (gD e 3) v/\ajr v (gD e 4)/\∀q,q∈gD e 6->ajS r v q
structure Ps(p:Rows)(i:Nat)(r:List AV):Prop extends Hd p i r where
 vd:gI r 0=2->(bj (gD r 7)).Nodup
 pt:gI r 0=2->∀e,e∈gD r 13->(bj (gD e 3)).Nodup/\(∀x,x∈gD e 3->ji (gS x 0))/\akn r ((ai6 p i).1,(ai6 p i).2++gD r 7) e
 ss:ai8 (ai6 p i)/\ajr (ai6 p i) (gD r 6)vg:gI r 0=2->ai8 ((ai6 p i).1,(ai6 p i).2++ajb p i)/\(∀d,d∈gD r 7->d∈ajb p i)/\ajr ((ai6 p i).1,(ai6 p i).2++ajc (dir p r) (gD r 7)) (gD r 8)vt:gI r 0=2->∀q,q∈gD r 9->∃t,Ev (λn=>iI n ((ai6 p i).1,(ai6 p i).2++gD r 7) (cN q 0)) t/\t.2.2.2=0
theorem u2(c:dA)(s:ByteArray)(hc:bd c.2.2.2.2.2.2.2.2.2.2.2.2.2):Ev (λn=>qM n c s) (fE c.2.2.2.2.2.2.2.2.2.2.2.2.2 s):=.step (λn=>aed n) (.ask (.step (λn=>ZN n) (nI (J:=λn j=>yV n c.2.2.2.2.2.2.2.2.2.2.2.2.2 s (c.2.2.2.2.2.2.2.2.2.2.2.2.2.length:Int) j) (p:=λe=>ay (gS e 0) s) (by have:=bq hc;omega) (λn j=>WI n) λe _=>.step (λn=>afd n) (.ret _))) (.ret _))
def sS(p:Rows)(i:Nat)(r:List AV)(x:ByteArray×Rows×Int×Rows×Rows×Rows×Rows×Bool):Prop:=bd x/\(x.2.2.2.2.2.2.2=true->∃(k:Nat)(q:List AV),bR p r=k/\k<i/\p[k]?=some q/\gI q 0=2/\(x.2.2.2.1=[]\/∃e,e∈gD q 13/\x.2.2.2.1=gD e 3))
section
variable {p:Rows}{i:Nat}{r:List AV}{s l g:Env}(hs:Sur p i)(hr:p[i]?=some r)(hd:Hd p i r)
include hs hr hd
theorem ab8(nm:ByteArray)(Q:bd nm)(L:ay nm (bs [105,110,105,116])=false->∀(n:Nat)e,fE (gD r 13) nm=n->(gD r 13)[n]?=some e->∀(k:Nat)q,bR p r=k->p[k]?=some q->∀x,x∈gD e 1->0<=fE (gD q 13) (gS x 0)):T (λn=>BK n p (i:Int) nm) (sS p i r):=by
 have D:=hs.bp
 have hi:=hs.hi
 have N:=dG D (List.mem_of_getElem? hr)
 have hlt:=lI hs.hh (by omega) hr
 have no:T (λn=>(some ((bs []),[],0,[],[],[],[],false):Option (ByteArray×Rows×Int×Rows×Rows×Rows×Rows×Bool))) (sS p i r):=.ret ⟨⟨dz,cK,trivial,cK,cK,cK,cK,trivial⟩,λe=>by cases e⟩
 refine .step (λn=>PU n) (.cR (iY p i r D hr) (.ite (λ_=>no) λc=>?_))
 have c:=eU c
 obtain⟨k,hk⟩:∃k:Nat,bR p r=k:=⟨(bR p r).toNat,by omega⟩
 have I:∀q,p[k]?=some q->gI q 0=2:=λq hq=>by
  have e:ay (gS r 3) (bs [])=false:=by cases e:ay (gS r 3) (bs [])with|false=>rfl|true=>unfold bR at c;rw[if_pos e]at c;omega
  refine(hd.rf e).2.2 q ?_
  have:bc p (gS r 3)=k:=by rw[<-hk];unfold bR;rw[if_neg (by rw[e];simp)]
  rw[this];simpa using hq
 rw[hk]
 refine .ab (by omega) (by omega) λq hq=>?_
 have hq:p[k]?=some q:=by simpa using hq
 have A:=an D hq
 refine .ite (λ_=>.ret ⟨⟨dz,cK,trivial,cK,cK,ai A 11,ai A 12,trivial⟩,λ_=>⟨k,q,hk,by omega,hq,I q hq,.inl rfl⟩⟩) (λc2=>?_)
 refine .ab (by omega) (by omega) λr' o=>?_
 have o:p[i]?=some r':=by simpa using o
 rw[hr]at o
 obtain rfl:=Option.some.inj o
 refine .cR (u2 (ct r) nm (ai N 13)) (.ite (λ_=>no) λc3=>?_)
 have c3:¬fE (gD r 13) nm<0:=eU c3
 obtain⟨m,hm⟩:∃m:Nat,fE (gD r 13) nm=m:=⟨(fE (gD r 13) nm).toNat,by omega⟩
 have S:=(sj (l:=gD r 13) (s:=nm) (by omega)).1
 have O:∀{k:Nat->List AV->Option (ByteArray×Rows×Int×Rows×Rows×Rows×Rows×Bool)},T (λn=>k n r) (sS p i r)->T (λn=>ab p (i:Int) (k n)) (sS p i r):=λh=>.ab (by omega) (by omega) λr' o=>by
  have o:p[i]?=some r':=by simpa using o
  rw[hr]at o;obtain rfl:=Option.some.inj o;exact h
 have e1:fE (ct r).2.2.2.2.2.2.2.2.2.2.2.2.2 nm=m:=hm
 rw[e1]
 refine O (.ab (by omega) (by omega) λe he=>.ite (λ_=>no) λc4=>?_)
 have he:(gD r 13)[m]?=some e:=by simpa using he
 have c4:¬((gD e 1).length:Int)=0:=by simpa using c4
 refine O (.ab (by omega) (by omega) λe' z=>?_)
 have z:(gD r 13)[m]?=some e':=by simpa using z
 rw[he]at z;obtain rfl:=Option.some.inj z;refine .ab (by omega) (by omega) λx hx=>?_;have E:=L c2 m e hm he k q hk hq x (List.mem_of_getElem? hx);have J:=(sj E).1;refine .cR (u2 (ct q) (gS x 0) (ai A 13)) (.ab E J λf hf=>?_);have kf:=an (ai A 13) hf;exact .ret ⟨⟨ak kf 0,ai kf 1,trivial,ai kf 3,ai kf 4,ai kf 5,ai kf 6,trivial⟩,λ_=>⟨k,q,hk,by omega,hq,I q hq,.inr ⟨f,List.mem_of_getElem? hf,rfl⟩⟩⟩
end
theorem NJ{env w:Env}{ps:Rows}(he:bd env)(U:bd ps){j:Nat}(hj:j<ps.length)(L:PT env (ps.drop j) w){D:Rows}(ha:D.length=j)(V:cb 1099511627776 D){β:Type}{Q:β->Prop}{J:Nat->Env->Rows->Option β}(hJ:∀e' o,bd e'->PT e' (ps.drop (j+1)) w->o.length=j+1->cb 1099511627776 o->T (λn=>J n e' o) Q)(hl:ps.length<=16777216):T (λn=>ab ps (j:Int) λr1=>(ask (iI n env (cN r1 1)) λS=>(aa (S.1 !=5) none (ab S.2.2.1 0 λr3=>(fits (D.length+([(cy (aK r3 0))]:List (List AV)).length) 48 (ab S.2.2.1 0 λr4=>(ask (np n env (gS r1 0) (aK r4 0)) λx5=>(J n (x5.1,x5.2.1) (D++[(cy (aK r3 0))]))))))))) Q:=by
 have e0:ps.drop j=ps[j]::ps.drop (j+1):=List.drop_eq_getElem_cons hj
 rw[e0]at L
 have I:ps[j]?=some ps[j]:=by simp[hj]
 generalize ps[j]=q at L I
 refine .ab (by omega) (by omega) λr1 A=>?_
 have A:ps[j]?=some r1:=by simpa using A
 rw[I]at A
 obtain rfl:=Option.some.inj A
 have k:=an U I
 cases L with
 |@cons _ e' _ _ Y _ x v1 x5 xk v2 _ E=>
 refine .mV (Fq env _ he ⟨trivial,ak k 2,trivial,trivial,ak k 5,ai k 6,ai k 7⟩) λy hv hy=>?_
 obtain rfl:=hv.HU v1
 refine .neg (by rw[x5.1];rfl) ?_
 have hk1:=hy.2 x5.1
 have g0:∀{Z:Nat->List AV->Option β},T (λn=>Z n Y) Q->T (λn=>ab y.2.2.1 0 (Z n)) Q:=λh=>.ab (by omega) (by omega) λr3 z=>by
  have z:y.2.2.1[0]?=some r3:=by simpa using z
  rw[xk]at z;obtain rfl:=Option.some.inj z;exact h
 have N:=an hy.1.2.2.1 xk;have X:bd (aK Y 0):=⟨trivial,ak N 1,ai N 2⟩;refine g0 (.fits (by simp;omega) (g0 (.mV (S3 env _ _ he (ak k 0) X) λa1 hz O=>?_)));obtain rfl:=hz.HU v2;exact hJ (e'.1,e'.2) _ ⟨O.1.1,O.1.2.1⟩ E (by simp[ha]) (dt V (dL (qS X) eg))
theorem Pj{env w:Env}(a:cv)(he:bd env)(A:bd a.2.2.2.1)(hl:a.2.2.2.1.length<=16777216)(z:PT env a.2.2.2.1 w):T (λn=>BM n env a) λt=>bd t/\t.length=a.2.2.2.1.length:=by
 refine .step (λn=>ade n) ?_
 refine T.loop (σ:=Env×Rows) (L:=λj t n=>uH n a.2.2.2.1 (a.2.2.2.1.length:Int) j t.1 a t.2) a.2.2.2.1.length (λj t=>bd t.1/\PT t.1 (a.2.2.2.1.drop j) w/\t.2.length=j/\cb 1099511627776 t.2) ?_ ?_ (env,[]) ⟨he,z,rfl,trivial⟩
 .intro t ht;have h1:=ht.2.2.1;exact .step (λn=>NB n) (.neg (by simp) (.ret ⟨⟨by omega,ht.2.2.2⟩,h1⟩))
 .intro j t hj ht D;refine .step (λn=>NB n) (.pos (by simp;omega) ?_);rw[aE (i:=(j:Int)+1) (by omega) (by omega)];exact NJ ht.1 A hj ht.2.1 ht.2.2.1 ht.2.2.2 (J:=λn e' o=>uH n a.2.2.2.1 (a.2.2.2.1.length:Int) ((j:Int)+1) e' a o) (λe' o h1 h2 h3 h4=>D (e',o) ⟨h1,h2,h3,h4⟩) (by omega)
theorem XH{env w:Env}(a:ByteArray×Int×Rows)(he:bd env)(A:bd a.2.2)(hl:a.2.2.length<=16777216)(z:PT env a.2.2 w):T (λn=>EH n env a) λt=>bd t/\t.length=a.2.2.length:=by
 refine .step (λn=>ZC n) ?_
 refine T.loop (σ:=Env×Rows) (L:=λj t n=>tH n a.2.2 (a.2.2.length:Int) j t.1 a t.2 [] [] [] []) a.2.2.length (λj t=>bd t.1/\PT t.1 (a.2.2.drop j) w/\t.2.length=j/\cb 1099511627776 t.2) ?_ ?_ (env,[]) ⟨he,z,rfl,trivial⟩
 .intro t ht;have h1:=ht.2.2.1;exact .step (λn=>KJ n) (.neg (by simp) (.ret ⟨⟨by omega,ht.2.2.2⟩,h1⟩))
 .intro j t hj ht D;refine .step (λn=>KJ n) (.pos (by simp;omega) ?_);rw[aE (i:=(j:Int)+1) (by omega) (by omega)];exact NJ ht.1 A hj ht.2.1 ht.2.2.1 ht.2.2.2 (J:=λn e' o=>tH n a.2.2 (a.2.2.length:Int) ((j:Int)+1) e' a o [] [] [] []) (λe' o h1 h2 h3 h4=>D (e',o) ⟨h1,h2,h3,h4⟩) (by omega)
theorem XI(env:Env)(a:ByteArray×Int):T (λn=>Es n env a) λt=>t=[]:=.step (λn=>YV n) (.step (λn=>WA n) (.neg rfl (.ret rfl)))
theorem alq{s:ByteArray}(h:ji s)(t:ByteArray):s≠t++bs [39]:=λe=>by refine h 39 ?_ rfl;rw[e];simp[ByteArray.data_append]
theorem WX{s t:ByteArray}(h:s++bs [39]=t++bs [39]):s=t:=by
 have h1:(s++bs [39]).data.toList=(t++bs [39]).data.toList:=by rw[h]
 simp only[ByteArray.data_append,Array.toList_append]at h1;have:=List.append_cancel_right h1;exact ByteArray.ext (Array.ext' this)
def ox(t:Rows):Prop:=bd t/\(bj t).Nodup/\t.length<=33554432
theorem Sur.le{p:Rows}{i k:Nat}(h:Sur p i)(hk:k<=i):Sur p k:=⟨h.hb,h.hc,h.hn,⟨λj q hj hq he=>h.hh.rf j q (by omega) hq he,λj q hj hq x hx=>h.hh.ex j q (by omega) hq x hx⟩,by have:=h.hi;omega,λj q hj hq=>h.hl j q (by omega) hq⟩
theorem Ug{s:ByteArray}{x:fv}{b:Bool}(hs:bd s)(h:bd x):eS 1099511627776 (nT (s,(cB x b))):=bm (dv hs) (bm ki (bm (dv (dc x.2 (aB x h))) (bm (ef (aB x.2 (aB x h))) (bm HW ed))))
theorem jR(t:Rows)(w:List AV):bj (t++[w])=bj t++[gS w 0]:=by simp[bj]
theorem aaF{l:Rows}{j:Nat}{s:ByteArray}(h:s∈bj (l.take j)):s∈bj (l.take (j+1)):=by obtain⟨x,hx,rfl⟩:=List.mem_map.1 h;exact List.mem_map_of_mem (List.take_subset_take_left l (Nat.le_succ j) hx)
theorem Au{l:Rows}{j:Nat}{x:List AV}(h:l[j]?=some x):gS x 0∈bj (l.take (j+1)):=by rw[fJ h,jR];simp
theorem NK{l:Rows}{j:Nat}{x:List AV}(h:l[j]?=some x)(hn:(bj l).Nodup):gS x 0∉bj (l.take j):=by
 have h1:(bj (l.take (j+1))).Nodup:=by
  have:bj (l.take (j+1))=(bj l).take (j+1):=by simp[bj,List.map_take]
  rw[this];exact hn.sublist (List.take_sublist _ _)
 rw[fJ h,jR,yu]at h1;exact h1.2
section
variable {p:Rows}{i:Nat}{r:List AV}{s l g:Env}(hs:Sur p i)(hr:p[i]?=some r)
include hs hr
theorem XK(a:cv)(ha:bd a){vs:Rows}(hvs:cA 16777216 vs)(hn:(bj vs).Nodup){t0:Rows}(h0:cb 1099511627776 t0)(E:t0.length<=16777216)(hn0:(bj t0).Nodup)(hq:∀s,s∈bj t0->ji s):T (λn=>uI n vs (vs.length:Int) 0 (aH p i r s l g) a t0) λx=>x.2=aH p i r s l g/\ox x.1:=by
 have hvl:vs.length<=16777216:=hvs.1
 have hv:=iF hvs
 have o:=sE hs hr
 refine T.lst (σ:=Rows) (L:=λj t n=>uI n vs (vs.length:Int) j (aH p i r s l g) a t) (by omega) (λn _ _=>Nk n) (λj t=>((bj t).Nodup/\∀s,s∈bj t->s∈bj t0\/∃v,v∈bj (vs.take j)/\s=v++bs [39])/\t.length<=16777216+j/\cb 1099511627776 t) ?_ ?_ t0 ⟨⟨hn0,λs h=>.inl h⟩,by omega,h0⟩
 .intro t ht;have h1:=ht.2.1;exact(.ret ⟨rfl,⟨by show t.length<=_;omega,ht.2.2⟩,ht.1.1,by show t.length<=_;omega⟩)
 .intro j t hj ht z
  have h1:=ht.2.1
  intro d hd
  have k:=an hv hd
  have k2:(gS d 0).size<=16777216:=ak (an hvs hd) 0
  have ck:T (λn=>uf n vs (vs.length:Int) (j:Int) (aH p i r s l g) a t) λx=>x.2=aH p i r s l g/\ox x.1:=by
   refine .step (λn=>LV n) ?_
   refine z t ⟨⟨ht.1.1,λs hs=>?_⟩,by omega,ht.2.2⟩
   rcases ht.1.2 s hs with h|⟨v,h,e⟩
   .exact .inl h
   .exact .inr ⟨v,aaF h,e⟩
  refine .ask (aan (gD r 7) _ _ _ _ o (ak k 0) (ak k 2) (ai k 3)) λ_ _=>.ask (aap a.2.2.2.2.2.2 _ _ _ _ ha.2.2.2.2.2.2 (ak k 0) (ak k 2) (ai k 3)) λ_ _=>.ite (λ_=>.ite (λ_=>?_) (λ_=>ck)) (λ_=>ck)
  have D:(bs [39]).size=1:=rfl
  refine .i7 (by omega) (.fits (by simp;omega) (.step (λn=>LV n) ?_))
  have hbs:bd (gS d 0++bs [39]):=by show(gS d 0++bs [39]).size<=_;rw[ByteArray.size_append];omega
  have A:gS (nT (gS d 0++bs [39],(cB (aK d 1) true))) 0=gS d 0++bs [39]:=rfl
  refine z _ ⟨⟨?_,λs hs=>?_⟩,by simp;omega,dt ht.2.2 (dL (Ug hbs (x:=(gI d 1,gS d 2,gD d 3)) ⟨trivial,ak k 2,ai k 3⟩) eg)⟩
  .rw[jR,yu,A]
   refine⟨ht.1.1,λh=>?_⟩
   rcases ht.1.2 _ h with h|⟨v,h,e⟩
   .exact alq (hq _ h) _ rfl
   .exact NK hd hn (by rw[WX e];exact h)
  .rw[jR,A]at hs
   rcases List.mem_append.1 hs with hs|hs
   .rcases ht.1.2 s hs with h|⟨v,h,e⟩
    .exact .inl h
    .exact .inr ⟨v,aaF h,e⟩
   .rw[List.mem_singleton]at hs;exact .inr ⟨_,Au hd,hs⟩
theorem L5(a:cv)(ha:bd a)(hal:a.2.2.2.1.length<=16777216)(J:(bj a.2.2.2.1).Nodup)(I:∀x,x∈a.2.2.2.1->ji (gS x 0)){own ts os:Rows}(ho:bd own)(z:bd ts)(E:bd os)(h1:ts.length=a.2.2.2.1.length)(h2:os.length=own.length){k:Nat}{q:List AV}(hq:p[k]?=some q)(A:(bj (gD q 7)).Nodup):T (λn=>qj n own (k:Int) ts os a.2.2.2.1 (a.2.2.2.1.length:Int) 0 (aH p i r s l g) a []) λx=>x.2=aH p i r s l g/\ox x.1:=by
 have D:bd a.2.2.2.1:=ha.2.2.2.1
 refine T.lst (σ:=Rows) (L:=λj t n=>qj n own (k:Int) ts os a.2.2.2.1 (a.2.2.2.1.length:Int) j (aH p i r s l g) a t) (by omega) (λn _ _=>M9 n) (λj t=>((bj t).Nodup/\∀s,s∈bj t->s∈bj (a.2.2.2.1.take j))/\t.length<=j/\cb 1099511627776 t) ?_ ?_ [] ⟨⟨by simp,by simp⟩,by simp,trivial⟩
 .intro t ht
  have h3:=ht.2.1
  have S:k<p.length:=(List.getElem?_eq_some_iff.1 hq).1
  refine(.ab (by omega) (by show(k:Int)<(p.length:Int);omega) λQ o=>?_)
  have o:p[k]?=some Q:=by simpa using o
  rw[hq]at o;obtain rfl:=Option.some.inj o;refine XK hs hr a ha (ai (an hs.hb hq) 7) A ht.2.2 (by omega) ht.1.1 λs hs=>?_;have:=ht.1.2 s hs;rw[List.take_length]at this;obtain⟨x,hx,rfl⟩:=List.mem_map.1 this;exact I x hx
 .intro j t hj ht N
  have h3:=ht.2.1
  intro d hd
  have kd:=an D hd
  have add:T (λn=>zq n own (k:Int) ts os (j:Int) a.2.2.2.1 (a.2.2.2.1.length:Int) (j:Int) (aH p i r s l g) a t (iN d 0)) λx=>x.2=aH p i r s l g/\ox x.1:=by
   refine .step (λn=>Xy n) (.ab (by omega) (by omega) λy hy=>.fits (by simp;omega) ?_)
   have ky:=an z hy
   have O:gS (nT (gS d 0,(cB (aK y 0) false))) 0=gS d 0:=rfl
   refine N (t++[nT (gS d 0,(cB (aK y 0) false))]) ⟨⟨?_,λs hs=>?_⟩,by simp;omega,dt ht.2.2 (dL (Ug (ak kd 0) (x:=(gI y 0,gS y 1,gD y 2)) ⟨trivial,ak ky 1,ai ky 2⟩) eg)⟩
   .rw[jR,yu,O];exact⟨ht.1.1,λh=>NK hd J (ht.1.2 _ h)⟩
   .rw[jR,O]at hs
    rcases List.mem_append.1 hs with hs|hs
    .exact aaF (ht.1.2 s hs)
    .rw[List.mem_singleton]at hs;rw[hs];exact Au hd
  refine .ask (aah own _ _ _ _ _ _ _ _ ho (ak kd 0) (ak kd 2) (ak kd 5) (ai kd 6) (ai kd 7)) λx hx=>.ite (λ_=>add) (λc=>?_);have c:=eU c;refine .ab (by omega) (by omega) λy hy=>.ab (by omega) (by omega) λU hz=>?_;have ky:=an E hy;have kz:=an z hz;refine .ask (sC _ _ ⟨trivial,ak ky 1,ai ky 2⟩ ⟨trivial,ak kz 1,ai kz 2⟩) λ_ _=>.ite (λ_=>add) (λ_=>?_);exact N t ⟨⟨ht.1.1,λs hs=>aaF (ht.1.2 s hs)⟩,by omega,ht.2.2⟩
theorem ab9(a:cv)(ha:bd a){k:Nat}{q:List AV}(hk:bR p r=k)(A:k<i)(hq:p[k]?=some q)(z:(bj (gD q 7)).Nodup)(h0:a.2.2.2.1=[]):T (λn=>Gf n a (aH p i r s l g)) λx=>x.2=aH p i r s l g/\ox x.1:=by refine .step (λn=>aeF n) (.cR (iY p i r hs.bp hr) ?_);rw[hk];refine .ask ((hs.le (Nat.le_of_lt A)).loc hq) λe he=>.ask (Pj a he.1.1 ha.2.2.2.1 (by rw[h0];simp) (by rw[h0];exact .nil)) λts o=>.ask (XI _ _) λos ho=>?_;subst ho;exact L5 hs hr a ha (by rw[h0];simp) (by rw[h0];simp) (by rw[h0];simp) cK o.1 cK o.2 rfl hq z
theorem XL(a:cv)(ha:bd a){k:Nat}{q:List AV}(hk:bR p r=k)(L:k<i)(hq:p[k]?=some q)(D:(bj (gD q 7)).Nodup)(hal:a.2.2.2.1.length<=16777216)(J:(bj a.2.2.2.1).Nodup)(I:∀x,x∈a.2.2.2.1->ji (gS x 0))(o:∃v,PT ((ai6 p k).1,(ai6 p k).2++gD q 7) a.2.2.2.1 v){own:Rows}(ho:cA 16777216 own)(hbl:bd l){v:Env}(E:PT l own v):T (λn=>EE n a own (aH p i r s l g)) λx=>x.2=aH p i r s l g/\ox x.1:=by refine .step (λn=>Y1 n) (.cR (iY p i r hs.bp hr) ?_);rw[hk];obtain⟨_,o⟩:=o;refine .ask ((hs.le (Nat.le_of_lt L)).loc hq) λe he=>.ask (Pj a he.1.1 ha.2.2.2.1 hal (he.2▸o)) λts z=>.ask (XH (env:=l) (bs [],0,own) hbl (iF ho) ho.1 E) λos A=>?_;exact L5 hs hr a ha hal J I (iF ho) z.1 A.1 z.2 A.2 hq D
end
end
end Go.AI
