/- A part. -/
import Derived.Test.YteibmaelhdbgfaaGreatDoorQb
set_option linter.all false

namespace Go.AI
open Go
section
open BD (cA)
theorem EX{o:Type}(w b:List o)(hn:w.Nodup)(hs:∀x,x∈w->x∈b)(hl:w.length=b.length)(x:o)(hx:x∈b):x∈w:=Classical.byContradiction λh=>by have:=akg (x::w) b (List.nodup_cons.2 ⟨h,hn⟩) λy hy=>(List.mem_cons.1 hy).elim (λe=>e▸hx) (hs y);simp at this;omega
theorem Pk(l:Rows)(s:ByteArray)(D A z o a6 a7 a8)(hl:bd l):T (λn=>BP n l s D A z o a6 a7 a8) λx=>x<l.length/\(s∈bj l->0<=x):=by
 refine .of (r:=gr (λr=>ay (gS r 0) s) l) (.step (λn=>ae8 n) (nI (J:=λn j=>zY n l s D A z o a6 a7 a8 (l.length:Int) j) (by have:=bq hl;omega) (λn j=>ZP n) λr _=>.step (λn=>adl n) (.ret _))) ⟨?_,λh=>?_⟩
 .by_cases h:0<=fE l s
  .exact(sj h).1
  .show fE l s<_;omega
 .obtain⟨x,hx,e⟩:=List.mem_map.1 h;exact rD.2 (List.any_eq_true.2 ⟨x,hx,gh.2 e⟩)
section
variable {p:Rows}{i:Nat}{r:List AV}{s l g:Env}(hs:Sur p i)(hr:p[i]?=some r)(hbs:bd s)(hbg:bd g)
include hs hr
theorem quoted{d:List AV}(hd:d∈gD r 7):bd (gS d 0++bs [39]):=by have k2:(gS d 0).size<=16777216:=ak (dG (ai (dG hs.hb (List.mem_of_getElem? hr)) 7) hd) 0;show(gS d 0++bs [39]).size<=_;have o:(bs [39]).size=1:=rfl;rw[ByteArray.size_append];omega
include hbs
theorem aca(b:Bool):T (λn=>GA n b (ct r) (aH p i r s l g)) (AQ i λx=>∃e:Env,bd e/\x=dQ e (F8 (ct r) (aH p i r s l g))):=by
 have hv:=sE hs hr
 have hvl:=bq hv
 refine .step (λn=>adh n) ?_
 refine T.lst (σ:=Env) (L:=λj t n=>zZ n (gD r 7) ((gD r 7).length:Int) j (ct r) (aH p i r s l g) t [] []) (by omega) (λn _ _=>MV n) (λ_ t=>bd t) ?_ ?_ s hbs
 .exactλt ht=>(.ok ⟨t,ht,rfl⟩)
 .intro j t hj ht o;intro d hd;have k:=an hv hd;have kq:=quoted hs hr (List.mem_of_getElem? hd);have z:(bs [39]).size=1:=rfl;have A:(gS d 0).size<=_:=ak k 0;refine .i7 (by omega) (.aw (As _ t _ _ _ ht kq ⟨trivial,ak k 2,ai k 3⟩) λx hx=>?_);obtain⟨e,he,rfl,_⟩:=hx;exact o e he
theorem XM{cl:ByteArray}{w t:Rows}(hw:bd w)(ht:bd t)(o:∀x,x∈bj w->x∈bj t):T (λn=>uy n cl t w (w.length:Int) 0 (aH p i r s l g) (ct r)) (AQ i λx=>x=oD (aH p i r s l g) (ct r)):=by
 have D:=bq hw
 refine T.lst (σ:=Unit) (L:=λj _ n=>uy n cl t w (w.length:Int) j (aH p i r s l g) (ct r)) (by omega) (λn _ _=>Ns n) (λ_ _=>True) ?_ ?_ () trivial
 .exactλ_ _=>(.ok rfl)
 .intro j _ hj _ A;intro d hd;have k:=an hw hd;have z:gS d 0∈bj w:=List.mem_map_of_mem (List.mem_of_getElem? hd);refine .ask (Pk t _ _ _ _ _ _ _ _ ht) λx hx=>.ab (hx.2 (o _ z)) hx.1 λy hy=>?_;have ky:=an ht hy;refine .aw (aca hs hr hbs _) λE hz=>?_;obtain⟨e,he,rfl⟩:=hz;refine .ask (B3 e _ he ⟨trivial,ak k 2,trivial,trivial,ak k 5,ai k 6,ai k 7⟩) λu hu=>.fail λ_=>.ask (sC _ _ ⟨trivial,hu.2.1,hu.2.2.1⟩ ⟨trivial,ak ky 2,ai ky 3⟩) λ_ _=>.bw (by omega) λ_=>?_;exact A () trivial
theorem L6{cl:ByteArray}{w t:Rows}(hw:bd w)(ht:ox t):T (λn=>sd n cl w t t (t.length:Int) 0 (aH p i r s l g) (ct r)) (AQ i λx=>x=oD (aH p i r s l g) (ct r)):=by
 have A:=bq hw
 have D:=bq ht.1
 refine T.lst (σ:=Unit) (L:=λj _ n=>sd n cl w t t (t.length:Int) j (aH p i r s l g) (ct r)) (by omega) (λn _ _=>Nw n) (λj _=>∀x,x∈bj (t.take j)->x∈bj w) ?_ ?_ () (by simp)
 .intro _ h;rw[List.take_length]at h;refine(.bw (by omega) λc=>XM hs hr hbs hw ht.1 λx hx=>?_);have c:(w.length:Int)=(t.length:Int):=fO c;exact EX (bj t) (bj w) ht.2.1 h (by simp[bj];omega) x hx
 .intro j _ hj h z
  intro d hd
  refine T.lst (σ:=Int) (L:=λm c n=>zO n cl w t c t (t.length:Int) (j:Int) w (w.length:Int) m (aH p i r s l g) (ct r) (ux d 0)) (by omega) (λn _ _=>Nh n) (λm c=>(0<=c/\c<=m)/\(c≠0->gS d 0∈bj (w.take m))) ?_ ?_ 0 ⟨by omega,by omega⟩
  .intro c hc
   refine(.bw (by omega) λc1=>?_)
   refine z () λx hx=>?_
   rw[fJ hd,jR]at hx
   rcases List.mem_append.1 hx with hx|hx
   .exact h x hx
   .rw[List.mem_singleton]at hx;have:=hc.2 (by have:=fO c1;omega);rw[List.take_length]at this;rw[hx];exact this
  .intro m c hm hc o
   refineλy hy=>.ite (λe=>?_) (λ_=>?_)
   .have hy:w[m]?=some y:=by simpa using hy
    refine .step (λn=>LU n) ?_;rw[aE (i:=c+1) (by omega) (by omega)];refine o _ ⟨by omega,λ_=>?_⟩;have e:gS y 0=gS d 0:=gh.1 e;rw[<-e];exact Au hy
   .refine .step (λn=>LU n) ?_;exact o c ⟨by omega,λh0=>aaF (hc.2 h0)⟩
theorem acb{cl:ByteArray}{w:Rows}(hw:bd w)(a:cv)(ha:bd a)(b:Bool)(h:b=true->∃(k:Nat)(q:List AV),bR p r=k/\k<i/\p[k]?=some q/\(bj (gD q 7)).Nodup/\a.2.2.2.1=[]):T (λn=>Ga n cl w a b (aH p i r s l g) (ct r)) (AQ i λx=>x=oD (aH p i r s l g) (ct r)):=by refine .step (λn=>adw n) (.ite (λc=>?_) (λ_=>L6 hs hr hbs (t:=[]) hw ⟨cK,by simp,by simp⟩));obtain⟨k,q,h1,h2,h3,h4,h5⟩:=h c;refine .ask (ab9 hs hr a ha h1 h2 h3 h4 h5) λx hx=>?_;rw[hx.1];exact L6 hs hr hbs hw hx.2
omit hbs
include hbg
theorem acd(b:Bool)(e:cv)(he:bd e){ts:Rows}(ht:bd ts)(hl:ts.length=e.2.2.2.1.length):T (λn=>GW n b e ts (aH p i r s l g)) (AQ i λx=>∃v:Env,bd v/\x=dQ v (qY e (ts,aH p i r s l g))):=by
 have hv:=sE hs hr
 have hvl:=bq hv
 have hp:=he.2.2.2.1
 have D:=bq hp
 refine .step (λn=>afk n) ?_
 refine T.lst (σ:=Env) (L:=λj t n=>Aj n b e.2.2.2.1 (e.2.2.2.1.length:Int) j e ts (aH p i r s l g) t [] []) (by omega) (λn _ _=>Nf n) (λ_ t=>bd t) ?_ ?_ g hbg
 .intro t ht
  refine T.lst (σ:=Env) (L:=λj t n=>Ao n b (gD r 7) ((gD r 7).length:Int) j e ts (aH p i r s l g) t [] []) (by omega) (λn _ _=>M7 n) (λ_ t=>bd t) ?_ ?_ t ht
  .exactλt ht=>(.ok ⟨t,ht,rfl⟩)
  .intro j t hj ht o
   refineλd hd=>.ite (λ_=>?_) (λ_=>?_)
   .have k:=an hv hd;have kq:=quoted hs hr (List.mem_of_getElem? hd);have A:(bs [39]).size=1:=rfl;have E:(gS d 0).size<=_:=ak k 0;refine .i7 (by omega) (.aw (As _ t _ _ _ ht kq ⟨trivial,ak k 2,ai k 3⟩) λx hx=>?_);obtain⟨v,hv,rfl,_⟩:=hx;refine .step (λn=>LP n) ?_;exact o v hv
   .refine .step (λn=>LP n) ?_;exact o t ht
 .intro j t hj z o;refineλd hd=>.ab (by omega) (by omega) λy hy=>?_;have k:=an hp hd;have ky:=an ht hy;refine .aw (As _ t _ _ _ z (ak k 0) ⟨trivial,ak ky 1,ai ky 2⟩) λx hx=>?_;obtain⟨v,hv,rfl,_⟩:=hx;exact o v hv
theorem V6{cl:ByteArray}{w t:Rows}(hw:bd w)(ht:bd t)(e:cv)(he:bd e){ts:Rows}(A:bd ts)(hl:ts.length=e.2.2.2.1.length)(o:∀x,x∈bj w->x∈bj t):T (λn=>tG n cl t w (w.length:Int) 0 (aH p i r s l g) e ts) (AQ i λx=>x=oD (aH p i r s l g) (qY e ts)):=by
 have E:=bq hw
 refine T.lst (σ:=Unit) (L:=λj _ n=>tG n cl t w (w.length:Int) j (aH p i r s l g) e ts) (by omega) (λn _ _=>Ks n) (λ_ _=>True) ?_ ?_ () trivial
 .exactλ_ _=>(.ok rfl)
 .intro j _ hj _ D;intro d hd;have k:=an hw hd;have z:gS d 0∈bj w:=List.mem_map_of_mem (List.mem_of_getElem? hd);refine .ask (Pk t _ _ _ _ _ _ _ _ ht) λx hx=>.ab (hx.2 (o _ z)) hx.1 λy hy=>?_;have ky:=an ht hy;refine .aw (acd hs hr hbg _ e he A hl) λI hz=>?_;obtain⟨v,hv,rfl⟩:=hz;refine .ask (B3 v _ hv ⟨trivial,ak k 2,trivial,trivial,ak k 5,ai k 6,ai k 7⟩) λu hu=>.fail λ_=>.ask (sC _ _ ⟨trivial,hu.2.1,hu.2.2.1⟩ ⟨trivial,ak ky 2,ai ky 3⟩) λ_ _=>.bw (by omega) λ_=>?_;exact D () trivial
theorem JO{cl:ByteArray}{w t:Rows}(hw:bd w)(ht:ox t)(e:cv)(he:bd e){ts:Rows}(z:bd ts)(hl:ts.length=e.2.2.2.1.length):T (λn=>rF n cl w t t (t.length:Int) 0 (aH p i r s l g) e ts) (AQ i λx=>x=oD (aH p i r s l g) (qY e ts)):=by
 have D:=bq hw
 have E:=bq ht.1
 refine T.lst (σ:=Unit) (L:=λj _ n=>rF n cl w t t (t.length:Int) j (aH p i r s l g) e ts) (by omega) (λn _ _=>KD n) (λj _=>∀x,x∈bj (t.take j)->x∈bj w) ?_ ?_ () (by simp)
 .intro _ h;rw[List.take_length]at h;refine(.bw (by omega) λc=>V6 hs hr hbg hw ht.1 e he z hl λx hx=>?_);have c:(w.length:Int)=(t.length:Int):=fO c;exact EX (bj t) (bj w) ht.2.1 h (by simp[bj];omega) x hx
 .intro j _ hj h A
  intro d hd
  refine T.lst (σ:=Int) (L:=λm c n=>yX n cl w t c t (t.length:Int) (j:Int) w (w.length:Int) m (aH p i r s l g) e ts (ux d 0)) (by omega) (λn _ _=>KQ n) (λm c=>(0<=c/\c<=m)/\(c≠0->gS d 0∈bj (w.take m))) ?_ ?_ 0 ⟨by omega,by omega⟩
  .intro c hc
   refine(.bw (by omega) λc1=>?_)
   refine A () λx hx=>?_
   rw[fJ hd,jR]at hx
   rcases List.mem_append.1 hx with hx|hx
   .exact h x hx
   .rw[List.mem_singleton]at hx;have:=hc.2 (by have:=fO c1;omega);rw[List.take_length]at this;rw[hx];exact this
  .intro m c hm hc o
   refineλy hy=>.ite (λe=>?_) (λ_=>?_)
   .have hy:w[m]?=some y:=by simpa using hy
    refine .step (λn=>JN n) ?_;rw[aE (i:=c+1) (by omega) (by omega)];refine o _ ⟨by omega,λ_=>?_⟩;have e:gS y 0=gS d 0:=gh.1 e;rw[<-e];exact Au hy
   .refine .step (λn=>JN n) ?_;exact o c ⟨by omega,λh0=>aaF (hc.2 h0)⟩
theorem XN{cl:ByteArray}{w:Rows}(hw:bd w)(a:cv)(ha:bd a)(b:Bool)(e:cv)(he:bd e){ts:Rows}(o:bd ts)(hl:ts.length=e.2.2.2.1.length)(hbl:bd l)(A:cA 16777216 e.2.2.2.1){vv:Env}(z:PT l e.2.2.2.1 vv)(h:b=true->∃(k:Nat)(q:List AV),bR p r=k/\k<i/\p[k]?=some q/\(bj (gD q 7)).Nodup/\a.2.2.2.1.length<=16777216/\(bj a.2.2.2.1).Nodup/\(∀x,x∈a.2.2.2.1->ji (gS x 0))/\∃v,PT ((ai6 p k).1,(ai6 p k).2++gD q 7) a.2.2.2.1 v):T (λn=>Ew n cl w a b e.2.2.2.1 (aH p i r s l g) e ts) (AQ i λx=>x=oD (aH p i r s l g) (qY e ts)):=by refine .step (λn=>Zz n) (.ite (λc=>?_) (λ_=>JO hs hr hbg (t:=[]) hw ⟨cK,by simp,by simp⟩ e he o hl));obtain⟨k,q,h1,h2,h3,h4,h5,h6,E,D⟩:=h c;refine .ask (XL hs hr a ha h1 h2 h3 h4 h5 h6 E D A hbl z) λx hx=>?_;rw[hx.1];exact JO hs hr hbg hw hx.2 e he o hl
end
end
theorem ace(l:Rows)(hl:bd l):T (λn=>Hm n l) λb=>b=true->∀r,r∈l->fC 64 (cN r 0):=by
 have h1:=bq hl
 have key:T (λn=>ET n l) λx=>x<0->∀r,r∈l->fC 64 (cN r 0):=by
  refine .step (λn=>Zx n) ?_
  refine T.lst (σ:=Unit) (L:=λi _ n=>y6 n l (l.length:Int) i) (by omega) (λn _ _=>KO n) (λi _=>∀r,r∈l.take i->fC 64 (cN r 0)) ?_ ?_ () (by simp)
  .intro _ h;rw[List.take_length]at h;exact(.ret λ_=>h)
  .intro i _ hi h o
   intro r hr
   have k:=an hl hr
   refine .ask (Q':=λb=>b=false->fC 64 (cN r 0)) (.step (λn=>aeC n) (.ask (sB _ ⟨trivial,ak k 1,trivial,trivial,ak k 4,ai k 5,ai k 6⟩) λb hb=>.ret λe=>hb (by simpa using e))) λb hb=>.ite (λ_=>.ret λe=>absurd e (by omega)) (λc=>?_)
   refine o () λy hy=>?_
   rw[fJ hr]at hy
   rcases List.mem_append.1 hy with hy|hy
   .exact h y hy
   .rw[List.mem_singleton]at hy;rw[hy];exact hb c
 exact .step (λn=>adR n) (.ask (.step (λn=>ZW n) (.ask key λx hx=>.ret (Q:=λb=>b=false->∀r,r∈l->fC 64 (cN r 0)) λe=>hx (by simpa using e))) λb hb=>.ret λe=>hb (by simpa using e))
theorem fC.kids{d:Nat}{t:fl}(h:fC d t):∃e,d=e+1/\∀r,r∈t.2.2.2.2.2.2->fC e (cN r 0):=by cases h with|mk _ _ h=>exact⟨_,rfl,h⟩
theorem lX{l:Rows}(h:bd l){i:Nat}{r:List AV}(hr:l[i]?=some r):bd (cN r 0):=
 have k:=an h hr
 ⟨trivial,ak k 1,trivial,trivial,ak k 4,ai k 5,ai k 6⟩
theorem KX{l:Rows}{d:Nat}(h:l.length+d<=1000):zI l=true:=Nat.ble_eq_true_of_le (by omega)
theorem tS:∀(d:Nat)(sc:Rows×Rows)(t u:fl),fC d t->bd t->bd u->sc.1.length+d<=1000->sc.2.length+d<=1000->T (λn=>qn n sc t u) bd
 |0,_,t,_,h,_,_,_,_=>by obtain⟨e,he,_⟩:=h.kids;omega
 |d+1,sc,t,u,h,ht,hu,h1,h2=>by
  obtain⟨e,he,hk⟩:=h.kids
  obtain rfl:e=d:=by omega
  have no:T (λn=>(some false:Option Bool)) bd:=.ret trivial
  refine .step (λn=>ZX n) (.ite (λ_=>no) (λ_=>.ite (λ_=>no) (λ_=>.ask (P5 _ _ ⟨trivial,ht.2.2.2.2.1,ht.2.2.2.2.2.1⟩ ⟨trivial,hu.2.2.2.2.1,hu.2.2.2.2.2.1⟩) λ_ _=>.ite (λ_=>no) (λ_=>.ite (λ_=>no) (λc=>.ite (λ_=>.pos (KX h1) (.pos (KX h2) (.ite (λ_=>.ite (λ_=>.ret trivial) (λ_=>.ret trivial)) (λ_=>no)))) (λ_=>?_))))))
  have c:=ib c
  have o:bd t.2.2.2.2.2.2:=ht.2.2.2.2.2.2
  have A:bd u.2.2.2.2.2.2:=hu.2.2.2.2.2.2
  have hl:=bq o
  refine T.loop (σ:=Unit) (L:=λj _ n=>rH n (t.2.2.2.2.2.2.length:Int) j sc t u) t.2.2.2.2.2.2.length (λ_ _=>True) ?_ ?_ () trivial
  .exactλ_ _=>.step (λn=>Kx n) (.neg (by simp) (.ret trivial))
  .intro j _ hj _ D
   have z:T (λn=>rH n (t.2.2.2.2.2.2.length:Int) (be ((j:Int)+1)) sc t u) bd:=by rw[aE (i:=(j:Int)+1) (by omega) (by omega)];exact D () trivial
   have same:T (λn=>yI n (j:Int) (t.2.2.2.2.2.2.length:Int) (j:Int) sc t u sc) bd:=.step (λn=>V4 n) (.ab (by omega) (by omega) λx hx=>.ab (by omega) (by omega) λy hy=>.ask (tS e sc _ _ (hk x (List.mem_of_getElem? hx)) (lX o hx) (lX A hy) (by omega) (by omega)) λ_ _=>.ite (λ_=>no) (λ_=>z));refine .step (λn=>Kx n) (.pos (by simp;omega) (.ask (Ba _) λ_ _=>.ite (λ_=>.ite (λ_=>?_) (λ_=>same)) (λ_=>same)));refine .ask (uY sc.1 (by omega)) λa ha=>.fits (by subst ha;simp;omega) (.ask (uY sc.2 (by omega)) λb hb=>.fits (by subst hb;simp;omega) ?_);subst ha;subst hb;exact .step (λn=>V1 n) (.ab (by omega) (by omega) λx hx=>.ab (by omega) (by omega) λy hy=>.ask (tS e _ _ _ (hk x (List.mem_of_getElem? hx)) (lX o hx) (lX A hy) (by simp;omega) (by simp;omega)) λ_ _=>.ite (λ_=>no) (λ_=>z))
theorem acf(t u:fl)(h:fC 64 t)(ht:bd t)(hu:bd u):T (λn=>Hn n t u) bd:=by
 obtain⟨e,he,hk⟩:=h.kids
 obtain rfl:e=63:=by omega
 have no:T (λn=>(some false:Option Bool)) bd:=.ret trivial
 refine .step (λn=>ad9 n) (.ite (λ_=>no) (λ_=>.ite (λ_=>no) (λ_=>.ask (P5 _ _ ⟨trivial,ht.2.2.2.2.1,ht.2.2.2.2.2.1⟩ ⟨trivial,hu.2.2.2.2.1,hu.2.2.2.2.2.1⟩) λ_ _=>.ite (λ_=>no) (λ_=>.ite (λ_=>no) (λc=>.ite (λ_=>.pos rfl (.pos rfl (.ret trivial))) (λ_=>?_))))))
 have c:=ib c
 have z:bd t.2.2.2.2.2.2:=ht.2.2.2.2.2.2
 have D:bd u.2.2.2.2.2.2:=hu.2.2.2.2.2.2
 have hl:=bq z
 have A:∀k:Nat,k<=t.2.2.2.2.2.2.length->T (λn=>nK n (t.2.2.2.2.2.2.length:Int) (k:Int) t u [] []) bd:=by
  intro k E
  refine T.lO (σ:=Unit) (L:=λj _ n=>nK n (t.2.2.2.2.2.2.length:Int) j t u [] []) t.2.2.2.2.2.2.length (λ_ _=>True) ?_ ?_ k E () trivial
  .exactλ_ _=>.step (λn=>Kw n) (.neg (by simp) (.ret trivial))
  .intro j _ hj _ J
   have o:T (λn=>nK n (t.2.2.2.2.2.2.length:Int) (be ((j:Int)+1)) t u [] []) bd:=by rw[aE (i:=(j:Int)+1) (by omega) (by omega)];exact J () trivial
   have same:T (λn=>yH n (j:Int) (t.2.2.2.2.2.2.length:Int) (j:Int) t u [] []) bd:=.step (λn=>VW n) (.ab (by omega) (by omega) λx hx=>.ab (by omega) (by omega) λy hy=>.ask (tS 63 _ _ _ (hk x (List.mem_of_getElem? hx)) (lX z hx) (lX D hy) (by simp) (by simp)) λ_ _=>.ite (λ_=>no) (λ_=>o));refine .step (λn=>Kw n) (.pos (by simp;omega) (.ask (Ba _) λ_ _=>.ite (λ_=>.ite (λ_=>?_) (λ_=>same)) (λ_=>same)));refine .ask (uY [] (by simp)) λa ha=>.fits (by subst ha;simp) (.ask (uY [] (by simp)) λb hb=>.fits (by subst hb;simp) ?_);subst ha;subst hb;exact .step (λn=>Xx n) (.ab (by omega) (by omega) λx hx=>.ab (by omega) (by omega) λy hy=>.ask (tS 63 _ _ _ (hk x (List.mem_of_getElem? hx)) (lX z hx) (lX D hy) (by simp) (by simp)) λ_ _=>.ite (λ_=>no) (λ_=>o))
 refine .step (λn=>Y6 n) (.ite (λI=>?_) (λ_=>.ret trivial))
 have I:=cO I
 have o:T (λn=>nK n (t.2.2.2.2.2.2.length:Int) (be ((0:Int)+1)) t u [] []) bd:=by rw[aE (i:=(0:Int)+1) (by omega) (by omega)];exact A 1 (by omega)
 have same:T (λn=>yG n 0 (t.2.2.2.2.2.2.length:Int) 0 t u [] []) bd:=.step (λn=>VY n) (.ab (by omega) (by omega) λx hx=>.ab (by omega) (by omega) λy hy=>.ask (tS 63 _ _ _ (hk x (List.mem_of_getElem? hx)) (lX z hx) (lX D hy) (by simp) (by simp)) λ_ _=>.ite (λ_=>no) (λ_=>o));exact .ask (Ba _) λ_ _=>.ite (λ_=>.neg rfl same) (λ_=>same)
theorem EY(t u:fl)(ht:bd t)(hu:bd u):T (λn=>vW n t u) bd:=by have w:∀{t:fl},bd t->eS 1099511627776 (th t):=λht=>bm ki (bm (dv ht.2.1) (bm ki (bm ki (bm (dv ht.2.2.2.2.1) (bm (ef ht.2.2.2.2.2.1) (bm (ef ht.2.2.2.2.2.2) ed))))));exact .step (λn=>aft n) (.ask (ace [th t,th u] ⟨by simp,dL (w ht) (dL (w hu) eg)⟩) λb hb=>.ite (λc=>.ask (acf t u (hb c _ (List.mem_cons_self ..)) ht hu) λ_ _=>.ret trivial) (λ_=>.ret trivial))
theorem Is{J:Nat->Int->Option Bool}{l m:Rows}{P:Nat->List AV->List AV->Option Bool}(hl:bd l)(hm:m.length=l.length)(h:∀n i,J (n+1) i=aa (decide (i<(m.length:Int))) (ab m i λr=>ab l i λq=>ask (P n r q) λx=>aa (!x) (some false) (J n (be (i+1)))) (some true))(hp:∀r q,r∈m->q∈l->T (λn=>P n r q) bd):T (λn=>J n 0) bd:=by
 have hb:=bq hl
 refine T.loop (σ:=Unit) (L:=λi _ n=>J n i) m.length (λ_ _=>True) ?_ ?_ () trivial
 .exactλ_ _=>.step (λn=>h n _) (.neg (by simp) (.ret trivial))
 .intro i _ hi _ o;refine .step (λn=>h n _) (.pos (by simp;omega) (.ab (by omega) (by omega) λr hr=>.ab (by omega) (by omega) λq hq=>.ask (hp r q (List.mem_of_getElem? hr) (List.mem_of_getElem? hq)) λ_ _=>.ite (λ_=>.ret trivial) (λ_=>?_)));rw[aE (i:=(i:Int)+1) (by omega) (by omega)];exact o () trivial
theorem acg(a b:cv)(ha:bd a)(hb:bd b):T (λn=>GN n a b) bd:=by
 have E:=ha.2.2.2.1
 have D:=ha.2.2.2.2.2.1
 have I:=ha.2.2.2.2.2.2
 have z:=hb.2.2.2.1
 have o:=hb.2.2.2.2.2.1
 have A:=hb.2.2.2.2.2.2
 refine .step (λn=>aep n) (.ask (Q':=bd) (.step (λn=>afj n) (.ite (λ_=>.ret trivial) (λc=>?_))) λ_ _=>.ask (Q':=bd) (.step (λn=>adm n) (.ite (λ_=>.ret trivial) (λc=>?_))) λ_ _=>.ask (Q':=bd) (.step (λn=>adL n) (.ite (λ_=>.ret trivial) (λc=>?_))) λ_ _=>?_)
 .have c:=ib c;refine Is (J:=λn i=>Af n b.2.2.2.1 a.2.2.2.1 (a.2.2.2.1.length:Int) i) (P:=λn r q=>Hi n (iN r 0) (iN q 0)) z (by omega) (λn i=>ZH n) λr q hr hq=>?_;have k:=dG E hr;have k2:=dG z hq;exact .step (λn=>ae1 n) (.ite (λ_=>.ask (EY _ _ ⟨trivial,ak k 2,trivial,trivial,ak k 5,ai k 6,ai k 7⟩ ⟨trivial,ak k2 2,trivial,trivial,ak k2 5,ai k2 6,ai k2 7⟩) λ_ _=>.ret trivial) (λ_=>.ret trivial))
 .have c:=ib c;refine Is (J:=λn i=>Ag n b.2.2.2.2.2.2 a.2.2.2.2.2.2 (a.2.2.2.2.2.2.length:Int) i) (P:=λn r q=>Hj n (eZ r 0) (eZ q 0)) A (by omega) (λn i=>ZV n) λr q hr hq=>?_;have k:=dG I hr;have k2:=dG A hq;exact .step (λn=>afs n) (.ite (λ_=>.ite (λ_=>.ask (EY _ _ ⟨trivial,ak k 3,trivial,trivial,ak k 6,ai k 7,ai k 8⟩ ⟨trivial,ak k2 3,trivial,trivial,ak k2 6,ai k2 7,ai k2 8⟩) λ_ _=>.ret trivial) (λ_=>.ret trivial)) (λ_=>.ret trivial))
 .have c:=ib c;refine Is (J:=λn i=>Ah n b.2.2.2.2.2.1 a.2.2.2.2.2.1 (a.2.2.2.2.2.1.length:Int) i) (P:=λn r q=>Hk n (iN r 0) (iN q 0)) o (by omega) (λn i=>YS n) λr q hr hq=>?_;have k:=dG D hr;have k2:=dG o hq;exact .step (λn=>adt n) (.ite (λ_=>.ask (EY _ _ ⟨trivial,ak k 2,trivial,trivial,ak k 5,ai k 6,ai k 7⟩ ⟨trivial,ak k2 2,trivial,trivial,ak k2 5,ai k2 6,ai k2 7⟩) λ_ _=>.ret trivial) (λ_=>.ret trivial))
 .exact .ite (λ_=>.ite (λ_=>.ite (λ_=>.ite (λ_=>.ask (afx _ _ ha.2.1 hb.2.1) λ_ _=>.ret trivial) (λ_=>.ret trivial)) (λ_=>.ret trivial)) (λ_=>.ret trivial)) (λ_=>.ret trivial)
section
open BD (cA)
abbrev iK(e:List AV):cv:=(gS e 0,gD e 1,gI e 2,gD e 3,gD e 4,gD e 5,gD e 6)
theorem B4{e:List AV}(k:cA 1099511627776 e):bd (iK e):=⟨ak k 0,ai k 1,trivial,ai k 3,ai k 4,ai k 5,ai k 6⟩
theorem ach(l:Rows)(hl:bd l):T (λn=>Gi n l) λb=>b=false->∀x,x∈l->ji (gS x 0):=by
 have h1:=bq hl
 have key:T (λn=>Gt n l) λx=>x<0->∀x,x∈l->ji (gS x 0):=by
  refine .step (λn=>aeh n) ?_
  refine T.lst (σ:=Unit) (L:=λi _ n=>zU n l (l.length:Int) i) (by omega) (λn _ _=>Nd n) (λi _=>∀x,x∈l.take i->ji (gS x 0)) ?_ ?_ () (by simp)
  .intro _ h;rw[List.take_length]at h;exact(.ret λ_=>h)
  .intro i _ hi h o
   intro r hr
   have k:=an hl hr
   refine .ask (Q':=λb=>b=false->ji (gS r 0)) (.step (λn=>adj n) (.ask (sD _ (ak k 0)) λb hb=>.ite (λ_=>.ret λe=>by cases e) (λc=>.ask (sB _ ⟨trivial,ak k 2,trivial,trivial,ak k 5,ai k 6,ai k 7⟩) λ_ _=>.ret λ_=>(hb (by simpa using c)).1))) λb hb=>.ite (λ_=>.ret λe=>absurd e (by omega)) (λc=>?_)
   refine o () λy hy=>?_
   rw[fJ hr]at hy
   rcases List.mem_append.1 hy with hy|hy
   .exact h y hy
   .rw[List.mem_singleton]at hy;rw[hy];exact hb c
 exact .step (λn=>aee n) (.ask key λx hx=>.ret λe=>hx (by simpa using e))
theorem aaG(l:Rows)(s:ByteArray)(D A z o a6 a7)(hl:bd l):T (λn=>Fh n l s D A z o a6 a7) λb=>b=false->∀x,x∈l->gS x 0≠s:=by have e:Ev (λn=>EC n l s D A z o a6 a7) (fE l s):=.step (λn=>Zm n) (nI (J:=λn j=>yW n l s D A z o a6 a7 (l.length:Int) j) (p:=λe=>ay (gS e 0) s) (by have:=bq hl;omega) (λn j=>WB n) λr _=>.step (λn=>aeV n) (.ret _));refine .step (λn=>abO n) (.cR e (.ret λh x hx hs=>?_));have:fE l s>=0:=rD.2 (List.any_eq_true.2 ⟨x,hx,gh.2 hs⟩);simp at h;omega
theorem aci{l:Rows}{j:Nat}{e:List AV}(h:l[j]?=some e)(hn:∀x,x∈l.take j->gS x 0≠gS e 0):fE l (gS e 0)=j:=by
 have:l.findIdx? (λx=>ay (gS x 0) (gS e 0))=some j:=by
  rw[List.findIdx?_eq_some_iff_getElem]
  obtain⟨h1,h2⟩:=List.getElem?_eq_some_iff.1 h
  refine⟨h1,by rw[h2];exact gh.2 rfl,λk hk=>?_⟩
  have hm:l[k]∈l.take j:=by rw[List.mem_take_iff_getElem];exact⟨k,by omega,rfl⟩
  have:=hn _ hm;simpa[gh]using this
 unfold fE gr;rw[this]
section
variable {p:Rows}{i:Nat}{r:List AV}{s l g:Env}(hs:Sur p i)(hr:p[i]?=some r)(hd:Hd p i r)
include hs hr
theorem Hx:bd (gD r 13):=ai (dG hs.bp (List.mem_of_getElem? hr)) 13
theorem Vu(e:cv)(he:bd e)(E:e.2.2.2.1.length<=16777216){lab us:Rows}(A:bd lab)(z:bd us):T (λn=>ED n e.2.2.2.1 (e.2.2.2.1.length:Int) 0 (aH p i r s l g) e lab [] us) (AQ i λx=>x=aH p i r s l g/\(bj e.2.2.2.1).Nodup):=by
 have hp:=he.2.2.2.1
 have fin:∀t:Rows,bd t->bj t=bj e.2.2.2.1->T (λn=>(ask (j5 n lab) λx7=>(aa (!x7) (ask (j5 n t) λx8=>(Go.AI.eP (aO n (!x8) e.1 8 (aH p i r s l g)))) (Go.AI.eP (aO n false e.1 8 (aH p i r s l g)))))) (AQ i λx=>x=aH p i r s l g/\(bj e.2.2.2.1).Nodup):=λt ht e1=>.ask (sg lab A) λ_ _=>.ite (λ_=>.ask (sg t ht) λb hb=>.ow (by omega) λc=>⟨rfl,by rw[<-e1];exact hb (by simpa using c)⟩) (λ_=>.ow (by omega) λc=>by cases c)
 have o:∀k:Nat,k<=e.2.2.2.1.length->∀t:Rows,(bj t=bj (e.2.2.2.1.take k)/\cb 1099511627776 t)->T (λn=>tF n e.2.2.2.1 (e.2.2.2.1.length:Int) (k:Int) (aH p i r s l g) e lab t us) (AQ i λx=>x=aH p i r s l g/\(bj e.2.2.2.1).Nodup):=by
  intro k hk t ht
  refine T.lO (σ:=Rows) (L:=λj t n=>tF n e.2.2.2.1 (e.2.2.2.1.length:Int) j (aH p i r s l g) e lab t us) e.2.2.2.1.length (λj t=>bj t=bj (e.2.2.2.1.take j)/\cb 1099511627776 t) ?_ ?_ k hk t ht
  .intro t ht
   have h1:t.length=e.2.2.2.1.length:=by have:=congrArg List.length ht.1;simpa[bj]using this
   rw[List.take_length]at ht;exact .step (λn=>KF n) (.neg (by simp) (fin t ⟨by omega,ht.2⟩ ht.1))
  .intro j t hj ht D
   have h1:t.length=j:=by have:=congrArg List.length ht.1;simp only[bj,List.length_map,List.length_take]at this;omega
   refine .step (λn=>KF n) (.pos (by simp;omega) (.ab (by omega) (by omega) λd hd=>.fits (by simp;omega) (.ask (kH us _ z) λ_ _=>.bw (by omega) λ_=>?_)))
   have hd:e.2.2.2.1[j]?=some d:=by simpa using hd
   rw[aE (i:=(j:Int)+1) (by omega) (by omega)];refine D _ ⟨?_,dt ht.2 (dL (bm (dv (ak (an hp hd) 0)) ed) eg)⟩;rw[fJ hd,jR,jR,ht.1];rfl
 refine .step (λn=>ZA n) (.ite (λc=>?_) (λc=>?_))
 .have c:=cO c
  refine .ab (by omega) (by omega) λd hd=>.fits (by simp) (.ask (kH us _ z) λ_ _=>.bw (by omega) λ_=>?_)
  have hd:e.2.2.2.1[0]?=some d:=by simpa using hd
  rw[aE (i:=(0:Int)+1) (by omega) (by omega)];refine o 1 (by omega) _ ⟨?_,dt (l:=[]) trivial (dL (bm (dv (ak (an hp hd) 0)) ed) eg)⟩;rw[fJ hd,jR,jR];rfl
 .have c:=eU c;exact fin [] cK (by rw[List.length_eq_zero_iff.1 (show e.2.2.2.1.length=0 by omega)])
include hd
theorem acj{j:Nat}{e:List AV}(hj:(gD r 13)[j]?=some e):T (λn=>Gj n (j:Int) (aH p i r s l g)) (AQ i λx=>x=aH p i r s l g/\fE (gD r 13) (gS e 0)=j/\(bj (gD e 3)).Nodup):=by
 have hb:=Hx hs hr
 have hbl:=bq hb
 have J:j<(gD r 13).length:=(List.getElem?_eq_some_iff.1 hj).1
 have k:=an hb hj
 have hl:=hd.ev e (List.mem_of_getElem? hj)
 refine .step (λn=>aeG n) (.ab (by omega) (by show(j:Int)<((gD r 13).length:Int);omega) λe' o=>?_)
 have o:(gD r 13)[j]?=some e':=by simpa using o
 rw[hj]at o
 obtain rfl:=Option.some.inj o
 refine .ez (by dsimp only;omega) ?_
 have e1:(((gD r 13).drop (0:Int).toNat).take ((j:Int).toNat-(0:Int).toNat))=(gD r 13).take j:=by simp
 refine .ask (aaG _ _ _ _ _ _ _ _ (wk hb)) λb E=>.bw (by omega) λc=>?_
 have z:=E (by simpa using c)
 rw[e1]at z
 refine T.lst (σ:=Rows) (L:=λm t n=>zP n (gD e 4) ((gD e 4).length:Int) m (aH p i r s l g) (iK e) t []) (by omega) (λn _ _=>Nz n) (λm t=>t.length=m/\cb 1099511627776 t) ?_ ?_ [] ⟨rfl,trivial⟩
 .intro t ht;have D:=ht.1;refine(.ask hs.Ir λv⟨hv,_⟩=>.ask (Pa v hv.1 (by have:=hv.2.1;omega) (by have:=hv.2.2.1;omega) hv.2.2.2) λus A=>?_);refine(Vu hs hr (iK e) (B4 k) (by show(gD e 3).length<=_;omega) (lab:=t) ⟨by omega,ht.2⟩ A.1).mono λx hx=>?_;cases x with|aN t q u=>exact hx|ret x=>exact⟨hx.1,aci hj z,hx.2⟩
 .intro m t hm ht I;have D:=ht.1;refineλx hx=>.fits (by simp;omega) ?_;exact I _ ⟨by simp;omega,dt ht.2 (dL (bm (dv (ak (an (ai k 4) hx) 0)) ed) eg)⟩
def vq(p:Rows)(r:List AV)(o:Rows):Prop:=(o≠[]->0<=bR p r)/\∀(k:Nat)q,bR p r=k->p[k]?=some q->∀x,x∈o->0<=fE (gD q 13) (gS x 0)
theorem ack{e:List AV}(he:bd (iK e)):T (λn=>Gk n (iK e) (aH p i r s l g)) (AQ i λx=>x=aH p i r s l g/\vq p r (gD e 1)):=by
 have D:=hs.bp
 have hi:=hs.hi
 have E:bd (gD e 1):=he.2.1
 have hlt:=lI hs.hh (by omega) hr
 have hle:=bq E
 have fin:∀b,vq p r (gD e 1)->T (λn=>aa (decide (((gD e 1).length:Int)>0)) (Go.AI.eP (aO n (b==(gI e 2 !=0)) (gS e 0) 33 (aH p i r s l g))) (some (.ret (aH p i r s l g)))) (AQ i λx=>x=aH p i r s l g/\vq p r (gD e 1)):=λb h=>.ite (λ_=>.ow (by omega) λ_=>⟨rfl,h⟩) (λ_=>.ok ⟨rfl,h⟩)
 have r3:(gD e 1≠[]->0<=bR p r)->T (λn=>zQ n (bR p r) (aH p i r s l g) (iK e)) (AQ i λx=>x=aH p i r s l g/\vq p r (gD e 1)):=by
  intro hne
  refine .step (λn=>YX n) (.ask (sg (gD e 1) E) λ_ _=>.bw (by omega) λ_=>?_)
  refine T.lst (σ:=Bool) (L:=λj b n=>uA n (bR p r) b (gD e 1) ((gD e 1).length:Int) j (aH p i r s l g) (iK e)) (by omega) (λn _ _=>MR n) (λj _=>∀(k:Nat)q,bR p r=k->p[k]?=some q->∀x,x∈(gD e 1).take j->0<=fE (gD q 13) (gS x 0)) ?_ ?_ false (by simp)
  .intro b h;rw[List.take_length]at h;exact(fin b ⟨hne,h⟩)
  .intro j b hj h I
   have h0:=hne (λJ=>by rw[J]at hj;simp at hj)
   obtain⟨k,hk⟩:∃k:Nat,bR p r=k:=⟨(bR p r).toNat,by omega⟩
   intro x hx
   rw[hk]at h0⊢
   refine .ab (by omega) (by show(k:Int)<(p.length:Int);omega) λq hq=>?_
   have hq:p[k]?=some q:=by simpa using hq
   refine .cR (u2 (ct q) (gS x 0) (ai (an D hq) 13)) (.bw (by omega) λc=>?_)
   have c:=cO c
   have c:0<=fE (gD q 13) (gS x 0):=c
   have hn:∀(A:Nat)z,bR p r=A->p[A]?=some z->∀y,y∈(gD e 1).take (j+1)->0<=fE (gD z 13) (gS y 0):=by
    intro A z h1 h2 y hy
    obtain rfl:A=k:=by omega
    rw[hq]at h2
    obtain rfl:=Option.some.inj h2
    rw[fJ hx]at hy
    rcases List.mem_append.1 hy with hy|hy
    .exact h A q h1 hq y hy
    .rw[List.mem_singleton]at hy;rw[hy];exact c
   refine .ite (λ_=>by have:=I true hn;rw[hk]at this;exact this) (λ_=>.ab (by omega) (by show(k:Int)<(p.length:Int);omega) λz o=>?_)
   have o:p[k]?=some z:=by simpa using o
   rw[hq]at o;obtain rfl:=Option.some.inj o;exact .ab c (sj c).1 λy hy=>by have:=I (gI y 2==2) hn;rw[hk]at this;exact this
 refine .step (λn=>ae5 n) (.cR (iY p i r D hr) (.ite (λc=>.bw (by omega) λ_=>r3 λ_=>cO c) (λ_=>.bw (by omega) λc=>r3 λh=>?_)));have c:((gD e 1).length:Int)=0:=fO c;exact absurd (List.length_eq_zero_iff.1 (by omega)) h
theorem acm(e:cv)(he:bd e)(J:e.2.2.2.1.length<=16777216)(hbl:bd l):T (λn=>Gl n e (aH p i r s l g)) (AQ i λx=>∃(v:Env)(ts:Rows),x=dQ v (ts,aH p i r s l g)/\bd v/\bd ts/\ts.length=e.2.2.2.1.length/\PT l e.2.2.2.1 v):=by
 have hp:=he.2.2.2.1
 refine .step (λn=>ac8 n) ?_
 refine T.lst (σ:=Env×Rows) (L:=λj t n=>zR n e.2.2.2.1 (e.2.2.2.1.length:Int) j (aH p i r s l g) e t.1 t.2 [] []) (by omega) (λn _ _=>Na n) (λj t=>bd t.1/\(∀w,PT t.1 (e.2.2.2.1.drop j) w->PT l e.2.2.2.1 w)/\t.2.length=j/\cb 1099511627776 t.2) ?_ ?_ (l,[]) ⟨hbl,λ_ h=>h,rfl,trivial⟩
 .rintro⟨v,ts⟩⟨h1,h2,h3,h4⟩;have h3:ts.length=e.2.2.2.1.length:=h3;refine(.ok ⟨v,ts,rfl,h1,⟨by omega,h4⟩,h3,h2 _ ?_⟩);rw[List.drop_length];exact .nil
 .rintro j⟨v,ts⟩hj⟨h1,h2,h3,h4⟩I
  have h3:ts.length=j:=h3
  intro d hd
  have k:=an hp hd
  refine .mV (Fq v _ h1 ⟨trivial,ak k 2,trivial,trivial,ak k 5,ai k 6,ai k 7⟩) λx vx hx=>.fail λO=>.bw (by omega) λc=>?_
  have c:x.1=5:=fO c
  have N:=hx.2 c
  refine .ab (by omega) (by omega) λy hy=>.fits (by simp;omega) (.ab (by omega) (by omega) λE o=>?_)
  have hy:x.2.2.1[0]?=some y:=by simpa using hy
  have o:x.2.2.1[0]?=some E:=by simpa using o
  rw[hy]at o
  obtain rfl:=Option.some.inj o
  have ky:=an hx.1.2.2.1 hy
  have D:bd (aK y 0):=⟨trivial,ak ky 1,ai ky 2⟩
  refine .aw (As _ v _ _ _ h1 (ak k 0) D) λS hz=>?_
  obtain⟨w,hw,rfl,ew,eh⟩:=hz
  refine I (w,ts++[cy (aK y 0)]) ⟨hw,λu A=>h2 u ?_,by simp;omega,dt h4 (dL (qS D) eg)⟩
  have Q:e.2.2.2.1.drop j=d::e.2.2.2.1.drop (j+1):=by have z:j<e.2.2.2.1.length:=hj;rw[List.drop_eq_getElem_cons z];congr 1;have:=List.getElem?_eq_getElem z;rw[hd]at this;exact(Option.some.inj this).symm
  rw[Q];exact .cons vx ⟨c,O⟩ hy ew eh A
theorem acn{e:List AV}(he:bd (iK e))(z:vq p r (gD e 1)):T (λn=>Gu n (iK e) (aH p i r s l g)) (AQ i λx=>x=aH p i r s l g):=by
 have I:=hs.bp
 have hi:=hs.hi
 have J:bd (gD e 1):=he.2.1
 have hle:=bq J
 have hlt:=lI hs.hh (by omega) hr
 refine .step (λn=>aei n) (.ite (λ_=>.ok rfl) (λc=>?_))
 have c:¬((gD e 1).length:Int)<2:=eU c
 have h0:=z.1 (λQ=>by rw[Q]at c;simp at c)
 obtain⟨k,hk⟩:∃k:Nat,bR p r=k:=⟨(bR p r).toNat,by omega⟩
 refine .cR (iY p i r I hr) ?_
 rw[hk]
 refine .ab (by omega) (by show(k:Int)<(p.length:Int);omega) λq hq=>.ab (by omega) (by show(0:Int)<((gD e 1).length:Int);omega) λx hx=>?_
 have hq:p[k]?=some q:=by simpa using hq
 have o:=ai (an I hq) 13
 have D:=z.2 k q hk hq x (List.mem_of_getElem? hx)
 refine .cR (u2 (ct q) (gS x 0) o) (.ab D (sj D).1 λf hf=>.ez (by show(0:Int)<=1/\(1:Int)<=((gD e 1).length:Int)/\_;refine⟨by omega,by omega,Int.le_refl _⟩) ?_)
 have kf:=B4 (an o hf)
 generalize E:((gD e 1).drop (1:Int).toNat).take (((gD e 1).length:Int).toNat-(1:Int).toNat)=m
 have hm:∀y,y∈m->y∈gD e 1:=λy hy=>by rw[<-E]at hy;exact List.mem_of_mem_drop (List.mem_of_mem_take hy)
 have O:m.length<=1099511627776:=by rw[<-E];simp;omega
 refine T.lst (σ:=Unit) (L:=λj _ n=>zV n m (m.length:Int) j (aH p i r s l g) (iK e) (ct q) (iK f)) (by omega) (λn _ _=>MS n) (λ_ _=>True) ?_ ?_ () trivial
 .exactλ_ _=>(.ok rfl)
 .intro j _ hj _ N;intro y hy;have A:=z.2 k q hk hq y (hm y (List.mem_of_getElem? hy));refine .cR (u2 (ct q) (gS y 0) o) (.ab A (sj A).1 λS hz=>.ask (acg (iK f) _ kf (B4 (an o hz))) λ_ _=>.bw (by omega) λ_=>?_);exact N () trivial
end
end
end Go.AI
