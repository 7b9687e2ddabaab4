/- A part. -/
import Derived.Test.YteibmaelhdbgfaaGreatDoorQb
set_option linter.all false

namespace Go.AI
open Go
section
open BD(cA)
theorem EX{α:Type}:∀(w b:List α),w.Nodup->(∀x,x∈w->x∈b)->w.length=b.length->∀x,x∈b->x∈w|[],b,_,_,h,x,hx=>by grind|a::w,b,hn,hs,hl,x,hx=>by rw[List.nodup_cons]at hn;obtain⟨o,c,rfl⟩:=List.append_of_mem (hs a (List.mem_cons_self ..));have z:=EX w (o++c) hn.2 (λy hy=>by grind) (by grind);grind
theorem Pk(l:Rows)(s:ByteArray)(I F E D z o c)(hl:bd l):T (λn=>BP n l s I F E D z o c) λx=>x<l.length/\(s∈bj l->0<=x):=by
 refine .of (r:=gr (λr=>ay (gS r 0) s) l) (.step (λn=>ae8 n _ _ _ _ _ _ _ _ _) (nI (J:=λn j=>zY n l s I F E D z o c (l.length:Int) j) (by have:=bq hl;omega) (λn j=>ZP n _ _ _ _ _ _ _ _ _ _ _) λr _=>.step (λn=>adl n _ _ _ _ _ _ _ _ _) (.ret _))) ⟨?_,λh=>?_⟩
 .by_cases h:0<=fE l s
  .exact sj h
  .show fE l s<_;omega
 .obtain⟨x,hx,e⟩:=List.mem_map.1 h;exact rD.2 (List.any_eq_true.2 ⟨x,hx,gh.2 e⟩)
section
variable {p:Rows}{i:Nat}{r:List AV}{s l g:Env}(hs:Sur p i)(hr:p[i]?=some r)(eC:bd s)(gG:bd g)
include hs hr
theorem quoted{d:List AV}(hd:d∈gD r 7):bd (gS d 0++bs [39]):=by have o:(gS d 0).size<=16777216:=ak (dG (ai (dG hs.hb (List.mem_of_getElem? hr)) 7) hd) 0;show(gS d 0++bs [39]).size<=_;have c:(bs [39]).size=1:=rfl;grind
include eC
theorem aca(b:Bool):T (λn=>GA n b (ct r) (aH p i r s l g)) (AQ i λx=>∃e:Env,bd e/\x=dQ e (F8 (ct r) (aH p i r s l g))):=by
 have hv:=sE hs hr
 have o:=bq hv
 refine .step (λn=>adh n _ _ _) ?_
 refine T.loop (σ:=Env) (L:=λj t n=>zZ n (gD r 7) ((gD r 7).length:Int) j (ct r) (aH p i r s l g) t [] []) (gD r 7).length (λ_ t=>bd t) ?_ ?_ s eC
 .exactλt ht=>.step (λn=>MV n _ _ _ _ _ _ _ _) (.neg (by simp) (.ok ⟨t,ht,rfl⟩))
 .intro j t hj ht E;refine .step (λn=>MV n _ _ _ _ _ _ _ _) (.pos (by simp;omega) (.ab (by omega) (by omega) λd hd=>?_));have k:=an hv hd;have c:=quoted hs hr (List.mem_of_getElem? hd);have z:(bs [39]).size=1:=rfl;have D:(gS d 0).size<=_:=ak k 0;refine .i7 (by omega) (.aw (As _ t _ _ _ ht c ⟨trivial,ak k 2,ai k 3⟩) λx hx=>?_);obtain⟨e,he,rfl,_⟩:=hx;rw[aE (i:=(j:Int)+1) (by omega) (by omega)];grind
theorem XM{cl:ByteArray}{w t:Rows}(hw:bd w)(ht:bd t)(c:∀x,x∈bj w->x∈bj t):T (λn=>uy n cl t w (w.length:Int) 0 (aH p i r s l g) (ct r)) (AQ i λx=>x=oD (aH p i r s l g) (ct r)):=by
 have F:=bq hw
 refine T.loop (σ:=Unit) (L:=λj _ n=>uy n cl t w (w.length:Int) j (aH p i r s l g) (ct r)) w.length (λ_ _=>True) ?_ ?_ () trivial
 .exactλ_ _=>.step (λn=>Ns n _ _ _ _ _ _ _) (.neg (by simp) (.ok rfl))
 .intro j _ hj _ E;refine .step (λn=>Ns n _ _ _ _ _ _ _) (.pos (by simp;omega) (.ab (by omega) (by omega) λd hd=>?_));have k:=an hw hd;have o:gS d 0∈bj w:=List.mem_map_of_mem (List.mem_of_getElem? hd);refine .ask (Pk t _ _ _ _ _ _ _ _ ht) λx hx=>.ab (hx.2 (c _ o)) hx.1 λy hy=>?_;have D:=an ht hy;refine .aw (aca hs hr eC _) λz hz=>?_;obtain⟨e,he,rfl⟩:=hz;refine .ask (B3 e _ he ⟨trivial,ak k 2,trivial,trivial,ak k 5,ai k 6,ai k 7⟩) λu hu=>.fail λ_=>.ask (sC _ _ ⟨trivial,hu.2.1,hu.2.2.1⟩ ⟨trivial,ak D 2,ai D 3⟩) λ_ _=>.bw (by omega) λ_=>?_;rw[aE (i:=(j:Int)+1) (by omega) (by omega)];exact E () trivial
theorem L6{cl:ByteArray}{w t:Rows}(hw:bd w)(ht:ox t):T (λn=>sd n cl w t t (t.length:Int) 0 (aH p i r s l g) (ct r)) (AQ i λx=>x=oD (aH p i r s l g) (ct r)):=by
 have D:=bq hw
 have E:=bq ht.1
 refine T.loop (σ:=Unit) (L:=λj _ n=>sd n cl w t t (t.length:Int) j (aH p i r s l g) (ct r)) t.length (λj _=>∀x,x∈bj (t.take j)->x∈bj w) ?_ ?_ () (by simp)
 .intro _ h;rw[List.take_length]at h;refine .step (λn=>Nw n _ _ _ _ _ _ _ _) (.neg (by simp) (.bw (by omega) λc=>XM hs hr eC hw ht.1 λx hx=>?_));have c:(w.length:Int)=(t.length:Int):=fO c;exact EX (bj t) (bj w) ht.2.1 h (by grind) x hx
 .intro j _ hj h z
  refine .step (λn=>Nw n _ _ _ _ _ _ _ _) (.pos (by simp;omega) (.ab (by omega) (by omega) λd hd=>?_))
  have hd:t[j]?=some d:=by grind
  refine T.loop (σ:=Int) (L:=λm c n=>zO n cl w t c t (t.length:Int) (j:Int) w (w.length:Int) m (aH p i r s l g) (ct r) (ux d 0)) w.length (λm c=>(0<=c/\c<=m)/\(c≠0->gS d 0∈bj (w.take m))) ?_ ?_ 0 ⟨by omega,by omega⟩
  .intro c hc;refine .step (λn=>Nh n _ _ _ _ _ _ _ _ _ _ _ _ _) (.neg (by simp) (.bw (by omega) λF=>?_));rw[aE (i:=(j:Int)+1) (by omega) (by omega)];refine z () λx hx=>?_;rw[fJ hd,jR]at hx;grind
  .intro m c hm hc o
   refine .step (λn=>Nh n _ _ _ _ _ _ _ _ _ _ _ _ _) (.pos (by simp;omega) (.ab (by omega) (by omega) λy hy=>.ite (λe=>?_) (λ_=>?_)))
   .have hy:w[m]?=some y:=by simp_all
    refine .step (λn=>LU n _ _ _ _ _ _ _ _ _ _ _ _ _) ?_;rw[aE (i:=(m:Int)+1) (by omega) (by omega),aE (i:=c+1) (by omega) (by omega)];refine o _ ⟨by omega,λ_=>?_⟩;have e:gS y 0=gS d 0:=gh.1 e;rw[<-e];exact Au hy
   .refine .step (λn=>LU n _ _ _ _ _ _ _ _ _ _ _ _ _) ?_;rw[aE (i:=(m:Int)+1) (by omega) (by omega)];grind
theorem acb{cl:ByteArray}{w:Rows}(hw:bd w)(a:cv)(ha:bd a)(b:Bool)(h:b=true->∃(k:Nat)(q:List AV),bR p r=k/\k<i/\p[k]?=some q/\(bj (gD q 7)).Nodup/\a.2.2.2.1=[]):T (λn=>Ga n cl w a b (aH p i r s l g) (ct r)) (AQ i λx=>x=oD (aH p i r s l g) (ct r)):=by refine .step (λn=>adw n _ _ _ _ _ _) (.ite (λc=>?_) (λ_=>L6 hs hr eC (t:=[]) hw ⟨cK,by simp,by simp⟩));obtain⟨k,q,h1,h2,h3,h4,h5⟩:=h c;refine .ask (ab9 hs hr a ha h1 h2 h3 h4 h5) λx hx=>?_;rw[hx.1];exact L6 hs hr eC hw hx.2
omit eC
include gG
theorem acd(b:Bool)(e:cv)(he:bd e){ts:Rows}(ht:bd ts)(hl:ts.length=e.2.2.2.1.length):T (λn=>GW n b e ts (aH p i r s l g)) (AQ i λx=>∃v:Env,bd v/\x=dQ v (qY e (ts,aH p i r s l g))):=by
 have hv:=sE hs hr
 have E:=bq hv
 have hp:=he.2.2.2.1
 have I:=bq hp
 refine .step (λn=>afk n _ _ _ _) ?_
 refine T.loop (σ:=Env) (L:=λj t n=>Aj n b e.2.2.2.1 (e.2.2.2.1.length:Int) j e ts (aH p i r s l g) t [] []) e.2.2.2.1.length (λ_ t=>bd t) ?_ ?_ g gG
 .intro t ht
  refine .step (λn=>Nf n _ _ _ _ _ _ _ _ _ _) (.neg (by simp) ?_)
  refine T.loop (σ:=Env) (L:=λj t n=>Ao n b (gD r 7) ((gD r 7).length:Int) j e ts (aH p i r s l g) t [] []) (gD r 7).length (λ_ t=>bd t) ?_ ?_ t ht
  .exactλt ht=>.step (λn=>M7 n _ _ _ _ _ _ _ _ _ _) (.neg (by simp) (.ok ⟨t,ht,rfl⟩))
  .intro j t hj ht D
   refine .step (λn=>M7 n _ _ _ _ _ _ _ _ _ _) (.pos (by simp;omega) (.ab (by omega) (by omega) λd hd=>.ite (λ_=>?_) (λ_=>?_)))
   .have k:=an hv hd;have z:=quoted hs hr (List.mem_of_getElem? hd);have F:(bs [39]).size=1:=rfl;have J:(gS d 0).size<=_:=ak k 0;refine .i7 (by omega) (.aw (As _ t _ _ _ ht z ⟨trivial,ak k 2,ai k 3⟩) λx hx=>?_);obtain⟨v,hv,rfl,_⟩:=hx;refine .step (λn=>LP n _ _ _ _ _ _ _ _ _ _) ?_;rw[aE (i:=(j:Int)+1) (by omega) (by omega)];grind
   .refine .step (λn=>LP n _ _ _ _ _ _ _ _ _ _) ?_;rw[aE (i:=(j:Int)+1) (by omega) (by omega)];grind
 .intro j t hj c D;refine .step (λn=>Nf n _ _ _ _ _ _ _ _ _ _) (.pos (by simp;omega) (.ab (by omega) (by omega) λd hd=>.ab (by omega) (by omega) λy hy=>?_));have k:=an hp hd;have o:=an ht hy;refine .aw (As _ t _ _ _ c (ak k 0) ⟨trivial,ak o 1,ai o 2⟩) λx hx=>?_;obtain⟨v,hv,rfl,_⟩:=hx;rw[aE (i:=(j:Int)+1) (by omega) (by omega)];grind
theorem V6{cl:ByteArray}{w t:Rows}(hw:bd w)(ht:bd t)(e:cv)(he:bd e){ts:Rows}(D:bd ts)(hl:ts.length=e.2.2.2.1.length)(c:∀x,x∈bj w->x∈bj t):T (λn=>tG n cl t w (w.length:Int) 0 (aH p i r s l g) e ts) (AQ i λx=>x=oD (aH p i r s l g) (qY e ts)):=by
 have I:=bq hw
 refine T.loop (σ:=Unit) (L:=λj _ n=>tG n cl t w (w.length:Int) j (aH p i r s l g) e ts) w.length (λ_ _=>True) ?_ ?_ () trivial
 .exactλ_ _=>.step (λn=>Ks n _ _ _ _ _ _ _ _) (.neg (by simp) (.ok rfl))
 .intro j _ hj _ F;refine .step (λn=>Ks n _ _ _ _ _ _ _ _) (.pos (by simp;omega) (.ab (by omega) (by omega) λd hd=>?_));have k:=an hw hd;have o:gS d 0∈bj w:=List.mem_map_of_mem (List.mem_of_getElem? hd);refine .ask (Pk t _ _ _ _ _ _ _ _ ht) λx hx=>.ab (hx.2 (c _ o)) hx.1 λy hy=>?_;have E:=an ht hy;refine .aw (acd hs hr gG _ e he D hl) λz hz=>?_;obtain⟨v,hv,rfl⟩:=hz;refine .ask (B3 v _ hv ⟨trivial,ak k 2,trivial,trivial,ak k 5,ai k 6,ai k 7⟩) λu hu=>.fail λ_=>.ask (sC _ _ ⟨trivial,hu.2.1,hu.2.2.1⟩ ⟨trivial,ak E 2,ai E 3⟩) λ_ _=>.bw (by omega) λ_=>?_;rw[aE (i:=(j:Int)+1) (by omega) (by omega)];exact F () trivial
theorem JO{cl:ByteArray}{w t:Rows}(hw:bd w)(ht:ox t)(e:cv)(he:bd e){ts:Rows}(z:bd ts)(hl:ts.length=e.2.2.2.1.length):T (λn=>rF n cl w t t (t.length:Int) 0 (aH p i r s l g) e ts) (AQ i λx=>x=oD (aH p i r s l g) (qY e ts)):=by
 have E:=bq hw
 have F:=bq ht.1
 refine T.loop (σ:=Unit) (L:=λj _ n=>rF n cl w t t (t.length:Int) j (aH p i r s l g) e ts) t.length (λj _=>∀x,x∈bj (t.take j)->x∈bj w) ?_ ?_ () (by simp)
 .intro _ h;rw[List.take_length]at h;refine .step (λn=>KD n _ _ _ _ _ _ _ _ _) (.neg (by simp) (.bw (by omega) λc=>V6 hs hr gG hw ht.1 e he z hl λx hx=>?_));have c:(w.length:Int)=(t.length:Int):=fO c;exact EX (bj t) (bj w) ht.2.1 h (by grind) x hx
 .intro j _ hj h D
  refine .step (λn=>KD n _ _ _ _ _ _ _ _ _) (.pos (by simp;omega) (.ab (by omega) (by omega) λd hd=>?_))
  have hd:t[j]?=some d:=by grind
  refine T.loop (σ:=Int) (L:=λm c n=>yX n cl w t c t (t.length:Int) (j:Int) w (w.length:Int) m (aH p i r s l g) e ts (ux d 0)) w.length (λm c=>(0<=c/\c<=m)/\(c≠0->gS d 0∈bj (w.take m))) ?_ ?_ 0 ⟨by omega,by omega⟩
  .intro c hc;refine .step (λn=>KQ n _ _ _ _ _ _ _ _ _ _ _ _ _ _) (.neg (by simp) (.bw (by omega) λI=>?_));rw[aE (i:=(j:Int)+1) (by omega) (by omega)];refine D () λx hx=>?_;rw[fJ hd,jR]at hx;grind
  .intro m c hm hc o
   refine .step (λn=>KQ n _ _ _ _ _ _ _ _ _ _ _ _ _ _) (.pos (by simp;omega) (.ab (by omega) (by omega) λy hy=>.ite (λe=>?_) (λ_=>?_)))
   .have hy:w[m]?=some y:=by simp_all
    refine .step (λn=>JN n _ _ _ _ _ _ _ _ _ _ _ _ _ _) ?_;rw[aE (i:=(m:Int)+1) (by omega) (by omega),aE (i:=c+1) (by omega) (by omega)];refine o _ ⟨by omega,λ_=>?_⟩;have e:gS y 0=gS d 0:=gh.1 e;rw[<-e];exact Au hy
   .refine .step (λn=>JN n _ _ _ _ _ _ _ _ _ _ _ _ _ _) ?_;rw[aE (i:=(m:Int)+1) (by omega) (by omega)];grind
theorem XN{cl:ByteArray}{w:Rows}(hw:bd w)(a:cv)(ha:bd a)(b:Bool)(e:cv)(he:bd e){ts:Rows}(o:bd ts)(hl:ts.length=e.2.2.2.1.length)(eR:bd l)(D:cA 16777216 e.2.2.2.1)(z:PT l e.2.2.2.1)(h:b=true->∃(k:Nat)(q:List AV),bR p r=k/\k<i/\p[k]?=some q/\(bj (gD q 7)).Nodup/\a.2.2.2.1.length<=16777216/\(bj a.2.2.2.1).Nodup/\(∀x,x∈a.2.2.2.1->ji (gS x 0))/\∀v,Ev (λn=>l5 n p (k:Int)) v->PT v a.2.2.2.1):T (λn=>Ew n cl w a b e.2.2.2.1 (aH p i r s l g) e ts) (AQ i λx=>x=oD (aH p i r s l g) (qY e ts)):=by refine .step (λn=>Zz n _ _ _ _ _ _ _ _) (.ite (λc=>?_) (λ_=>JO hs hr gG (t:=[]) hw ⟨cK,by simp,by simp⟩ e he o hl));obtain⟨k,q,h1,h2,h3,h4,h5,h6,F,E⟩:=h c;refine .ask (XL hs hr a ha h1 h2 h3 h4 h5 h6 F E D eR z) λx hx=>?_;rw[hx.1];exact JO hs hr gG hw hx.2 e he o hl
end
end
theorem ace(l:Rows)(hl:bd l):T (λn=>Hm n l) λb=>b=true->∀r,r∈l->fC 64 (cN r 0):=by
 have h1:=bq hl
 have key:T (λn=>ET n l) λx=>x<0->∀r,r∈l->fC 64 (cN r 0):=by
  refine .step (λn=>Zx n _) ?_
  refine T.loop (σ:=Unit) (L:=λi _ n=>y6 n l (l.length:Int) i) l.length (λi _=>∀r,r∈l.take i->fC 64 (cN r 0)) ?_ ?_ () (by simp)
  .intro _ h;rw[List.take_length]at h;exact .step (λn=>KO n _ _ _) (.neg (by simp) (.ret λ_=>h))
  .intro i _ hi h o
   refine .step (λn=>KO n _ _ _) (.pos (by simp;omega) (.ab (by omega) (by omega) λr hr=>?_))
   have hr:l[i]?=some r:=by grind
   have k:=an hl hr;refine .ask (Q':=λb=>b=false->fC 64 (cN r 0)) (.step (λn=>aeC n _) (.ask (sB _ ⟨trivial,ak k 1,trivial,trivial,ak k 4,ai k 5,ai k 6⟩) λb hb=>.ret λe=>hb (by grind))) λb hb=>.ite (λ_=>.ret λe=>absurd e (by omega)) (λc=>?_);rw[aE (i:=(i:Int)+1) (by omega) (by omega)];refine o () λy hy=>?_;rw[fJ hr]at hy;grind
 exact .step (λn=>adR n _) (.ask (.step (λn=>ZW n _) (.ask key λx hx=>.ret (Q:=λb=>b=false->∀r,r∈l->fC 64 (cN r 0)) λe=>hx (by grind))) λb hb=>.ret λe=>hb (by grind))
theorem fC.kids{d:Nat}{t:fl}(h:fC d t):∃e,d=e+1/\∀r,r∈t.2.2.2.2.2.2->fC e (cN r 0):=by cases h with|mk _ _ h=>grind
theorem lX{l:Rows}(h:bd l){i:Nat}{r:List AV}(hr:l[i]?=some r):bd (cN r 0):=
 have k:=an h hr
 ⟨trivial,ak k 1,trivial,trivial,ak k 4,ai k 5,ai k 6⟩
theorem KX{l:Rows}{d:Nat}(h:l.length+d<=1000):zI l=true:=Nat.ble_eq_true_of_le (by omega)
theorem tS:∀(d:Nat)(sc:Rows×Rows)(t u:fl),fC d t->bd t->bd u->sc.1.length+d<=1000->sc.2.length+d<=1000->T (λn=>qn n sc t u) bd
 |0,_,t,_,h,_,_,_,_=>by obtain⟨e,he,_⟩:=h.kids;omega
 |d+1,sc,t,u,h,ht,hu,h1,h2=>by
  obtain⟨e,he,hk⟩:=h.kids
  obtain rfl:e=d:=by omega
  have no:T (λn=>(some false:Option Bool)) bd:=.ret trivial
  refine .step (λn=>ZX n _ _ _) (.ite (λ_=>no) (λ_=>.ite (λ_=>no) (λ_=>.ask (P5 _ _ ⟨trivial,ht.2.2.2.2.1,ht.2.2.2.2.2.1⟩ ⟨trivial,hu.2.2.2.2.1,hu.2.2.2.2.2.1⟩) λ_ _=>.ite (λ_=>no) (λ_=>.ite (λ_=>no) (λc=>.ite (λ_=>.pos (KX h1) (.pos (KX h2) (.ite (λ_=>.ite (λ_=>.ret trivial) (λ_=>.ret trivial)) (λ_=>no)))) (λ_=>?_))))))
  have c:=ib c
  have o:bd t.2.2.2.2.2.2:=ht.2.2.2.2.2.2
  have D:bd u.2.2.2.2.2.2:=hu.2.2.2.2.2.2
  have hl:=bq o
  refine T.loop (σ:=Unit) (L:=λj _ n=>rH n (t.2.2.2.2.2.2.length:Int) j sc t u) t.2.2.2.2.2.2.length (λ_ _=>True) ?_ ?_ () trivial
  .exactλ_ _=>.step (λn=>Kx n _ _ _ _ _) (.neg (by simp) (.ret trivial))
  .intro j _ hj _ E
   have z:T (λn=>rH n (t.2.2.2.2.2.2.length:Int) (be ((j:Int)+1)) sc t u) bd:=by rw[aE (i:=(j:Int)+1) (by omega) (by omega)];exact E () trivial
   have same:T (λn=>yI n (j:Int) (t.2.2.2.2.2.2.length:Int) (j:Int) sc t u sc) bd:=.step (λn=>V4 n _ _ _ _ _ _ _) (.ab (by omega) (by omega) λx hx=>.ab (by omega) (by omega) λy hy=>.ask (tS e sc _ _ (hk x (List.mem_of_getElem? hx)) (lX o hx) (lX D hy) (by omega) (by omega)) λ_ _=>.ite (λ_=>no) (λ_=>z));refine .step (λn=>Kx n _ _ _ _ _) (.pos (by simp;omega) (.ask (Ba _) λ_ _=>.ite (λ_=>.ite (λ_=>?_) (λ_=>same)) (λ_=>same)));refine .ask (uY sc.1 (by omega)) λa ha=>.fits (by grind) (.ask (uY sc.2 (by omega)) λb hb=>.fits (by grind) ?_);subst ha;subst hb;exact .step (λn=>V1 n _ _ _ _ _ _ _ _) (.ab (by omega) (by omega) λx hx=>.ab (by omega) (by omega) λy hy=>.ask (tS e _ _ _ (hk x (List.mem_of_getElem? hx)) (lX o hx) (lX D hy) (by simp;omega) (by simp;omega)) λ_ _=>.ite (λ_=>no) (λ_=>z))
theorem acf(t u:fl)(h:fC 64 t)(ht:bd t)(hu:bd u):T (λn=>Hn n t u) bd:=by
 obtain⟨e,he,hk⟩:=h.kids
 obtain rfl:e=63:=by omega
 have no:T (λn=>(some false:Option Bool)) bd:=.ret trivial
 refine .step (λn=>ad9 n _ _) (.ite (λ_=>no) (λ_=>.ite (λ_=>no) (λ_=>.ask (P5 _ _ ⟨trivial,ht.2.2.2.2.1,ht.2.2.2.2.2.1⟩ ⟨trivial,hu.2.2.2.2.1,hu.2.2.2.2.2.1⟩) λ_ _=>.ite (λ_=>no) (λ_=>.ite (λ_=>no) (λc=>.ite (λ_=>.pos rfl (.pos rfl (.ret trivial))) (λ_=>?_))))))
 have c:=ib c
 have z:bd t.2.2.2.2.2.2:=ht.2.2.2.2.2.2
 have E:bd u.2.2.2.2.2.2:=hu.2.2.2.2.2.2
 have hl:=bq z
 have D:∀k:Nat,k<=t.2.2.2.2.2.2.length->T (λn=>nK n (t.2.2.2.2.2.2.length:Int) (k:Int) t u [] []) bd:=by
  intro k F
  refine T.lO (σ:=Unit) (L:=λj _ n=>nK n (t.2.2.2.2.2.2.length:Int) j t u [] []) t.2.2.2.2.2.2.length (λ_ _=>True) ?_ ?_ k F () trivial
  .exactλ_ _=>.step (λn=>Kw n _ _ _ _ _ _) (.neg (by simp) (.ret trivial))
  .intro j _ hj _ J
   have o:T (λn=>nK n (t.2.2.2.2.2.2.length:Int) (be ((j:Int)+1)) t u [] []) bd:=by rw[aE (i:=(j:Int)+1) (by omega) (by omega)];exact J () trivial
   have same:T (λn=>yH n (j:Int) (t.2.2.2.2.2.2.length:Int) (j:Int) t u [] []) bd:=.step (λn=>VW n _ _ _ _ _ _ _) (.ab (by omega) (by omega) λx hx=>.ab (by omega) (by omega) λy hy=>.ask (tS 63 _ _ _ (hk x (List.mem_of_getElem? hx)) (lX z hx) (lX E hy) (by simp) (by simp)) λ_ _=>.ite (λ_=>no) (λ_=>o));refine .step (λn=>Kw n _ _ _ _ _ _) (.pos (by simp;omega) (.ask (Ba _) λ_ _=>.ite (λ_=>.ite (λ_=>?_) (λ_=>same)) (λ_=>same)));refine .ask (uY [] (by simp)) λa ha=>.fits (by grind) (.ask (uY [] (by simp)) λb hb=>.fits (by grind) ?_);subst ha;subst hb;exact .step (λn=>Xx n _ _ _ _ _ _ _ _ _) (.ab (by omega) (by omega) λx hx=>.ab (by omega) (by omega) λy hy=>.ask (tS 63 _ _ _ (hk x (List.mem_of_getElem? hx)) (lX z hx) (lX E hy) (by simp) (by simp)) λ_ _=>.ite (λ_=>no) (λ_=>o))
 refine .step (λn=>Y6 n _ _ _ _ _ _) (.ite (λI=>?_) (λ_=>.ret trivial))
 have I:=cO I
 have o:T (λn=>nK n (t.2.2.2.2.2.2.length:Int) (be ((0:Int)+1)) t u [] []) bd:=by rw[aE (i:=(0:Int)+1) (by omega) (by omega)];exact D 1 (by omega)
 have same:T (λn=>yG n 0 (t.2.2.2.2.2.2.length:Int) 0 t u [] []) bd:=.step (λn=>VY n _ _ _ _ _ _ _) (.ab (by omega) (by omega) λx hx=>.ab (by omega) (by omega) λy hy=>.ask (tS 63 _ _ _ (hk x (List.mem_of_getElem? hx)) (lX z hx) (lX E hy) (by simp) (by simp)) λ_ _=>.ite (λ_=>no) (λ_=>o));exact .ask (Ba _) λ_ _=>.ite (λ_=>.neg rfl same) (λ_=>same)
theorem EY(t u:fl)(ht:bd t)(hu:bd u):T (λn=>vW n t u) bd:=by have w:∀{t:fl},bd t->eS 1099511627776 (th t):=λht=>bm ki (bm (dv ht.2.1) (bm ki (bm ki (bm (dv ht.2.2.2.2.1) (bm (ef ht.2.2.2.2.2.1) (bm (ef ht.2.2.2.2.2.2) ed))))));exact .step (λn=>aft n _ _) (.ask (ace [th t,th u] ⟨by simp,dL (w ht) (dL (w hu) eg)⟩) λb hb=>.ite (λc=>.ask (acf t u (hb c _ (List.mem_cons_self ..)) ht hu) λ_ _=>.ret trivial) (λ_=>.ret trivial))
theorem Is{J:Nat->Int->Option Bool}{l m:Rows}{P:Nat->List AV->List AV->Option Bool}(hl:bd l)(hm:m.length=l.length)
 (h:∀n i,J (n+1) i=aa (decide (i<(m.length:Int))) (ab m i λr=>ab l i λq=>ask (P n r q) λx=>aa (!x) (some false) (J n (be (i+1)))) (some true))
 (hp:∀r q,r∈m->q∈l->T (λn=>P n r q) bd):T (λn=>J n 0) bd:=by
 have hb:=bq hl
 refine T.loop (σ:=Unit) (L:=λi _ n=>J n i) m.length (λ_ _=>True) ?_ ?_ () trivial
 .exactλ_ _=>.step (λn=>h n _) (.neg (by simp) (.ret trivial))
 .intro i _ hi _ c;refine .step (λn=>h n _) (.pos (by simp;omega) (.ab (by omega) (by omega) λr hr=>.ab (by omega) (by omega) λq hq=>.ask (hp r q (List.mem_of_getElem? hr) (List.mem_of_getElem? hq)) λ_ _=>.ite (λ_=>.ret trivial) (λ_=>?_)));rw[aE (i:=(i:Int)+1) (by omega) (by omega)];simp_all
theorem acg(a b:cv)(ha:bd a)(hb:bd b):T (λn=>GN n a b) bd:=by
 have I:=ha.2.2.2.1
 have F:=ha.2.2.2.2.2.1
 have K:=ha.2.2.2.2.2.2
 have D:=hb.2.2.2.1
 have z:=hb.2.2.2.2.2.1
 have E:=hb.2.2.2.2.2.2
 refine .step (λn=>aep n _ _) (.ask (Q':=bd) (.step (λn=>afj n _ _) (.ite (λ_=>.ret trivial) (λc=>?_))) λ_ _=>.ask (Q':=bd) (.step (λn=>adm n _ _) (.ite (λ_=>.ret trivial) (λc=>?_))) λ_ _=>.ask (Q':=bd) (.step (λn=>adL n _ _) (.ite (λ_=>.ret trivial) (λc=>?_))) λ_ _=>?_)
 .have c:=ib c;refine Is (J:=λn i=>Af n b.2.2.2.1 a.2.2.2.1 (a.2.2.2.1.length:Int) i) (P:=λn r q=>Hi n (iN r 0) (iN q 0)) D (by omega) (λn i=>ZH n _ _ _ _) λr q hr hq=>?_;have k:=dG I hr;have o:=dG D hq;exact .step (λn=>ae1 n _ _) (.ite (λ_=>.ask (EY _ _ ⟨trivial,ak k 2,trivial,trivial,ak k 5,ai k 6,ai k 7⟩ ⟨trivial,ak o 2,trivial,trivial,ak o 5,ai o 6,ai o 7⟩) λ_ _=>.ret trivial) (λ_=>.ret trivial))
 .have c:=ib c;refine Is (J:=λn i=>Ag n b.2.2.2.2.2.2 a.2.2.2.2.2.2 (a.2.2.2.2.2.2.length:Int) i) (P:=λn r q=>Hj n (eZ r 0) (eZ q 0)) E (by omega) (λn i=>ZV n _ _ _ _) λr q hr hq=>?_;have k:=dG K hr;have o:=dG E hq;exact .step (λn=>afs n _ _) (.ite (λ_=>.ite (λ_=>.ask (EY _ _ ⟨trivial,ak k 3,trivial,trivial,ak k 6,ai k 7,ai k 8⟩ ⟨trivial,ak o 3,trivial,trivial,ak o 6,ai o 7,ai o 8⟩) λ_ _=>.ret trivial) (λ_=>.ret trivial)) (λ_=>.ret trivial))
 .have c:=ib c;refine Is (J:=λn i=>Ah n b.2.2.2.2.2.1 a.2.2.2.2.2.1 (a.2.2.2.2.2.1.length:Int) i) (P:=λn r q=>Hk n (iN r 0) (iN q 0)) z (by omega) (λn i=>YS n _ _ _ _) λr q hr hq=>?_;have k:=dG F hr;have o:=dG z hq;exact .step (λn=>adt n _ _) (.ite (λ_=>.ask (EY _ _ ⟨trivial,ak k 2,trivial,trivial,ak k 5,ai k 6,ai k 7⟩ ⟨trivial,ak o 2,trivial,trivial,ak o 5,ai o 6,ai o 7⟩) λ_ _=>.ret trivial) (λ_=>.ret trivial))
 .exact .ite (λ_=>.ite (λ_=>.ite (λ_=>.ite (λ_=>.ask (afx _ _ ha.2.1 hb.2.1) λ_ _=>.ret trivial) (λ_=>.ret trivial)) (λ_=>.ret trivial)) (λ_=>.ret trivial)) (λ_=>.ret trivial)
section
open BD(cA)
abbrev iK(e:List AV):cv:=(gS e 0,gD e 1,gI e 2,gD e 3,gD e 4,gD e 5,gD e 6)
theorem B4{e:List AV}(k:cA 1099511627776 e):bd (iK e):=⟨ak k 0,ai k 1,trivial,ai k 3,ai k 4,ai k 5,ai k 6⟩
theorem ach(l:Rows)(hl:bd l):T (λn=>Gi n l) λb=>b=false->∀x,x∈l->ji (gS x 0):=by
 have h1:=bq hl
 have key:T (λn=>Gt n l) λx=>x<0->∀x,x∈l->ji (gS x 0):=by
  refine .step (λn=>aeh n _) ?_
  refine T.loop (σ:=Unit) (L:=λi _ n=>zU n l (l.length:Int) i) l.length (λi _=>∀x,x∈l.take i->ji (gS x 0)) ?_ ?_ () (by simp)
  .intro _ h;rw[List.take_length]at h;exact .step (λn=>Nd n _ _ _) (.neg (by simp) (.ret λ_=>h))
  .intro i _ hi h o
   refine .step (λn=>Nd n _ _ _) (.pos (by simp;omega) (.ab (by omega) (by omega) λr hr=>?_))
   have hr:l[i]?=some r:=by grind
   have k:=an hl hr;refine .ask (Q':=λb=>b=false->ji (gS r 0)) (.step (λn=>adj n _) (.ask (sD _ (ak k 0)) λb hb=>.ite (λ_=>.ret λe=>by cases e) (λc=>.ask (sB _ ⟨trivial,ak k 2,trivial,trivial,ak k 5,ai k 6,ai k 7⟩) λ_ _=>.ret λ_=>(hb (by grind)).1))) λb hb=>.ite (λ_=>.ret λe=>absurd e (by omega)) (λc=>?_);rw[aE (i:=(i:Int)+1) (by omega) (by omega)];refine o () λy hy=>?_;rw[fJ hr]at hy;grind
 exact .step (λn=>aee n _) (.ask key λx hx=>.ret λe=>hx (by grind))
theorem aaG(l:Rows)(s:ByteArray)(F E D z o c)(hl:bd l):T (λn=>Fh n l s F E D z o c) λb=>b=false->∀x,x∈l->gS x 0≠s:=by have e:Ev (λn=>EC n l s F E D z o c) (fE l s):=.step (λn=>Zm n _ _ _ _ _ _ _ _) (nI (J:=λn j=>yW n l s F E D z o c (l.length:Int) j) (p:=λe=>ay (gS e 0) s) (by have:=bq hl;omega) (λn j=>WB n _ _ _ _ _ _ _ _ _ _) λr _=>.step (λn=>aeV n _ _ _ _ _ _ _ _) (.ret _));refine .step (λn=>abO n _ _ _ _ _ _ _ _) (.cR e (.ret λh x hx hs=>?_));have:fE l s>=0:=rD.2 (List.any_eq_true.2 ⟨x,hx,gh.2 hs⟩);grind
theorem aci{l:Rows}{j:Nat}{e:List AV}(h:l[j]?=some e)(hn:∀x,x∈l.take j->gS x 0≠gS e 0):fE l (gS e 0)=j:=by
 have:l.findIdx? (λx=>ay (gS x 0) (gS e 0))=some j:=by
  rw[List.findIdx?_eq_some_iff_getElem]
  obtain⟨h1,h2⟩:=List.getElem?_eq_some_iff.1 h
  refine⟨h1,by rw[h2];exact gh.2 rfl,λk hk=>?_⟩
  have hm:l[k]∈l.take j:=by rw[List.mem_take_iff_getElem];exact⟨k,by omega,rfl⟩
  have:=hn _ hm;simpa[gh]using this
 unfold fE gr;rw[this]
section
variable {p:Rows}{i:Nat}{r:List AV}{s l g:Env}(hs:Sur p i)(hr:p[i]?=some r)(hd:Hd p i r)
include hs hr
theorem Hx:bd (gD r 13):=ai (dG hs.bp (List.mem_of_getElem? hr)) 13
theorem Vu(e:cv)(he:bd e)(J:e.2.2.2.1.length<=16777216){lab us:Rows}(D:bd lab)(z:bd us):T (λn=>ED n e.2.2.2.1 (e.2.2.2.1.length:Int) 0 (aH p i r s l g) e lab [] us) (AQ i λx=>x=aH p i r s l g/\(bj e.2.2.2.1).Nodup):=by
 have hp:=he.2.2.2.1
 have fin:∀t:Rows,bd t->bj t=bj e.2.2.2.1->T (λn=>(ask (j5 n lab) λF=>(aa (!F) (ask (j5 n t) λE=>(Go.AI.eP (aO n (!E) e.1 8 (aH p i r s l g)))) (Go.AI.eP (aO n false e.1 8 (aH p i r s l g)))))) (AQ i λx=>x=aH p i r s l g/\(bj e.2.2.2.1).Nodup):=λt ht e1=>.ask (sg lab D) λ_ _=>.ite (λ_=>.ask (sg t ht) λb hb=>.ow (by omega) λc=>⟨rfl,by grind⟩) (λ_=>.ow (by omega) λc=>by cases c)
 have o:∀k:Nat,k<=e.2.2.2.1.length->∀t:Rows,(bj t=bj (e.2.2.2.1.take k)/\cb 1099511627776 t)->T (λn=>tF n e.2.2.2.1 (e.2.2.2.1.length:Int) (k:Int) (aH p i r s l g) e lab t us) (AQ i λx=>x=aH p i r s l g/\(bj e.2.2.2.1).Nodup):=by
  intro k hk t ht
  refine T.lO (σ:=Rows) (L:=λj t n=>tF n e.2.2.2.1 (e.2.2.2.1.length:Int) j (aH p i r s l g) e lab t us) e.2.2.2.1.length (λj t=>bj t=bj (e.2.2.2.1.take j)/\cb 1099511627776 t) ?_ ?_ k hk t ht
  .intro t ht
   have h1:t.length=e.2.2.2.1.length:=by have:=congrArg List.length ht.1;simpa[bj]using this
   rw[List.take_length]at ht;exact .step (λn=>KF n _ _ _ _ _ _ _ _) (.neg (by simp) (fin t ⟨by omega,ht.2⟩ ht.1))
  .intro j t hj ht I
   have h1:t.length=j:=by have:=congrArg List.length ht.1;simp only[bj,List.length_map,List.length_take]at this;omega
   refine .step (λn=>KF n _ _ _ _ _ _ _ _) (.pos (by simp;omega) (.ab (by omega) (by omega) λd hd=>.fits (by simp;omega) (.ask (kH us _ z) λ_ _=>.bw (by omega) λ_=>?_)))
   have hd:e.2.2.2.1[j]?=some d:=by simp_all
   rw[aE (i:=(j:Int)+1) (by omega) (by omega)];refine I _ ⟨?_,dt ht.2 (dL (bm (dv (ak (an hp hd) 0)) ed) eg)⟩;rw[fJ hd,jR,jR,ht.1];rfl
 refine .step (λn=>ZA n _ _ _ _ _ _ _ _) (.ite (λc=>?_) (λc=>?_))
 .have c:=cO c
  refine .ab (by omega) (by omega) λd hd=>.fits (by simp) (.ask (kH us _ z) λ_ _=>.bw (by omega) λ_=>?_)
  have hd:e.2.2.2.1[0]?=some d:=by grind
  rw[aE (i:=(0:Int)+1) (by omega) (by omega)];refine o 1 (by omega) _ ⟨?_,dt (l:=[]) trivial (dL (bm (dv (ak (an hp hd) 0)) ed) eg)⟩;rw[fJ hd,jR,jR];rfl
 .have c:=eU c;exact fin [] cK (by simp_all)
include hd
theorem acj{j:Nat}{e:List AV}(hj:(gD r 13)[j]?=some e):T (λn=>Gj n (j:Int) (aH p i r s l g)) (AQ i λx=>x=aH p i r s l g/\fE (gD r 13) (gS e 0)=j/\(bj (gD e 3)).Nodup):=by
 have hb:=Hx hs hr
 have eR:=bq hb
 have J:j<(gD r 13).length:=(List.getElem?_eq_some_iff.1 hj).1
 have k:=an hb hj
 have hl:=hd.ev e (List.mem_of_getElem? hj)
 refine .step (λn=>aeG n _ _) (.ab (by omega) (by grind) λe' z=>?_)
 have z:(gD r 13)[j]?=some e':=by grind
 rw[hj]at z
 obtain rfl:=Option.some.inj z
 refine .ez (by grind) ?_
 have e1:(((gD r 13).drop (0:Int).toNat).take ((j:Int).toNat-(0:Int).toNat))=(gD r 13).take j:=by simp
 refine .ask (aaG _ _ _ _ _ _ _ _ (wk hb)) λb F=>.bw (by omega) λc=>?_
 have o:=F (by grind)
 rw[e1]at o
 refine T.loop (σ:=Rows) (L:=λm t n=>zP n (gD e 4) ((gD e 4).length:Int) m (aH p i r s l g) (iK e) t []) (gD e 4).length (λm t=>t.length=m/\cb 1099511627776 t) ?_ ?_ [] ⟨rfl,trivial⟩
 .intro t ht;have E:=ht.1;refine .step (λn=>Nz n _ _ _ _ _ _ _) (.neg (by simp) (.ask hs.Ir λv hv=>.ask (Pa v hv.1 (by have:=hv.2.1;omega) (by have:=hv.2.2.1;omega) hv.2.2.2) λus D=>?_));refine(Vu hs hr (iK e) (B4 k) (by grind) (lab:=t) ⟨by omega,ht.2⟩ D.1).mono λx hx=>?_;cases x with|aN t q u=>exact hx|ret x=>exact⟨hx.1,aci hj o,hx.2⟩
 .intro m t hm ht I;have E:=ht.1;refine .step (λn=>Nz n _ _ _ _ _ _ _) (.pos (by simp;omega) (.ab (by omega) (by omega) λx hx=>.fits (by simp;omega) ?_));rw[aE (i:=(m:Int)+1) (by omega) (by omega)];exact I _ ⟨by simp;omega,dt ht.2 (dL (bm (dv (ak (an (ai k 4) hx) 0)) ed) eg)⟩
def vq(p:Rows)(r:List AV)(c:Rows):Prop:=(c≠[]->0<=bR p r)/\∀(k:Nat)q,bR p r=k->p[k]?=some q->∀x,x∈c->0<=fE (gD q 13) (gS x 0)
theorem ack{e:List AV}(he:bd (iK e)):T (λn=>Gk n (iK e) (aH p i r s l g)) (AQ i λx=>x=aH p i r s l g/\vq p r (gD e 1)):=by
 have E:=hs.bp
 have hi:=hs.hi
 have F:bd (gD e 1):=he.2.1
 have hlt:=lI hs.hh (by omega) hr
 have J:=bq F
 have fin:∀b,vq p r (gD e 1)->T (λn=>aa (decide (((gD e 1).length:Int)>0)) (Go.AI.eP (aO n (b==(gI e 2 !=0)) (gS e 0) 33 (aH p i r s l g))) (some (.ret (aH p i r s l g)))) (AQ i λx=>x=aH p i r s l g/\vq p r (gD e 1)):=λb h=>.ite (λ_=>.ow (by omega) λ_=>⟨rfl,h⟩) (λ_=>.ok ⟨rfl,h⟩)
 have r3:(gD e 1≠[]->0<=bR p r)->T (λn=>zQ n (bR p r) (aH p i r s l g) (iK e)) (AQ i λx=>x=aH p i r s l g/\vq p r (gD e 1)):=by
  intro D
  refine .step (λn=>YX n _ _ _) (.ask (sg (gD e 1) F) λ_ _=>.bw (by omega) λ_=>?_)
  refine T.loop (σ:=Bool) (L:=λj b n=>uA n (bR p r) b (gD e 1) ((gD e 1).length:Int) j (aH p i r s l g) (iK e)) (gD e 1).length (λj _=>∀(k:Nat)q,bR p r=k->p[k]?=some q->∀x,x∈(gD e 1).take j->0<=fE (gD q 13) (gS x 0)) ?_ ?_ false (by simp)
  .intro b h;rw[List.take_length]at h;exact .step (λn=>MR n _ _ _ _ _ _ _) (.neg (by simp) (fin b ⟨D,h⟩))
  .intro j b hj h I
   have h0:=D (λK=>by grind)
   obtain⟨k,hk⟩:∃k:Nat,bR p r=k:=⟨(bR p r).toNat,by omega⟩
   refine .step (λn=>MR n _ _ _ _ _ _ _) (.pos (by simp;omega) (.ab (by omega) (by omega) λx hx=>?_))
   have hx:(gD e 1)[j]?=some x:=by grind
   rw[hk]at h0⊢
   refine .ab (by omega) (by grind) λq hq=>?_
   have hq:p[k]?=some q:=by grind
   refine .cR (u2 (ct q) (gS x 0) (ai (an E hq) 13)) (.bw (by omega) λc=>?_)
   have c:=cO c
   have c:0<=fE (gD q 13) (gS x 0):=c
   have hn:∀(k':Nat)z,bR p r=k'->p[k']?=some z->∀y,y∈(gD e 1).take (j+1)->0<=fE (gD z 13) (gS y 0):=by
    intro k' z h1 h2 y hy
    obtain rfl:k'=k:=by omega
    rw[hq]at h2
    obtain rfl:=Option.some.inj h2
    rw[fJ hx]at hy
    rcases List.mem_append.1 hy with hy|hy
    .grind
    .simp_all
   rw[aE (i:=(j:Int)+1) (by omega) (by omega)]
   refine .ite (λ_=>by have:=I true hn;rw[hk]at this;exact this) (λ_=>.ab (by omega) (by grind) λz o=>?_)
   have o:p[k]?=some z:=by grind
   rw[hq]at o;obtain rfl:=Option.some.inj o;exact .ab c (sj c) λy hy=>by have:=I (gI y 2==2) hn;rw[hk]at this;exact this
 refine .step (λn=>ae5 n _ _) (.cR (iY p i r E hr) (.ite (λc=>.bw (by omega) λ_=>r3 λ_=>cO c) (λ_=>.bw (by omega) λc=>r3 λh=>?_)));simp_all
theorem acm(e:cv)(he:bd e)(N:e.2.2.2.1.length<=16777216)(eR:bd l):T (λn=>Gl n e (aH p i r s l g)) (AQ i λx=>∃(v:Env)(ts:Rows),x=dQ v (ts,aH p i r s l g)/\bd v/\bd ts/\ts.length=e.2.2.2.1.length/\PT l e.2.2.2.1):=by
 have hp:=he.2.2.2.1
 refine .step (λn=>ac8 n _ _) ?_
 refine T.loop (σ:=Env×Rows) (L:=λj t n=>zR n e.2.2.2.1 (e.2.2.2.1.length:Int) j (aH p i r s l g) e t.1 t.2 [] []) e.2.2.2.1.length (λj t=>bd t.1/\(PT t.1 (e.2.2.2.1.drop j)->PT l e.2.2.2.1)/\t.2.length=j/\cb 1099511627776 t.2) ?_ ?_ (l,[]) ⟨eR,λh=>h,rfl,trivial⟩
 .rintro⟨v,ts⟩⟨h1,h2,h3,h4⟩;have h3:ts.length=e.2.2.2.1.length:=h3;refine .step (λn=>Na n _ _ _ _ _ _ _ _ _) (.neg (by simp) (.ok ⟨v,ts,rfl,h1,⟨by omega,h4⟩,h3,h2 ?_⟩));rw[List.drop_length];exact .nil
 .rintro j⟨v,ts⟩hj⟨h1,h2,h3,h4⟩M
  have h3:ts.length=j:=h3
  refine .step (λn=>Na n _ _ _ _ _ _ _ _ _) (.pos (by simp;omega) (.ab (by omega) (by omega) λd hd=>?_))
  have hd:e.2.2.2.1[j]?=some d:=by grind
  have k:=an hp hd
  refine .mV (Fq v _ h1 ⟨trivial,ak k 2,trivial,trivial,ak k 5,ai k 6,ai k 7⟩) λx K hx=>.fail λ_=>.bw (by omega) λc=>?_
  have c:x.1=5:=fO c
  have O:=hx.2 c
  refine .ab (by omega) (by omega) λy hy=>.fits (by simp;omega) (.ab (by omega) (by omega) λJ o=>?_)
  have hy:x.2.2.1[0]?=some y:=by grind
  have o:x.2.2.1[0]?=some J:=by grind
  rw[hy]at o
  obtain rfl:=Option.some.inj o
  have F:=an hx.1.2.2.1 hy
  have I:bd (aK y 0):=⟨trivial,ak F 1,ai F 2⟩
  refine .aw (As _ v _ _ _ h1 (ak k 0) I) λz hz=>?_
  obtain⟨w,hw,rfl,Q⟩:=hz
  rw[aE (i:=(j:Int)+1) (by omega) (by omega)]
  refine M (w,ts++[cy (aK y 0)]) ⟨hw,λE=>h2 ?_,by simp;omega,dt h4 (dL (qS I) eg)⟩
  have R:e.2.2.2.1.drop j=d::e.2.2.2.1.drop (j+1):=by have D:j<e.2.2.2.1.length:=hj;rw[List.drop_eq_getElem_cons D];congr 1;have:=List.getElem?_eq_getElem D;rw[hd]at this;exact(Option.some.inj this).symm
  rw[R];exact .cons K c hy Q E
theorem acn{e:List AV}(he:bd (iK e))(D:vq p r (gD e 1)):T (λn=>Gu n (iK e) (aH p i r s l g)) (AQ i λx=>x=aH p i r s l g):=by
 have I:=hs.bp
 have hi:=hs.hi
 have J:bd (gD e 1):=he.2.1
 have M:=bq J
 have hlt:=lI hs.hh (by omega) hr
 refine .step (λn=>aei n _ _) (.ite (λ_=>.ok rfl) (λc=>?_))
 have c:¬((gD e 1).length:Int)<2:=eU c
 have h0:=D.1 (λQ=>by grind)
 obtain⟨k,hk⟩:∃k:Nat,bR p r=k:=⟨(bR p r).toNat,by omega⟩
 refine .cR (iY p i r I hr) ?_
 rw[hk]
 refine .ab (by omega) (by grind) λq hq=>.ab (by omega) (by grind) λx hx=>?_
 have hq:p[k]?=some q:=by grind
 have o:=ai (an I hq) 13
 have F:=D.2 k q hk hq x (List.mem_of_getElem? hx)
 refine .cR (u2 (ct q) (gS x 0) o) (.ab F (sj F) λf hf=>.ez (by grind) ?_)
 have kf:=B4 (an o hf)
 generalize N:((gD e 1).drop (1:Int).toNat).take (((gD e 1).length:Int).toNat-(1:Int).toNat)=m
 have hm:∀y,y∈m->y∈gD e 1:=λy hy=>by grind
 have K:m.length<=1099511627776:=by grind
 refine T.loop (σ:=Unit) (L:=λj _ n=>zV n m (m.length:Int) j (aH p i r s l g) (iK e) (ct q) (iK f)) m.length (λ_ _=>True) ?_ ?_ () trivial
 .exactλ_ _=>.step (λn=>MS n _ _ _ _ _ _ _) (.neg (by simp) (.ok rfl))
 .intro j _ hj _ O;refine .step (λn=>MS n _ _ _ _ _ _ _) (.pos (by simp;omega) (.ab (by omega) (by omega) λy hy=>?_));have E:=D.2 k q hk hq y (hm y (List.mem_of_getElem? hy));refine .cR (u2 (ct q) (gS y 0) o) (.ab E (sj E) λz hz=>.ask (acg (iK f) _ kf (B4 (an o hz))) λ_ _=>.bw (by omega) λ_=>?_);rw[aE (i:=(j:Int)+1) (by omega) (by omega)];simp_all
end
end
end Go.AI
