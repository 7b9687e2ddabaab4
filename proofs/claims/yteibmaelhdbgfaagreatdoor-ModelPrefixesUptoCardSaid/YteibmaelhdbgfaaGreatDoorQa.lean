/- A part. -/
import Derived.Test.YteibmaelhdbgfaaGreatDoorPd
set_option linter.all false

namespace Go.AI
open Go
abbrev bj(l:Rows):List ByteArray:=l.map λr=>gS r 0
theorem ab2(l:Rows)(s:ByteArray)(hl:bd l):Ev (λn=>Gy n l s) (gr (λr=>ay s (gS r 0)) l):=.step (λn=>adX n _ _) (Kl (J:=λn i=>zW n l s (l.length:Int) i) (by have:=bq hl;omega) (λn i=>Zb n _ _ _ _))
theorem kH(l:Rows)(s:ByteArray)(hl:bd l):T (λn=>gu n l s) λb=>(b=true↔s∈bj l):=by
 refine .step (λn=>ae6 n _ _) (.cR (ab2 l s hl) (.ret ?_))
 rw[decide_eq_true_iff,rD,List.any_eq_true]
 constructor
 .rintro⟨r,h1,h2⟩;rw[gh]at h2;grind
 .intro h;obtain⟨r,h1,h2⟩:=List.mem_map.1 h;exact⟨r,h1,gh.2 h2.symm⟩
theorem yu{α:Type}{l:List α}{x:α}:(l++[x]).Nodup↔l.Nodup/\x∉l:=by grind
theorem fJ{α:Type}{l:List α}{i:Nat}{x:α}(h:l[i]?=some x):l.take (i+1)=l.take i++[x]:=by rw[List.take_add_one,h];rfl
theorem sg(l:Rows)(hl:bd l):T (λn=>j5 n l) λb=>b=false->(bj l).Nodup:=by
 have hb:=bq hl
 refine .step (λn=>ac6 n _) ?_
 refine T.loop (σ:=Unit) (L:=λi _ n=>zM n l l (l.length:Int) i) l.length (λi _=>(bj (l.take i)).Nodup) ?_ ?_ () (by simp)
 .intro _ h;refine .step (λn=>MY n _ _ _ _) (.neg (by simp) (.ret λ_=>?_));grind
 .intro i _ hi h o
  refine .step (λn=>MY n _ _ _ _) (.pos (by simp;omega) (.ab (by omega) (by omega) λr hr=>.ez (by omega) ?_))
  have e:(l.drop (0:Int).toNat).take ((i:Int).toNat-(0:Int).toNat)=l.take i:=by simp
  rw[e]
  refine .ask (kH (l.take i) _ (by have:=wk (a:=0) (b:=i) hl;grind)) λb z=>.ite (λ_=>.ret λe=>by cases e) (λc=>?_)
  rw[aE (i:=(i:Int)+1) (by omega) (by omega)]
  refine o () ?_
  have hr:l[i]?=some r:=by simp_all
  rw[fJ hr];grind
def ji(s:ByteArray):Prop:=∀c,c∈s.data.toList->c≠39
theorem T.i6{β:Type}{Q:β->Prop}{s:ByteArray}{i:Nat}{k:Nat->Int->Option β}(hi:i<s.size)(hk:∀x,s.data.toList[i]?=some x->T (λn=>k n (x.toNat:Int)) Q):T (λn=>Go.AI.i6 s (i:Int) (k n)) Q:=by
 have hm:i<s.data.toList.length:=by simp_all
 obtain⟨r,a,b⟩:=hk _ (List.getElem?_eq_getElem hm);exact⟨r,.i6 rfl (List.getElem?_eq_getElem hm) a,b⟩
theorem Qp(c:Int):T (λn=>wA n c) λb=>b=true->c≠39:=by refine .step (λn=>SJ n _) ?_;refine .ite (λh=>.ite (λ_=>.ret λ_=>?_) (λ_=>.ite (λ_=>.ret λ_=>?_) (λ_=>.ret λe=>by cases e))) (λ_=>.ite (λh=>.ret λ_=>?_) (λ_=>.ret λe=>by cases e));all_goals grind
theorem agw(c:Int):T (λn=>Cr n c) λb=>b=true->c≠39:=by refine .step (λn=>SO n _) (.ask (Qp c) λb hb=>.ite (λh=>.ret λ_=>hb h) (λ_=>?_));refine .ask (Q':=λb=>b=true->c≠39) (.step (λn=>PW n _) (.ite (λh=>.ret λ_=>by grind) (λ_=>.ret λe=>by cases e))) λb hb=>.ite (λh=>.ret λ_=>hb h) (λ_=>.ret λh=>by grind)
theorem sD(s:ByteArray)(hs:bd s):T (λn=>ga n s) λb=>b=true->ji s/\s.size<=16:=by
 have no:T (λn=>(some false:Option Bool)) λb=>b=true->ji s/\s.size<=16:=.ret λe=>by cases e
 refine .step (λn=>SN n _) (.ite (λ_=>no) (λD=>.ite (λ_=>no) (λo=>?_)))
 have o:=eU o
 have h0:=Jq D
 refine T.i6 (i:=0) h0 λx _=>.ask (Qp _) λ_ _=>.ite (λ_=>no) (λ_=>.ask (SQ s hs) λ_ _=>.ite (λ_=>no) (λ_=>?_))
 refine T.loop (σ:=Unit) (L:=λi _ n=>sy n s (s.size:Int) i) s.size (λi _=>∀c,c∈s.data.toList.take i->c≠39) ?_ ?_ () (by simp)
 .intro _ h;refine .step (λn=>Aq n _ _ _) (.neg (by simp) (.ret λ_=>⟨?_,by omega⟩));have:s.data.toList.take s.size=s.data.toList:=List.take_of_length_le (by simp);rw[this]at h;exact h
 .intro i _ hi h z
  refine .step (λn=>Aq n _ _ _) (.pos (by simp;omega) (T.i6 hi λx hx=>.ask (agw _) λb hb=>.ite (λ_=>no) (λc=>?_)))
  rw[aE (i:=(i:Int)+1) (by omega) (by omega)]
  refine z () λy hy=>?_
  rw[fJ hx]at hy
  rcases List.mem_append.1 hy with hy|hy
  .exact h y hy
  .rw[List.mem_singleton]at hy;subst hy;intro e;simp_all
theorem ab3(e:Env)(h:bd e)(he:Bb e):T (λn=>GQ n e) λr=>bd r/\r.1.length<=8/\r.2.length<=64:=by
 have F:=dc e h
 have E:=aB e h
 have h1:=he.c
 have h2:=he.n
 refine .step (λn=>ad3 n _) ?_
 refine T.loop (σ:=Rows) (L:=λi s n=>Ae n e.1 (e.1.length:Int) i e [] [] s []) e.1.length (λi s=>s.length=i/\cb 1099511627776 s) ?_ ?_ [] ⟨rfl,trivial⟩
 .intro s hs
  have D:=hs.1
  refine .step (λn=>M5 n _ _ _ _ _ _ _ _) (.neg (by simp) ?_)
  refine T.loop (σ:=Rows) (L:=λi t n=>An n e.2 (e.2.length:Int) i [] [] s t) e.2.length (λi t=>t.length=i/\cb 1099511627776 t) ?_ ?_ [] ⟨rfl,trivial⟩
  .intro t ht;have z:=ht.1;exact .step (λn=>M6 n _ _ _ _ _ _ _) (.neg (by simp) (.ret ⟨⟨⟨by grind,hs.2⟩,⟨by grind,ht.2⟩⟩,by grind,by grind⟩))
  .intro i t hi ht o;have z:=ht.1;refine .step (λn=>M6 n _ _ _ _ _ _ _) (.pos (by simp;omega) (.ab (by omega) (by omega) λr hr=>?_));have k:=an E hr;refine .ask (SU (aK r 1) ⟨trivial,ak k 2,ai k 3⟩) λx hx=>.fits (by simp;omega) ?_;rw[aE (i:=(i:Int)+1) (by omega) (by omega)];exact o _ ⟨by grind,dt ht.2 (dL (bm (dv (ak k 0)) (bm ki (bm (dv (dc x.2 (aB x hx))) (bm (ef (aB x.2 (aB x hx))) ed)))) eg)⟩
 .intro i s hi hs o;have D:=hs.1;refine .step (λn=>M5 n _ _ _ _ _ _ _ _) (.pos (by simp;omega) (.ab (by omega) (by omega) λr hr=>?_));have k:=an F hr;have kd:=ai k 1;refine .ask (uY (gD r 1) (by have:=he.k r (List.mem_of_getElem? hr);omega)) λx hx=>.fits (by simp;omega) ?_;subst hx;rw[aE (i:=(i:Int)+1) (by omega) (by omega)];exact o _ ⟨by grind,dt hs.2 (dL (bm (dv (ak k 0)) (bm (ef kd) ed)) eg)⟩
theorem CC{s:ByteArray}{x:fv}(hs:bd s)(h:bd x):eS 1099511627776 (fA (s,x)):=bm (dv hs) (bm ki (bm (dv (dc x.2 (aB x h))) (bm (ef (aB x.2 (aB x h))) ed)))
theorem S3(e:Env)(s:ByteArray)(t:fv)(h:bd e)(hs:bd s)(ht:bd t):T (λn=>np n e s t) bd:=by have no:∀k:Int,T (λn=>(some ([],[],k):Option (Rows×Rows×Int))) bd:=λk=>.ret ⟨cK,cK,trivial⟩;refine .step (λn=>aht n _ _ _) (.ask (lP e h) λb hb=>.ite (λ_=>no _) (λc=>?_));have he:=hb (iD c);have h1:=he.c;have h2:=he.n;refine .ask (SX s hs) λ_ _=>.ite (λ_=>no _) (λ_=>.ask (aie t ht) λ_ _=>.ite (λ_=>no _) (λ_=>.ask (Ql e h h1 h2 he.k) λx hx=>.ask (kH x s hx) λ_ _=>.ite (λ_=>no _) (λ_=>.ask (SY e t h ht) λ_ _=>.ite (λ_=>no _) (λ_=>.ite (λ_=>no _) (λ_=>.ask (ab3 e h he) λy hy=>.ask (SU t ht) λz hz=>.fits (by grind) (.ret ⟨hy.1.1,⟨?_,trivial⟩⟩))))));exact⟨by grind,dt hy.1.2.2 (dL (CC hs hz) eg)⟩
theorem As(cl:ByteArray)(e:Env)(s:ByteArray)(t:fv)(x:ar)(h:bd e)(hs:bd s)(ht:bd t):T (λn=>sM n cl e s t x) (AQ x.2.1 λr=>∃e':Env,bd e'/\r=(e'.1,e'.2,x)/\Ev (λn=>np n e s t) (e'.1,e'.2,0)):=.step (λn=>ae9 n _ _ _ _ _) (.mV (S3 e s t h hs ht) λy hv hy=>.fail λc=>.ok ⟨(y.1,y.2.1),⟨hy.1,hy.2.1⟩,rfl,by grind⟩)
theorem ab4(l:Rows)(s:ByteArray)(z o c)(hl:bd l):Ev (λn=>Gv n l s z o c) (l.any λr=>ay (gS r 0) s):=by
 have:=nI (P:=λn r=>GX n (du r 0) s z o c) (p:=λr=>ay (gS r 0) s) (J:=λn i=>yY n l s z o c (l.length:Int) i) (by have:=bq hl;omega) (λn i=>WC n _ _ _ _ _ _ _) λr _=>.step (λn=>adn n _ _ _ _ _) (.ret _)
 refine .step (λn=>adf n _ _ _ _ _) (.ask (.step (λn=>ZB n _ _ _ _ _) this) ?_)
 have e:decide (gr (λr=>ay (gS r 0) s) l>=0)=l.any λr=>ay (gS r 0) s:=by rw[Bool.eq_iff_iff,decide_eq_true_iff];exact rD
 show Ev (λ_=>some (decide (gr (λr=>ay (gS r 0) s) l>=0))) _;rw[e];exact .ret _
def da(w:Bool)(l m:Rows):Rows:=(l.filter λd=>(m.any λr=>ay (gS r 0) (gS d 0))==w).map λd=>[.sc (.string (gS d 0))]
theorem Qq(p:Rows)(i:Nat)(r:List AV)(w:Bool)(hp:bd p)(hr:p[i]?=some r)(he:∀r,r∈p->∀j,(gD r j).length<=16777216):∀q,(0<=bR p r->p[(bR p r).toNat]?=some q)->Ev (λn=>wz n p (i:Int) w) (if bR p r<0 then[]else da w (gD q 7) (gD r 7)):=by
 intro q hq
 refine .step (λn=>ahy n _ _ _) (.ask (iY p i r hp hr) (.ite (λc=>?_) (λc=>?_)))
 .rw[if_pos (cO c)];exact .ret _
 .have c:=eU c
  rw[if_neg c]
  have hq:=hq (by omega)
  obtain⟨k,hk⟩:∃k:Nat,bR p r=k:=⟨(bR p r).toNat,by omega⟩
  rw[hk]at hq⊢
  have hq:p[k]?=some q:=by grind
  refine .ab rfl hq ?_
  have hl:=he q (List.mem_of_getElem? hq) 7
  refine T.ev ?_
  refine T.loop (σ:=Rows) (L:=λj s n=>AX n (i:Int) w (gD q 7) ((gD q 7).length:Int) j p s) (gD q 7).length (λj s=>s=da w ((gD q 7).take j) (gD r 7)) ?_ ?_ [] (by simp[da])
  .intro s hs;exact .step (λn=>OV n _ _ _ _ _ _ _) (.neg (by simp) (.ret (by grind)))
  .intro j s hj hs z
   refine .step (λn=>OV n _ _ _ _ _ _ _) (.pos (by simp;omega) (.ab (by omega) (by omega) λd hd=>.ab (by omega) (by grind) λr' o=>?_))
   have o:p[i]?=some r':=by grind
   rw[hr]at o
   obtain rfl:=Option.some.inj o
   have hd:(gD q 7)[j]?=some d:=by grind
   refine .cR (ab4 _ _ _ _ _ (ai (an hp hr) 7)) ?_
   have D:s.length<=16777216:=by rw[hs];unfold da;rw[List.length_map];exact Nat.le_trans (List.length_filter_le ..) (by simp;omega)
   have e1:da w ((gD q 7).take (j+1)) (gD r 7)=da w ((gD q 7).take j) (gD r 7)++da w [d] (gD r 7):=by rw[fJ hd];unfold da;simp
   refine .ite (λc=>.fits (by simp;omega) (.step (λn=>MZ n _ _ _ _ _ _ _) ?_)) (λc=>.step (λn=>MZ n _ _ _ _ _ _ _) ?_)
   .rw[aE (i:=(j:Int)+1) (by omega) (by omega)];refine z _ ?_;rw[e1,hs];simp only[da,List.filter_cons,c,if_true,List.filter_nil,List.map_cons,List.map_nil]
   .rw[aE (i:=(j:Int)+1) (by omega) (by omega)];refine z _ ?_;rw[e1,hs];simp only[da,List.filter_cons,c,Bool.false_eq_true,if_false,List.filter_nil,List.map_nil,List.append_nil]
theorem ab5(a0:dA)(h:bd a0)(h1:a0.2.2.2.2.1.length<=32)(h2:a0.2.2.2.2.2.1.length<=32)(he:∀r,r∈a0.2.2.2.2.1->(gD r 1).length<=16777216):T (λn=>GO n a0) λr=>bd r/\r.length<=1073741824:=by
 have o:bd a0.2.2.2.2.1:=h.2.2.2.2.1
 have D:bd a0.2.2.2.2.2.1:=h.2.2.2.2.2.1
 refine .step (λn=>adZ n _) ?_
 refine T.loop (σ:=Rows) (L:=λi s n=>Ab n a0.2.2.2.2.1 (a0.2.2.2.2.1.length:Int) i a0 s) a0.2.2.2.2.1.length (λi s=>s.length<=16777217*i/\cb 1099511627776 s) ?_ ?_ [] ⟨by simp,trivial⟩
 .intro s hs
  have c:=hs.1
  refine .step (λn=>M4 n _ _ _ _ _) (.neg (by simp) ?_)
  refine T.loop (σ:=Rows) (L:=λi s n=>Ak n a0.2.2.2.2.2.1 (a0.2.2.2.2.2.1.length:Int) i s) a0.2.2.2.2.2.1.length (λi s=>s.length<=536870944+i/\cb 1099511627776 s) ?_ ?_ s ⟨by omega,hs.2⟩
  .intro s hs;have c:=hs.1;exact .step (λn=>Np n _ _ _ _) (.neg (by simp) (.ret ⟨⟨by omega,hs.2⟩,by omega⟩))
  .intro i s hi hs z;have c:=hs.1;refine .step (λn=>Np n _ _ _ _) (.pos (by simp;omega) (.ab (by omega) (by omega) λr hr=>.fits (by simp;omega) ?_));rw[aE (i:=(i:Int)+1) (by omega) (by omega)];exact z _ ⟨by simp;omega,dt hs.2 (dL (bm (dv (ak (an D hr) 0)) ed) eg)⟩
 .intro i s hi hs z;have c:=hs.1;refine .step (λn=>M4 n _ _ _ _ _) (.pos (by simp;omega) (.ab (by omega) (by omega) λr hr=>?_));have E:=he r (List.mem_of_getElem? hr);refine .fits (by simp;omega) (.fits (by simp;omega) ?_);rw[aE (i:=(i:Int)+1) (by omega) (by omega)];exact z _ ⟨by simp;omega,dt (dt hs.2 (dL (bm (dv (ak (an o hr) 0)) ed) eg)) (ai (an o hr) 1).2⟩
theorem Pa(e:Env)(h:bd e)(h1:e.1.length<=32768)(h2:e.2.length<=1073741824)(he:∀r,r∈e.1->(gD r 1).length<=16777216):T (λn=>BI n e) λr=>bd r/\r.length<=1000000000000:=by
 have o:=dc e h
 have D:=aB e h
 refine .step (λn=>ac4 n _) ?_
 refine T.loop (σ:=Rows) (L:=λi s n=>zK n e.1 (e.1.length:Int) i e s) e.1.length (λi s=>s.length<=16777217*i/\cb 1099511627776 s) ?_ ?_ [] ⟨by simp,trivial⟩
 .intro s hs
  have c:=hs.1
  refine .step (λn=>Nr n _ _ _ _ _) (.neg (by simp) ?_)
  refine T.loop (σ:=Rows) (L:=λi s n=>zL n e.2 (e.2.length:Int) i s) e.2.length (λi s=>s.length<=549755846656+i/\cb 1099511627776 s) ?_ ?_ s ⟨by omega,hs.2⟩
  .intro s hs;have c:=hs.1;exact .step (λn=>Nx n _ _ _ _) (.neg (by simp) (.ret ⟨⟨by omega,hs.2⟩,by omega⟩))
  .intro i s hi hs z;have c:=hs.1;refine .step (λn=>Nx n _ _ _ _) (.pos (by simp;omega) (.ab (by omega) (by omega) λr hr=>.fits (by simp;omega) ?_));rw[aE (i:=(i:Int)+1) (by omega) (by omega)];exact z _ ⟨by simp;omega,dt hs.2 (dL (bm (dv (ak (an D hr) 0)) ed) eg)⟩
 .intro i s hi hs z;have c:=hs.1;refine .step (λn=>Nr n _ _ _ _ _) (.pos (by simp;omega) (.ab (by omega) (by omega) λr hr=>?_));have E:=he r (List.mem_of_getElem? hr);refine .fits (by simp;omega) (.fits (by simp;omega) ?_);rw[aE (i:=(i:Int)+1) (by omega) (by omega)];exact z _ ⟨by simp;omega,dt (dt hs.2 (dL (bm (dv (ak (an o hr) 0)) ed) eg)) (ai (an o hr) 1).2⟩
section
open BD(cA)
def Ln(r:List AV):Prop:=(gD r 4).length<=32/\(gD r 5).length<=32/\(gD r 7).length<=32
structure Sur(p:Rows)(i:Nat):Prop where
 hb:cA 16777216 p
 hn:p.length<=17
 hh:qo p (i+1)
 hi:i<p.length
 hl:∀(k:Nat)r,k<=i->p[k]?=some r->Ln r
def vX(N:Nat)(e:Env):Prop:=bd e/\e.1.length<=N/\e.2.length<=N/\∀x,x∈e.1->(gD x 1).length<=16777216
theorem iF{p:Rows}(h:cA 16777216 p):bd p:=⟨Nat.le_trans h.1 (by omega),yE (by omega) h.2⟩
namespace Sur
variable {p:Rows}{i:Nat}(s:Sur p i)
include s
theorem bp:bd p:=iF s.hb
theorem e{r:List AV}(hr:r∈p)(j:Nat):(gD r j).length<=16777216:=(ai (dG s.hb hr) j).1
theorem cs{r x:List AV}(hr:r∈p)(j:Nat)(hx:x∈gD r j):(gD x 1).length<=16777216:=(ai (dG (ai (dG s.hb hr) j) hx) 1).1
theorem ctx:T (λn=>jh n p (i:Int)) (dF (i+1)):=Fs p s.bp (i+1) (by have:=s.hn;have:=s.hi;omega) s.hh (λr hr=>s.e hr 2) (i+1) i (by omega) (by omega) s.hi
theorem stat:T (λn=>oM n p (i:Int)) (vX 544):=by
 have hn:=s.hn
 have hi:=s.hi
 refine .step (λn=>ah5 n _ _) (.ask s.ctx λl hl=>?_)
 have hlen:=hl.len
 have o:=hl.a (Nat.le_refl _)
 refine T.loop (σ:=Rows×Rows) (L:=λj s n=>AU n (l.length:Int) j p l [] [] s.1 s.2) l.length (λj s=>(s.1.length<=j*32/\cb 1099511627776 s.1)/\(s.2.length<=j*32/\cb 1099511627776 s.2)/\∀x,x∈s.1->(gD x 1).length<=16777216) ?_ ?_ ([],[]) ⟨⟨by simp,trivial⟩,⟨by simp,trivial⟩,by simp⟩
 .intro s hs;have h1:=hs.1.1;have h2:=hs.2.1.1;exact .step (λn=>OP n _ _ _ _ _ _ _ _) (.neg (by simp) (.ret ⟨⟨⟨by grind,hs.1.2⟩,⟨by grind,hs.2.1.2⟩⟩,by grind,by grind,hs.2.2⟩))
 .intro j t hj hs D
  obtain⟨a,b⟩:=t
  have h1:a.length<=j*32:=hs.1.1
  have h2:b.length<=j*32:=hs.2.1.1
  refine .step (λn=>OP n _ _ _ _ _ _ _ _) (.pos (by simp;omega) (.ab (by omega) (by omega) λ_ _=>.eJ (by omega) λr hr=>?_))
  obtain⟨k,hk,rfl⟩:=o r (List.mem_of_getElem? hr)
  have E:k<p.length:=by omega
  have e1:gI [AV.sc (.int .i64 (k:Int))] 0=(k:Int):=rfl
  rw[e1]
  refine .ab (by omega) (by omega) λq hq=>?_
  have hq:p[k]?=some q:=by grind
  have I:=(s.hl k q (by omega) hq).1
  have F:=(s.hl k q (by omega) hq).2.1
  refine .fits (by omega) (.ab (by omega) (by omega) λz c=>?_)
  have c:p[k]?=some z:=by grind
  rw[hq]at c
  obtain rfl:=Option.some.inj c
  refine .fits (by omega) ?_
  rw[aE (i:=(j:Int)+1) (by omega) (by omega)]
  refine D (a++gD q 4,b++gD q 5) ⟨⟨by grind,dt hs.1.2 (ai (an s.bp hq) 4).2⟩,⟨by grind,dt hs.2.1.2 (ai (an s.bp hq) 5).2⟩,λx hx=>?_⟩
  rcases List.mem_append.1 hx with hx|hx
  .grind
  .exact s.cs (List.mem_of_getElem? hq) 4 hx
theorem Iq:T (λn=>wB n p (i:Int)) λr=>bd r/\r.length<=544:=by
 have hn:=s.hn
 have hi:=s.hi
 refine .step (λn=>ah9 n _ _) (.ask (Qn p s.bp (i+1) (by omega) s.hh i i (Nat.le_refl _) (by omega) hi) λl hl=>?_)
 have E:=hl.1
 have step:∀{J:Nat->Rows->Option Rows}{j:Nat}{t:Rows},j<l.length->(bd t/\t.length<=j*32)->(∀s',(bd s'/\s'.length<=(j+1)*32)->T (λn=>J n s') λr=>bd r/\r.length<=544)->
  T (λn=>ab l (j:Int) λ_=>(eJ l (j:Int).toNat λr1=>(ab p (gI r1 0) λr2=>(ask (s5 n t (gD r2 7)) λz=>J n z)))) λr=>bd r/\r.length<=544:=by
  intro J j t hj hs hJ
  refine .ab (by omega) (by omega) λ_ _=>.eJ (by omega) λr hr=>?_
  obtain⟨k,hk,rfl⟩:=hl.2 r (List.mem_of_getElem? hr)
  have e1:gI [AV.sc (.int .i64 (k:Int))] 0=(k:Int):=rfl
  rw[e1]
  refine .ab (by omega) (by omega) λq hq=>?_
  have hq:p[k]?=some q:=by grind
  have m:=(s.hl k q hk hq).2.2;have D:=hs.2;exact .ask (Qm t (gD q 7) hs.1 (ai (an s.bp hq) 7) (by omega)) λx hx=>hJ x ⟨hx.1,by grind⟩
 refine .step (λn=>abx n _ _ _ _ _) (.ite (λc=>?_) (λ_=>.ret ⟨cK,by simp⟩))
 have c:=cO c
 refine step (j:=0) (J:=λn s'=>ug n (l.length:Int) (be (0+1)) p s' l) (by omega) ⟨cK,Nat.zero_le _⟩ λs' o=>?_
 have o:bd s'/\s'.length<=1*32:=⟨o.1,by grind⟩
 rw[aE (i:=(0:Int)+1) (by omega) (by omega)]
 refine T.lO (σ:=Rows) (L:=λj s n=>ug n (l.length:Int) j p s l) l.length (λj s=>bd s/\s.length<=j*32) ?_ ?_ 1 (by omega) s' o
 .intro t hs;have h1:t.length<=l.length*32:=hs.2;exact .step (λn=>LQ n _ _ _ _ _) (.neg (by simp) (.ret ⟨hs.1,by omega⟩))
 .intro j t hj hs F;refine .step (λn=>LQ n _ _ _ _ _) (.pos (by simp;omega) ?_);rw[aE (i:=(j:Int)+1) (by omega) (by omega)];simp_all
theorem loc:T (λn=>l5 n p (i:Int)) (vX 1100):=by
 have hi:=s.hi
 refine .step (λn=>ahR n _ _) (.ask s.stat λe ee=>.ab (by omega) (by omega) λr hr=>?_)
 have hr:p[i]?=some r:=by grind
 have m:=(s.hl i r (Nat.le_refl _) hr).2.2;have e1:=ee.2.1;have e2:=ee.2.2.1;exact .fits (by omega) (.ret ⟨⟨dc e ee.1,HV (aB e ee.1) (ai (an s.bp hr) 7) (by omega)⟩,by grind,by grind,ee.2.2.2⟩)
theorem Ir:T (λn=>wC n p (i:Int)) (vX 1100):=by refine .step (λn=>ahq n _ _) (.ask s.stat λe ee=>.ask s.Iq λx hx=>?_);have e1:=ee.2.1;have e2:=ee.2.2.1;have e3:=hx.2;exact .fits (by omega) (.ret ⟨⟨dc e ee.1,HV (aB e ee.1) hx.1 (by omega)⟩,by grind,by grind,ee.2.2.2⟩)
theorem glu:T (λn=>Cs n p (i:Int)) (vX 1100):=by
 have hi:=s.hi
 have hr:p[i]?=some p[i]:=by simp[hi]
 have hlt:=lI s.hh (by omega) hr
 refine .step (λn=>ahZ n _ _) (.ask s.stat λe ee=>.cR (iY p i _ s.bp hr) ?_)
 have e1:=ee.2.1
 have e2:=ee.2.2.1
 have fin:∀v:Rows,bd v->v.length<=32->T (λn=>A1 n (i:Int) v p [] [] e.1 e.2) (vX 1100):=λv hv hl=>by
  refine .step (λn=>abP n _ _ _ _ _ _ _) (.ab (by omega) (by omega) λr hr=>?_)
  have hr:p[i]?=some r:=by grind
  have m:=(s.hl i r (Nat.le_refl _) hr).2.2;refine .ask (Qm v (gD r 7) hv (ai (an s.bp hr) 7) (by omega)) λx hx=>?_;have e3:=hx.2;exact .fits (by omega) (.ret ⟨⟨dc e ee.1,HV (aB e ee.1) hx.1 (by omega)⟩,by grind,by grind,ee.2.2.2⟩)
 refine .ite (λc=>?_) (λ_=>fin [] cK (by simp))
 have c:=cO c
 obtain⟨k,hk⟩:∃k:Nat,bR p p[i]=k:=⟨(bR p p[i]).toNat,by omega⟩
 rw[hk]
 refine .ab (by omega) (by omega) λr hr=>?_
 have hr:p[k]?=some r:=by grind
 exact fin _ (ai (an s.bp hr) 7) (s.hl k r (by omega) hr).2.2
end Sur
theorem NH{l m:Rows}{s:ByteArray}(h0:0<=bc (l++m) s)(h1:bc (l++m) s<l.length)(c:Rows):bc (l++c) s=bc (l++m) s:=by unfold bc gr at*;rw[List.findIdx?_append]at*;rw[List.findIdx?_append];cases h:l.findIdx? λr=>ay (gS r 1) s with|some k=>simp|none=>rw[h]at h0 h1;exfalso;cases h':m.findIdx? λr=>ay (gS r 1) s with|none=>grind|some k=>grind
theorem y9{p:Rows}{i:Nat}{s:ByteArray}(hi:i<=p.length)(h0:0<=bc p s)(h1:bc p s<i)(c:Rows):bc (p.take i++c) s=bc p s:=by have e:p=p.take i++p.drop i:=(List.take_append_drop i p).symm;rw[e]at h0 h1;have:=NH h0 (by grind) c;grind
theorem KW{p:Rows}{i:Nat}{s:ByteArray}(hi:i<=p.length)(h0:0<=bc (p.take i) s):bc p s=bc (p.take i) s/\bc p s<i:=by
 have e:p=p.take i++p.drop i:=(List.take_append_drop i p).symm
 have h1:bc (p.take i) s<i:=by unfold bc gr at h0⊢;cases h:(p.take i).findIdx? λr=>ay (gS r 1) s with|none=>grind|some k=>have:=(List.findIdx?_eq_some_iff_getElem.1 h).1;grind
 have:=NH (l:=p.take i) (m:=[]) (s:=s) (by grind) (by grind) (p.drop i);grind
theorem Pb{p:Rows}{i:Nat}{w:List AV}(hi:i<=p.length):∀k,(p.take i++[w])[k]?=if k<i then p[k]? else if k=i then some w else none:=by grind
theorem Sur.put{p:Rows}{i:Nat}{r w:List AV}(hb:cA 16777216 p)(hn:p.length<=16)(hr:p[i]?=some r)(h:qo p i)(hl:∀k r,k<i->p[k]?=some r->Ln r)
 (e3:ay (gS w 3) (bs [])=false->0<=bc p (gS w 3)/\bc p (gS w 3)<i)(e2:∀q,q∈gD w 2->0<=bc p (gS q 0)/\bc p (gS q 0)<i)(hw:eS 16777216 w)(o:Ln w):Sur (p.take i++[w]) i:=by
 have hi:i<p.length:=(List.getElem?_eq_some_iff.1 hr).1
 have hlen:(p.take i++[w]).length=i+1:=by grind
 refine⟨⟨by grind,dt (lL λr hr=>qi hb.2 (List.mem_of_mem_take hr)) (dL hw eg)⟩,by grind,⟨λj r' hj c he=>?_,λj r' hj c q hq=>?_⟩,by grind,λk r' hk c=>?_⟩
 .rw[Pb (by omega)]at c
  split at c
  .rename_i h1;have:=h.rf j r' h1 c he;rw[y9 (by omega) this.1 (by omega)];exact this
  .split at c
   .rename_i h1;obtain rfl:=Option.some.inj c;subst h1;have:=e3 he;rw[y9 (by omega) this.1 this.2];exact this
   .cases c
 .rw[Pb (by omega)]at c
  split at c
  .rename_i h1;have:=h.ex j r' h1 c q hq;rw[y9 (by omega) this.1 (by omega)];exact this
  .split at c
   .rename_i h1;obtain rfl:=Option.some.inj c;subst h1;have:=e2 q hq;rw[y9 (by omega) this.1 this.2];exact this
   .cases c
 grind
end
section
open BD(cA)
abbrev ct(r:List AV):dA:=(gI r 0,gS r 1,gD r 2,gS r 3,gD r 4,gD r 5,gD r 6,gD r 7,gD r 8,gD r 9,gB r 10,gD r 11,gD r 12,gD r 13)
abbrev aH(p:Rows)(i:Nat)(r:List AV)(s l g:Env):ar:=(p,(i:Int),gI r 0,gS r 1,gD r 2,gS r 3,gD r 4,gD r 5,gD r 6,gD r 7,gD r 8,gD r 9,gB r 10,gD r 11,gD r 12,gD r 13,s.1,s.2,l.1,l.2,g.1,g.2)
theorem uZ(s:ByteArray)(l:Rows)(hl:bd l):Ev (λn=>qL n s l) (bc l s):=by refine .step (λn=>ac5 n _ _) (.ask (a:=bc l s) ?_ (.ret _));exact .step (λn=>abw n _ _) (nI (J:=λn i=>zp n l s (l.length:Int) i) (by have:=bq hl;omega) (λn i=>XA n _ _ _ _) λr _=>.step (λn=>afa n _ _) (.ret _))
structure Hd(p:Rows)(i:Nat)(r:List AV):Prop where
 kd:gI r 0=1\/gI r 0=2
 cx:gI r 0=1->gS r 3=bs []
 nm:bc (p.take i) (gS r 1)<0
 ln:Ln r
 le:(gD r 13).length<=16
 ls:(gD r 6).length<=32/\(gD r 8).length<=32/\(gD r 9).length<=1/\(gD r 11).length<=32/\(gD r 12).length<=32
 ev:∀e,e∈gD r 13->(gD e 3).length<=8/\(gD e 4).length<=32/\(gD e 5).length<=32/\(gD e 6).length<=32
 rf:ay (gS r 3) (bs [])=false->0<=bc p (gS r 3)/\bc p (gS r 3)<i/\∀q,p[(bc p (gS r 3)).toNat]?=some q->gI q 0=2
 ex:∀q,q∈gD r 2->0<=bc p (gS q 0)/\bc p (gS q 0)<i/\∀c,p[(bc p (gS q 0)).toNat]?=some c->gI c 0=1
 tw:(bj (gD r 2)).Nodup
theorem Pc{a b c:Int}:lg a b<=c↔a<=c/\b<=c:=by unfold lg;grind
section
variable {p:Rows}{i:Nat}{r:List AV}{s l g:Env}(hb:cA 16777216 p)(hn:p.length<=16)(hr:p[i]?=some r)(hp:∀(k:Nat)q,k<i->p[k]?=some q->Hd p k q)
include hb hn hr hp
theorem Pd:qo p i:=⟨λj q hj hq he=>let h:=(hp j q hj hq).rf he;⟨h.1,h.2.1⟩,λj q hj hq x hx=>let h:=(hp j q hj hq).ex x hx;⟨h.1,h.2.1⟩⟩
omit hn in
theorem aaB(h3:ay (gS r 3) (bs [])=false->0<=bc p (gS r 3)/\bc p (gS r 3)<i)(h2:∀q,q∈gD r 2->0<=bc p (gS q 0)/\bc p (gS q 0)<i):qo p (i+1):=by
 refine⟨λj q hj hq he=>?_,λj q hj hq x hx=>?_⟩
 .rcases Nat.lt_or_ge j i with h|h
  .have:=(hp j q h hq).rf he;grind
  grind
 .rcases Nat.lt_or_ge j i with h|h
  .have:=(hp j q h hq).ex x hx;grind
  grind
theorem Pe(hd:Ln r)(h3:ay (gS r 3) (bs [])=false->0<=bc p (gS r 3)/\bc p (gS r 3)<i)(h2:∀q,q∈gD r 2->0<=bc p (gS q 0)/\bc p (gS q 0)<i):Sur p i:=
 ⟨hb,by omega,aaB hb hr hp h3 h2,(List.getElem?_eq_some_iff.1 hr).1,λk q hk hq=>by
  rcases Nat.lt_or_ge k i with h|h
  .exact(hp k q h hq).ln
  grind⟩
theorem ab6(hd:Ln r)(h3:ay (gS r 3) (bs [])=false->0<=bc p (gS r 3)/\bc p (gS r 3)<i)(h2:∀q,q∈gD r 2->0<=bc p (gS q 0)/\bc p (gS q 0)<i):
 T (λn=>Gx n (aH p i r s l g)) (AQ i λx=>x=aH p i r s l g):=by
 have hs:=Pe hb hn hr hp hd h3 h2
 have K:=iF hb
 have D:r∈p:=List.mem_of_getElem? hr
 have hi:i<p.length:=hs.hi
 refine .step (λn=>aeJ n _) (.ask hs.ctx λcx gF=>?_)
 have Q:=gF.len
 have J:=gF.a (aC _)
 refine T.loop (σ:=Rows) (L:=λj t n=>uK n (cx.length:Int) j (aH p i r s l g) t cx) cx.length (λj t=>t.length<=1073741824*j/\cb 1099511627776 t) ?_ ?_ [] ⟨by simp,trivial⟩
 .intro t ht
  have I:=ht.1
  have z:bd t:=⟨by omega,ht.2⟩
  refine .step (λn=>MT n _ _ _ _ _) (.neg (by simp) (.ask (sg t z) λb _=>.bw (by omega) λ_=>?_))
  refine .ez (by grind) ?_
  refine .ask (O6 _ (by simp;omega)) λq hq=>?_
  have e1:((p.drop (0:Int).toNat).take ((i:Int).toNat-(0:Int).toNat))=p.take i:=by simp
  have hq:q=p.take i:=hq.trans e1
  subst hq
  refine .fits (by simp;omega) ?_
  have hw:eS 16777216 (jj (gI r 0,bs [],gD r 2,gS r 3,[],[],[],[],[],[],false,[],[],[])):=bm ki (bm (dv (Nat.zero_le _)) (bm (ef (ai (dG hb D) 2)) (bm (dv (ak (dG hb D) 3)) (bm (ef cK) (bm (ef cK) (bm (ef cK) (bm (ef cK) (bm (ef cK) (bm (ef cK) (bm HW (bm (ef cK) (bm (ef cK) (bm (ef cK) ed)))))))))))))
  have o:Sur (p.take i++[jj (gI r 0,bs [],gD r 2,gS r 3,[],[],[],[],[],[],false,[],[],[])]) i:=Sur.put hb hn hr (Pd hb hn hr hp) (λk q hk hq=>(hp k q hk hq).ln) h3 h2 hw ⟨Nat.zero_le _,Nat.zero_le _,Nat.zero_le _⟩
  refine .ite (λ_=>?_) (λ_=>?_)
  .refine .ask o.Iq λv hv=>?_
   have O:=hv.2
   refine T.loop (σ:=Unit) (L:=λj _ n=>z6 n (v.length:Int) j (aH p i r s l g) t v (p.take i++[jj (gI r 0,bs [],gD r 2,gS r 3,[],[],[],[],[],[],false,[],[],[])])) v.length (λ_ _=>True) ?_ ?_ () trivial
   .intro _ _;refine .step (λn=>Nl n _ _ _ _ _ _) (.neg (by simp) (.ask o.Ir λe he=>.ask (lP e he.1) λ_ _=>.bw (by omega) λ_=>.ask o.stat λe he=>.ask (lP e he.1) λ_ _=>.ow (by omega) λ_=>rfl))
   .intro j _ hj _ M;refine .step (λn=>Nl n _ _ _ _ _ _) (.pos (by simp;omega) (.ab (by omega) (by omega) λ_ _=>.eJ (by omega) λx hx=>.ask (kH t _ z) λ_ _=>.bw (by omega) λ_=>?_));rw[aE (i:=(j:Int)+1) (by omega) (by omega)];simp_all
  .exact .ask o.stat λe he=>.ask (lP e he.1) λ_ _=>.ow (by omega) λ_=>rfl
 .intro j t hj ht M
  have I:=ht.1
  refine .step (λn=>MT n _ _ _ _ _) (.pos (by simp;omega) (.ab (by omega) (by omega) λ_ _=>.eJ (by omega) λx hx=>?_))
  obtain⟨k,hk,rfl⟩:=J x (List.mem_of_getElem? hx)
  have e1:gI [AV.sc (.int .i64 (k:Int))] 0=(k:Int):=rfl
  rw[e1]
  refine .ite (λ_=>.ab (by omega) (by grind) λq hq=>?_) (λ_=>?_)
  .have hq:p[k]?=some q:=by simp_all
   have E:=List.mem_of_getElem? hq;have F:=hs.hl k q (by omega) hq;have c:=dG K E;refine .ask (ab5 _ ⟨trivial,ak c 1,ai c 2,ak c 3,ai c 4,ai c 5,ai c 6,ai c 7,ai c 8,ai c 9,trivial,ai c 11,ai c 12,ai c 13⟩ F.1 F.2.1 λx hx=>hs.cs E 4 hx) λy hy=>?_;have N:=hy.2;refine .fits (by omega) ?_;rw[aE (i:=(j:Int)+1) (by omega) (by omega)];exact M _ ⟨by grind,dt ht.2 hy.1.2⟩
  .rw[aE (i:=(j:Int)+1) (by omega) (by omega)];grind
end
end
section
open BD(cA)
section
variable {p:Rows}{i:Nat}{r:List AV}{s l g:Env}(hb:cA 16777216 p)(hn:p.length<=16)(hr:p[i]?=some r)(hp:∀(k:Nat)q,k<i->p[k]?=some q->Hd p k q)
include hb hn hr hp
theorem Pf{l:Rows}{s:ByteArray}(h:0<=bc l s):bc l s<l.length:=by unfold bc gr at*;cases e:l.findIdx? λr=>ay (gS r 1) s with|none=>grind|some k=>have:=(List.findIdx?_eq_some_iff_getElem.1 e).1;grind
theorem agx:T (λn=>H6 n (aH p i r s l g)) (AQ i λx=>x=aH p i r s l g/\Hd p i r):=by
 have J:=iF hb
 have K:r∈p:=List.mem_of_getElem? hr
 have hi:i<p.length:=(List.getElem?_eq_some_iff.1 hr).1
 have z:=dG J K
 have U:=bq (ai z 2)
 have O:=bq (ai z 13)
 have o:bd (p.take i):=by have:=wk (a:=0) (b:=i) J;simpa using this
 have hlt:(p.take i).length=i:=by grind
 have last:(gI r 0=1\/gI r 0=2)/\(gI r 0=1->gS r 3=bs [])->bc (p.take i) (gS r 1)<0->Ln r->(gD r 13).length<=16->((gD r 6).length<=32/\(gD r 8).length<=32/\(gD r 9).length<=1/\(gD r 11).length<=32/\(gD r 12).length<=32)->
  (∀e,e∈gD r 13->(gD e 3).length<=8/\(gD e 4).length<=32/\(gD e 5).length<=32/\(gD e 6).length<=32)->
  (ay (gS r 3) (bs [])=false->0<=bc (p.take i) (gS r 3)/\∀q,(p.take i)[(bc (p.take i) (gS r 3)).toNat]?=some q->gI q 0=2)->
  (∀q,q∈gD r 2->0<=bc (p.take i) (gS q 0)/\∀c,(p.take i)[(bc (p.take i) (gS q 0)).toNat]?=some c->gI c 0=1)->
  T (λn=>zS n (aH p i r s l g) (ct r)) (AQ i λx=>x=aH p i r s l g/\Hd p i r):=by
  intro kd nm ln le ls ev rf ex
  have F:ay (gS r 3) (bs [])=false->0<=bc p (gS r 3)/\bc p (gS r 3)<i/\∀q,p[(bc p (gS r 3)).toNat]?=some q->gI q 0=2:=λe=>by obtain⟨a,b⟩:=rf e;obtain⟨c,d⟩:=KW (by omega) a;grind
  have eY:∀q,q∈gD r 2->0<=bc p (gS q 0)/\bc p (gS q 0)<i/\∀c,p[(bc p (gS q 0)).toNat]?=some c->gI c 0=1:=λq hq=>by obtain⟨a,b⟩:=ex q hq;obtain⟨c,d⟩:=KW (by omega) a;grind
  refine .step (λn=>ZO n _ _) (.ask (sg (gD r 2) (ai z 2)) λb M=>.bw (by omega) λc=>?_);refine .eP (Q:=λx=>x=aH p i r s l g/\Hd p i r) ((ab6 hb hn hr hp ln (λe=>let h:=F e;⟨h.1,h.2.1⟩) λq hq=>let h:=eY q hq;⟨h.1,h.2.1⟩).mono λx hx=>?_);cases x with|aN t q u=>exact hx|ret x=>exact⟨hx,kd.1,kd.2,nm,ln,le,ls,ev,F,eY,M (by grind)⟩
 have kinds:(gI r 0=1\/gI r 0=2)/\(gI r 0=1->gS r 3=bs [])->bc (p.take i) (gS r 1)<0->Ln r->(gD r 13).length<=16->((gD r 6).length<=32/\(gD r 8).length<=32/\(gD r 9).length<=1/\(gD r 11).length<=32/\(gD r 12).length<=32)->
  (∀e,e∈gD r 13->(gD e 3).length<=8/\(gD e 4).length<=32/\(gD e 5).length<=32/\(gD e 6).length<=32)->
  (ay (gS r 3) (bs [])=false->0<=bc (p.take i) (gS r 3))->
  (∀q,q∈gD r 2->0<=bc (p.take i) (gS q 0))->
  T (λn=>sA n (gD r 2) ((gD r 2).length:Int) 0 (aH p i r s l g) (ct r) (p.take i)) (AQ i λx=>x=aH p i r s l g/\Hd p i r):=by
  intro kd nm ln le ls ev rf ex
  refine T.loop (σ:=Unit) (L:=λj _ n=>sA n (gD r 2) ((gD r 2).length:Int) j (aH p i r s l g) (ct r) (p.take i)) (gD r 2).length (λj _=>∀q,q∈(gD r 2).take j->∀c,(p.take i)[(bc (p.take i) (gS q 0)).toNat]?=some c->gI c 0=1) ?_ ?_ () (by simp)
  .intro _ hk
   have hk:∀q,q∈gD r 2->∀c,(p.take i)[(bc (p.take i) (gS q 0)).toNat]?=some c->gI c 0=1:=by grind
   refine .step (λn=>OI n _ _ _ _ _ _) (.neg (by simp) (.ite (λc=>?_) (λc=>?_)))
   .exact .bw (by omega) λ_=>last kd nm ln le ls ev (λe=>by grind) λq hq=>⟨ex q hq,hk q hq⟩
   .have h0:=rf c;have h1:=Pf hb hn hr hp h0;refine .cR (uZ (gS r 3) _ o) (.ab h0 h1 λq hq=>.bw (by omega) λD=>last kd nm ln le ls ev (λ_=>⟨h0,λV S=>?_⟩) λq hq=>⟨ex q hq,hk q hq⟩);grind
  .intro j _ hj hk I
   refine .step (λn=>OI n _ _ _ _ _ _) (.pos (by simp;omega) (.ab (by omega) (by omega) λx hx=>?_))
   have hx:(gD r 2)[j]?=some x:=by grind
   have h0:=ex x (List.mem_of_getElem? hx)
   have h1:=Pf hb hn hr hp h0
   refine .cR (uZ (gS x 0) _ o) (.ab h0 h1 λq hq=>.bw (by omega) λD=>?_)
   rw[aE (i:=(j:Int)+1) (by omega) (by omega)]
   refine I () λy hy=>?_
   rw[fJ hx]at hy
   rcases List.mem_append.1 hy with hy|hy
   .grind
   grind
 have names:(gI r 0=1\/gI r 0=2)/\(gI r 0=1->gS r 3=bs [])->bc (p.take i) (gS r 1)<0->Ln r->(gD r 13).length<=16->((gD r 6).length<=32/\(gD r 8).length<=32/\(gD r 9).length<=1/\(gD r 11).length<=32/\(gD r 12).length<=32)->
  (∀e,e∈gD r 13->(gD e 3).length<=8/\(gD e 4).length<=32/\(gD e 5).length<=32/\(gD e 6).length<=32)->
  T (λn=>vj n (gD r 2) ((gD r 2).length:Int) 0 (aH p i r s l g) (ct r) (p.take i)) (AQ i λx=>x=aH p i r s l g/\Hd p i r):=by
  intro kd nm ln le ls ev
  refine T.loop (σ:=Unit) (L:=λj _ n=>vj n (gD r 2) ((gD r 2).length:Int) j (aH p i r s l g) (ct r) (p.take i)) (gD r 2).length (λj _=>∀q,q∈(gD r 2).take j->0<=bc (p.take i) (gS q 0)) ?_ ?_ () (by simp)
  .intro _ hk
   have hk:∀q,q∈gD r 2->0<=bc (p.take i) (gS q 0):=by grind
   refine .step (λn=>OG n _ _ _ _ _ _) (.neg (by simp) (.ite (λc=>?_) (λc=>?_)))
   .exact .bw (by omega) λ_=>kinds kd nm ln le ls ev (λe=>by grind) hk
   .exact .cR (uZ (gS r 3) _ o) (.bw (by omega) λc=>kinds kd nm ln le ls ev (λ_=>cO c) hk)
  .intro j _ hj hk I
   refine .step (λn=>OG n _ _ _ _ _ _) (.pos (by simp;omega) (.ab (by omega) (by omega) λx hx=>.cR (uZ (gS x 0) _ o) (.bw (by omega) λD=>?_)))
   have hx:(gD r 2)[j]?=some x:=by simpa using hx
   rw[aE (i:=(j:Int)+1) (by omega) (by omega)];refine I () λy hy=>?_;rw[fJ hx]at hy;grind
 have N:(gI r 0=1\/gI r 0=2)/\(gI r 0=1->gS r 3=bs [])->Ln r->(gD r 13).length<=16->((gD r 6).length<=32/\(gD r 8).length<=32/\(gD r 9).length<=1/\(gD r 11).length<=32/\(gD r 12).length<=32)->
  T (λn=>vh n (aH p i r s l g) (ct r)) (AQ i λx=>x=aH p i r s l g/\Hd p i r):=by
  intro kd ln le ls
  refine .step (λn=>abz n _ _) ?_
  refine T.loop (σ:=Unit) (L:=λj _ n=>vg n (gD r 13) ((gD r 13).length:Int) j (aH p i r s l g) (ct r)) (gD r 13).length (λj _=>∀e,e∈(gD r 13).take j->(gD e 3).length<=8/\(gD e 4).length<=32/\(gD e 5).length<=32/\(gD e 6).length<=32) ?_ ?_ () (by simp)
  .intro _ hk
   have hk:∀e,e∈gD r 13->(gD e 3).length<=8/\(gD e 4).length<=32/\(gD e 5).length<=32/\(gD e 6).length<=32:=by grind
   refine .step (λn=>OA n _ _ _ _ _) (.neg (by simp) (.ez (by grind) ?_))
   have e1:((p.drop (0:Int).toNat).take ((i:Int).toNat-(0:Int).toNat))=p.take i:=by simp
   rw[e1];exact .cR (uZ (gS r 1) _ o) (.bw (by omega) λc=>names kd (cO c) ln le ls hk)
  .intro j _ hj hk I
   refine .step (λn=>OA n _ _ _ _ _) (.pos (by simp;omega) (.ab (by omega) (by omega) λx hx=>.ite (λc=>.bw (by omega) λD=>?_) (λc=>.bw (by omega) λc=>by cases c)))
   have hx:(gD r 13)[j]?=some x:=by simpa using hx
   have c:=cO c
   have D:=cO D
   simp only[Pc]at c
   rw[aE (i:=(j:Int)+1) (by omega) (by omega)]
   refine I () λy hy=>?_
   rw[fJ hx]at hy
   rcases List.mem_append.1 hy with hy|hy
   .grind
   grind
 have lens:(gI r 0=1\/gI r 0=2)/\(gI r 0=1->gS r 3=bs [])->T (λn=>sx n (aH p i r s l g) (ct r)) (AQ i λx=>x=aH p i r s l g/\Hd p i r):=by intro kd;refine .step (λn=>abF n _ _) (.ite (λc=>.ite (λD=>.bw (by omega) λR=>?_) (λ_=>.bw (by omega) λc=>by cases c)) (λ_=>.bw (by omega) λc=>by cases c));have c:=cO c;have D:((gD r 13).length:Int)<=16:=cO D;have R:((gD r 9).length:Int)<=1:=cO R;simp only[Pc]at c;exact N kd ⟨by omega,by omega,by omega⟩ (by omega) ⟨by omega,by omega,by omega,by omega,by omega⟩
 have E:∀b:Bool,(gI r 0=1\/gI r 0=2)/\(gI r 0=1->b=true)->T (λn=>AM n b (aH p i r s l g) (ct r)) (AQ i λx=>x=aH p i r s l g/\Hd p i r):=by intro b kd;refine .step (λn=>abK n _ _ _) (.ask (sD (gS r 1) (ak z 1)) λ_ _=>.bw (by omega) λ_=>.ite (λ_=>.ite (λc=>.ite (λ_=>.bw (by omega) λ_=>lens ⟨kd.1,λ_=>gh.1 c⟩) (λ_=>.bw (by omega) λc=>by cases c)) (λ_=>.bw (by omega) λc=>by cases c)) (λc=>.bw (by omega) λ_=>lens ⟨kd.1,λe=>by grind⟩))
 refine .step (λn=>ahW n _) (.ite (λc=>.bw (by omega) λ_=>E _ ⟨.inl (fO c),λ_=>c⟩) (λD=>.bw (by omega) λc=>E _ ⟨.inr (fO c),λe=>?_⟩));grind
end
end
end Go.AI
