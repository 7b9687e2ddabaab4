/- A part. -/
import Derived.Test.YteibmaelhdbgfaaGreatDoorPd
set_option linter.all false

namespace Go.AI
open Go
theorem ab2(l:Rows)(s:ByteArray)(hl:bd l):Ev (λn=>Gy n l s) (gr (λr=>ay s (gS r 0)) l):=.step (λn=>adX n) (Kl (J:=λn i=>zW n l s (l.length:Int) i) (by have:=bq hl;omega) (λn i=>Zb n))
theorem kH(l:Rows)(s:ByteArray)(hl:bd l):T (λn=>gu n l s) λb=>(b=true↔s∈bj l):=by
 refine .step (λn=>ae6 n) (.cR (ab2 l s hl) (.ret ?_))
 rw[decide_eq_true_iff,rD,List.any_eq_true]
 constructor
 .rintro⟨r,h1,h2⟩;rw[gh]at h2;rw[h2];exact List.mem_map_of_mem h1
 .intro h;obtain⟨r,h1,h2⟩:=List.mem_map.1 h;exact⟨r,h1,gh.2 h2.symm⟩
theorem sg(l:Rows)(hl:bd l):T (λn=>j5 n l) λb=>b=false->(bj l).Nodup:=by
 have hb:=bq hl
 refine .step (λn=>ac6 n) ?_
 refine T.lst (σ:=Unit) (L:=λi _ n=>zM n l l (l.length:Int) i) (by omega) (λn _ _=>MY n) (λi _=>(bj (l.take i)).Nodup) ?_ ?_ () (by simp)
 .intro _ h;refine(.ret λ_=>?_);simpa using h
 .intro i _ hi h z
  refineλr hr=>.ez (by omega) ?_
  have e:(l.drop (0:Int).toNat).take ((i:Int).toNat-(0:Int).toNat)=l.take i:=by simp
  rw[e];refine .ask (kH (l.take i) _ (by have:=wk (a:=0) (b:=i) hl;simpa using this)) λb o=>.ite (λ_=>.ret λe=>by cases e) (λc=>?_);refine z () ?_;rw[fJ hr];simp only[bj,List.map_append,List.map_cons,List.map_nil];rw[yu];exact⟨h,λq=>by rw[o.2 q]at c;cases c⟩
def ji(s:ByteArray):Prop:=∀c,c∈s.data.toList->c≠39
theorem T.i6{β:Type}{Q:β->Prop}{s:ByteArray}{i:Nat}{k:Nat->Int->Option β}(hi:i<s.size)(hk:∀x,s.data.toList[i]?=some x->T (λn=>k n (x.toNat:Int)) Q):T (λn=>Go.AI.i6 s (i:Int) (k n)) Q:=by
 have hm:i<s.data.toList.length:=by simpa using hi
 obtain⟨r,a,b⟩:=hk _ (List.getElem?_eq_getElem hm);exact⟨r,.i6 rfl (List.getElem?_eq_getElem hm) a,b⟩
theorem Qp(c:Int):T (λn=>wA n c) λb=>b=true->c≠39:=by refine .step (λn=>SJ n) ?_;refine .ite (λh=>.ite (λ_=>.ret λ_=>?_) (λ_=>.ite (λ_=>.ret λ_=>?_) (λ_=>.ret λe=>by cases e))) (λ_=>.ite (λh=>.ret λ_=>?_) (λ_=>.ret λe=>by cases e));all_goals have h:=cO h;omega
theorem agw(c:Int):T (λn=>Cr n c) λb=>b=true->c≠39:=by refine .step (λn=>SO n) (.ask (Qp c) λb hb=>.ite (λh=>.ret λ_=>hb h) (λ_=>?_));refine .ask (Q':=λb=>b=true->c≠39) (.step (λn=>PW n) (.ite (λh=>.ret λ_=>by have h:=cO h;omega) (λ_=>.ret λe=>by cases e))) λb hb=>.ite (λh=>.ret λ_=>hb h) (λ_=>.ret λh=>by have h:=fO h;omega)
theorem sD(s:ByteArray)(hs:bd s):T (λn=>ga n s) λb=>b=true->ji s/\s.size<=16:=by
 have no:T (λn=>(some false:Option Bool)) λb=>b=true->ji s/\s.size<=16:=.ret λe=>by cases e
 refine .step (λn=>SN n) (.ite (λ_=>no) (λc1=>.ite (λ_=>no) (λc2=>?_)))
 have c2:=eU c2
 have h0:=Jq c1
 refine T.i6 (i:=0) h0 λx _=>.ask (Qp _) λ_ _=>.ite (λ_=>no) (λ_=>.ask (SQ s hs) λ_ _=>.ite (λ_=>no) (λ_=>?_))
 refine T.loop (σ:=Unit) (L:=λi _ n=>sy n s (s.size:Int) i) s.size (λi _=>∀c,c∈s.data.toList.take i->c≠39) ?_ ?_ () (by simp)
 .intro _ h;refine .step (λn=>Aq n) (.neg (by simp) (.ret λ_=>⟨?_,by omega⟩));have:s.data.toList.take s.size=s.data.toList:=List.take_of_length_le (by simp);rw[this]at h;exact h
 .intro i _ hi h o
  refine .step (λn=>Aq n) (.pos (by simp;omega) (T.i6 hi λx hx=>.ask (agw _) λb hb=>.ite (λ_=>no) (λc=>?_)))
  rw[aE (i:=(i:Int)+1) (by omega) (by omega)]
  refine o () λy hy=>?_
  rw[fJ hx]at hy
  rcases List.mem_append.1 hy with hy|hy
  .exact h y hy
  .rw[List.mem_singleton]at hy;subst hy;intro e;have:=hb (by simpa using c);rw[e]at this;exact this rfl
def ajQ(l:Rows)(s:ByteArray)(t:fv):Prop:=∃d,d∈l/\gS d 0=s/\aK d 1=t
def ajB(l m:Rows):Prop:=∀s t,ajf t.2.2->ajQ l s t->ajQ m s t
theorem ab3(e:Env)(h:bd e)(he:Bb e):T (λn=>GQ n e) λr=>bd r/\r.1.length<=8/\r.2.length<=64/\ajB e.2 r.2:=by
 have I:=dc e h
 have E:=aB e h
 have h1:=he.c
 have h2:=he.n
 refine .step (λn=>ad3 n) ?_
 refine T.lst (σ:=Rows) (L:=λi s n=>Ae n e.1 (e.1.length:Int) i e [] [] s []) (by omega) (λn _ _=>M5 n) (λi s=>s.length=i/\cb 1099511627776 s) ?_ ?_ [] ⟨rfl,trivial⟩
 .intro s hs
  have A:=hs.1
  refine T.lst (σ:=Rows) (L:=λi t n=>An n e.2 (e.2.length:Int) i [] [] s t) (by omega) (λn _ _=>M6 n) (λi t=>t.length=i/\cb 1099511627776 t/\ajB (e.2.take i) t) ?_ ?_ [] ⟨rfl,trivial,λ_ _ _⟨_,h,_⟩=>by cases h⟩
  .intro t ht;have z:=ht.1;exact(.ret ⟨⟨⟨by show s.length<=_;omega,hs.2⟩,⟨by show t.length<=_;omega,ht.2.1⟩⟩,by show s.length<=_;omega,by show t.length<=_;omega,by have:=ht.2.2;rwa[List.take_length]at this⟩)
  .intro i t hi ht D;have z:=ht.1;intro r hr;have k:=an E hr;refine .ask (SS (aK r 1) ⟨trivial,ak k 2,ai k 3⟩) λx o=>.fits (by simp;omega) ?_;have hx:=o.1;exact D _ ⟨by simp;exact z,dt ht.2.1 (dL (bm (dv (ak k 0)) (bm ki (bm (dv (dc x.2 (aB x hx))) (bm (ef (aB x.2 (aB x hx))) ed)))) eg),λs t hc⟨d,h1,h2,h3⟩=>by
   rw[fJ hr]at h1
   rcases List.mem_append.1 h1 with h1|h1
   .obtain⟨N,J,g2⟩:=ht.2.2 s t hc ⟨d,h1,h2,h3⟩;exact⟨N,List.mem_append_left _ J,g2⟩
   .rw[List.mem_singleton]at h1;subst h1;refine⟨_,List.mem_append_right _ (List.mem_singleton.2 rfl),h2,?_⟩;rw[<-h3]at hc⊢;exact o.2.2.2 hc⟩
 .intro i s hi hs D;have A:=hs.1;intro r hr;have k:=an I hr;have kd:=ai k 1;refine .ask (uY (gD r 1) (by have:=he.k r (List.mem_of_getElem? hr);omega)) λx hx=>.fits (by simp;omega) ?_;subst hx;exact D _ ⟨by simp;exact A,dt hs.2 (dL (bm (dv (ak k 0)) (bm (ef kd) ed)) eg)⟩
theorem CC{s:ByteArray}{x:fv}(hs:bd s)(h:bd x):eS 1099511627776 (fA (s,x)):=bm (dv hs) (bm ki (bm (dv (dc x.2 (aB x h))) (bm (ef (aB x.2 (aB x h))) ed)))
theorem S3(e:Env)(s:ByteArray)(t:fv)(h:bd e)(hs:bd s)(ht:bd t):T (λn=>np n e s t) λr=>bd r/\(r.2.2=0->ajB e.2 r.2.1):=by have no:∀k:Int,k≠0->T (λn=>(some ([],[],k):Option (Rows×Rows×Int))) λr=>bd r/\(r.2.2=0->ajB e.2 r.2.1):=λk hk=>.ret ⟨⟨cK,cK,trivial⟩,λe=>absurd e hk⟩;refine .step (λn=>aht n) (.ask (lP e h) λb hb=>.ite (λ_=>no _ (by decide)) (λc=>?_));have he:=hb (iD c);have h1:=he.c;have h2:=he.n;refine .ask (SX s hs) λ_ _=>.ite (λ_=>no _ (by decide)) (λ_=>.ask (aie t ht) λ_ _=>.ite (λ_=>no _ (by decide)) (λ_=>.ask (Ql e h h1 h2 he.k) λx hx=>.ask (kH x s hx.1) λ_ _=>.ite (λ_=>no _ (by decide)) (λ_=>.ask (SY e t h ht) λ_ _=>.ite (λ_=>no _ (by decide)) (λ_=>.ite (λ_=>no _ (by decide)) (λ_=>.ask (ab3 e h he) λy hy=>.ask (SU t ht) λo hz=>.fits (by have:=hy.2.2.1;simp;omega) (.ret ⟨⟨hy.1.1,⟨?_,trivial⟩⟩,λ_ s t hc hh=>let⟨d,h1,h2⟩:=hy.2.2.2 s t hc hh;⟨d,List.mem_append_left _ h1,h2⟩⟩))))));exact⟨by have:=hy.2.2.1;simp;omega,dt hy.1.2.2 (dL (CC hs hz) eg)⟩
theorem As(cl:ByteArray)(e:Env)(s:ByteArray)(t:fv)(x:ar)(h:bd e)(hs:bd s)(ht:bd t):T (λn=>sM n cl e s t x) (AQ x.2.1 λr=>∃e':Env,bd e'/\r=(e'.1,e'.2,x)/\Ev (λn=>np n e s t) (e'.1,e'.2,0)/\ajB e.2 e'.2):=.step (λn=>ae9 n) (.mV (S3 e s t h hs ht) λy hv hy=>.fail λo=>.ok ⟨(y.1,y.2.1),⟨hy.1.1,hy.1.2.1⟩,rfl,(by
 have:((y.1,y.2.1).1,(y.1,y.2.1).2,0)=y:=by rw[<-o]
 rw[this];exact hv),hy.2 o⟩)
def da(w:Bool)(l m:Rows):Rows:=(l.filter λd=>(m.any λr=>ay (gS r 0) (gS d 0))==w).map λd=>[.sc (.string (gS d 0))]
theorem Qq(p:Rows)(i:Nat)(r:List AV)(w:Bool)(hp:bd p)(hr:p[i]?=some r)(he:∀r,r∈p->∀j,(gD r j).length<=16777216):∀q,(0<=bR p r->p[(bR p r).toNat]?=some q)->Ev (λn=>wz n p (i:Int) w) (if bR p r<0 then[]else da w (gD q 7) (gD r 7)):=by
 intro q hq
 refine .step (λn=>ahy n) (.ask (iY p i r hp hr) (.ite (λc=>?_) (λc=>?_)))
 .rw[if_pos (cO c)];exact .ret _
 .have c:=eU c
  rw[if_neg c]
  have hq:=hq (by omega)
  obtain⟨k,hk⟩:∃k:Nat,bR p r=k:=⟨(bR p r).toNat,by omega⟩
  rw[hk]at hq⊢
  have hq:p[k]?=some q:=by simpa using hq
  refine .ab rfl hq ?_
  have hl:=he q (List.mem_of_getElem? hq) 7
  refine T.ev ?_
  refine T.lst (σ:=Rows) (L:=λj s n=>AX n (i:Int) w (gD q 7) ((gD q 7).length:Int) j p s) (by omega) (λn _ _=>OV n) (λj s=>s=da w ((gD q 7).take j) (gD r 7)) ?_ ?_ [] (by simp[da])
  .intro s hs;exact(.ret (by rw[hs];simp))
  .intro j s hj hs z
   refineλd hd=>.ab (by omega) (by have:=(List.getElem?_eq_some_iff.1 hr).1;omega) λr' o=>?_
   have o:p[i]?=some r':=by simpa using o
   rw[hr]at o
   obtain rfl:=Option.some.inj o
   refine .cR (ab4 _ _ _ _ _ (ai (an hp hr) 7)) ?_
   have A:s.length<=16777216:=by rw[hs];unfold da;rw[List.length_map];exact Nat.le_trans (List.length_filter_le ..) (by simp;omega)
   have e1:da w ((gD q 7).take (j+1)) (gD r 7)=da w ((gD q 7).take j) (gD r 7)++da w [d] (gD r 7):=by rw[fJ hd];unfold da;simp
   refine .ite (λc=>.fits (by simp;omega) (.step (λn=>MZ n) ?_)) (λc=>.step (λn=>MZ n) ?_)
   .refine z _ ?_;rw[e1,hs];simp only[da,List.filter_cons,c,if_true,List.filter_nil,List.map_cons,List.map_nil]
   .refine z _ ?_;rw[e1,hs];simp only[da,List.filter_cons,c,Bool.false_eq_true,if_false,List.filter_nil,List.map_nil,List.append_nil]
theorem ab5(a0:dA)(h:bd a0)(h1:a0.2.2.2.2.1.length<=32)(h2:a0.2.2.2.2.2.1.length<=32)(he:∀r,r∈a0.2.2.2.2.1->(gD r 1).length<=16777216):T (λn=>GO n a0) λr=>bd r/\r.length<=1073741824:=by
 have z:bd a0.2.2.2.2.1:=h.2.2.2.2.1
 have D:bd a0.2.2.2.2.2.1:=h.2.2.2.2.2.1
 refine .step (λn=>adZ n) ?_
 refine T.lst (σ:=Rows) (L:=λi s n=>Ab n a0.2.2.2.2.1 (a0.2.2.2.2.1.length:Int) i a0 s) (by omega) (λn _ _=>M4 n) (λi s=>s.length<=16777217*i/\cb 1099511627776 s) ?_ ?_ [] ⟨by simp,trivial⟩
 .intro s hs
  have o:=hs.1
  refine T.lst (σ:=Rows) (L:=λi s n=>Ak n a0.2.2.2.2.2.1 (a0.2.2.2.2.2.1.length:Int) i s) (by omega) (λn _ _=>Np n) (λi s=>s.length<=536870944+i/\cb 1099511627776 s) ?_ ?_ s ⟨by omega,hs.2⟩
  .intro s hs;have o:=hs.1;exact(.ret ⟨⟨by omega,hs.2⟩,by omega⟩)
  .intro i s hi hs A;have o:=hs.1;refineλr hr=>.fits (by simp;omega) ?_;exact A _ ⟨by simp;omega,dt hs.2 (dL (bm (dv (ak (an D hr) 0)) ed) eg)⟩
 .intro i s hi hs A;have o:=hs.1;intro r hr;have E:=he r (List.mem_of_getElem? hr);refine .fits (by simp;omega) (.fits (by simp;omega) ?_);exact A _ ⟨by simp;omega,dt (dt hs.2 (dL (bm (dv (ak (an z hr) 0)) ed) eg)) (ai (an z hr) 1).2⟩
theorem Pa(e:Env)(h:bd e)(h1:e.1.length<=32768)(h2:e.2.length<=1073741824)(he:∀r,r∈e.1->(gD r 1).length<=16777216):T (λn=>BI n e) λr=>bd r/\r.length<=1000000000000:=by
 have z:=dc e h
 have D:=aB e h
 refine .step (λn=>ac4 n) ?_
 refine T.lst (σ:=Rows) (L:=λi s n=>zK n e.1 (e.1.length:Int) i e s) (by omega) (λn _ _=>Nr n) (λi s=>s.length<=16777217*i/\cb 1099511627776 s) ?_ ?_ [] ⟨by simp,trivial⟩
 .intro s hs
  have o:=hs.1
  refine T.lst (σ:=Rows) (L:=λi s n=>zL n e.2 (e.2.length:Int) i s) (by omega) (λn _ _=>Nx n) (λi s=>s.length<=549755846656+i/\cb 1099511627776 s) ?_ ?_ s ⟨by omega,hs.2⟩
  .intro s hs;have o:=hs.1;exact(.ret ⟨⟨by omega,hs.2⟩,by omega⟩)
  .intro i s hi hs A;have o:=hs.1;refineλr hr=>.fits (by simp;omega) ?_;exact A _ ⟨by simp;omega,dt hs.2 (dL (bm (dv (ak (an D hr) 0)) ed) eg)⟩
 .intro i s hi hs A;have o:=hs.1;intro r hr;have E:=he r (List.mem_of_getElem? hr);refine .fits (by simp;omega) (.fits (by simp;omega) ?_);exact A _ ⟨by simp;omega,dt (dt hs.2 (dL (bm (dv (ak (an z hr) 0)) ed) eg)) (ai (an z hr) 1).2⟩
section
open BD (cA)
def Ln(r:List AV):Prop:=(gD r 4).length<=32/\(gD r 5).length<=32/\(gD r 7).length<=32
structure ajn(r:List AV):Prop where c:∀x,x∈gD r 4->x=[.sc (.string (gS x 0)),.aQ (gD x 1) 1]k:ajz (gD r 5)v:ajz (gD r 7)
structure Sur(p:Rows)(i:Nat):Prop where
 hb:cA 16777216 p
 hc:∀r,r∈p->ajn r
 hn:p.length<=17
 hh:qo p (i+1)
 hi:i<p.length
 hl:∀(k:Nat)r,k<=i->p[k]?=some r->Ln r
def ajk(p:Rows)(l:List Nat)(j:Nat):Rows:=l.flatMap λk=>gD (ai5 p k) j
def ai6(p:Rows)(i:Nat):Env:=(ajk p (ai9 p i) 4,ajk p (ai9 p i) 5)
def ajb(p:Rows)(i:Nat):Rows:=(ajd p i).foldl (λv k=>ajc v (gD (ai5 p k) 7)) []
def dir(p:Rows)(r:List AV):Rows:=if 0<=bR p r then gD (ai5 p (bR p r).toNat) 7 else[]
theorem ajt{p:Rows}{i:Nat}{r:List AV}(h:p[i]?=some r):ai5 p i=r:=by rw[ai5,h];rfl
def vX(N:Nat)(e:Env):Prop:=bd e/\e.1.length<=N/\e.2.length<=N/\∀x,x∈e.1->(gD x 1).length<=16777216
theorem iF{p:Rows}(h:cA 16777216 p):bd p:=⟨Nat.le_trans h.1 (by omega),yE (by omega) h.2⟩
namespace Sur
variable {p:Rows}{i:Nat}(s:Sur p i)
include s
theorem bp:bd p:=iF s.hb
theorem e{r:List AV}(hr:r∈p)(j:Nat):(gD r j).length<=16777216:=(ai (dG s.hb hr) j).1
theorem ai4{r x:List AV}(hr:r∈p)(j:Nat)(hx:x∈gD r j):(gD x 1).length<=16777216:=(ai (dG (ai (dG s.hb hr) j) hx) 1).1
theorem ctx:T (λn=>jh n p (i:Int)) λl=>l=ba (ai9 p i):=Fs p s.bp (i+1) (by have:=s.hn;have:=s.hi;omega) s.hh (λr hr=>s.e hr 2) (i+1) i (by omega) (by omega) s.hi
theorem stat:T (λn=>oM n p (i:Int)) λe=>vX 544 e/\e=ai6 p i:=by
 have hn:=s.hn
 have hi:=s.hi
 refine .step (λn=>ah5 n) (.ask s.ctx λl hl=>?_)
 subst hl
 have hlen:=ajY p i
 refine T.loop (σ:=Rows×Rows) (L:=λj s n=>AU n ((ba (ai9 p i)).length:Int) j p (ba (ai9 p i)) [] [] s.1 s.2) (ba (ai9 p i)).length (λj s=>((s.1.length<=j*32/\cb 1099511627776 s.1)/\(s.2.length<=j*32/\cb 1099511627776 s.2)/\∀x,x∈s.1->(gD x 1).length<=16777216)/\s=(ajk p ((ai9 p i).take j) 4,ajk p ((ai9 p i).take j) 5)) ?_ ?_ ([],[]) ⟨⟨⟨by simp,trivial⟩,⟨by simp,trivial⟩,by simp⟩,rfl⟩
 .rintro s⟨hs,e⟩;have h1:=hs.1.1;have h2:=hs.2.1.1;simp only[List.length_map,List.take_length]at h1 h2 e;exact .step (λn=>OP n) (.neg (by simp) (.ret ⟨⟨⟨⟨by show s.1.length<=_;omega,hs.1.2⟩,⟨by show s.2.length<=_;omega,hs.2.1.2⟩⟩,by show s.1.length<=_;omega,by show s.2.length<=_;omega,hs.2.2⟩,e⟩))
 .rintro j⟨a,b⟩hj⟨hs,e⟩D
  have hj:j<(ai9 p i).length:=by simpa using hj
  have h1:a.length<=j*32:=hs.1.1
  have h2:b.length<=j*32:=hs.2.1.1
  refine .step (λn=>OP n) (.pos (by simp;omega) (.ab (by omega) (by simp;omega) λ_ _=>.eJ (by simp;omega) λr hr=>?_))
  obtain⟨k,z,rfl⟩:=ur hr
  have z:(ai9 p i)[j]?=some k:=by simpa using z
  have hk:=ajP p i k (List.mem_of_getElem? z)
  have e1:gI [AV.sc (.int .i64 (k:Int))] 0=(k:Int):=rfl
  rw[e1]
  refine .ab (by omega) (by omega) λq hq=>?_
  have hq:p[k]?=some q:=by simpa using hq
  have I:=(s.hl k q (by omega) hq).1
  have E:=(s.hl k q (by omega) hq).2.1
  refine .fits (by omega) (.ab (by omega) (by omega) λA o=>?_)
  have o:p[k]?=some A:=by simpa using o
  rw[hq]at o
  obtain rfl:=Option.some.inj o
  refine .fits (by omega) ?_
  rw[aE (i:=(j:Int)+1) (by omega) (by omega)]
  refine D (a++gD q 4,b++gD q 5) ⟨⟨⟨by show(a++gD q 4).length<=_;rw[List.length_append];omega,dt hs.1.2 (ai (an s.bp hq) 4).2⟩,⟨by show(b++gD q 5).length<=_;rw[List.length_append];omega,dt hs.2.1.2 (ai (an s.bp hq) 5).2⟩,λx hx=>?_⟩,?_⟩
  .rcases List.mem_append.1 hx with hx|hx
   .exact hs.2.2 x hx
   .exact s.ai4 (List.mem_of_getElem? hq) 4 hx
  .cases e;simp[fJ z,ajk,ajt hq]
theorem Iq:T (λn=>wB n p (i:Int)) λr=>bd r/\r.length<=544/\r=ajb p i:=by
 have hn:=s.hn
 have hi:=s.hi
 refine .step (λn=>ah9 n) (.ask (Qn p s.bp (i+1) (by omega) s.hh (i+1) i (by omega) (by omega) hi) λl hl=>?_)
 subst hl
 obtain⟨hle,I⟩:=ajN p (i+1) i (by omega)
 let N:Nat->Rows->Prop:=λj t=>(bd t/\t.length<=j*32)/\t=((ajd p i).take j).foldl (λv k=>ajc v (gD (ai5 p k) 7)) []
 have step:∀{J:Nat->Rows->Option Rows}{j:Nat}{t:Rows},j<(ajd p i).length->N j t->(∀s',N (j+1) s'->T (λn=>J n s') λr=>bd r/\r.length<=544/\r=ajb p i)->T (λn=>ab (ba (ajd p i)) (j:Int) λ_=>(eJ (ba (ajd p i)) (j:Int).toNat λr1=>(ab p (gI r1 0) λr2=>(ask (s5 n t (gD r2 7)) λA=>J n A)))) λr=>bd r/\r.length<=544/\r=ajb p i:=by
  rintro J j t hj⟨hs,e⟩hJ
  refine .ab (by omega) (by simp;omega) λ_ _=>.eJ (by simp;omega) λr hr=>?_
  obtain⟨k,o,rfl⟩:=ur hr
  have o:(ajd p i)[j]?=some k:=by simpa using o
  have hk:=hle k (List.mem_of_getElem? o)
  have e1:gI [AV.sc (.int .i64 (k:Int))] 0=(k:Int):=rfl
  rw[e1]
  refine .ab (by omega) (by omega) λq hq=>?_
  have hq:p[k]?=some q:=by simpa using hq
  have m:=(s.hl k q hk hq).2.2;have E:=hs.2;exact .ask (Qm t (gD q 7) hs.1 (ai (an s.bp hq) 7) (by omega) (s.hc q (List.mem_of_getElem? hq)).v) λx hx=>hJ x ⟨⟨hx.1,by have:=hx.2.1;omega⟩,by rw[fJ o,List.foldl_append,<-e,hx.2.2];simp[ajt hq]⟩
 have h0:N 0 []:=⟨⟨cK,Nat.zero_le _⟩,rfl⟩
 have loop:∀k,k<=(ajd p i).length->∀t,N k t->T (λn=>ug n ((ba (ajd p i)).length:Int) (k:Int) p t (ba (ajd p i))) λr=>bd r/\r.length<=544/\r=ajb p i:=by
  intro k hk t ht
  refine T.lO (σ:=Rows) (L:=λj s n=>ug n ((ba (ajd p i)).length:Int) j p s (ba (ajd p i))) (ajd p i).length N ?_ ?_ k hk t ht
  .rintro t⟨hs,e⟩;have h1:t.length<=(ajd p i).length*32:=hs.2;rw[List.take_length]at e;exact .step (λn=>LQ n) (.neg (by simp) (.ret ⟨hs.1,by omega,e⟩))
  .intro j t hj hs D;refine .step (λn=>LQ n) (.pos (by simp;omega) ?_);rw[aE (i:=(j:Int)+1) (by omega) (by omega)];exact step (J:=λn s'=>ug n ((ba (ajd p i)).length:Int) ((j:Int)+1) p s' (ba (ajd p i))) hj hs D
 refine .step (λn=>abx n) (.ite (λc=>?_) (λc=>?_))
 .have c:=cO c;refine step (j:=0) (J:=λn s'=>ug n ((ba (ajd p i)).length:Int) (be (0+1)) p s' (ba (ajd p i))) (by simp at c;omega) h0 λs' z=>?_;rw[aE (i:=(0:Int)+1) (by omega) (by omega)];exact loop 1 (by simp at c;omega) s' z
 .have c:=eU c;rw[ajd]at c;simp at c
theorem loc{r:List AV}(hr:p[i]?=some r):T (λn=>l5 n p (i:Int)) λe=>vX 1100 e/\e=((ai6 p i).1,(ai6 p i).2++gD r 7):=by
 have hi:=s.hi
 refine .step (λn=>ahR n) (.ask s.stat λe⟨ee,z⟩=>.ab (by omega) (by omega) λr' o=>?_)
 have o:p[i]?=some r':=by simpa using o
 rw[hr]at o;obtain rfl:=Option.some.inj o;have m:=(s.hl i r (Nat.le_refl _) hr).2.2;have e1:=ee.2.1;have e2:=ee.2.2.1;exact .fits (by omega) (.ret ⟨⟨⟨dc e ee.1,HV (aB e ee.1) (ai (an s.bp hr) 7) (by omega)⟩,by show e.1.length<=_;omega,by show(e.2++gD r 7).length<=_;rw[List.length_append];omega,ee.2.2.2⟩,by rw[<-z]⟩)
theorem Ir:T (λn=>wC n p (i:Int)) λe=>vX 1100 e/\e=((ai6 p i).1,(ai6 p i).2++ajb p i):=by refine .step (λn=>ahq n) (.ask s.stat λe⟨ee,o⟩=>.ask s.Iq λx hx=>?_);have e1:=ee.2.1;have e2:=ee.2.2.1;have e3:=hx.2.1;exact .fits (by omega) (.ret ⟨⟨⟨dc e ee.1,HV (aB e ee.1) hx.1 (by omega)⟩,by show e.1.length<=_;omega,by show(e.2++x).length<=_;rw[List.length_append];omega,ee.2.2.2⟩,by rw[<-o,<-hx.2.2]⟩)
theorem glu{r:List AV}(hr:p[i]?=some r):T (λn=>Cs n p (i:Int)) λe=>vX 1100 e/\e=((ai6 p i).1,(ai6 p i).2++ajc (dir p r) (gD r 7)):=by
 have hi:=s.hi
 have hlt:=lI s.hh (by omega) hr
 refine .step (λn=>ahZ n) (.ask s.stat λe⟨ee,A⟩=>.cR (iY p i _ s.bp hr) ?_)
 have e1:=ee.2.1
 have e2:=ee.2.2.1
 have fin:∀v:Rows,bd v->v.length<=32->v=dir p r->T (λn=>A1 n (i:Int) v p [] [] e.1 e.2) λe=>vX 1100 e/\e=((ai6 p i).1,(ai6 p i).2++ajc (dir p r) (gD r 7)):=λv hv hl z=>by
  refine .step (λn=>abP n) (.ab (by omega) (by omega) λr' o=>?_)
  have o:p[i]?=some r':=by simpa using o
  rw[hr]at o;obtain rfl:=Option.some.inj o;have m:=(s.hl i r (Nat.le_refl _) hr).2.2;refine .ask (Qm v (gD r 7) hv (ai (an s.bp hr) 7) (by omega) (s.hc r (List.mem_of_getElem? hr)).v) λx hx=>?_;have e3:=hx.2.1;exact .fits (by omega) (.ret ⟨⟨⟨dc e ee.1,HV (aB e ee.1) hx.1 (by omega)⟩,by show e.1.length<=_;omega,by show(e.2++x).length<=_;rw[List.length_append];omega,ee.2.2.2⟩,by rw[<-A,<-z,<-hx.2.2]⟩)
 refine .ite (λc=>?_) (λc=>fin [] cK (by simp) (if_neg (eU c)).symm)
 have c:=cO c
 obtain⟨k,hk⟩:∃k:Nat,bR p r=k:=⟨(bR p r).toNat,by omega⟩
 rw[hk]
 refine .ab (by omega) (by omega) λq hq=>?_
 have hq:p[k]?=some q:=by simpa using hq
 exact fin _ (ai (an s.bp hq) 7) (s.hl k q (by omega) hq).2.2 (by rw[dir,if_pos c,hk];simp[ajt hq])
end Sur
theorem NH{l m:Rows}{s:ByteArray}(h0:0<=bc (l++m) s)(h1:bc (l++m) s<l.length)(o:Rows):bc (l++o) s=bc (l++m) s:=by unfold bc gr at*;rw[List.findIdx?_append]at*;rw[List.findIdx?_append];cases h:l.findIdx? λr=>ay (gS r 1) s with|some k=>simp|none=>rw[h]at h0 h1;exfalso;cases h':m.findIdx? λr=>ay (gS r 1) s with|none=>rw[h']at h0;simp at h0|some k=>rw[h']at h1;simp at h1;omega
theorem y9{p:Rows}{i:Nat}{s:ByteArray}(hi:i<=p.length)(h0:0<=bc p s)(h1:bc p s<i)(o:Rows):bc (p.take i++o) s=bc p s:=by have e:p=p.take i++p.drop i:=(List.take_append_drop i p).symm;rw[e]at h0 h1;have:=NH h0 (by rw[List.length_take];omega) o;rw[this,<-e]
theorem KW{p:Rows}{i:Nat}{s:ByteArray}(hi:i<=p.length)(h0:0<=bc (p.take i) s):bc p s=bc (p.take i) s/\bc p s<i:=by
 have e:p=p.take i++p.drop i:=(List.take_append_drop i p).symm
 have h1:bc (p.take i) s<i:=by unfold bc gr at h0⊢;cases h:(p.take i).findIdx? λr=>ay (gS r 1) s with|none=>rw[h]at h0;simp at h0|some k=>have:=(List.findIdx?_eq_some_iff_getElem.1 h).1;rw[List.length_take]at this;simp;omega
 have:=NH (l:=p.take i) (m:=[]) (s:=s) (by simpa using h0) (by rw[List.length_take];simp;omega) (p.drop i);rw[<-e]at this;rw[this];simp;exact h1
theorem Pb{p:Rows}{i:Nat}{w:List AV}(hi:i<=p.length):∀k,(p.take i++[w])[k]?=if k<i then p[k]? else if k=i then some w else none:=by
 intro k
 have hl:(p.take i).length=i:=by rw[List.length_take];omega
 split
 .rename_i h;rw[List.getElem?_append_left (by omega),List.getElem?_take];simp[h]
 .rename_i h
  rw[List.getElem?_append_right (by omega),hl]
  split
  .rename_i h2;subst h2;simp
  .rw[List.getElem?_eq_none (by simp;omega)]
theorem Sur.put{p:Rows}{i:Nat}{r w:List AV}(hb:cA 16777216 p)(hc:∀r,r∈p->ajn r)(A:ajn w)(hn:p.length<=16)(hr:p[i]?=some r)(h:qo p i)(hl:∀k r,k<i->p[k]?=some r->Ln r)(e3:ay (gS w 3) (bs [])=false->0<=bc p (gS w 3)/\bc p (gS w 3)<i)(e2:∀q,q∈gD w 2->0<=bc p (gS q 0)/\bc p (gS q 0)<i)(hw:eS 16777216 w)(z:Ln w):Sur (p.take i++[w]) i:=by
 have hi:i<p.length:=(List.getElem?_eq_some_iff.1 hr).1
 have hlen:(p.take i++[w]).length=i+1:=by simp;omega
 refine⟨⟨by rw[hlen];omega,dt (lL λr hr=>qi hb.2 (List.mem_of_mem_take hr)) (dL hw eg)⟩,(λr hr=>(List.mem_append.1 hr).elim (λh=>hc r (List.mem_of_mem_take h)) λh=>by rw[List.mem_singleton.1 h];exact A),by rw[hlen];omega,⟨λj r' hj o he=>?_,λj r' hj o q hq=>?_⟩,by rw[hlen];omega,λk r' hk o=>?_⟩
 .rw[Pb (by omega)]at o
  split at o
  .rename_i h1;have:=h.rf j r' h1 o he;rw[y9 (by omega) this.1 (by omega)];exact this
  .split at o
   .rename_i h1;obtain rfl:=Option.some.inj o;subst h1;have:=e3 he;rw[y9 (by omega) this.1 this.2];exact this
   .cases o
 .rw[Pb (by omega)]at o
  split at o
  .rename_i h1;have:=h.ex j r' h1 o q hq;rw[y9 (by omega) this.1 (by omega)];exact this
  .split at o
   .rename_i h1;obtain rfl:=Option.some.inj o;subst h1;have:=e2 q hq;rw[y9 (by omega) this.1 this.2];exact this
   .cases o
 .rw[Pb (by omega)]at o
  split at o
  .exact hl k r' (by omega) o
  .split at o
   .obtain rfl:=Option.some.inj o;exact z
   .cases o
end
section
open BD (cA)
theorem alg{p:Rows}{n k:Nat}(h:qo p n)(hk:k<n)(hl:k<p.length):ay (gS (ai5 p k) 3) (bs [])=true\/0<=bc p (gS (ai5 p k) 3)/\bc p (gS (ai5 p k) 3)<k:=by cases e:ay (gS (ai5 p k) 3) (bs [])with|true=>exact .inl rfl|false=>exact .inr (h.rf k _ hk (by simp[ai5,hl]) e)
section
variable {p q:Rows}{i:Nat}(hh:qo p (i+1))(hi:i<p.length)(hk:∀k,k<=i->gI (ai5 q k) 0=gI (ai5 p k) 0/\gD (ai5 q k) 2=gD (ai5 p k) 2/\gS (ai5 q k) 3=gS (ai5 p k) 3)(hf:∀s,0<=bc p s->bc p s<i->bc q s=bc p s)
include hh hi hk hf
theorem ake{k:Nat}(h:k<=i):bR q (ai5 q k)=bR p (ai5 p k):=by
 unfold bR
 rw[(hk k h).2.2]
 rcases alg hh (k:=k) (by omega) (by omega)with e|⟨e1,e2⟩
 .rw[if_pos e,if_pos e]
 .rw[hf _ e1 (by omega)]
theorem akO:∀(b k:Nat),k<b->k<=i->al q k=al p k
 |0,k,h,_=>absurd h (by omega)
 |b+1,k,h,o=>by
  have e1:ajA q k=ajA p k:=by unfold ajA;rw[ake hh hi hk hf o,(hk k o).1,(hk k o).2.1];congr 1;refine List.map_congr_left λx hx=>?_;have:=hh.ex k (ai5 p k) (by omega) (by simp[ai5,show k<p.length by omega]) x hx;rw[hf _ this.1 (by omega)]
  unfold al
  rw[e1]
  congr 1
  funext j
  split
  .rw[ajw,ajw,akO b j (by omega) (by omega),(hk j (by omega)).1]
  .rfl
theorem akP:∀(b k:Nat),k<b->k<=i->ajd q k=ajd p k
 |0,k,h,_=>absurd h (by omega)
 |b+1,k,h,o=>by
  rw[ajd.eq_1 q k,ajd.eq_1 p k,ake hh hi hk hf o]
  split
  .rw[akP b _ (by omega) (by omega)]
  .rfl
end
def sb(p:Rows)(i:Nat):Env:=(ajk p (aja (al p i)) 4,ajk p (aja (al p i)) 5)
def ajg(p:Rows)(i:Nat):Rows:=if 0<=bR p (ai5 p i)/\(bR p (ai5 p i)).toNat<i then ajb p (bR p (ai5 p i)).toNat else[]
theorem akf(p:Rows)(i:Nat):ajb p i=ajc (ajg p i) (gD (ai5 p i) 7):=by
 unfold ajb ajg
 rw[ajd,List.foldl_append]
 split
 .rfl
 .rfl
theorem akQ(p:Rows)(l:List Nat)(i j:Nat):ajk p (l++[i]) j=ajk p l j++gD (ai5 p i) j:=by simp[ajk]
theorem akR(p:Rows)(i:Nat)(h:gI (ai5 p i) 0=1\/gD (ai5 p i) 4=[]/\gD (ai5 p i) 5=[]):ai6 p i=((sb p i).1++gD (ai5 p i) 4,(sb p i).2++gD (ai5 p i) 5):=by
 unfold ai6 sb
 rw[ajw]
 have hn:i∉aja (al p i):=λh=>by have:=ajO p (i+1) i (by omega) i (((ajv _).2 i).1 h);omega
 split
 .rw[akd,qU,if_neg hn,akQ,akQ]
 .rename_i e
  rcases h with h|⟨h1,h2⟩
  .exact absurd h e
  .rw[h1,h2];simp
section
variable {p:Rows}{i:Nat}{r w:List AV}(hh:qo p (i+1))(hr:p[i]?=some r)(h0:gI w 0=gI r 0)(h2:gD w 2=gD r 2)(h3:gS w 3=gS r 3)
include hr
theorem ajZ{k:Nat}:k<=i->ai5 (p.take i++[w]) k=if k<i then ai5 p k else w:=by
 intro h
 have hi:=(List.getElem?_eq_some_iff.1 hr).1
 unfold ai5
 rw[Pb (by omega)]
 split
 .rfl
 .rw[if_pos (by omega)];rfl
include hh h0 h2 h3
theorem akS(h4:gD w 4=[])(h5:gD w 5=[]):ai6 (p.take i++[w]) i=sb p i/\ajb (p.take i++[w]) i=ajc (ajg p i) (gD w 7):=by
 have hi:=(List.getElem?_eq_some_iff.1 hr).1
 have z:=ajt hr
 have hk:∀k,k<=i->gI (ai5 (p.take i++[w]) k) 0=gI (ai5 p k) 0/\gD (ai5 (p.take i++[w]) k) 2=gD (ai5 p k) 2/\gS (ai5 (p.take i++[w]) k) 3=gS (ai5 p k) 3:=λk hk=>by
  rw[ajZ hr hk]
  split
  .exact⟨rfl,rfl,rfl⟩
  .obtain rfl:k=i:=by omega
   rw[z];exact⟨h0,h2,h3⟩
 have hf:∀s,0<=bc p s->bc p s<i->bc (p.take i++[w]) s=bc p s:=λs a b=>y9 (by omega) a b _
 have ew:ai5 (p.take i++[w]) i=w:=by rw[ajZ hr (aC _),if_neg (by omega)]
 have eg:∀(l:List Nat)(j:Nat),(∀k,k∈l->k<i)->ajk (p.take i++[w]) l j=ajk p l j:=λl j h=>by unfold ajk;rw[List.flatMap_def,List.flatMap_def];exact congrArg _ (List.map_congr_left λk hk=>by rw[ajZ hr (by have:=h k hk;omega),if_pos (h k hk)])
 have ea:=akO hh hi hk hf (i+1) i (by omega) (aC _)
 have hl:∀k,k∈aja (al p i)->k<i:=λk hk=>ajO p (i+1) i (by omega) k (((ajv _).2 k).1 hk)
 refine⟨?_,?_⟩
 .rw[akR _ _ (.inr (by rw[ew];exact⟨h4,h5⟩)),ew,h4,h5,List.append_nil,List.append_nil];unfold sb;rw[ea,eg _ _ hl,eg _ _ hl]
 .rw[akf,ew]
  congr 1
  unfold ajg
  rw[ake hh hi hk hf (aC _)]
  split
  .rename_i c
   unfold ajb
   rw[akP hh hi hk hf (i+1) _ (by omega) (by omega)]
   have hc:=(ajN p i _ c.2).1
   generalize(bR p (ai5 p i)).toNat=m at*
   have:∀l:List Nat,(∀k,k∈l->k<i)->∀v,l.foldl (λv k=>ajc v (gD (ai5 (p.take i++[w]) k) 7)) v=l.foldl (λv k=>ajc v (gD (ai5 p k) 7)) v:=by intro l;induction l with|nil=>intro _ _;rfl|cons k l o=>intro h v;have hk:=h k (by simp);rw[List.foldl_cons,List.foldl_cons,ajZ hr (by omega),if_pos hk,o λx hx=>h x (by simp[hx])]
   exact this _ (λk hk=>by have:=hc k hk;omega) _
  .rfl
end
end
section
open BD (cA)
theorem akg{o:Type}:∀(w b:List o),w.Nodup->(∀x,x∈w->x∈b)->w.length<=b.length
 |[],b,_,_=>Nat.zero_le _
 |a::w,b,hn,hs=>by
  rw[List.nodup_cons]at hn
  obtain⟨b1,b2,rfl⟩:=List.append_of_mem (hs a (List.mem_cons_self ..))
  have z:=akg w (b1++b2) hn.2 λy hy=>by
   have:=hs y (List.mem_cons_of_mem _ hy)
   rw[List.mem_append,List.mem_cons]at this
   rcases this with h|rfl|h
   .exact List.mem_append_left _ h
   .exact absurd hy hn.1
   .exact List.mem_append_right _ h
  simp at z⊢;omega
theorem ai8.sub{c a J V:Rows}(v:ai8 (c,a++J))(hn:(bj V).Nodup)(hs:∀d,d∈V->d∈J):ai8 (c,a++V):=by
 have hN:∀s,s∈bj V->s∈bj J:=λs h=>by obtain⟨d,hd,rfl⟩:=List.mem_map.1 h;exact List.mem_map_of_mem (hs d hd)
 have hl:=akg _ _ hn hN
 have h1:=v.n
 refine⟨v.c,?_,v.k,λd hd=>v.t d ?_,?_⟩
 .simp at h1 hl⊢;omega
 .rcases List.mem_append.1 hd with h|h
  .exact List.mem_append_left _ h
  .exact List.mem_append_right _ (hs d h)
 .have hd:=v.d;unfold ajJ at hd⊢;simp only[bj,List.map_append]at hd⊢;rw[<-List.append_assoc,List.nodup_append]at hd⊢;exact⟨hd.1,hn,λx hx y hy=>hd.2.2 x hx y (hN y hy)⟩
theorem akh(c a:Rows):(ajo c++ajs a).map (·.1)=ajJ (c,a):=by unfold ajJ ajs;rw[List.map_append,List.map_map];congr 1;induction c with|nil=>rfl|cons r c o=>simp[ajo,ajI]at o⊢;rw[o];rfl
theorem aki(s:ByteArray)(row:List AV)(l:List (ByteArray×List AV))(h:(l.map (·.1)).Nodup):mP (aju l) s=some row↔∃v,(s,v)∈l/\row=.sc (.string s)::v:=by
 have key:∀l:List (ByteArray×List AV),(l.reverse.map (·.1)).Nodup->(mP (aju l.reverse) s=some row↔∃v,(s,v)∈l.reverse/\row=.sc (.string s)::v):=by
  intro l
  induction l with
  |nil=>intro _;exact⟨(λh=>by cases h),λ⟨v,h,_⟩=>by cases h⟩
  |cons x l o=>
   intro h
   rw[List.reverse_cons]at h⊢
   rw[List.map_append,List.map_singleton,yu]at h
   have e:aju (l.reverse++[x])=bG (aju l.reverse) x.1 x.2:=by unfold aju;rw[List.foldl_append];rfl
   rw[e,akI]
   split
   .rename_i hk
    subst hk
    constructor
    .intro h';cases h';exact⟨x.2,by simp,rfl⟩
    .rintro⟨v,hv,rfl⟩
     rcases List.mem_append.1 hv with hv|hv
     .exact absurd (List.mem_map_of_mem (f:=(·.1)) hv) h.2
     .rw[List.mem_singleton]at hv;rw[<-hv]
   .rename_i hk
    rw[o h.1]
    constructor
    .rintro⟨v,hv,e⟩;exact⟨v,List.mem_append_left _ hv,e⟩
    .rintro⟨v,hv,e⟩
     rcases List.mem_append.1 hv with hv|hv
     .exact⟨v,hv,e⟩
     .rw[List.mem_singleton]at hv;rw[<-hv]at hk;exact absurd rfl hk
 have:=key l.reverse;rw[List.reverse_reverse]at this;exact this h
theorem alh{c a:Rows}(v:ai8 (c,a)){s:ByteArray}{t:fv}(h:ajQ a s t):mP (aju (ajo c++ajs a)) s=some (.sc (.string s)::cy t):=by obtain⟨d,h1,rfl,rfl⟩:=h;exact(aki _ _ _ (by rw[akh];exact v.d)).2 ⟨_,List.mem_append_right _ (List.mem_map_of_mem h1),rfl⟩
section
variable {N N' C:Rows}
structure ai7(N N' C:Rows)(F G:Option Cz):Prop where up:∀x,F=some x->x.2.2.2.1=0->x.2.2.2.2.1=N/\x.2.2.2.2.2.1=C/\G=some (x.1,x.2.1,x.2.2.1,x.2.2.2.1,N',x.2.2.2.2.2)
namespace ai7
variable {β γ:Type}{F G:Option Cz}
theorem none:ai7 N N' C .none G:=⟨λ_ h=>by cases h⟩
theorem ite{b:Bool}{x y z o:Option Cz}(h:ai7 N N' C x z)(h':ai7 N N' C y o):ai7 N N' C (aa b x y) (aa b z o):=by cases b<;>assumption
theorem asks{F:Option β}{k o:β->Option Cz}(h:∀x,ai7 N N' C (k x) (o x)):ai7 N N' C (Go.AI.ask F k) (Go.AI.ask F o):=by cases F with|none=>exact .none|some x=>exact h x
theorem fits{n m:Nat}{k o:Option Cz}(h:ai7 N N' C k o):ai7 N N' C (Go.AI.fits n m k) (Go.AI.fits n m o):=by
 unfold Go.AI.fits
 split
 .exact h
 .exact .none
theorem ab{l:List β}{i:Int}{k o:β->Option Cz}(h:∀x,ai7 N N' C (k x) (o x)):ai7 N N' C (Go.AI.ab l i k) (Go.AI.ab l i o):=by
 unfold Go.AI.ab
 split
 .split
  .exact h _
  .exact .none
 .exact .none
theorem ok{a b c p}{e:Int}:ai7 N N' C (some (a,b,c,e,N,C,p)) (some (a,b,c,e,N',C,p)):=⟨λx h _=>by cases h;exact⟨rfl,rfl,rfl⟩⟩
theorem bad{x:Cz}(h:x.2.2.2.1≠0):ai7 N N' C (some x) G:=⟨λy e h'=>by cases e;exact absurd h' h⟩
theorem kid{k o:Cz->Option Cz}(h:ai7 N N' C F G)(hk:∀a b c e p,ai7 N N' C (k (a,b,c,e,N,C,p)) (o (a,b,c,e,N',C,p))){A z:Cz->Cz}(hz:∀x,(A x).2.2.2.1=x.2.2.2.1):ai7 N N' C (Go.AI.ask F λx=>aa (x.2.2.2.1 !=0) (some (A x)) (k x)) (Go.AI.ask G λx=>aa (x.2.2.2.1 !=0) (some (z x)) (o x)):=by
 cases F with
 |none=>exact .none
 |some x=>
  by_cases e:x.2.2.2.1=0
  .obtain⟨rfl,rfl,rfl⟩:=h.up x rfl e;show ai7 _ _ _ (aa (x.2.2.2.1 !=0) _ _) (aa (x.2.2.2.1 !=0) _ _);rw[show(x.2.2.2.1 !=0)=false by rw[e];rfl];exact hk x.1 x.2.1 x.2.2.1 x.2.2.2.1 x.2.2.2.2.2.2
  .show ai7 _ _ _ (aa (x.2.2.2.1 !=0) _ _) _;rw[show(x.2.2.2.1 !=0)=true by simpa using e];exact .bad (by rw[hz];exact e)
theorem kid2{k o:Cz->Option Cz}(h:ai7 N N' C F G)(hk:∀a b c e p,ai7 N N' C (k (a,b,c,e,N,C,p)) (o (a,b,c,e,N',C,p))):ai7 N N' C (Go.AI.ask F λx=>aa (x.2.2.2.1==0) (k x) (some x)) (Go.AI.ask G λx=>aa (x.2.2.2.1==0) (o x) (some x)):=by
 have e:∀{a b:Option Cz}{x:Cz},aa (x.2.2.2.1==0) a b=aa (x.2.2.2.1 !=0) b a:=λ{a b x}=>by unfold bne;cases x.2.2.2.1==0<;>rfl
 simp only[e];exact kid h hk λ_=>rfl
end ai7
def ajj(N N' C:Rows){β:Type}(F G:Option (β×Rows×Rows×Rows)):Prop:=F=.none\/∃b p,F=some (b,N,C,p)/\G=some (b,N',C,p)
namespace ajj
variable {β γ:Type}
theorem ret{b:β}{p:Rows}:ajj N N' C (some (b,N,C,p)) (some (b,N',C,p)):=.inr ⟨b,p,rfl,rfl⟩
theorem ite{b:Bool}{x y z o:Option (β×Rows×Rows×Rows)}(h:ajj N N' C x z)(h':ajj N N' C y o):ajj N N' C (aa b x y) (aa b z o):=by cases b<;>assumption
theorem ask{F G:Option (γ×Rows×Rows×Rows)}{k o:γ×Rows×Rows×Rows->Option (β×Rows×Rows×Rows)}(h:ajj N N' C F G)(hk:∀b p,ajj N N' C (k (b,N,C,p)) (o (b,N',C,p))):ajj N N' C (Go.AI.ask F k) (Go.AI.ask G o):=by
 rcases h with rfl|⟨b,p,rfl,rfl⟩
 .exact .inl rfl
 .exact hk b p
end ajj
theorem ai7.sw{γ:Type}{F G:Option (γ×Rows×Rows×Rows)}{k o:γ×Rows×Rows×Rows->Option Cz}(h:ajj N N' C F G)(hk:∀b p,ai7 N N' C (k (b,N,C,p)) (o (b,N',C,p))):ai7 N N' C (Go.AI.ask F k) (Go.AI.ask G o):=by
 rcases h with rfl|⟨b,p,rfl,rfl⟩
 .exact .none
 .exact hk b p
theorem akT(s:ByteArray)(p:Rows):∀n,ajj N N' C (BX n s (N,C) p) (BX n s (N',C) p)|0=>.inl rfl|n+1=>by rw[aeB,aeB];show ajj N N' C (jx C s (λr=>some (!gB r 0,N,C,p)) (some (true,N,C,p))) (jx C s (λr=>some (!gB r 0,N',C,p)) (some (true,N',C,p)));unfold jx;cases mP C s<;>exact .ret
theorem akU(l:Rows)(m:Int):∀n i p,ajj N N' C (tP n l m i (N,C) p) (tP n l m i (N',C) p)
 |0,_,_=>.inl rfl
 |n+1,i,p=>by
  rw[KN,KN]
  refine .ite ?_ .ret
  unfold ab
  split
  .split
   .exact .ask (akT _ p n) λb p=>.ite .ret (akU l m n _ p)
   .exact .inl rfl
  .exact .inl rfl
theorem akV(t:fv)(p:Rows):∀n,ajj N N' C (vN n t (N,C) p) (vN n t (N',C) p)
 |0=>.inl rfl
 |n+1=>by
  rw[ad1,ad1]
  cases s4 n t with
  |none=>exact .inl rfl
  |some l=>
   refine .ask (γ:=Bool) ?_ λb p=>.ret
   cases n with
   |zero=>exact .inl rfl
   |succ n=>
    rw[abQ,abQ]
    refine .ask (γ:=Int) ?_ λb p=>.ret
    cases n with
    |zero=>exact .inl rfl
    |succ n=>
     rw[Zk,Zk]
     cases n with
     |zero=>exact .inl rfl
     |succ n=>
      rw[WE,WE]
      refine .ite ?_ .ret
      unfold ab
      split
      .split
       .exact .ask (akT _ p n) λb p=>.ite .ret (akU l _ n _ p)
       .exact .inl rfl
      .exact .inl rfl
variable (hN:∀s row,mP N s=some row->mP N' s=some row)
include hN
theorem ai7.akW{s:ByteArray}{k o:List AV->Option Cz}{y z:Option Cz}(hk:∀r,ai7 N N' C (k r) (o r))(hy:∀G,ai7 N N' C y G):ai7 N N' C (jx N s k y) (jx N' s o z):=by unfold jx;cases e:mP N s with|none=>exact hy _|some r=>rw[hN s r e];exact hk _
theorem ali:∀n,(∀t sc p,ai7 N N' C (A8 n t sc (N,C) p) (A8 n t sc (N',C) p))/\(∀t i sc p,ai7 N N' C (vL n t i sc (N,C) p) (vL n t i sc (N',C) p))/\(∀sc l i p t b K J,ai7 N N' C (A2 n sc l i (N,C) p t b K J) (A2 n sc l i (N',C) p t b K J))/\(∀sc l i t b K p J,ai7 N N' C (zs n sc l i (N,C) t b K p J) (zs n sc l i (N',C) t b K p J))/\(∀sc l i t b K p J,ai7 N N' C (mD n sc l i (N,C) t b K p J) (mD n sc l i (N',C) t b K p J))/\(∀b p c t J,ai7 N N' C (b0 n b (N,C) p c t J) (b0 n b (N',C) p c t J))/\(∀b c t p J,ai7 N N' C (bZ n b (N,C) c t p J) (bZ n b (N',C) c t p J)):=by
 intro n
 induction n with
 |zero=>and_intros<;>intros<;>exact .none
 |succ n E=>
  obtain⟨h1,h2,h3,h4,h5,h6,I⟩:=E
  have D:(7:Int)≠0:=by decide
  have o:∀{a b c d e f G},ai7 N N' C (some (a,b,c,6,d,e,f)) G:=.bad (show(6:Int)≠0 by decide)
  have lp:∀{F G:Option Cz}{i:Int}{t:fl}{sc K:Rows}{k:Rows->Rows×Rows->Rows->Rows->Option Cz},ai7 N N' C F G->(∀sc K p,ai7 N N' C (k sc (N,C) K p) (k sc (N',C) K p))->ai7 N N' C (Go.AI.ask F λx1=>(aa (x1.2.2.2.1 !=0) (some (0,(bs []),[],x1.2.2.2)) (fits (K.length+([(cy (af x1))]:List (List AV)).length) 48 (aa (i==0) (Go.AI.ask (BR n t.1) λA=>(aa A (Go.AI.ask (gX n (af x1)) λz=>(aa (!z.2.2.2) (some (0,(bs []),[],7,x1.2.2.2.2)) (k ((fA (t.2.1,(af z)))::sc) (x1.2.2.2.2.1,x1.2.2.2.2.2.1) (K++[(cy (af x1))]) x1.2.2.2.2.2.2))) (k sc (x1.2.2.2.2.1,x1.2.2.2.2.2.1) (K++[(cy (af x1))]) x1.2.2.2.2.2.2))) (k sc (x1.2.2.2.2.1,x1.2.2.2.2.2.1) (K++[(cy (af x1))]) x1.2.2.2.2.2.2))))) (Go.AI.ask G λx1=>(aa (x1.2.2.2.1 !=0) (some (0,(bs []),[],x1.2.2.2)) (fits (K.length+([(cy (af x1))]:List (List AV)).length) 48 (aa (i==0) (Go.AI.ask (BR n t.1) λA=>(aa A (Go.AI.ask (gX n (af x1)) λz=>(aa (!z.2.2.2) (some (0,(bs []),[],7,x1.2.2.2.2)) (k ((fA (t.2.1,(af z)))::sc) (x1.2.2.2.2.1,x1.2.2.2.2.2.1) (K++[(cy (af x1))]) x1.2.2.2.2.2.2))) (k sc (x1.2.2.2.2.1,x1.2.2.2.2.2.1) (K++[(cy (af x1))]) x1.2.2.2.2.2.2))) (k sc (x1.2.2.2.2.1,x1.2.2.2.2.2.1) (K++[(cy (af x1))]) x1.2.2.2.2.2.2))))):=λh hk=>.kid h (λ_ _ _ _ _=>.fits (.ite (.asks λ_=>.ite (.asks λ_=>.ite (.bad D) (hk ..)) (hk ..)) (hk ..))) λ_=>rfl
  and_intros
  .intro t sc p;rw[abD,abD];exact h3 ..
  .intro t i sc p;rw[ad0,ad0];exact .fits (.ab λr=>.kid2 (h1 ..) λ_ _ _ _ _=>.ite .ok .none)
  .intro sc l i p t b K J
   rw[abC,abC]
   refine .ite (lp (k:=λsc m K p=>mD n sc l i m t b K p J) (h2 ..) λ_ _ _=>h5 ..) (.ite (.asks λx=>.ite .ok (.akW hN (λ_=>.ok) λ_=>o)) (.ite (.sw (akV _ _ n) λ_ _=>.ite o (.asks λ_=>.asks λ_=>.ok)) ?_))
   repeat' first|refine .ite (.asks λ_=>h6 ..) ?_|refine .ite .none ?_
   exact .none
  .intro sc l i t b K p J
   rw[LX,LX]
   refine .ite (lp (k:=λsc m K p=>mD n sc l i m t b K p J) (h2 ..) λ_ _ _=>h5 ..) (.ite (.asks λx=>.ite .ok (.akW hN (λ_=>.ok) λ_=>o)) (.ite (.sw (akV _ _ n) λ_ _=>.ite o (.asks λ_=>.asks λ_=>.ok)) ?_))
   repeat' first|refine .ite (.asks λ_=>I ..) ?_|refine .ite .none ?_
   exact .none
  .intro sc l i t b K p J;rw[MW,MW];exact h4 ..
  .intro b p c t J;rw[YN,YN];exact .ite (.bad D) (.asks λ_=>.ok)
  .intro b c t p J;rw[WD,WD];exact .ite (.bad D) (.asks λ_=>.ok)
end
end
section
open BD (cA)
abbrev akj:=Int×ByteArray×Rows×Rows×Int
def ajp(F G:Option akj):Prop:=∀x,F=some x->x.2.2.2.2=0->G=some x
theorem ajp.ite{b:Bool}{x y z o:Option akj}(h:ajp x z)(h':ajp y o):ajp (aa b x y) (aa b z o):=by cases b<;>assumption
theorem ajp.ab{l:Rows}{i:Int}{k o:List AV->Option akj}(h:∀r,ajp (k r) (o r)):ajp (Go.AI.ab l i k) (Go.AI.ab l i o):=by
 unfold Go.AI.ab
 split
 .split
  .exact h _
  .exactλ_ h=>by cases h
 .exactλ_ h=>by cases h
theorem alj{N N' C:Rows}(hN:∀s row,mP N s=some row->mP N' s=some row)(t:fl):∀n,ajp (jB n t (0,bs []) (N,C) [] []) (jB n t (0,bs []) (N',C) [] [])
 |0=>λ_ h=>by cases h
 |n+1=>by
  rw[abB,abB]
  intro x hx h0
  have up:ai7 N N' C (Ii n t (N,C) []) (Ii n t (N',C) []):=by cases n with|zero=>exact .none|succ n=>rw[ah0,ah0];exact(ali hN n).2.2.1 ..
  cases hF:Ii n t (N,C) []with
  |none=>rw[hF]at hx;cases hx
  |some y=>
   rw[hF]at hx
   by_cases e:y.2.2.2.1=0
   .rw[(up.up y hF e).2.2];exact hx
   .have hx:aa (y.2.2.2.1 !=0) (ask (Ij n y.2.2.2.2.2.2) λo=>(some (0,(bs []),[],o,y.2.2.2.1))) _=some x:=hx;rw[show(y.2.2.2.1 !=0)=true by simpa using e]at hx;have hx:(ask (Ij n y.2.2.2.2.2.2) λo=>(some (0,(bs []),[],o,y.2.2.2.1)))=some x:=hx;cases h6:Ij n y.2.2.2.2.2.2 with|none=>rw[h6]at hx;cases hx|some z=>rw[h6]at hx;cases hx;exact absurd h0 e
theorem ai8.ev{e:Env}(v:ai8 e)(h:bd e):Ev (λn=>jN n e) true:=let⟨_,hv,hb⟩:=ajm e h;hb.2 v▸hv
theorem alk{c a b:Rows}(t:fl)(hb:bd (c,a))(o:bd (c,b))(ht:bd t)(v:ai8 (c,a))(E:ai8 (c,b))(hs:∀d,d∈a->d∈b)(h:Ev (λn=>Cq n (c,a) t) 0):Ev (λn=>Cq n (c,b) t) 0:=by
 obtain⟨x,vx,_⟩:=S0 _ t hb ht
 obtain⟨N,⟨X,vN⟩,_,hN⟩:=ab0 _ hb (v.ok hb)
 obtain⟨N',⟨V,D⟩,_,I⟩:=ab0 _ o (E.ok o)
 obtain⟨Y,⟨U,vz⟩,_⟩:=sB t ht
 obtain⟨S,v4⟩:=v.ev hb
 obtain⟨Q,L⟩:=E.ev o
 have z:∀s row,mP N s=some row->mP N' s=some row:=λs row=>by
  rw[hN,I,aki _ _ _ (by rw[akh];exact v.d),aki _ _ _ (by rw[akh];exact E.d)]
  rintro⟨w,hw,e⟩
  refine⟨w,?_,e⟩
  rcases List.mem_append.1 hw with hw|hw
  .exact List.mem_append_left _ hw
  .obtain⟨d,hd,e⟩:=List.mem_map.1 hw;exact List.mem_append_right _ (List.mem_map.2 ⟨d,hs d hd,e⟩)
 have A:x.2.2.2.2=0:=by
  by_cases e:x.2.2.2.2=0
  .exact e
  .have:=h.HU (.step (λn=>ahQ n) (.ask vx (.neg (by simpa using e) (.ret x.2.2.2.2))));exact this.symm
 have key:Ev (λn=>Ct n (c,b) t) x:=by
  obtain⟨O,J⟩:=vx
  refine⟨X+V+U+S+Q+O+4,λn hn=>?_⟩
  obtain⟨k,rfl⟩:∃k,n=k+1+1+1+1:=⟨n-4,by omega⟩
  have h1:Ct (k+1+1+1+1) (c,a) t=some x:=J _ (by omega)
  show Ct (k+1+1+1+1) (c,b) t=some x
  have vz:kl (k+1+1+1) t=some Y:=vz _ (by omega)
  rw[ahJ,show jN (k+1+1+1) (c,a)=some true from v4 _ (by omega),vz,show BO (k+1+1) (c,a)=some N from vN _ (by omega)]at h1
  rw[ahJ,show jN (k+1+1+1) (c,b)=some true from L _ (by omega),vz,show BO (k+1+1) (c,b)=some N' from D _ (by omega)]
  dsimp only[ask]at h1⊢
  refine(?_:ajp _ _) x h1 A
  have same:∀F,ajp F F:=λ_ _ h _=>h
  with_reducible refine .ite (same _) (.ite (same _) ?_)
  repeat' first|with_reducible exact alj z t _|with_reducible refine .ite (.ab λ_=>?_) ?_|exactλ_ h=>by cases h
 exact .step (λn=>ahQ n) (.ask key (.pos (by rw[A];rfl) (by
  by_cases e:x.1=2
  .exact .neg (by rw[e];rfl) (A▸.ret _)
  .have:=h.HU (.step (λn=>ahQ n) (.ask vx (.pos (by rw[A];rfl) (.pos (by simpa using e) (.ret 7)))));cases this)))
theorem T.akX{β:Type}{Q:β->Prop}{F G:Nat->Option β}(k:Nat)(h:∀n,F (n+k)=G n)(hG:T G Q):T F Q:=by obtain⟨r,⟨m,a⟩,b⟩:=hG;refine⟨r,⟨m+k,λn hn=>?_⟩,b⟩;obtain⟨j,rfl⟩:∃j,n=j+k:=⟨n-k,by omega⟩;rw[h];exact a j (by omega)
theorem akk{l:Rows}{i:Nat}{r:List AV}(h:l[i]?=some r):l.set i r=l:=by obtain⟨h1,rfl⟩:=List.getElem?_eq_some_iff.1 h;exact List.set_getElem_self h1
theorem akY:∀(W:Nat)(a:fv),wtRs a.2.2<W->cA 16777216 a->ajf a.2.2->T (λn=>aj9 n a) λr=>r=a
 |0,_,h,_,_=>absurd h (Nat.not_lt_zero _)
 |W+1,a,h,hb,hc=>by
  have o:=aB a.2 (aB a hb)
  have hl:a.2.2.length<=16777216:=o.1
  refine .step2 (λn=>alK n) (.ask (T.shift (F:=λn=>akB n a.2.2) (.step (λn=>alU n) (uX (by omega) (by omega)))) λx hx=>.pos (tX ⟨rfl,rfl⟩) ?_)
  subst hx
  refine T.shift (F:=λn=>qQ n (a.2.2.length:Int) 0 (a.1,a.2.1) (0,(bs [])) a.2.2 []) ?_
  refine T.loop (σ:=Rows) (L:=λi s n=>qQ n (a.2.2.length:Int) i (a.1,a.2.1) (0,(bs [])) s []) a.2.2.length (λ_ s=>s=a.2.2) ?_ ?_ _ rfl
  .rintro s rfl;exact .step (λn=>P2 n) (.neg (by simp) (.ret rfl))
  .rintro i s hi rfl A;refine .step (λn=>P2 n) (.pos (by simp;omega) (.ab (by omega) (by omega) λ_ _=>.eJ (by omega) λr hr=>?_));have k:=hc.get (by simpa using hr);refine .ask (akY W (aK r 0) (Nat.lt_of_lt_of_le (oh hr 2) (Nat.le_of_lt_succ h)) ⟨trivial,ak (an o hr) 1,ai (an o hr) 2⟩ k.2) λx hx=>.ab (by omega) (by omega) λ_ _=>.eJ (by omega) λr' z=>?_;rw[hr]at z;obtain rfl:=Option.some.inj z;subst hx;rw[aE (i:=(i:Int)+1) (by omega) (by omega)];refine A _ ?_;rw[show dO r 0 (cy (aK r 0))=r by rw[k.1];rfl];exact akk hr
structure ajC(e:Env):Prop where c:∀x,x∈e.1->cA 16777216 x/\x=[.sc (.string (gS x 0)),.aQ (gD x 1) 1]n:∀d,d∈e.2->cA 16777216 d/\d=fA (du d 0)/\ajf (gD d 3)
theorem alm(e:Env)(g:ajC e)(h1:e.1.length<=1100)(h2:e.2.length<=1100):T (λn=>ajy n e) λr=>r=e:=by
 refine .step (λn=>alN n) (.ask (Q':=λx=>x=e.1) ?_ λx hx=>.ask (Q':=λx=>x=e.2) ?_ λy hy=>.ret (by rw[hx,hy]))
 .refine .step2 (λn=>alJ n) (.ask (T.shift (F:=λn=>Gb n e.1) (abY e.1 (by omega))) λx hx=>.pos (tX ⟨rfl,rfl⟩) ?_)
  subst hx
  refine T.shift (F:=λn=>ajG n (e.1.length:Int) 0 e.1) ?_
  refine T.loop (σ:=Rows) (L:=λi s n=>ajG n (e.1.length:Int) i s) e.1.length (λ_ s=>s=e.1) ?_ ?_ _ rfl
  .rintro s rfl;exact .akX 3 (λn=>ala n) (.neg (by simp) (.ret rfl))
  .rintro i s hi rfl z;refine .akX 3 (λn=>ala n) (.pos (by simp;omega) (.ab (by omega) (by omega) λ_ _=>.eJ (by omega) λr hr=>?_));have k:=g.c r (List.mem_of_getElem? hr);have A:(gD r 1).length<=16777216:=(ai k.1 1).1;refine .ask (T.shift (F:=λn=>mZ n (gD r 1)) (uY (gD r 1) (by omega))) λx hx=>.pos (tX ⟨rfl,rfl⟩) (.eJ (by omega) λr' o=>?_);rw[hr]at o;obtain rfl:=Option.some.inj o;subst hx;rw[aE (i:=(i:Int)+1) (by omega) (by omega)];refine T.O9 (F:=λn=>ajG n (e.1.length:Int) ((i:Int)+1) _) (z _ ?_);rw[show dO r 1 [.aQ (gD r 1) 1]=r by rw[k.2];rfl];exact akk hr
 .refine .step2 (λn=>alO n) (.ask (T.shift (F:=λn=>sL n e.2) (Ar e.2 (by omega))) λx hx=>.pos (tX ⟨rfl,rfl⟩) ?_)
  subst hx
  refine T.shift (F:=λn=>ajH n (e.2.length:Int) 0 e.2) ?_
  refine T.loop (σ:=Rows) (L:=λi s n=>ajH n (e.2.length:Int) i s) e.2.length (λ_ s=>s=e.2) ?_ ?_ _ rfl
  .rintro s rfl;exact .step2 (λn=>ak9 n) (.neg (by simp) (.ret rfl))
  .rintro i s hi rfl z;refine .step2 (λn=>ak9 n) (.pos (by simp;omega) (.ab (by omega) (by omega) λ_ _=>.eJ (by omega) λr hr=>?_));have k:=g.n r (List.mem_of_getElem? hr);refine .ask (akY _ (aK r 1) (Nat.lt_succ_self _) ⟨trivial,ak k.1 2,ai k.1 3⟩ k.2.2) λx hx=>.eJ (by omega) λr' o=>?_;rw[hr]at o;obtain rfl:=Option.some.inj o;subst hx;rw[aE (i:=(i:Int)+1) (by omega) (by omega)];refine T.shift (F:=λn=>ajH n (e.2.length:Int) ((i:Int)+1) _) (z _ ?_);rw[show dO r 1 (cy (aK r 1))=r by rw[k.2.1];rfl];exact akk hr
def ajq(a b:fv):Prop:=Ev (λn=>ajV n a b) true/\(ajf a.2.2->ajf b.2.2->a=b)
theorem akZ:∀(W:Nat)(a b:fv),wtRs a.2.2<W->bd a->bd b->T (λn=>jI n a b) λx=>x=true->ajq a b
 |0,_,_,h,_,_=>absurd h (Nat.not_lt_zero _)
 |W+1,a,b,h,h0,h1=>by
  have A:=aB a.2 (aB a h0)
  have D:=aB b.2 (aB b h1)
  have hl:=bq A
  have no:T (λn=>(some false:Option Bool)) λx=>x=true->ajq a b:=.ret λe=>by cases e
  refine .step (λn=>aek n) (.ite (λc1=>.ite (λc2=>.ask (Q':=λx=>x=true->ajq a b) ?_ λ_ hx=>.ret hx) (λ_=>no)) (λ_=>no))
  refine .step (λn=>aeo n) (.ite (λ_=>no) (λc=>?_))
  have fin:Ev (λn=>ajW n 0 a b) true->(ajf a.2.2->ajf b.2.2->a.2.2=b.2.2)->ajq a b:=λh g=>⟨.step (λn=>alQ n) (.neg (by rw[fO c1];simp) (.neg (by rw[show ay a.2.1 b.2.1=true from c2];rfl) (.neg c h))),λh1 h2=>Prod.ext (fO c1) (Prod.ext (gh.1 c2) (g h1 h2))⟩
  have c:=ib c
  refine T.lst (σ:=Unit) (L:=λi _ n=>Aa n b.2.2 a.2.2 (a.2.2.length:Int) i) (by omega) (λn _ _=>Zi n) (λj _=>∀(k:Nat)r q,k<j->a.2.2[k]?=some r->b.2.2[k]?=some q->ajq (aK r 0) (aK q 0)) ?_ ?_ () (by intro k _ _ h;omega)
  .intro _ hk
   refine(.ret λ_=>fin (T.ev ?_) λh1 h2=>?_)
   rotate_left
   .refine List.ext_getElem? λk=>?_
    by_cases e:k<a.2.2.length
    .have e1:a.2.2[k]?=some a.2.2[k]:=by simp[e]
     have e2:b.2.2[k]?=some (b.2.2[k]'(by omega)):=by simp
     have I:=h1.get e1;have g2:=h2.get e2;rw[e1,e2,I.1,g2.1,(hk k _ _ e e1 e2).2 I.2 g2.2]
    .have e1:a.2.2[k]?=none:=List.getElem?_eq_none (by omega);have e2:b.2.2[k]?=none:=List.getElem?_eq_none (by omega);rw[e1,e2]
   refine T.lst (σ:=Unit) (L:=λi _ n=>ajW n i a b) (by omega) (λn _ _=>alG n) (λ_ _=>True) ?_ ?_ () trivial
   .exactλ_ _=>(.ret rfl)
   .intro i _ hi _ E;refineλr hr=>.ab (by omega) (by omega) λq hq=>.cR (hk i r q hi (by simpa using hr) (by simpa using hq)).1 (.neg rfl ?_);exact E () trivial
  .intro i _ hi hk E
   refineλr hr=>.ab (by omega) (by omega) λq hq=>?_
   have hq:b.2.2[i]?=some q:=by simpa using hq
   refine .ask (akZ W (aK r 0) (aK q 0) (Nat.lt_of_lt_of_le (oh hr 2) (Nat.le_of_lt_succ h)) ⟨trivial,ak (an A hr) 1,ai (an A hr) 2⟩ ⟨trivial,ak (an D hq) 1,ai (an D hq) 2⟩) λx hx=>.ite (λ_=>no) (λc=>?_)
   refine E () λk r' J N o z=>?_
   rcases Nat.lt_or_ge k i with e|e
   .exact hk k r' J e o z
   .obtain rfl:k=i:=by omega
    rw[hr]at o;rw[hq]at z;cases o;cases z;exact hx (iD c)
theorem akl(a b:fv)(h0:bd a)(h1:bd b):T (λn=>j6 n a b) λx=>x=true->ajq a b:=by
 have no:T (λn=>(some false:Option Bool)) λx=>x=true->ajq a b:=.ret λe=>by cases e
 exact .step (λn=>adA n) (.ask (B0 a h0) λ_ _=>.ite (λ_=>.ask (B0 b h1) λ_ _=>.ite (λ_=>.ask (akZ _ a b (Nat.lt_succ_self _) h0 h1) λ_ hx=>.ret hx) (λ_=>no)) (λ_=>no))
theorem aln{e:Env}(h:bd e)(v:ai8 e){s:ByteArray}{t:fv}(ht:bd t)(hc:ajf t.2.2)(hs:ajQ e.2 s t):Ev (λn=>akH n e s) (cB t true):=by refine T.ev (.step (λn=>alL n) (.cR (v.ev h) (.neg rfl (.ask (ab0 e h (v.ok h)) λm hm=>?_))));have e1:=alh v hs;rw[<-hm.2]at e1;refine .jx (λr hr=>?_) (λhr=>by rw[e1]at hr;cases hr);rw[e1]at hr;obtain rfl:=Option.some.inj hr;exact .ask (SS t ht) λx hx=>.ret (by rw[hx.2.2.2 hc])
end
section
open BD (cA)
abbrev ct(r:List AV):dA:=(gI r 0,gS r 1,gD r 2,gS r 3,gD r 4,gD r 5,gD r 6,gD r 7,gD r 8,gD r 9,gB r 10,gD r 11,gD r 12,gD r 13)
abbrev aH(p:Rows)(i:Nat)(r:List AV)(s l g:Env):ar:=(p,(i:Int),gI r 0,gS r 1,gD r 2,gS r 3,gD r 4,gD r 5,gD r 6,gD r 7,gD r 8,gD r 9,gB r 10,gD r 11,gD r 12,gD r 13,s.1,s.2,l.1,l.2,g.1,g.2)
theorem uZ(s:ByteArray)(l:Rows)(hl:bd l):Ev (λn=>qL n s l) (bc l s):=by refine .step (λn=>ac5 n) (.ask (a:=bc l s) ?_ (.ret _));exact .step (λn=>abw n) (nI (J:=λn i=>zp n l s (l.length:Int) i) (by have:=bq hl;omega) (λn i=>XA n) λr _=>.step (λn=>afa n) (.ret _))
abbrev aj0(r:List AV):List AV:=jj (gI r 0,bs [],gD r 2,gS r 3,[],[],[],[],[],[],false,[],[],[])
structure Hd(p:Rows)(i:Nat)(r:List AV):Prop where
 kd:gI r 0=1\/gI r 0=2
 ai9:gI r 0=1->gS r 3=bs []
 nm:bc (p.take i) (gS r 1)<0
 ln:Ln r
 le:(gD r 13).length<=16
 ls:(gD r 6).length<=32/\(gD r 8).length<=32/\(gD r 9).length<=1/\(gD r 11).length<=32/\(gD r 12).length<=32
 ev:∀e,e∈gD r 13->(gD e 3).length<=8/\(gD e 4).length<=32/\(gD e 5).length<=32/\(gD e 6).length<=32
 rf:ay (gS r 3) (bs [])=false->0<=bc p (gS r 3)/\bc p (gS r 3)<i/\∀q,p[(bc p (gS r 3)).toNat]?=some q->gI q 0=2
 ex:∀q,q∈gD r 2->0<=bc p (gS q 0)/\bc p (gS q 0)<i/\∀c,p[(bc p (gS q 0)).toNat]?=some c->gI c 0=1
 tw:(bj (gD r 2)).Nodup
 mc:gI r 0=2->gD r 4=[]/\gD r 5=[]/\gD r 6=[]vs:ai8 (sb p i)vj:gI r 0=2->ai8 ((sb p i).1,(sb p i).2++ajg p i)
theorem Pc{a b c:Int}:lg a b<=c↔a<=c/\b<=c:=by unfold lg;split<;>omega
section
variable {p:Rows}{i:Nat}{r:List AV}{s l g:Env}(hb:cA 16777216 p)(hc:∀r,r∈p->ajn r)(hn:p.length<=16)(hr:p[i]?=some r)(hp:∀(k:Nat)q,k<i->p[k]?=some q->Hd p k q)
include hb hc hn hr hp
theorem Pd:qo p i:=⟨λj q hj hq he=>let h:=(hp j q hj hq).rf he;⟨h.1,h.2.1⟩,λj q hj hq x hx=>let h:=(hp j q hj hq).ex x hx;⟨h.1,h.2.1⟩⟩
omit hn in
theorem aaB(h3:ay (gS r 3) (bs [])=false->0<=bc p (gS r 3)/\bc p (gS r 3)<i)(h2:∀q,q∈gD r 2->0<=bc p (gS q 0)/\bc p (gS q 0)<i):qo p (i+1):=by
 refine⟨λj q hj hq he=>?_,λj q hj hq x hx=>?_⟩
 .rcases Nat.lt_or_ge j i with h|h
  .have:=(hp j q h hq).rf he;exact⟨this.1,this.2.1⟩
  .obtain rfl:j=i:=by omega
   rw[hr]at hq;obtain rfl:=Option.some.inj hq;exact h3 he
 .rcases Nat.lt_or_ge j i with h|h
  .have:=(hp j q h hq).ex x hx;exact⟨this.1,this.2.1⟩
  .obtain rfl:j=i:=by omega
   rw[hr]at hq;obtain rfl:=Option.some.inj hq;exact h2 x hx
theorem Pe(hd:Ln r)(h3:ay (gS r 3) (bs [])=false->0<=bc p (gS r 3)/\bc p (gS r 3)<i)(h2:∀q,q∈gD r 2->0<=bc p (gS q 0)/\bc p (gS q 0)<i):Sur p i:=⟨hb,hc,by omega,aaB hb hc hr hp h3 h2,(List.getElem?_eq_some_iff.1 hr).1,λk q hk hq=>by
 rcases Nat.lt_or_ge k i with h|h
 .exact(hp k q h hq).ln
 .obtain rfl:k=i:=by omega
  rw[hr]at hq;obtain rfl:=Option.some.inj hq;exact hd⟩
theorem ab6(hd:Ln r)(h3:ay (gS r 3) (bs [])=false->0<=bc p (gS r 3)/\bc p (gS r 3)<i)(h2:∀q,q∈gD r 2->0<=bc p (gS q 0)/\bc p (gS q 0)<i):T (λn=>Gx n (aH p i r s l g)) (AQ i λx=>x=aH p i r s l g/\ai8 (sb p i)/\(gI r 0=2->ai8 ((sb p i).1,(sb p i).2++ajg p i))):=by
 have hs:=Pe hb hc hn hr hp hd h3 h2
 have U:=iF hb
 have D:r∈p:=List.mem_of_getElem? hr
 have hi:i<p.length:=hs.hi
 refine .step (λn=>aeJ n) (.ask hs.ctx λcxr S=>?_)
 subst S
 have hcl:=ajY p i
 refine T.loop (σ:=Rows) (L:=λj t n=>uK n ((ba (ai9 p i)).length:Int) j (aH p i r s l g) t (ba (ai9 p i))) (ai9 p i).length (λj t=>t.length<=1073741824*j/\cb 1099511627776 t) ?_ ?_ [] ⟨by simp,trivial⟩
 .intro t ht
  have N:=ht.1
  have A:bd t:=⟨by omega,ht.2⟩
  refine .step (λn=>MT n) (.neg (by simp) (.ask (sg t A) λb _=>.bw (by omega) λ_=>?_))
  refine .ez (by dsimp only;omega) ?_
  refine .ask (O6 _ (by simp;omega)) λq hq=>?_
  have e1:((p.drop (0:Int).toNat).take ((i:Int).toNat-(0:Int).toNat))=p.take i:=by simp
  have hq:q=p.take i:=hq.trans e1
  subst hq
  refine .fits (by simp;omega) ?_
  have hw:eS 16777216 (aj0 r):=bm ki (bm (dv (Nat.zero_le _)) (bm (ef (ai (dG hb D) 2)) (bm (dv (ak (dG hb D) 3)) (bm (ef cK) (bm (ef cK) (bm (ef cK) (bm (ef cK) (bm (ef cK) (bm (ef cK) (bm HW (bm (ef cK) (bm (ef cK) (bm (ef cK) ed)))))))))))))
  have z:Sur (p.take i++[aj0 r]) i:=Sur.put hb hc ⟨λx h=>absurd h List.not_mem_nil,λx h=>absurd h List.not_mem_nil,λx h=>absurd h List.not_mem_nil⟩ hn hr (Pd hb hc hn hr hp) (λk q hk hq=>(hp k q hk hq).ln) h3 h2 hw ⟨Nat.zero_le _,Nat.zero_le _,Nat.zero_le _⟩
  have ep:=akS hs.hh hr (w:=aj0 r) rfl rfl rfl rfl rfl
  refine .ite (λ_=>?_) (λc2=>?_)
  .refine .ask z.Iq λv hv=>?_
   have Z:=hv.2.1
   refine T.lst (σ:=Unit) (L:=λj _ n=>z6 n (v.length:Int) j (aH p i r s l g) t v (p.take i++[aj0 r])) (by omega) (λn _ _=>Nl n) (λ_ _=>True) ?_ ?_ () trivial
   .intro _ _;refine(.ask z.Ir λe⟨he,X⟩=>.ask (ajm e he.1) λ_ b1=>.bw (by omega) λc1=>.ask z.stat λe'⟨Q,V⟩=>.ask (ajm e' Q.1) λ_ b2=>.ow (by omega) λc2=>⟨rfl,by rw[<-ep.1,<-V];exact b2.1 c2,λ_=>by have:=b1.1 c1;rw[X,ep.1,ep.2]at this;exact this⟩)
   .intro j _ hj _ J;refineλ_ _=>.eJ (by omega) λx hx=>.ask (kH t _ A) λ_ _=>.bw (by omega) λ_=>?_;exact J () trivial
  .exact .ask z.stat λe⟨he,X⟩=>.ask (ajm e he.1) λ_ b2=>.ow (by omega) λc=>⟨rfl,by rw[<-ep.1,<-X];exact b2.1 c,λe=>absurd e (by simpa using c2)⟩
 .intro j t hj ht J
  have N:=ht.1
  refine .step (λn=>MT n) (.pos (by simp;omega) (.ab (by omega) (by simp;omega) λ_ _=>.eJ (by simp;omega) λx hx=>?_))
  obtain⟨k,O,rfl⟩:=ur hx
  have hk:=ajP p i k (List.mem_of_getElem? (by simpa using O))
  have e1:gI [AV.sc (.int .i64 (k:Int))] 0=(k:Int):=rfl
  rw[e1]
  refine .ite (λ_=>.ab (by omega) (by show _<(p.length:Int);omega) λq hq=>?_) (λ_=>?_)
  .have hq:p[k]?=some q:=by simpa using hq
   have E:=List.mem_of_getElem? hq;have I:=hs.hl k q (by omega) hq;have o:=dG U E;refine .ask (ab5 _ ⟨trivial,ak o 1,ai o 2,ak o 3,ai o 4,ai o 5,ai o 6,ai o 7,ai o 8,ai o 9,trivial,ai o 11,ai o 12,ai o 13⟩ I.1 I.2.1 λx hx=>hs.ai4 E 4 hx) λy hy=>?_;have Y:=hy.2;refine .fits (by omega) ?_;rw[aE (i:=(j:Int)+1) (by omega) (by omega)];exact J _ ⟨by rw[List.length_append];omega,dt ht.2 hy.1.2⟩
  .rw[aE (i:=(j:Int)+1) (by omega) (by omega)];exact J _ ⟨by omega,ht.2⟩
end
end
section
open BD (cA)
abbrev aj1(r:List AV):Prop:=(gD r 6).length<=32/\(gD r 8).length<=32/\(gD r 9).length<=1/\(gD r 11).length<=32/\(gD r 12).length<=32
abbrev akm(r:List AV):Prop:=∀e,e∈gD r 13->(gD e 3).length<=8/\(gD e 4).length<=32/\(gD e 5).length<=32/\(gD e 6).length<=32
def ajR(r:List AV):Prop:=(gI r 0=1\/gI r 0=2)/\(gI r 0=1->gS r 3=bs [])/\(gI r 0=2->gD r 4=[]/\gD r 5=[]/\gD r 6=[])
section
variable {p:Rows}{i:Nat}{r:List AV}{s l g:Env}(hb:cA 16777216 p)(hc:∀r,r∈p->ajn r)(hn:p.length<=16)(hr:p[i]?=some r)(hp:∀(k:Nat)q,k<i->p[k]?=some q->Hd p k q)
include hb hc hn hr hp
theorem Pf{l:Rows}{s:ByteArray}(h:0<=bc l s):bc l s<l.length:=by unfold bc gr at*;cases e:l.findIdx? λr=>ay (gS r 1) s with|none=>rw[e]at h;simp at h|some k=>have:=(List.findIdx?_eq_some_iff_getElem.1 e).1;simp only;omega
omit hb hc hn hp in
theorem aku{k:Int}(h0:0<=k)(h1:k<i):(p.take i)[k.toNat]?=p[k.toNat]?:=by rw[List.getElem?_take,if_pos (by omega)]
theorem agx:T (λn=>H6 n (aH p i r s l g)) (AQ i λx=>x=aH p i r s l g/\Hd p i r):=by
 have N:=iF hb
 have S:r∈p:=List.mem_of_getElem? hr
 have hi:i<p.length:=(List.getElem?_eq_some_iff.1 hr).1
 have o:=dG N S
 have Y:=bq (ai o 2)
 have X:=bq (ai o 13)
 have z:bd (p.take i):=by have:=wk (a:=0) (b:=i) N;simpa using this
 have hlt:(p.take i).length=i:=by rw[List.length_take];omega
 have A:ajR r->bc (p.take i) (gS r 1)<0->Ln r->(gD r 13).length<=16->aj1 r->akm r->(ay (gS r 3) (bs [])=false->0<=bc (p.take i) (gS r 3)/\∀q,(p.take i)[(bc (p.take i) (gS r 3)).toNat]?=some q->gI q 0=2)->(∀q,q∈gD r 2->0<=bc (p.take i) (gS q 0)/\∀c,(p.take i)[(bc (p.take i) (gS q 0)).toNat]?=some c->gI c 0=1)->T (λn=>zS n (aH p i r s l g) (ct r)) (AQ i λx=>x=aH p i r s l g/\Hd p i r):=by
  intro kd nm ln le ls ev rf ex
  have E:ay (gS r 3) (bs [])=false->0<=bc p (gS r 3)/\bc p (gS r 3)<i/\∀q,p[(bc p (gS r 3)).toNat]?=some q->gI q 0=2:=λe=>by obtain⟨a,b⟩:=rf e;obtain⟨c,d⟩:=KW (by omega) a;rw[<-c]at a b;exact⟨a,d,λq hq=>b q (by rw[aku hr a d];exact hq)⟩
  have O:∀q,q∈gD r 2->0<=bc p (gS q 0)/\bc p (gS q 0)<i/\∀c,p[(bc p (gS q 0)).toNat]?=some c->gI c 0=1:=λq hq=>by obtain⟨a,b⟩:=ex q hq;obtain⟨c,d⟩:=KW (by omega) a;rw[<-c]at a b;exact⟨a,d,λq hq=>b q (by rw[aku hr a d];exact hq)⟩
  refine .step (λn=>ZO n) (.ask (sg (gD r 2) (ai o 2)) λb U=>.bw (by omega) λc=>?_);refine .eP (Q:=λx=>x=aH p i r s l g/\Hd p i r) ((ab6 hb hc hn hr hp ln (λe=>let h:=E e;⟨h.1,h.2.1⟩) λq hq=>let h:=O q hq;⟨h.1,h.2.1⟩).mono λx hx=>?_);cases x with|aN t q u=>exact hx|ret x=>exact⟨hx.1,kd.1,kd.2.1,nm,ln,le,ls,ev,E,O,U (by simpa using c),kd.2.2,hx.2.1,hx.2.2⟩
 have kinds:ajR r->bc (p.take i) (gS r 1)<0->Ln r->(gD r 13).length<=16->aj1 r->akm r->(ay (gS r 3) (bs [])=false->0<=bc (p.take i) (gS r 3))->(∀q,q∈gD r 2->0<=bc (p.take i) (gS q 0))->T (λn=>sA n (gD r 2) ((gD r 2).length:Int) 0 (aH p i r s l g) (ct r) (p.take i)) (AQ i λx=>x=aH p i r s l g/\Hd p i r):=by
  intro kd nm ln le ls ev rf ex
  refine T.lst (σ:=Unit) (L:=λj _ n=>sA n (gD r 2) ((gD r 2).length:Int) j (aH p i r s l g) (ct r) (p.take i)) (by omega) (λn _ _=>OI n) (λj _=>∀q,q∈(gD r 2).take j->∀c,(p.take i)[(bc (p.take i) (gS q 0)).toNat]?=some c->gI c 0=1) ?_ ?_ () (by simp)
  .intro _ hk
   have hk:∀q,q∈gD r 2->∀c,(p.take i)[(bc (p.take i) (gS q 0)).toNat]?=some c->gI c 0=1:=by simpa using hk
   refine(.ite (λc=>?_) (λc=>?_))
   .exact .bw (by omega) λ_=>A kd nm ln le ls ev (λe=>by rw[show ay (gS r 3) (bs [])=true from c]at e;cases e) λq hq=>⟨ex q hq,hk q hq⟩
   .have h0:=rf c;have h1:=Pf hb hc hn hr hp h0;refine .cR (uZ (gS r 3) _ z) (.ab h0 h1 λq hq=>.bw (by omega) λc2=>A kd nm ln le ls ev (λ_=>⟨h0,λZ J=>?_⟩) λq hq=>⟨ex q hq,hk q hq⟩);rw[hq]at J;obtain rfl:=Option.some.inj J;exact fO c2
  .intro j _ hj hk I
   intro x hx
   have h0:=ex x (List.mem_of_getElem? hx)
   have h1:=Pf hb hc hn hr hp h0
   refine .cR (uZ (gS x 0) _ z) (.ab h0 h1 λq hq=>.bw (by omega) λc2=>?_)
   refine I () λy hy=>?_
   rw[fJ hx]at hy
   rcases List.mem_append.1 hy with hy|hy
   .exact hk y hy
   .rw[List.mem_singleton]at hy;subst hy;intro c hc;rw[hq]at hc;obtain rfl:=Option.some.inj hc;exact fO c2
 have names:ajR r->bc (p.take i) (gS r 1)<0->Ln r->(gD r 13).length<=16->aj1 r->akm r->T (λn=>vj n (gD r 2) ((gD r 2).length:Int) 0 (aH p i r s l g) (ct r) (p.take i)) (AQ i λx=>x=aH p i r s l g/\Hd p i r):=by
  intro kd nm ln le ls ev
  refine T.lst (σ:=Unit) (L:=λj _ n=>vj n (gD r 2) ((gD r 2).length:Int) j (aH p i r s l g) (ct r) (p.take i)) (by omega) (λn _ _=>OG n) (λj _=>∀q,q∈(gD r 2).take j->0<=bc (p.take i) (gS q 0)) ?_ ?_ () (by simp)
  .intro _ hk
   have hk:∀q,q∈gD r 2->0<=bc (p.take i) (gS q 0):=by simpa using hk
   refine(.ite (λc=>?_) (λc=>?_))
   .exact .bw (by omega) λ_=>kinds kd nm ln le ls ev (λe=>by rw[show ay (gS r 3) (bs [])=true from c]at e;cases e) hk
   .exact .cR (uZ (gS r 3) _ z) (.bw (by omega) λc=>kinds kd nm ln le ls ev (λ_=>cO c) hk)
  .intro j _ hj hk I
   refineλx hx=>.cR (uZ (gS x 0) _ z) (.bw (by omega) λc2=>?_)
   refine I () λy hy=>?_
   rw[fJ hx]at hy
   rcases List.mem_append.1 hy with hy|hy
   .exact hk y hy
   .rw[List.mem_singleton]at hy;subst hy;exact cO c2
 have V:ajR r->Ln r->(gD r 13).length<=16->aj1 r->T (λn=>vh n (aH p i r s l g) (ct r)) (AQ i λx=>x=aH p i r s l g/\Hd p i r):=by
  intro kd ln le ls
  refine .step (λn=>abz n) ?_
  refine T.lst (σ:=Unit) (L:=λj _ n=>vg n (gD r 13) ((gD r 13).length:Int) j (aH p i r s l g) (ct r)) (by omega) (λn _ _=>OA n) (λj _=>∀e,e∈(gD r 13).take j->(gD e 3).length<=8/\(gD e 4).length<=32/\(gD e 5).length<=32/\(gD e 6).length<=32) ?_ ?_ () (by simp)
  .intro _ hk
   have hk:∀e,e∈gD r 13->(gD e 3).length<=8/\(gD e 4).length<=32/\(gD e 5).length<=32/\(gD e 6).length<=32:=by simpa using hk
   refine(.ez (by dsimp only;omega) ?_)
   have e1:((p.drop (0:Int).toNat).take ((i:Int).toNat-(0:Int).toNat))=p.take i:=by simp
   rw[e1];exact .cR (uZ (gS r 1) _ z) (.bw (by omega) λc=>names kd (cO c) ln le ls hk)
  .intro j _ hj hk I
   refineλx hx=>.ite (λc=>.bw (by omega) λc2=>?_) (λc=>.bw (by omega) λc=>by cases c)
   have c:=cO c
   have c2:=cO c2
   simp only[Pc]at c
   refine I () λy hy=>?_
   rw[fJ hx]at hy
   rcases List.mem_append.1 hy with hy|hy
   .exact hk y hy
   .rw[List.mem_singleton]at hy;subst hy;omega
 have lens:ajR r->T (λn=>sx n (aH p i r s l g) (ct r)) (AQ i λx=>x=aH p i r s l g/\Hd p i r):=by intro kd;refine .step (λn=>abF n) (.ite (λc=>.ite (λc2=>.bw (by omega) λc3=>?_) (λ_=>.bw (by omega) λc=>by cases c)) (λ_=>.bw (by omega) λc=>by cases c));have c:=cO c;have c2:((gD r 13).length:Int)<=16:=cO c2;have c3:((gD r 9).length:Int)<=1:=cO c3;simp only[Pc]at c;exact V kd ⟨by omega,by omega,by omega⟩ (by omega) ⟨by omega,by omega,by omega,by omega,by omega⟩
 have D:∀b:Bool,(gI r 0=1\/gI r 0=2)/\(b=true↔gI r 0=1)->T (λn=>AM n b (aH p i r s l g) (ct r)) (AQ i λx=>x=aH p i r s l g/\Hd p i r):=by intro b kd;refine .step (λn=>abK n) (.ask (sD (gS r 1) (ak o 1)) λ_ _=>.bw (by omega) λ_=>.ite (λd=>.ite (λc=>.ite (λ_=>.bw (by omega) λ_=>lens ⟨kd.1,λ_=>gh.1 c,λe=>absurd (kd.2.1 d) (by omega)⟩) (λ_=>.bw (by omega) λc=>by cases c)) (λ_=>.bw (by omega) λc=>by cases c)) (λd=>.bw (by omega) λc=>lens ⟨kd.1,(λe=>by rw[kd.2.2 e]at d;cases d),λ_=>?_⟩));have c:=fO c;have l4:=bq (ai o 4);have l5:=bq (ai o 5);have l6:=bq (ai o 6);simp only[ct]at c;rw[aE (i:=((gD r 4).length:Int)+(gD r 5).length) (by omega) (by omega),aE (by omega) (by omega)]at c;exact⟨List.length_eq_zero_iff.1 (by omega),List.length_eq_zero_iff.1 (by omega),List.length_eq_zero_iff.1 (by omega)⟩
 exact .step (λn=>ahW n) (.ite (λc=>.bw (by omega) λ_=>D _ ⟨.inl (fO c),beq_iff_eq⟩) (λc2=>.bw (by omega) λc=>D _ ⟨.inr (fO c),beq_iff_eq⟩))
end
end
end Go.AI
