/- A part of the proof. -/
import Derived.Test.YteibmaelhdbgfaaGreatDoorPc
import Derived.Test.YteibmaelhdbgfaaGreatDoorPb
set_option linter.all false

namespace Go.AI
open Go
abbrev Env:=Rows×Rows
abbrev bj(l:Rows):List ByteArray:=l.map λr=>gS r 0
structure Bb(e:Env):Prop where
 c:e.1.length<=8
 n:e.2.length<=64
 k:∀r,r∈e.1->(gD r 1).length<=8
 t:∀r,r∈e.2->iE (gI r 1) (gD r 3)
def ajI(l:Rows):List ByteArray:=l.flatMap λr=>gS r 0::bj (gD r 1)
def ajJ(e:Env):List ByteArray:=ajI e.1++bj e.2
def ajK(c:Rows)(t:fv):Prop:=∃l:Rows,Ev (λn=>s4 n t) l/\∀r,r∈l->∃x,Ev (λn=>ER n c (gS r 0)) x/\x.1=true
structure ai8(e:Env):Prop where
 c:e.1.length<=8
 n:e.2.length<=64
 k:∀r,r∈e.1->Ev (λn=>ga n (gS r 0)) true/\(gD r 1).length<=8/\∀x,x∈gD r 1->Ev (λn=>ga n (gS x 0)) true
 t:∀r,r∈e.2->Ev (λn=>Cu n (gS r 0)) true/\Ev (λn=>wD n (aK r 1)) true/\ajK e.1 (aK r 1)d:(ajJ e).Nodup
theorem fJ{o:Type}{l:List o}{i:Nat}{x:o}(h:l[i]?=some x):l.take (i+1)=l.take i++[x]:=by rw[List.take_add_one,h];rfl
theorem yu{o:Type}{l:List o}{x:o}:(l++[x]).Nodup↔l.Nodup/\x∉l:=by
 rw[List.nodup_append]
 constructor
 .rintro⟨h1,_,h2⟩;exact⟨h1,λh=>h2 x h x (by simp) rfl⟩
 .rintro⟨h1,h2⟩;exact⟨h1,by simp,λa ha b hb e=>by rw[List.mem_singleton]at hb;subst hb;subst e;exact h2 ha⟩
theorem ajl{o:Type}{l:List o}{i:Nat}{x:o}{P:o->Prop}(h:l[i]?=some x)(ha:∀y,y∈l.take i->P y)(hx:P x):∀y,y∈l.take (i+1)->P y:=λy hy=>by
 rw[fJ h]at hy
 rcases List.mem_append.1 hy with hy|hy
 .exact ha y hy
 .rw[List.mem_singleton]at hy;rw[hy];exact hx
theorem Ql(e:Env)(h:bd e)(h1:e.1.length<=8)(h2:e.2.length<=64)(h3:∀r,r∈e.1->(gD r 1).length<=8):T (λn=>Cw n e) λx=>bd x/\bj x=ajJ e:=by
 have D:=dc e h
 have I:=aB e h
 refine .step (λn=>aib n) ?_
 refine T.lst (σ:=Rows) (L:=λi s n=>A4 n e.1 (e.1.length:Int) i e s) (by omega) (λn _ _=>OT n) (λi s=>(s.length<=9*i/\bj s=ajI (e.1.take i))/\cb 1099511627776 s) ?_ ?_ [] ⟨⟨by simp,rfl⟩,trivial⟩
 .rintro s⟨⟨A,o⟩,z⟩
  rw[List.take_length]at o
  refine T.lst (σ:=Rows) (L:=λi s n=>A6 n e.2 (e.2.length:Int) i s) (by omega) (λn _ _=>OK n) (λi s=>(s.length<=72+i/\bj s=ajI e.1++bj (e.2.take i))/\cb 1099511627776 s) ?_ ?_ s ⟨⟨by omega,by simpa using o⟩,z⟩
  .rintro s⟨⟨A,o⟩,z⟩;rw[List.take_length]at o;exact(.ret ⟨⟨by omega,z⟩,o⟩)
  .rintro i s hi⟨⟨A,o⟩,z⟩E;refineλr hr=>.fits (by simp;omega) ?_;exact E _ ⟨⟨by simp;omega,by rw[fJ hr];simp[bj,Ub]at o⊢;rw[<-List.append_assoc,o]⟩,dt z (dL (bm (dv (ak (an I hr) 0)) ed) eg)⟩
 .rintro i s hi⟨⟨A,o⟩,z⟩E;intro r hr;have J:=h3 r (List.mem_of_getElem? hr);refine .fits (by simp;omega) (.fits (by simp;omega) ?_);exact E _ ⟨⟨by simp;omega,by rw[fJ hr];simp[bj,Ub,ajI]at o⊢;rw[o]⟩,dt (dt z (dL (bm (dv (ak (an D hr) 0)) ed) eg)) (ai (an D hr) 1).2⟩
theorem akI(m:Rows)(s k:ByteArray)(v:List AV):mP (bG m s v) k=if k=s then some (.sc (.string s)::v)else mP m k:=by
 have e2:∀a b:ByteArray,(a==b)=decide (a=b):=λa b=>by rw[Bool.eq_iff_iff,decide_eq_true_iff];exact⟨abW,λh=>h▸XE a⟩
 induction m with
 |nil=>unfold mP bG;simp only[List.find?_cons,Ub,e2,List.find?_nil];by_cases h:k=s<;>simp[h]
 |cons r rs o=>
  unfold bG
  rw[e2]
  by_cases h:s=gS r 0
  .subst h;simp only[decide_true,mP,List.find?_cons,Ub,e2];by_cases h:k=gS r 0<;>simp[h]
  .simp only[h,decide_false]
   unfold mP at o⊢
   simp only[List.find?_cons,e2]at o⊢
   by_cases h2:k=gS r 0
   .have:¬k=s:=λq=>h (by rw[<-q,h2]);simp[h2,show¬gS r 0=s fromλq=>h q.symm]
   .simp only[h2,decide_false];exact o
theorem aim(a0)(h0:bd a0):T (λn=>Il n a0) λb=>b=true↔(bj a0).Nodup:=by
 have hl:=bq h0
 refine .step (λn=>ahs n) ?_
 refine T.lst (σ:=Rows) (L:=λi s n=>A5 n a0 (a0.length:Int) i s) (by omega) (λn _ _=>OW n) (λi s=>(bj (a0.take i)).Nodup/\∀k,(k∈bj (a0.take i)->mP s k=some [.sc (.string k),.sc (.bool true)])/\(k∉bj (a0.take i)->mP s k=none)) ?_ ?_ [] ⟨by simp,λk=>⟨by simp,λ_=>rfl⟩⟩
 .rintro s⟨h,_⟩;rw[List.take_length]at h;exact(.ret (by simp[h]))
 .rintro i s hi⟨h1,h2⟩o
  intro r hr
  have e:bj (a0.take (i+1))=bj (a0.take i)++[gS r 0]:=by rw[fJ hr];simp
  by_cases hm:gS r 0∈bj (a0.take i)
  .refine .jx (λv hv=>?_) (λhv=>?_)
   .rw[(h2 _).1 hm]at hv
    obtain rfl:=Option.some.inj hv
    refine .pos rfl (.ret ⟨(λe=>by cases e),λhn=>?_⟩)
    have h3:(bj (a0.take (i+1))).Nodup:=by
     have:bj (a0.take (i+1))=(bj a0).take (i+1):=by simp[bj,List.map_take]
     rw[this];exact hn.sublist (List.take_sublist _ _)
    rw[e,yu]at h3;exact absurd hm h3.2
   .rw[(h2 _).1 hm]at hv;cases hv
  .refine .jx (λv hv=>by rw[(h2 _).2 hm]at hv;cases hv) (λhv=>.step (λn=>abI n) ?_)
   refine o _ ⟨by rw[e,yu];exact⟨h1,hm⟩,λk=>?_⟩
   rw[akI,e]
   by_cases hk:k=gS r 0
   .subst hk;simp
   .simpa[hk]using h2 k
theorem agt(a0:fv)(h0:bd a0):T (λn=>wD n a0) λb=>b=true->iE a0.1 a0.2.2:=.step (λn=>SL n) (.ask (vm a0 h0) λx hx=>.ite (λc=>.ask (SR _ _ h0) λ_ _=>.ret λ_=>(hx c).1) (λ_=>.ret λe=>by cases e))
theorem ai8.ok{e:Env}(v:ai8 e)(h:bd e):Bb e:=⟨v.c,v.n,λr hr=>(v.k r hr).2.1,λr hr=>by have k:=dG (aB e h) hr;obtain⟨b,hb,hq⟩:=agt (aK r 1) ⟨trivial,ak k 2,ai k 3⟩;exact hq (hb.HU (v.t r hr).2.1)⟩
theorem alc(e:Env)(t:fv)(h:bd e)(ht:bd t):T (λn=>Cv n e t) λb=>b=true↔ajK e.1 t:=by
 refine .step (λn=>ah1 n) (.mV (SW t ht) λl hv hl=>.ask (Q':=λx=>x.1=false↔ajK e.1 t) (.step (λn=>abH n) (.ask (Q':=λx=>¬x.1>=0↔ajK e.1 t) (.step (λn=>YR n) ?_) λx hx=>.ret (by rw[<-hx];simp))) λx hx=>.ret (by rw[<-hx];simp))
 have D:=bq hl
 refine T.lst (σ:=Unit) (L:=λi _ n=>tN n l (l.length:Int) i e) (by omega) (λn _ _=>KA n) (λi _=>∀r,r∈l.take i->∃x,Ev (λn=>ER n e.1 (gS r 0)) x/\x.1=true) ?_ ?_ () (by simp)
 .intro _ h;rw[List.take_length]at h;exact(.ret ⟨λ_=>⟨l,hv,h⟩,λ_=>by simp⟩)
 .intro i _ hi h' A
  intro r hr
  obtain⟨x,hx,_⟩:=Z8 e.1 (gS r 0) (dc e h) (ak (an hl hr) 0)
  refine .ask (Q':=λy=>y=(!x.1,e)) (.step (λn=>ahV n) (.cR (.step (λn=>ahL n) (.ask hx (.ret _))) (.ret rfl))) λy hy=>?_
  subst hy
  refine .ite (λc=>.ret ⟨λc2=>absurd (show(i:Int)>=0 by omega) c2,λ⟨l',z,h'⟩=>?_⟩) (λc=>?_)
  .rw[z.HU hv]at h';obtain⟨y,hy,o⟩:=h' r (List.mem_of_getElem? hr);rw[hy.HU hx]at o;rw[o]at c;cases c
  .exact A () (ajl hr h' ⟨x,hx,by simpa using c⟩)
theorem ajm(e:Env)(h:bd e):T (λn=>jN n e) λb=>b=true↔ai8 e:=by
 have A:=dc e h
 have o:=aB e h
 have O:=bq A
 have N:=bq o
 have no:(ai8 e->False)->T (λn=>(some false:Option Bool)) λb=>b=true↔ai8 e:=λh=>.ret ⟨(λe=>by cases e),λv=>(h v).elim⟩
 have nd:∀{F:Nat->Option Bool}{b:Bool},Ev F b->(!b)=true->Ev F true->False:=λh c h'=>by rw[h.HU h']at c;cases c
 refine .step (λn=>ahP n) (.ite (λc=>no λv=>by have:=cO c;have:=v.c;omega) (λc1=>.ite (λc=>no λv=>by have:=cO c;have:=v.n;omega) (λc2=>?_)))
 have c1:=eU c1
 have c2:=eU c2
 refine T.lst (σ:=Unit) (L:=λi _ n=>AY n e.1 (e.1.length:Int) i e) (by omega) (λn _ _=>OS n) (λi _=>∀r,r∈e.1.take i->Ev (λn=>ga n (gS r 0)) true/\(gD r 1).length<=8/\∀x,x∈gD r 1->Ev (λn=>ga n (gS x 0)) true) ?_ ?_ () (by simp)
 .intro _ hk
  rw[List.take_length]at hk
  refine T.lst (σ:=Unit) (L:=λi _ n=>A0 n e.2 (e.2.length:Int) i e) (by omega) (λn _ _=>OD n) (λi _=>∀r,r∈e.2.take i->Ev (λn=>Cu n (gS r 0)) true/\Ev (λn=>wD n (aK r 1)) true/\ajK e.1 (aK r 1)) ?_ ?_ () (by simp)
  .intro _ ht;rw[List.take_length]at ht;exact(.ask (Ql e h (by omega) (by omega) λr hr=>(hk r hr).2.1) λx hx=>.ask (aim _ hx.1) λb hb=>.ret (by rw[hb,hx.2];exact⟨λd=>⟨by omega,by omega,hk,ht,d⟩,λv=>v.d⟩))
  .intro i _ hi ht E;intro r hr;have hm:=List.mem_of_getElem? hr;have J:bd (aK r 1):=⟨trivial,ak (an o hr) 2,ai (an o hr) 3⟩;refine .mV (SX _ (ak (an o hr) 0)) λ_ v1 _=>.ite (λc=>no λv=>nd v1 c (v.t r hm).1) (λd1=>.mV (aie _ J) λy z _=>.ite (λc=>no λv=>nd z c (v.t r hm).2.1) (λd2=>.ask (alc _ _ h J) λQ hz=>.ite (λc=>no λv=>by rw[hz.2 (v.t r hm).2.2]at c;cases c) (λd3=>?_)));rw[iD d1]at v1;rw[iD d2]at z;exact E () (ajl hr ht ⟨v1,z,hz.1 (iD d3)⟩)
 .intro i _ hi hk E
  intro r hr
  have hm:=List.mem_of_getElem? hr
  refine .mV (lW _ (ak (an A hr) 0)) λ_ v1 _=>.ite (λc=>no λv=>nd v1 c (v.k r hm).1) (λd1=>.ite (λc=>no λv=>by have:=cO c;have:=(v.k r hm).2.1;omega) (λc=>?_))
  have c:=eU c
  rw[iD d1]at v1
  have I:(gD r 1).length<=8:=by omega
  refine T.lst (σ:=Unit) (L:=λj _ n=>AZ n e.1 (e.1.length:Int) (i:Int) (gD r 1) ((gD r 1).length:Int) j e) (by omega) (λn _ _=>OZ n) (λj _=>∀x,x∈(gD r 1).take j->Ev (λn=>ga n (gS x 0)) true) ?_ ?_ () (by simp)
  .intro _ h3;rw[List.take_length]at h3;exact E () (ajl hr hk ⟨v1,I,h3⟩)
  .intro j _ hj h3 D;intro q hq;refine .mV (lW _ (ak (an (ai (an A hr) 1) hq) 0)) λ_ z _=>.ite (λc=>no λv=>nd z c ((v.k r hm).2.2 q (List.mem_of_getElem? hq))) (λd2=>?_);rw[iD d2]at z;exact D () (ajl hq h3 z)
theorem lP(e:Env)(h:bd e):T (λn=>jN n e) λb=>b=true->Bb e:=(ajm e h).mono λ_ hb c=>(hb.1 c).ok h
theorem T.agu{β:Type}{Q:β->Prop}{F G:Nat->Option β}(h:∀n,F (n+1+1+1+1)=G n)(hG:T G Q):T F Q:=by obtain⟨r,⟨m,a⟩,b⟩:=hG;refine⟨r,⟨m+4,λn hn=>?_⟩,b⟩;obtain⟨k,rfl⟩:∃k,n=k+1+1+1+1:=⟨n-4,by omega⟩;rw[h];exact a k (by omega)
theorem T.O9{β:Type}{Q:β->Prop}{F:Nat->Option β}(h:T F Q):T (λn=>F (n+1+1)) Q:=T.shift (F:=λn=>F (n+1)) (T.shift h)
theorem T.EV{β:Type}{Q:β->Prop}{F:Nat->Option β}(h:T F Q):T (λn=>F (n+1+1+1)) Q:=T.shift (F:=λn=>F (n+1+1)) (T.O9 h)
theorem L1{s:ByteArray}{v:List AV}:∀{m:Rows}{r:List AV},r∈bG m s v->r∈m\/r=.sc (.string s)::v
 |[],r,h=>by simp only[bG,List.mem_singleton]at h;exact .inr h
 |x::xs,r,h=>by
  unfold bG at h
  split at h
  .rcases List.mem_cons.1 h with h|h
   .exact .inr h
   .exact .inl (by simp[h])
  .rcases List.mem_cons.1 h with h|h
   .exact .inl (by simp[h])
   .rcases L1 h with h|h
    .exact .inl (by simp[h])
    .exact .inr h
theorem zt{m:Rows}(h:iJ m)(s:ByteArray){x:fv}(hx:ty x):iJ (bG m s (cy x)):=λr hr=>by
 rcases L1 hr with hr|rfl
 .exact h r hr
 .exact hx
def ajo(l:Rows):List (ByteArray×List AV):=l.flatMap λr=>(gS r 0,cy (5,bs [],[cy (3,gS r 0,[])]))::(gD r 1).map λx=>(gS x 0,cy (3,gS r 0,[]))
def ajs(l:Rows):List (ByteArray×List AV):=l.map λd=>(gS d 0,cy (aK d 1))
def aju(l:List (ByteArray×List AV)):Rows:=l.foldl (λm x=>bG m x.1 x.2) []
def ajh(l:List (ByteArray×List AV))(m:Rows):Prop:=iJ m/\m=aju l
theorem ajh.put{l:List (ByteArray×List AV)}{m:Rows}(h:ajh l m)(s:ByteArray){x:fv}(hx:ty x):ajh (l++[(s,cy x)]) (bG m s (cy x)):=⟨zt h.1 s hx,by rw[h.2];unfold aju;rw[List.foldl_append];rfl⟩
theorem ajh.of{l l':List (ByteArray×List AV)}{m:Rows}(h:ajh l m)(e:l=l'):ajh l' m:=e▸h
theorem ab0(e:Env)(h:bd e)(he:Bb e):T (λn=>BO n e) (ajh (ajo e.1++ajs e.2)):=by
 have I:=dc e h
 have z:=aB e h
 have h1:=he.c
 have h2:=he.n
 refine .step (λn=>aej n) ?_
 refine T.lst (σ:=Rows) (L:=λi s n=>sf n e.1 (e.1.length:Int) i e s) (by omega) (λn _ _=>MU n) (λi m=>ajh (ajo (e.1.take i)) m) ?_ ?_ [] ⟨(by intro r hr;cases hr),rfl⟩
 .intro s hs
  rw[List.take_length]at hs
  refine T.lst (σ:=Rows) (L:=λi s n=>z8 n e.2 (e.2.length:Int) i s) (by omega) (λn _ _=>M3 n) (λi m=>ajh (ajo e.1++ajs (e.2.take i)) m) ?_ ?_ s (hs.of (by simp[ajs]))
  .exactλs hs=>(.ret (by rwa[List.take_length]at hs))
  .intro i s hi hs D;intro r hr;exact D _ ((hs.put (gS r 0) (x:=aK r 1) ⟨⟨trivial,ak (an z hr) 2,ai (an z hr) 3⟩,(he.t r (List.mem_of_getElem? hr)).s⟩).of (by rw[fJ hr];simp[ajs]))
 .intro i s hi hs D
  intro r hr
  have E:=ak (an I hr) 0
  have hc:=he.k r (List.mem_of_getElem? hr)
  have t3:ty (3,gS r 0,[]):=ra 3 E (by omega)
  refine .ask (Q':=λx=>x=(5,bs [],[cy (3,gS r 0,[])])) (.step (λn=>aff n) (.ret rfl)) λx hx=>?_
  subst hx
  have hm:=hs.put (gS r 0) (Hu t3)
  generalize bG s (gS r 0) _=J at hm
  let EL:Nat->List (ByteArray×List AV):=λj=>ajo (e.1.take i)++[(gS r 0,cy (5,bs [],[cy (3,gS r 0,[])]))]++((gD r 1).take j).map λx=>(gS x 0,cy (3,gS r 0,[]))
  have fin:∀s',ajh (EL (gD r 1).length) s'->T (λn=>sf n e.1 (e.1.length:Int) (be ((i:Int)+1)) e s') (ajh (ajo e.1++ajs e.2)):=λs' o=>by exact D s' (o.of (by simp only[EL];rw[List.take_length,fJ hr];simp[ajo]))
  have next:∀(j:Nat)s' q,(gD r 1)[j]?=some q->ajh (EL j) s'->ajh (EL (j+1)) (bG s' (gS q 0) (cy (dQ (3,gS r 0) []))):=λj s' q hq o=>(o.put (gS q 0) (x:=(3,gS r 0,[])) t3).of (by simp only[EL];rw[fJ hq];simp)
  have rest:∀(j:Nat)s',j<=(gD r 1).length->ajh (EL j) s'->T (λn=>tK n e.1 (e.1.length:Int) (i:Int) (gD r 1) ((gD r 1).length:Int) j e s' (3,gS r 0) []) (ajh (ajo e.1++ajs e.2)):=by
   intro j s' hj o
   refine T.lO (σ:=Rows) (L:=λj s n=>tK n e.1 (e.1.length:Int) (i:Int) (gD r 1) ((gD r 1).length:Int) j e s (3,gS r 0) []) (gD r 1).length (λj s=>ajh (EL j) s) ?_ ?_ j hj s' o
   .exactλs hs=>.step (λn=>Ku n) (.neg (by simp) (fin s hs))
   .intro j s hj hs A;refine .step (λn=>Ku n) (.pos (by simp;omega) (.ab (by omega) (by omega) λq hq=>?_));rw[aE (i:=(j:Int)+1) (by omega) (by omega)];exact A _ (next j s q (by simpa using hq) hs)
  refine .step (λn=>YM n) (.ite (λc=>?_) (λc=>fin _ (hm.of ?_)))
  .have c:=cO c;refine .ab (by omega) (by omega) λq hq=>?_;rw[aE (i:=(0:Int)+1) (by omega) (by omega)];exact rest 1 _ (by omega) (next 0 J q (by simpa using hq) (hm.of (by simp[EL])))
  .have c:=eU c;rw[show(gD r 1).length=0 by omega];simp[EL]
def B2(r:Int×ByteArray×Rows×Rows×Int):Prop:=bd ((r.1,r.2.1,r.2.2.1):fv)/\(r.1=5->r.2.2.1.length=1)
theorem Hv{e:Int}{p:Rows}:B2 (0,bs [],[],p,e):=⟨⟨trivial,dz,cK⟩,λh=>by cases h⟩
theorem ab1(t:fl)(m:Rows×Rows)(h:fC 64 t)(ht:bd t)(hm:iJ m.1):T (λn=>jB n t (0,bs []) m [] []) B2:=by
 refine .step (λn=>abB n) (.ask (ail t m h ht hm) λx hx=>.ite (λ_=>?_) (λ_=>?_))
 .have hp:=hx.2.2.2.2;exact .ask (afD _ (by omega)) λy hy=>.ret Hv
 .exact .ask (SS _ hx.1.1) λy hy=>.ret ⟨hy.1,λe=>by show y.2.2.length=1;rw[hy.2.2.1];exact Ua hx.1 (by rw[<-hy.2.1];exact e)⟩
theorem S0(e:Env)(t:fl)(h:bd e)(ht:bd t):T (λn=>Ct n e t) B2:=by refine .agu (λn=>ahJ n) ?_;refine .ask (T.EV (F:=λn=>jN n e) (lP e h)) λb hb=>.ite (λ_=>.ret Hv) (λc=>?_);have he:=hb (iD c);have hl:=he.c;refine .ask (T.EV (F:=λn=>kl n t) (sB t ht)) λb hb=>.ite (λ_=>.ret Hv) (λc=>?_);have hv:=hb (iD c);refine .ask (T.O9 (F:=λn=>BO n e) (ab0 e h he)) λx hx=>?_;have jj:∀o:Rows,T (λn=>jB (n+1+1+1) t (0,bs []) (x,o) [] []) B2:=λo=>T.EV (F:=λn=>jB n t (0,bs []) (x,o) [] []) (ab1 t (x,o) hv ht hx.1);refine .ite (λc=>.ab (by omega) (by have:=cO c;omega) λr _=>?_) (λ_=>jj _);refine .ite (λc=>.ab (by omega) (by have:=cO c;omega) λr _=>?_) (λ_=>jj _);refine .ite (λc=>.ab (by omega) (by have:=cO c;omega) λr _=>?_) (λ_=>jj _);refine .ite (λc=>.ab (by omega) (by have:=cO c;omega) λr _=>?_) (λ_=>jj _);refine .ite (λc=>.ab (by omega) (by have:=cO c;omega) λr _=>?_) (λ_=>jj _);refine .ite (λc=>.ab (by omega) (by have:=cO c;omega) λr _=>?_) (λ_=>jj _);refine .ite (λc=>.ab (by omega) (by have:=cO c;omega) λr _=>?_) (λ_=>jj _);refine .ite (λc=>.ab (by omega) (by have:=cO c;omega) λr _=>?_) (λ_=>jj _);exact .ite (λc=>absurd (cO c) (by omega)) (λ_=>jj _)
def ain(r:Int×ByteArray×Rows×Int):Prop:=bd r/\(r.1=5->r.2.2.1.length=1)
theorem Fq(e:Env)(t:fl)(h:bd e)(ht:bd t):T (λn=>iI n e t) ain:=.step (λn=>ah8 n) (.ask (S0 e t h ht) λx hx=>.ite (λ_=>.ite (λ_=>.ret ⟨⟨trivial,dz,cK,trivial⟩,λh=>by cases h⟩) (λ_=>.ret ⟨⟨trivial,hx.1.2.1,hx.1.2.2,trivial⟩,hx.2⟩)) (λ_=>.ret ⟨⟨trivial,hx.1.2.1,hx.1.2.2,trivial⟩,hx.2⟩))
theorem B3(e:Env)(t:fl)(h:bd e)(ht:bd t):T (λn=>iI n e t) bd:=(Fq e t h ht).mono λ_ h=>h.1
theorem S2(e:Env)(t:fl)(h:bd e)(ht:bd t):T (λn=>Cq n e t) bd:=.step (λn=>ahQ n) (.ask (S0 e t h ht) λx hx=>.ite (λ_=>.ite (λ_=>.ret trivial) (λ_=>.ret trivial)) (λ_=>.ret trivial))
def ajz(l:Rows):Prop:=∀d,d∈l->d=fA (du d 0)/\ajf (gD d 3)
def aji(l:Rows)(d:List AV):Rows:=if(l.any λo=>ay (gS o 0) (gS d 0))=true then l else l++[d]
def ajc(l m:Rows):Rows:=m.foldl aji l
theorem akJ{l m:Rows}{i:Nat}{d:List AV}(h:m[i]?=some d):ajc l (m.take (i+1))=aji (ajc l (m.take i)) d:=by unfold ajc;rw[fJ h,List.foldl_append];rfl
theorem akc{l:Rows}{s:ByteArray}(hl:bd l){F:Nat->Option Bool}{G:Nat->Option Int}{J:Nat->Int->Option Int}{P:Nat->List AV->Option Bool}(eF:∀n,F (n+1)=ask (G n) λx=>some (decide ((x:Int)>=0)))(eG:∀n,G (n+1)=J n 0)(eJ:∀n i,J (n+1) i=aa (decide (i<(l.length:Int))) (ab l i λr=>ask (P n r) λx=>aa x (some i) (J n (be (i+1)))) (some (-1)))(eP:∀n r,P (n+1) r=some (ay (gS r 0) s)):Ev F (l.any λr=>ay (gS r 0) s):=by
 have:=nI (p:=λr=>ay (gS r 0) s) (by have:=bq hl;omega) eJ λr _=>.step (λn=>eP n r) (.ret _)
 refine .step eF (.ask (.step eG this) ?_)
 have e:decide (gr (λr=>ay (gS r 0) s) l>=0)=l.any λr=>ay (gS r 0) s:=by rw[Bool.eq_iff_iff,decide_eq_true_iff];exact rD
 show Ev (λ_=>some (decide (gr (λr=>ay (gS r 0) s) l>=0))) _;rw[e];exact .ret _
theorem ald(l:Rows)(s:ByteArray)(A z o)(hl:bd l):Ev (λn=>EK n l s A z o) (l.any λr=>ay (gS r 0) s):=akc hl (J:=λn i=>tO n l s A z o (l.length:Int) i) (P:=λn r=>Hl n (du r 0) s A z o) (λn=>Y3 n) (λn=>ZG n) (λn i=>KB n) λn r=>adP n
theorem ale(l:Rows)(s:ByteArray)(A z o)(hl:bd l):Ev (λn=>uM n l s A z o) (l.any λr=>ay (gS r 0) s):=akc hl (J:=λn i=>tJ n l s A z o (l.length:Int) i) (P:=λn r=>Hf n (du r 0) s A z o) (λn=>Zc n) (λn=>ZD n) (λn i=>Kt n) λn r=>afq n
theorem ab4(l:Rows)(s:ByteArray)(A z o)(hl:bd l):Ev (λn=>Gv n l s A z o) (l.any λr=>ay (gS r 0) s):=akc hl (J:=λn i=>yY n l s A z o (l.length:Int) i) (P:=λn r=>GX n (du r 0) s A z o) (λn=>adf n) (λn=>ZB n) (λn i=>WC n) λn r=>adn n
theorem ajL{l:Rows}{s:ByteArray}:(l.any λr=>ay (gS r 0) s)=true↔s∈bj l:=by simp[List.any_eq_true,gh]
theorem akK{l:Rows}{x d:List AV}(h:d∈aji l x):d∈l\/d=x:=by
 unfold aji at h
 split at h
 .exact .inl h
 .simpa using h
theorem ajM:∀{m l:Rows}{d:List AV},d∈l->d∈ajc l m|[],_,_,h=>h|x::m,l,d,h=>ajM (m:=m) (l:=aji l x) (by unfold aji;split;exact h;exact List.mem_append_left _ h)
theorem ajX:∀{m l:Rows}{d:List AV},d∈ajc l m->d∈l\/d∈m
 |[],_,_,h=>.inl h
 |x::m,l,d,h=>by
  rcases ajX (m:=m) (l:=aji l x) h with h|h
  .exact(akK h).elim .inl λe=>.inr (by simp[e])
  .exact .inr (List.mem_cons_of_mem _ h)
theorem akL:∀{m l:Rows},(bj l).Nodup->(bj (ajc l m)).Nodup
 |[],_,h=>h
 |x::m,l,h=>akL (m:=m) (l:=aji l x) (by
  unfold aji
  split
  .exact h
  .rename_i c;rw[ajL]at c;simp only[bj,List.map_append,List.map_cons,List.map_nil];exact yu.2 ⟨h,c⟩)
theorem akM:∀{m l:Rows}{d:List AV},(bj m).Nodup->d∈m->gS d 0∉bj l->d∈ajc l m
 |x::m,l,d,hn,hd,h=>by
  rw[bj,List.map_cons,List.nodup_cons]at hn
  rcases List.mem_cons.1 hd with rfl|o
  .exact ajM (m:=m) (l:=aji l d) (by unfold aji;rw[if_neg (by rw[ajL];exact h)];simp)
  .refine akM (m:=m) (l:=aji l x) hn.2 o λh'=>?_
   obtain⟨y,hy,e⟩:=List.mem_map.1 h'
   rcases akK hy with hy|rfl
   .exact h (e▸List.mem_map_of_mem hy)
   .exact hn.1 (e▸List.mem_map_of_mem o)
theorem Qm(a0 o:Rows)(h0:bd a0)(h1:bd o)(hl:a0.length+o.length<=274877906944)(hc:ajz o):T (λn=>s5 n a0 o) λr=>bd r/\r.length<=a0.length+o.length/\r=ajc a0 o:=by
 refine .step (λn=>ahT n) (.ask (Ar a0 (by omega)) λx hx=>?_)
 subst hx
 refine T.lst (σ:=Rows) (L:=λi s n=>vl n o (o.length:Int) i s) (by omega) (λn _ _=>OJ n) (λi s=>(s.length<=x.length+i/\cb 1099511627776 s)/\s=ajc x (o.take i)) ?_ ?_ x ⟨⟨by omega,h0.2⟩,rfl⟩
 .exactλs⟨hs,e⟩=>(.ret ⟨⟨by have:=hs.1;omega,hs.2⟩,hs.1,by rwa[List.take_length]at e⟩)
 .rintro i s hi⟨hs,e⟩z;have A:=hs.1;intro r hr;have k:=an h1 hr;have em:=akJ (l:=x) hr;rw[<-e]at em;unfold aji at em;rw[<-(hc r (List.mem_of_getElem? hr)).1];refine .cR (ald s _ _ _ _ ⟨by omega,hs.2⟩) ?_;refine .ite (λc=>.fits (by simp;omega) (z _ ⟨⟨by simp;omega,dt hs.2 (dL k eg)⟩,by rw[em,if_neg (by simpa using c)]⟩)) (λc=>z _ ⟨⟨by omega,hs.2⟩,by rw[em,if_pos (by simpa using c)]⟩)
def bc(p:Rows)(s:ByteArray):Int:=gr (λr=>ay (gS r 1) s) p
theorem agv(p:Rows)(s:ByteArray)(hp:bd p):Ev (λn=>H5 n p s) (bc p s):=.step (λn=>ahF n) (nI (J:=λn i=>AJ n p s (p.length:Int) i) (by have:=bq hp;omega) (λn i=>abM n) λr _=>.step (λn=>ahp n) (.ret _))
theorem Bc(p:Rows)(s:ByteArray)(hp:bd p):Ev (λn=>oK n p s) (bc p s):=.step (λn=>ahE n) (.ask (agv p s hp) (.ret _))
def bR(p:Rows)(r:List AV):Int:=if ay (gS r 3) (bs [])=true then-1 else bc p (gS r 3)
theorem iY(p:Rows)(i:Nat)(r:List AV)(hp:bd p)(hr:p[i]?=some r):Ev (λn=>ko n p (i:Int)) (bR p r):=by
 refine .step (λn=>ahI n) (.ab rfl hr ?_)
 unfold bR
 refine .ite (λh=>?_) (λh=>?_)
 .rw[if_pos h];exact .ret _
 .rw[if_neg (by rw[h];simp)];exact .ab rfl hr (.ask (Bc p _ hp) (.ret _))
structure qo(p:Rows)(n:Nat):Prop where
 rf:∀(i:Nat)r,i<n->p[i]?=some r->ay (gS r 3) (bs [])=false->0<=bc p (gS r 3)/\bc p (gS r 3)<i
 ex:∀(i:Nat)r,i<n->p[i]?=some r->∀q,q∈gD r 2->0<=bc p (gS q 0)/\bc p (gS q 0)<i
theorem lI{p:Rows}{n:Nat}(h:qo p n){i:Nat}{r:List AV}(hi:i<n)(hr:p[i]?=some r):bR p r<i:=by
 unfold bR
 split
 .omega
 .rename_i e;exact(h.rf i r hi hr (by simpa using e)).2
abbrev ba(ks:List Nat):Rows:=ks.map λk:Nat=>[.sc (.int .i64 (k:Int))]
abbrev ai5(p:Rows)(i:Nat):List AV:=p[i]?.getD []
def ajd(p:Rows)(i:Nat):List Nat:=(if 0<=bR p (ai5 p i)/\(bR p (ai5 p i)).toNat<i then ajd p (bR p (ai5 p i)).toNat else[])++[i]termination_by i decreasing_by omega
theorem ajN(p:Rows):∀(b i:Nat),i<b->(∀k,k∈ajd p i->k<=i)/\(ajd p i).length<=i+1
 |0,i,h=>absurd h (by omega)
 |b+1,i,h=>by
  rw[ajd]
  split
  .have:=ajN p b (bR p (ai5 p i)).toNat (by omega)
   refine⟨λk hk=>?_,by simp;omega⟩
   rcases List.mem_append.1 hk with hk|hk
   .have:=this.1 k hk;omega
   .rw[List.mem_singleton]at hk;omega
  .simp
theorem Qn(p:Rows)(hp:bd p)(n:Nat)(hn:n<=1000000)(h:qo p n):∀(b i:Nat),i<b->i<n->i<p.length->T (λn=>qZ n p (i:Int)) λr=>r=ba (ajd p i)
 |0,i,hi,_,_=>absurd hi (by omega)
 |b+1,i,hi,z,o=>by
  have hr:p[i]?=some p[i]:=by simp[o]
  have hlt:=lI h z hr
  have e:ai5 p i=p[i]:=by rw[ai5,hr];rfl
  rw[ajd,e]
  refine .step (λn=>Hq n) (.cR (iY p i _ hp hr) (.ite (λc=>?_) (λc=>?_)))
  .have c:=cO c;rw[if_pos ⟨c,by omega⟩];obtain⟨k,hk⟩:∃k:Nat,bR p p[i]=k:=⟨(bR p p[i]).toNat,by omega⟩;rw[hk];have hl:=(ajN p (k+1) k (by omega)).2;exact .ask (Qn p hp n hn h b k (by omega) (by omega) (by omega)) λx hx=>.fits (by subst hx;simp;omega) (.ret (by subst hx;simp))
  .have c:=eU c;rw[if_neg (λq=>c q.1)];exact .ret rfl
theorem tt:∀(b:Nat)(l:List Nat),l.Nodup->(∀x,x∈l->x<b)->l.length<=b
 |0,[],_,_=>aC _
 |0,x::_,_,h=>absurd (h x (by simp)) (by omega)
 |b+1,l,hn,h=>by
  have h1:(l.erase b).length<=b:=tt b (l.erase b) (hn.erase b) λx hx=>by have o:=(hn.mem_erase_iff).1 hx;have:=h x o.2;omega
  by_cases hb:b∈l
  .have:=List.length_erase_of_mem hb;omega
  .rw[List.erase_of_not_mem hb]at h1;omega
theorem Qo(l:Rows)(i:Int)(hl:l.length<=4611686018427387904):Ev (λn=>l6 n l i) (l.any λr=>i==gI r 0):=by
 refine .step (λn=>ahB n) (.ask (.step (λn=>aeP n) (Kl (J:=λn j=>Ac n l i (l.length:Int) j) (p:=λr=>i==gI r 0) hl λn j=>Zj n)) ?_)
 have:decide (gr (λr=>i==gI r 0) l>=0)=(l.any λr=>i==gI r 0):=by rw[Bool.eq_iff_iff,decide_eq_true_iff];exact rD
 rw[this];exact .ret _
theorem alf(l:List Nat)(k:Nat):((ba l).any λr=>(k:Int)==gI r 0)=decide (k∈l):=by
 rw[Bool.eq_iff_iff,decide_eq_true_iff,List.any_eq_true]
 constructor
 .rintro⟨x,hx,e⟩
  obtain⟨c,hc,rfl⟩:=List.mem_map.1 hx
  have e:(k:Int)=c:=by simpa[gI]using e
  obtain rfl:k=c:=by omega
  exact hc
 .intro h;exact⟨_,List.mem_map_of_mem h,by simp[gI]⟩
theorem ur{ks:List Nat}{j:Nat}{x:List AV}(h:(ba ks)[j]?=some x):∃k:Nat,ks[j]?=some k/\x=[.sc (.int .i64 (k:Int))]:=by rw[List.getElem?_map]at h;obtain⟨k,h1,rfl⟩:=Option.map_eq_some_iff.1 h;exact⟨k,h1,rfl⟩
def qU(s:List Nat)(k:Nat):List Nat:=if k∈s then s else s++[k]
def aja(l:List Nat):List Nat:=l.foldl qU []
theorem akd(l:List Nat)(k:Nat):aja (l++[k])=qU (aja l) k:=by unfold aja;rw[List.foldl_append];rfl
theorem ajv(l:List Nat):(aja l).Nodup/\∀k,k∈aja l↔k∈l:=by
 rw[<-List.reverse_reverse l]
 induction l.reverse with
 |nil=>exact⟨by simp[aja],by simp[aja]⟩
 |cons x l o=>
  rw[List.reverse_cons,akd]
  unfold qU
  split
  .rename_i h;exact⟨o.1,λk=>by rw[List.mem_append,o.2,List.mem_singleton];exact⟨.inl,λh'=>h'.elim id λe=>by rw[e];exact(o.2 x).1 h⟩⟩
  .rename_i h;exact⟨yu.2 ⟨o.1,h⟩,λk=>by rw[List.mem_append,List.mem_append,o.2]⟩
theorem UB{ai4:List Nat}{b:Nat}(hb:b<=1000)(ha:∀k,k∈ai4->k<b)(hl:ai4.length<=1099511627776){V0 V' V:Nat->Int->Rows->Option Rows}(A:∀n i s,V0 (n+1) i s=(aa (decide (i<((ba ai4).length:Int))) (ab (ba ai4) i λ_=>(eJ (ba ai4) i.toNat λr1=>(ask (l6 n s (gI r1 0)) λo=>(aa (!o) (fits (s.length+([[.sc (.int .i64 (gI r1 0))]]:List (List AV)).length) 8 (V' n i (s++[[.sc (.int .i64 (gI r1 0))]]))) (V' n i s))))) (some s)))(e1:∀n i s,V (n+1) i s=(aa (decide (i<((ba ai4).length:Int))) (ab (ba ai4) i λ_=>(eJ (ba ai4) i.toNat λr1=>(ask (l6 n s (gI r1 0)) λo=>(aa (!o) (fits (s.length+([[.sc (.int .i64 (gI r1 0))]]:List (List AV)).length) 8 (V' n i (s++[[.sc (.int .i64 (gI r1 0))]]))) (V' n i s))))) (some s)))(e2:∀n i s,V' (n+1) i s=V n (be (i+1)) s):T (λn=>V0 n 0 []) λr=>r=ba (aja ai4):=by
 have body:∀(j:Nat),j<ai4.length->T (λn=>V n ((j:Int)+1) (ba (aja (ai4.take (j+1))))) (λr=>r=ba (aja ai4))->T (λn=>(ab (ba ai4) (j:Int) λ_=>(eJ (ba ai4) (j:Int).toNat λr1=>(ask (l6 n (ba (aja (ai4.take j))) (gI r1 0)) λo=>(aa (!o) (fits ((ba (aja (ai4.take j))).length+([[.sc (.int .i64 (gI r1 0))]]:List (List AV)).length) 8 (V' n (j:Int) ((ba (aja (ai4.take j)))++[[.sc (.int .i64 (gI r1 0))]]))) (V' n (j:Int) (ba (aja (ai4.take j))))))))) λr=>r=ba (aja ai4):=by
  intro j hj hK
  have hlen:(aja (ai4.take j)).length<=b:=tt b _ (ajv _).1 λk hk=>ha k (List.mem_of_mem_take (((ajv _).2 k).1 hk))
  refine .ab (by omega) (by simp;omega) λ_ _=>.eJ (by simp;omega) λr hr=>?_
  obtain⟨k,hk,rfl⟩:=ur hr
  have hk:ai4[j]?=some k:=by simpa using hk
  have e:aja (ai4.take (j+1))=qU (aja (ai4.take j)) k:=by rw[fJ hk,akd]
  have go:T (λn=>V' n (j:Int) (ba (aja (ai4.take (j+1))))) λr=>r=ba (aja ai4):=.step (λn=>e2 n _ _) (by rw[aE (i:=(j:Int)+1) (by omega) (by omega)];exact hK)
  unfold qU at e
  have ev:=Qo (ba (aja (ai4.take j))) k (by simp;omega)
  rw[alf]at ev
  refine .cR ev (.ite (λc=>.fits (by simp;omega) ?_) (λc=>?_))
  .rw[if_neg (by simpa using c)]at e;rw[e]at go;simpa[gI]using go
  .rw[if_pos (by simpa using c)]at e;rw[e]at go;exact go
 have loop:∀(k:Nat),k<=ai4.length->T (λn=>V n (k:Int) (ba (aja (ai4.take k)))) λr=>r=ba (aja ai4):=λk hk=>by
  refine T.lO (σ:=Rows) (L:=λi s n=>V n i s) ai4.length (λj s=>s=ba (aja (ai4.take j))) ?_ ?_ k hk _ rfl
  .exactλs h=>.step (λn=>e1 n _ _) (.neg (by simp) (.ret (by rwa[List.take_length]at h)))
  .exactλj s hj h z=>.step (λn=>e1 n _ _) (.pos (by simp;omega) (by subst h;exact body j hj (z _ rfl)))
 refine .step (λn=>A n _ _) (.ite (λc=>?_) (λc=>?_))
 .have c:=cO c;exact body 0 (by simp at c;omega) (loop 1 (by simp at c;omega))
 .have c:=eU c;have:ai4=[]:=List.length_eq_zero_iff.1 (by simp at c;simpa using c);subst this;exact .ret rfl
theorem akN(ai4:List Nat)(b:Nat)(hb:b<=1000)(ha:∀k,k∈ai4->k<b)(hl:ai4.length<=1099511627776):T (λn=>qk n (ba ai4)) (λr=>r=ba (aja ai4))/\T (λn=>pU n (ba ai4)) (λr=>r=ba (aja ai4)):=⟨.step (λn=>M0 n) (UB (V0:=λn i s=>Fi n ((ba ai4).length:Int) i s (ba ai4)) (V':=λn i s=>oc n ((ba ai4).length:Int) i s (ba ai4)) (V:=λn i s=>uc n ((ba ai4).length:Int) i s (ba ai4)) hb ha hl (λn _ _=>OC n) (λn _ _=>DJ n) λn _ _=>D4 n),.step (λn=>KM n) (UB (V0:=λn i s=>D1 n ((ba ai4).length:Int) i s (ba ai4)) (V':=λn i s=>nJ n ((ba ai4).length:Int) i s (ba ai4)) (V:=λn i s=>uh n ((ba ai4).length:Int) i s (ba ai4)) hb ha hl (λn _ _=>LW n) (λn _ _=>DK n) λn _ _=>Dg n)⟩
def ajA(p:Rows)(i:Nat):List Nat:=(if gI (ai5 p i) 0=2/\0<=bR p (ai5 p i)then[(bR p (ai5 p i)).toNat]else[])++(gD (ai5 p i) 2).map λq=>(bc p (gS q 0)).toNat
def ai9(p:Rows)(i:Nat):List Nat:=aja (((ajA p i).flatMap λk=>if k<i then ai9 p k else[])++if gI (ai5 p i) 0=1 then[i]else[])termination_by i decreasing_by assumption
def al(p:Rows)(i:Nat):List Nat:=(ajA p i).flatMap λk=>if k<i then ai9 p k else[]
theorem ajw(p:Rows)(i:Nat):ai9 p i=aja (al p i++if gI (ai5 p i) 0=1 then[i]else[]):=by rw[ai9];rfl
theorem ajO(p:Rows):∀(b i:Nat),i<b->∀k,k∈al p i->k<i
 |0,i,h=>absurd h (by omega)
 |b+1,i,h=>λk hk=>by
  obtain⟨j,_,hj⟩:=List.mem_flatMap.1 hk
  split at hj
  .rename_i o
   rw[ajw,(ajv _).2,List.mem_append]at hj
   rcases hj with hj|hj
   .have:=ajO p b j (by omega) k hj;omega
   .split at hj
    .rw[List.mem_singleton]at hj;omega
    .cases hj
  .cases hj
theorem ajP(p:Rows)(i:Nat):∀k,k∈ai9 p i->k<i+1:=λk hk=>by
 rw[ajw,(ajv _).2,List.mem_append]at hk
 rcases hk with hj|hj
 .have:=ajO p (i+1) i (by omega) k hj;omega
 .split at hj
  .rw[List.mem_singleton]at hj;omega
  .cases hj
theorem ajY(p:Rows)(i:Nat):(ai9 p i).length<=i+1:=tt _ _ (by rw[ajw];exact(ajv _).1) (ajP p i)
theorem Fs(p:Rows)(hp:bd p)(n:Nat)(hn:n<=900)(h:qo p n)(he:∀r,r∈p->(gD r 2).length<=16777216):∀(b i:Nat),i<b->i<n->i<p.length->T (λn=>jh n p (i:Int)) λr=>r=ba (ai9 p i)
 |0,i,hi,_,_=>absurd hi (by omega)
 |b+1,i,hi,z,o=>by
  have hr:p[i]?=some p[i]:=by simp[o]
  have hlen:=he p[i] (List.getElem_mem o)
  have hlt:=lI h z hr
  have ec:ai5 p i=p[i]:=by rw[ai5,hr];rfl
  let G:List AV->List Nat:=λq=>if(bc p (gS q 0)).toNat<i then ai9 p (bc p (gS q 0)).toNat else[]
  have main:∀{A:List Nat}{V:Nat->Int->Rows->Option Rows}{W:Nat->Rows->Option Rows},A.length<=1000->al p i=A++(gD p[i] 2).flatMap G->(∀ai4,(∀k,k∈ai4->k<i+1)->ai4.length<=1099511627776->T (λn=>W n (ba ai4)) λr=>r=ba (aja ai4))->(∀n j s,V (n+1) j s=(aa (decide (j<((gD p[i] 2).length:Int))) (ab (gD p[i] 2) j λr1=>(ask (oK n p (gS r1 0)) λJ=>(ask (jh n p J) λE=>(fits (s.length+E.length) 8 (V n (be (j+1)) (s++E)))))) (aa (gI p[i] 0==1) (fits (s.length+([[.sc (.int .i64 (i:Int))]]:List (List AV)).length) 8 (W n (s++[[.sc (.int .i64 (i:Int))]]))) (W n s))))->T (λn=>V n 0 (ba A)) λr=>r=ba (ai9 p i):=by
   intro A V W hA ha hW eV
   refine T.loop (σ:=Rows) (L:=λj s n=>V n j s) (gD p[i] 2).length (λj s=>s=ba (A++((gD p[i] 2).take j).flatMap G)/\s.length<=(j+1)*1000) ?_ ?_ _ ⟨by simp,by simpa using hA⟩
   .rintro s⟨rfl,h2⟩
    rw[List.take_length,<-ha]at h2⊢
    have h3:(al p i).length<=16777217000:=by simp at h2;omega
    have hal:=ajO p (i+1) i (by omega)
    have fin:=ajw p i
    rw[ec]at fin
    refine .step (λn=>eV n _ _) (.neg (by simp) (.ite (λc=>.fits (by simp;omega) ?_) (λc=>?_)))
    .rw[if_pos (fO c)]at fin;have:=hW (al p i++[i]) (λk hk=>by
     rcases List.mem_append.1 hk with hk|hk
     .have:=hal k hk;omega
     .rw[List.mem_singleton]at hk;omega) (by simp;omega);rw[<-fin]at this;simpa using this
    .rw[if_neg (by simpa using c),List.append_nil]at fin;have:=hW (al p i) (λk hk=>by have:=hal k hk;omega) (by omega);rw[<-fin]at this;exact this
   .rintro j s hj⟨rfl,h2⟩N
    refine .step (λn=>eV n _ _) (.pos (by simp;omega) (.ab (by omega) (by omega) λq hq=>?_))
    have hq:(gD p[i] 2)[j]?=some q:=by simpa using hq
    obtain⟨h1,h3⟩:=h.ex i p[i] z hr q (List.mem_of_getElem? hq)
    obtain⟨k,hk⟩:∃k:Nat,bc p (gS q 0)=k:=⟨(bc p (gS q 0)).toNat,by omega⟩
    refine .cR (Bc p _ hp) ?_
    rw[hk]
    have hc:=ajY p k
    refine .ask (Fs p hp n hn h he b k (by omega) (by omega) (by omega)) λx hx=>?_
    subst hx
    have h4:(A++((gD p[i] 2).take j).flatMap G).length<=16777217000:=by simp at h2⊢;omega
    refine .fits (by simp at h4⊢;omega) ?_
    rw[aE (i:=(j:Int)+1) (by omega) (by omega)]
    refine N _ ⟨?_,by simp at h2⊢;omega⟩
    have eG:G q=ai9 p k:=by simp only[G];rw[hk];exact if_pos (show((k:Int)).toNat<i by omega)
    rw[fJ hq,List.flatMap_append,List.flatMap_singleton,eG];simp
  have e1:∀A:List Nat,(if gI p[i] 0=2/\0<=bR p p[i]then[(bR p p[i]).toNat]else[]).flatMap (λk=>if k<i then ai9 p k else[])=A->al p i=A++(gD p[i] 2).flatMap G:=λA e=>by unfold al ajA;rw[ec,List.flatMap_append,e,List.flatMap_map]
  have W0:=λai4 h1 h2=>(akN ai4 (i+1) (by omega) h1 h2).1
  have W1:=λai4 h1 h2=>(akN ai4 (i+1) (by omega) h1 h2).2
  have I:¬(gI p[i] 0=2/\0<=bR p p[i])->T (λn=>ub n (i:Int) p (eD p[i] 0) []) λr=>r=ba (ai9 p i):=λc=>.step (λn=>LS n) (main (A:=[]) (V:=λn j s=>mq n (i:Int) (gD p[i] 2) ((gD p[i] 2).length:Int) j p (eD p[i] 0) s) (by simp) (e1 [] (by rw[if_neg c];rfl)) W1 λn j s=>y8 n)
  refine .step (λn=>SI n) (.ab (by omega) (by omega) λr D=>?_)
  obtain rfl:r=p[i]:=by
   have:p[i]?=some r:=by simpa using D
   rw[hr]at this;exact(Option.some.inj this).symm
  refine .ite (λc1=>.cR (iY p i _ hp hr) (.ite (λc=>?_) (λc=>I λq=>eU c q.2))) (λc=>I λq=>by simp at c;exact c q.1);have c:=cO c;obtain⟨k,hk⟩:∃k:Nat,bR p p[i]=k:=⟨(bR p p[i]).toNat,by omega⟩;have hc:=ajY p k;have e2:=e1 (ai9 p k) (by rw[if_pos ⟨fO c1,c⟩,hk];simp[show k<i by omega]);rw[hk];refine .ask (Fs p hp n hn h he b k (by omega) (by omega) (by omega)) λx hx=>.step (λn=>OQ n) ?_;subst hx;exact main (V:=λn j s=>mM n (i:Int) (gD p[i] 2) ((gD p[i] 2).length:Int) j p (eD p[i] 0) s) (by omega) e2 W0 λn j s=>Ap n
end Go.AI
