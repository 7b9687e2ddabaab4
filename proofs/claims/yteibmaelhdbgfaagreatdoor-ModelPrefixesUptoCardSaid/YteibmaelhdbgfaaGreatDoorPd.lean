/- A part of the proof. -/
import Derived.Test.YteibmaelhdbgfaaGreatDoorPc
import Derived.Test.YteibmaelhdbgfaaGreatDoorPb
set_option linter.all false

namespace Go.AI
open Go
abbrev Env:=Rows×Rows
structure Bb(e:Env):Prop where
 c:e.1.length<=8
 n:e.2.length<=64
 k:∀r,r∈e.1->(gD r 1).length<=8
 t:∀r,r∈e.2->iE (gI r 1) (gD r 3)
def Ql(e:Env)(h:bd e)(h1:e.1.length<=8)(h2:e.2.length<=64)(h3:∀r,r∈e.1->(gD r 1).length<=8):T (λn=>Cw n e) bd:=by
 have o:=dc e h
 have D:=aB e h
 refine .step (λn=>aib n _) ?_
 refine T.loop (σ:=Rows) (L:=λi s n=>A4 n e.1 (e.1.length:Int) i e s) e.1.length (λi s=>s.length<=9*i/\cb 1099511627776 s) ?_ ?_ [] ⟨by simp,trivial⟩
 .intro s hs
  have c:=hs.1
  refine .step (λn=>OT n _ _ _ _ _) (.neg (by simp) ?_)
  refine T.loop (σ:=Rows) (L:=λi s n=>A6 n e.2 (e.2.length:Int) i s) e.2.length (λi s=>s.length<=72+i/\cb 1099511627776 s) ?_ ?_ s ⟨by omega,hs.2⟩
  .intro s hs;have c:=hs.1;exact .step (λn=>OK n _ _ _ _) (.neg (by simp) (.ret ⟨by omega,hs.2⟩))
  .intro i s hi hs z;have c:=hs.1;refine .step (λn=>OK n _ _ _ _) (.pos (by simp;omega) (.ab (by omega) (by omega) λr hr=>.fits (by simp;omega) ?_));rw[aE (i:=(i:Int)+1) (by omega) (by omega)];exact z _ ⟨by simp;omega,dt hs.2 (dL (bm (dv (ak (an D hr) 0)) ed) eg)⟩
 .intro i s hi hs z;have c:=hs.1;refine .step (λn=>OT n _ _ _ _ _) (.pos (by simp;omega) (.ab (by omega) (by omega) λr hr=>?_));have E:=h3 r (List.mem_of_getElem? hr);refine .fits (by simp;omega) (.fits (by simp;omega) ?_);rw[aE (i:=(i:Int)+1) (by omega) (by omega)];exact z _ ⟨by simp;omega,dt (dt hs.2 (dL (bm (dv (ak (an o hr) 0)) ed) eg)) (ai (an o hr) 1).2⟩
def aim(a0)(h0:bd a0):T (λn=>Il n a0) bd:=by
 have hl:=bq h0
 refine .step (λn=>ahs n _) ?_
 refine T.dx (σ:=Rows) (L:=λi s n=>A5 n a0 (a0.length:Int) i s) a0.length (λ_=>True) ?_ ?_ 0 (by omega) (by omega) [] trivial
 .exactλs _=>.step (λn=>OW n _ _ _ _) (.neg (by simp) (.ret trivial))
 .intro i s hi _ c
  have next:∀k,T (λn=>A7 n k a0 (a0.length:Int) (i:Int) s) bd:=λk=>by refine .step (λn=>abI n _ _ _ _ _) ?_;rw[aE (i:=(i:Int)+1) (by omega) (by omega)];simp_all
  exact .step (λn=>OW n _ _ _ _) (.pos (by simp;omega) (.ab (by omega) (by omega) λr hr=>.jx (λ_ _=>.ite (λ_=>.ret trivial) (λ_=>next _)) (λ_=>next _)))
def agt(a0:fv)(h0:bd a0):T (λn=>wD n a0) λb=>b=true->iE a0.1 a0.2.2:=.step (λn=>SL n _) (.ask (vm a0 h0) λx hx=>.ite (λc=>.ask (SR _ _ h0) λ_ _=>.ret λ_=>(hx c).1) (λ_=>.ret λe=>by cases e))
def lP(e:Env)(h:bd e):T (λn=>jN n e) λb=>b=true->Bb e:=by
 have z:=dc e h
 have o:=aB e h
 have M:=bq z
 have K:=bq o
 have no:T (λn=>(some false:Option Bool)) λb=>b=true->Bb e:=.ret λe=>by cases e
 refine .step (λn=>ahP n _) (.ite (λ_=>no) (λF=>.ite (λ_=>no) (λE=>?_)))
 have F:=eU F
 have E:=eU E
 refine T.loop (σ:=Unit) (L:=λi _ n=>AY n e.1 (e.1.length:Int) i e) e.1.length (λi _=>∀r,r∈e.1.take i->(gD r 1).length<=8) ?_ ?_ () (by simp)
 .intro _ hk
  have hk:∀r,r∈e.1->(gD r 1).length<=8:=by grind
  refine .step (λn=>OS n _ _ _ _) (.neg (by simp) ?_)
  refine T.loop (σ:=Unit) (L:=λi _ n=>A0 n e.2 (e.2.length:Int) i e) e.2.length (λi _=>∀r,r∈e.2.take i->iE (gI r 1) (gD r 3)) ?_ ?_ () (by simp)
  .intro _ ht
   have ht:∀r,r∈e.2->iE (gI r 1) (gD r 3):=by grind
   exact .step (λn=>OD n _ _ _ _) (.neg (by simp) (.ask (Ql e h (by omega) (by omega) hk) λx hx=>.ask (aim _ hx) λ_ _=>.ret λ_=>⟨by omega,by omega,hk,ht⟩))
  .intro i _ hi ht D
   refine .step (λn=>OD n _ _ _ _) (.pos (by simp;omega) (.ab (by omega) (by omega) λr hr=>.ask (SX _ (ak (an o hr) 0)) λ_ _=>.ite (λ_=>no) (λ_=>.ask (agt _ ⟨trivial,ak (an o hr) 2,ai (an o hr) 3⟩) λy hy=>.ite (λ_=>no) (λc=>.ask (SY _ _ h ⟨trivial,ak (an o hr) 2,ai (an o hr) 3⟩) λ_ _=>.ite (λ_=>no) (λ_=>?_)))))
   rw[aE (i:=(i:Int)+1) (by omega) (by omega)]
   refine D () λq hq=>?_
   have hr:e.2[i]?=some r:=by grind
   rw[List.take_add_one,hr]at hq
   rcases List.mem_append.1 hq with hq|hq
   .grind
   .obtain rfl:q=r:=by grind
    exact hy (iD c)
 .intro i _ hi hk D
  refine .step (λn=>OS n _ _ _ _) (.pos (by simp;omega) (.ab (by omega) (by omega) λr hr=>.ask (lW _ (ak (an z hr) 0)) λ_ _=>.ite (λ_=>no) (λ_=>.ite (λ_=>no) (λc=>?_))))
  have c:=eU c
  have J:(gD r 1).length<=8:=by omega
  refine T.dx (σ:=Unit) (L:=λj _ n=>AZ n e.1 (e.1.length:Int) (i:Int) (gD r 1) ((gD r 1).length:Int) j e) (gD r 1).length (λ_=>True) ?_ ?_ 0 (by omega) (by omega) () trivial
  .intro _ _
   refine .step (λn=>OZ n _ _ _ _ _ _ _) (.neg (by simp) ?_)
   rw[aE (i:=(i:Int)+1) (by omega) (by omega)]
   refine D () λq hq=>?_
   have hr:e.1[i]?=some r:=by grind
   rw[List.take_add_one,hr]at hq;grind
  .intro j _ hj _ I;refine .step (λn=>OZ n _ _ _ _ _ _ _) (.pos (by simp;omega) (.ab (by omega) (by omega) λq hq=>.ask (lW _ (ak (an (ai (an z hr) 1) hq) 0)) λ_ _=>.ite (λ_=>no) (λ_=>?_)));rw[aE (i:=(j:Int)+1) (by omega) (by omega)];simp_all
def T.agu{β:Type}{Q:β->Prop}{F G:Nat->Option β}(h:∀n,F (n+1+1+1+1)=G n)(c:T G Q):T F Q:=by obtain⟨r,⟨m,a⟩,b⟩:=c;refine⟨r,⟨m+4,λn hn=>?_⟩,b⟩;obtain⟨k,rfl⟩:∃k,n=k+1+1+1+1:=⟨n-4,by omega⟩;grind
def T.O9{β:Type}{Q:β->Prop}{F:Nat->Option β}(h:T F Q):T (λn=>F (n+1+1)) Q:=T.shift (F:=λn=>F (n+1)) (T.shift h)
def T.EV{β:Type}{Q:β->Prop}{F:Nat->Option β}(h:T F Q):T (λn=>F (n+1+1+1)) Q:=T.shift (F:=λn=>F (n+1+1)) (T.O9 h)
def L1{s:ByteArray}{v:List AV}:∀{m:Rows}{r:List AV},r∈bG m s v->r∈m\/r=.sc (.string s)::v
 |[],r,h=>by simp only[bG,List.mem_singleton]at h;exact .inr h
 |x::xs,r,h=>by
  unfold bG at h
  split at h
  .grind
  .rcases List.mem_cons.1 h with h|h
   .grind
   .rcases L1 h with h|h
    .grind
    grind
def zt{m:Rows}(h:iJ m)(s:ByteArray){x:fv}(hx:ty x):iJ (bG m s (cy x)):=λr hr=>by
 rcases L1 hr with hr|rfl
 .exact h r hr
 .exact hx
def ab0(e:Env)(h:bd e)(he:Bb e):T (λn=>BO n e) iJ:=by
 have K:=dc e h
 have z:=aB e h
 have h1:=he.c
 have h2:=he.n
 refine .step (λn=>aej n _) ?_
 refine T.dx (σ:=Rows) (L:=λi s n=>sf n e.1 (e.1.length:Int) i e s) e.1.length iJ ?_ ?_ 0 (by omega) (by omega) [] (by intro r hr;cases hr)
 .intro s hs
  refine .step (λn=>MU n _ _ _ _ _) (.neg (by simp) ?_)
  refine T.dx (σ:=Rows) (L:=λi s n=>z8 n e.2 (e.2.length:Int) i s) e.2.length iJ ?_ ?_ 0 (by omega) (by omega) s hs
  .exactλs hs=>.step (λn=>M3 n _ _ _ _) (.neg (by simp) (.ret hs))
  .intro i s hi hs M;refine .step (λn=>M3 n _ _ _ _) (.pos (by simp;omega) (.ab (by omega) (by omega) λr hr=>?_));rw[aE (i:=(i:Int)+1) (by omega) (by omega)];exact M _ (zt hs _ (x:=aK r 1) ⟨⟨trivial,ak (an z hr) 2,ai (an z hr) 3⟩,(he.t r (List.mem_of_getElem? hr)).s⟩)
 .intro i s hi hs M
  refine .step (λn=>MU n _ _ _ _ _) (.pos (by simp;omega) (.ab (by omega) (by omega) λr hr=>?_))
  have F:=ak (an K hr) 0
  have hc:=he.k r (List.mem_of_getElem? hr)
  have D:ty (3,gS r 0,[]):=ra 3 F (by omega)
  refine .ask (.step (λn=>aff n _) (.ret (Hu D))) λx hx=>?_
  have hm:=zt hs (gS r 0) (x:=x) hx
  generalize bG s (gS r 0) (cy x)=N at hm
  have fin:∀s',iJ s'->T (λn=>sf n e.1 (e.1.length:Int) (be ((i:Int)+1)) e s') iJ:=λs' o=>by rw[aE (i:=(i:Int)+1) (by omega) (by omega)];grind
  have rest:∀(j:Int)s',0<=j->j<=((gD r 1).length:Int)->iJ s'->T (λn=>tK n e.1 (e.1.length:Int) (i:Int) (gD r 1) ((gD r 1).length:Int) j e s' (3,gS r 0) []) iJ:=by
   intro j s' J I o
   refine T.dx (σ:=Rows) (L:=λj s n=>tK n e.1 (e.1.length:Int) (i:Int) (gD r 1) ((gD r 1).length:Int) j e s (3,gS r 0) []) (gD r 1).length iJ ?_ ?_ j J I s' o
   .exactλs hs=>.step (λn=>Ku n _ _ _ _ _ _ _ _ _ _) (.neg (by simp) (fin s hs))
   .intro j s hj hs E;refine .step (λn=>Ku n _ _ _ _ _ _ _ _ _ _) (.pos (by simp;omega) (.ab (by omega) (by omega) λq hq=>?_));rw[aE (i:=(j:Int)+1) (by omega) (by omega)];exact E _ (zt hs _ (x:=(3,gS r 0,[])) D)
  refine .step (λn=>YM n _ _ _ _ _ _ _ _ _ _) (.ite (λc=>?_) (λ_=>fin _ hm));have c:=cO c;refine .ab (by omega) (by omega) λq hq=>?_;rw[aE (i:=(0:Int)+1) (by omega) (by omega)];exact rest _ _ (by omega) (by omega) (zt hm _ (x:=(3,gS r 0,[])) D)
def B2(r:Int×ByteArray×Rows×Rows×Int):Prop:=bd ((r.1,r.2.1,r.2.2.1):fv)/\(r.1=5->1<=r.2.2.1.length)
def Hv{e:Int}{p:Rows}:B2 (0,bs [],[],p,e):=⟨⟨trivial,dz,cK⟩,λh=>by cases h⟩
def ab1(t:fl)(m:Rows×Rows)(h:fC 64 t)(ht:bd t)(hm:iJ m.1):T (λn=>jB n t (0,bs []) m [] []) B2:=by
 refine .step (λn=>abB n _ _ _ _ _) (.ask (ail t m h ht hm) λx hx=>.ite (λ_=>?_) (λ_=>?_))
 .have hp:=hx.2.2.2.2;exact .ask (afD _ (by omega)) λy hy=>.ret Hv
 .exact .ask (SS _ hx.1.1) λy hy=>.ret ⟨hy.1,λe=>by show 1<=y.2.2.length;rw[hy.2.2];exact Ua hx.1 (by rw[<-hy.2.1];exact e)⟩
def S0(e:Env)(t:fl)(h:bd e)(ht:bd t):T (λn=>Ct n e t) B2:=by refine .agu (λn=>ahJ n _ _) ?_;refine .ask (T.EV (F:=λn=>jN n e) (lP e h)) λb hb=>.ite (λ_=>.ret Hv) (λc=>?_);have he:=hb (iD c);have hl:=he.c;refine .ask (T.EV (F:=λn=>kl n t) (sB t ht)) λb hb=>.ite (λ_=>.ret Hv) (λc=>?_);have hv:=hb (iD c);refine .ask (T.O9 (F:=λn=>BO n e) (ab0 e h he)) λx hx=>?_;have z:∀o:Rows,T (λn=>jB (n+1+1+1) t (0,bs []) (x,o) [] []) B2:=λo=>T.EV (F:=λn=>jB n t (0,bs []) (x,o) [] []) (ab1 t (x,o) hv ht hx);refine .ite (λc=>.ab (by omega) (by grind) λr _=>?_) (λ_=>z _);refine .ite (λc=>.ab (by omega) (by grind) λr _=>?_) (λ_=>z _);refine .ite (λc=>.ab (by omega) (by grind) λr _=>?_) (λ_=>z _);refine .ite (λc=>.ab (by omega) (by grind) λr _=>?_) (λ_=>z _);refine .ite (λc=>.ab (by omega) (by grind) λr _=>?_) (λ_=>z _);refine .ite (λc=>.ab (by omega) (by grind) λr _=>?_) (λ_=>z _);refine .ite (λc=>.ab (by omega) (by grind) λr _=>?_) (λ_=>z _);refine .ite (λc=>.ab (by omega) (by grind) λr _=>?_) (λ_=>z _);exact .ite (λc=>absurd (cO c) (by omega)) (λ_=>z _)
def ain(r:Int×ByteArray×Rows×Int):Prop:=bd r/\(r.1=5->1<=r.2.2.1.length)
def Fq(e:Env)(t:fl)(h:bd e)(ht:bd t):T (λn=>iI n e t) ain:=.step (λn=>ah8 n _ _) (.ask (S0 e t h ht) λx hx=>.ite (λ_=>.ite (λ_=>.ret ⟨⟨trivial,dz,cK,trivial⟩,λh=>by cases h⟩) (λ_=>.ret ⟨⟨trivial,hx.1.2.1,hx.1.2.2,trivial⟩,hx.2⟩)) (λ_=>.ret ⟨⟨trivial,hx.1.2.1,hx.1.2.2,trivial⟩,hx.2⟩))
def B3(e:Env)(t:fl)(h:bd e)(ht:bd t):T (λn=>iI n e t) bd:=(Fq e t h ht).mono λ_ h=>h.1
def S2(e:Env)(t:fl)(h:bd e)(ht:bd t):T (λn=>Cq n e t) bd:=.step (λn=>ahQ n _ _) (.ask (S0 e t h ht) λx hx=>.ite (λ_=>.ite (λ_=>.ret trivial) (λ_=>.ret trivial)) (λ_=>.ret trivial))
def Qm(a0 c:Rows)(h0:bd a0)(h1:bd c)(hl:a0.length+c.length<=274877906944):T (λn=>s5 n a0 c) λr=>bd r/\r.length<=a0.length+c.length:=by
 refine .step (λn=>ahT n _ _) (.ask (Ar a0 (by omega)) λx hx=>?_)
 subst hx
 refine T.loop (σ:=Rows) (L:=λi s n=>vl n c (c.length:Int) i s) c.length (λi s=>s.length<=x.length+i/\cb 1099511627776 s) ?_ ?_ x ⟨by omega,h0.2⟩
 .exactλs hs=>.step (λn=>OJ n _ _ _ _) (.neg (by simp) (.ret ⟨⟨by grind,hs.2⟩,hs.1⟩))
 .intro i s hi hs o;have z:=hs.1;refine .step (λn=>OJ n _ _ _ _) (.pos (by simp;omega) (.ab (by omega) (by omega) λr hr=>?_));have k:=an h1 hr;refine .ask (aak s _ _ _ _ ⟨by omega,hs.2⟩ (ak k 0) (ak k 2) (ai k 3)) λb _=>?_;rw[aE (i:=(i:Int)+1) (by omega) (by omega)];refine .ite (λ_=>.fits (by simp;omega) (o _ ⟨by simp;omega,dt hs.2 (dL (bm (dv (ak k 0)) (bm ki (bm (dv (ak k 2)) (bm (ef (ai k 3)) ed)))) eg)⟩)) (λ_=>o _ ⟨by omega,hs.2⟩)
def bc(p:Rows)(s:ByteArray):Int:=gr (λr=>ay (gS r 1) s) p
def agv(p:Rows)(s:ByteArray)(hp:bd p):Ev (λn=>H5 n p s) (bc p s):=.step (λn=>ahF n _ _) (nI (J:=λn i=>AJ n p s (p.length:Int) i) (by have:=bq hp;omega) (λn i=>abM n _ _ _ _) λr _=>.step (λn=>ahp n _ _) (.ret _))
def Bc(p:Rows)(s:ByteArray)(hp:bd p):Ev (λn=>oK n p s) (bc p s):=.step (λn=>ahE n _ _) (.ask (agv p s hp) (.ret _))
def bR(p:Rows)(r:List AV):Int:=if ay (gS r 3) (bs [])=true then-1 else bc p (gS r 3)
def iY(p:Rows)(i:Nat)(r:List AV)(hp:bd p)(hr:p[i]?=some r):Ev (λn=>ko n p (i:Int)) (bR p r):=by
 refine .step (λn=>ahI n _ _) (.ab rfl hr ?_)
 unfold bR
 refine .ite (λh=>?_) (λh=>?_)
 .rw[if_pos h];exact .ret _
 .rw[if_neg (by rw[h];simp)];exact .ab rfl hr (.ask (Bc p _ hp) (.ret _))
structure qo(p:Rows)(n:Nat):Prop where
 rf:∀(i:Nat)r,i<n->p[i]?=some r->ay (gS r 3) (bs [])=false->0<=bc p (gS r 3)/\bc p (gS r 3)<i
 ex:∀(i:Nat)r,i<n->p[i]?=some r->∀q,q∈gD r 2->0<=bc p (gS q 0)/\bc p (gS q 0)<i
def lI{p:Rows}{n:Nat}(h:qo p n){i:Nat}{r:List AV}(hi:i<n)(hr:p[i]?=some r):bR p r<i:=by
 unfold bR
 split
 .omega
 .rename_i e;exact(h.rf i r hi hr (by grind)).2
def plc(b:Nat)(l:Rows):Prop:=∀x,x∈l->∃k:Nat,k<=b/\x=[.sc (.int .i64 k)]
def Qn(p:Rows)(hp:bd p)(n:Nat)(hn:n<=1000000)(h:qo p n):∀(b i:Nat),i<=b->i<n->i<p.length->T (λn=>qZ n p (i:Int)) λr=>r.length<=i+1/\plc i r
 |0,i,hi,o,z=>by
  obtain rfl:i=0:=by omega
  have hr:p[0]?=some p[0]:=by grind
  have:=lI h o hr;refine .step (λn=>Hq n _ _) (.cR (iY p 0 _ hp hr) (.neg (iQ (by omega)) (.ret ⟨by simp,λx hx=>⟨0,by omega,by grind⟩⟩)))
 |b+1,i,hi,o,z=>by
  have hr:p[i]?=some p[i]:=by grind
  have hlt:=lI h o hr
  refine .step (λn=>Hq n _ _) (.cR (iY p i _ hp hr) (.ite (λc=>?_) (λ_=>.ret ⟨by simp,λx hx=>⟨i,by omega,by grind⟩⟩)))
  have c:=cO c
  obtain⟨k,hk⟩:∃k:Nat,bR p p[i]=k:=⟨(bR p p[i]).toNat,by omega⟩
  rw[hk]
  refine .ask (Qn p hp n hn h b k (by omega) (by omega) (by omega)) λx hx=>.fits (by grind) (.ret ⟨by grind,λy hy=>?_⟩)
  rcases List.mem_append.1 hy with hy|hy
  .obtain⟨q,hq,e⟩:=hx.2 y hy;grind
  grind
def tt:∀(b:Nat)(l:List Nat),l.Nodup->(∀x,x∈l->x<b)->l.length<=b
 |0,[],_,_=>aC _
 |0,x::_,_,h=>absurd (h x (by simp)) (by omega)
 |b+1,l,hn,h=>by
  have h1:(l.erase b).length<=b:=tt b (l.erase b) (hn.erase b) λx hx=>by grind
  grind
def dF(b:Nat)(l:Rows):Prop:=∃ks:List Nat,ks.Nodup/\(∀k,k∈ks->k<b)/\l=ks.map λk:Nat=>[.sc (.int .i64 (k:Int))]
def dF.len{b:Nat}{l:Rows}(h:dF b l):l.length<=b:=by obtain⟨ks,h1,h2,rfl⟩:=h;rw[List.length_map];exact tt b ks h1 h2
def dF.hb{b:Nat}{l:Rows}(h:dF b l):cb 1099511627776 l:=by obtain⟨ks,h1,h2,rfl⟩:=h;exact lL λr hr=>by obtain⟨k,_,rfl⟩:=List.mem_map.1 hr;exact bm ki ed
def Qo(l:Rows)(i:Int)(hl:l.length<=4611686018427387904):Ev (λn=>l6 n l i) (l.any λr=>i==gI r 0):=by
 refine .step (λn=>ahB n _ _) (.ask (.step (λn=>aeP n _ _) (Kl (J:=λn j=>Ac n l i (l.length:Int) j) (p:=λr=>i==gI r 0) hl λn j=>Zj n _ _ _ _)) ?_)
 have:decide (gr (λr=>i==gI r 0) l>=0)=(l.any λr=>i==gI r 0):=by rw[Bool.eq_iff_iff,decide_eq_true_iff];exact rD
 rw[this];exact .ret _
def dF.add{b k:Nat}{l:Rows}(h:dF b l)(hk:k<b)(hn:(l.any λr=>(k:Int)==gI r 0)=false):dF b (l++[[.sc (.int .i64 (k:Int))]]):=by
 obtain⟨ks,h1,h2,rfl⟩:=h
 have c:k∉ks:=λhm=>by rw[List.any_eq_false]at hn;exact hn _ (List.mem_map_of_mem hm) (by simp[gI])
 refine⟨ks++[k],?_,λq hq=>?_,by simp⟩
 .grind
 grind
def gv(b:Nat)(l:Rows):Prop:=∀x,x∈l->∃k:Nat,k<b/\x=[.sc (.int .i64 (k:Int))]
theorem dF.a{b c:Nat}{l:Rows}(h:dF b l)(hb:b<=c):gv c l:=by obtain⟨ks,h1,h2,rfl⟩:=h;intro x hx;grind
section
variable (b:Nat)(hb:b<=1000000)(all:Rows)(ha:gv b all)(hl:all.length<=1099511627776)
include hb ha hl
theorem zu{J:Nat->Rows->Option Rows}{i:Nat}{s:Rows}(hs:dF b s)(hi:i<all.length)(hJ:∀s',dF b s'->T (λn=>J n s') (dF b)):T (λn=>ab all (i:Int) λ_=>(eJ all (i:Int).toNat λr1=>(ask (l6 n s (gI r1 0)) λo=>(aa (!o) (fits (s.length+([[.sc (.int .i64 (gI r1 0))]]:List (List AV)).length) 8 (J n (s++[[.sc (.int .i64 (gI r1 0))]]))) (J n s))))) (dF b):=by have h1:=hs.len;refine .ab (by omega) (by omega) λ_ _=>.eJ (by omega) λr hr=>?_;obtain⟨k,hk,rfl⟩:=ha r (List.mem_of_getElem? hr);exact .cR (Qo s k (by omega)) (.ite (λc=>.fits (by simp;omega) (hJ _ (hs.add hk (by grind)))) (λ_=>hJ s hs))
theorem qU(c:Int)(h0:0<=c)(h1:c<=(all.length:Int))(s:Rows)(hs:dF b s):T (λn=>uc n (all.length:Int) c s all) (dF b):=by
 refine T.dx (σ:=Rows) (L:=λi s n=>uc n (all.length:Int) i s all) all.length (dF b) ?_ ?_ c h0 h1 s hs
 .exactλs hs=>.step (λn=>DJ n _ _ _ _) (.neg (by simp) (.ret hs))
 .intro i s hi hs z;refine .step (λn=>DJ n _ _ _ _) (.pos (by simp;omega) (zu b hb all ha hl (J:=λn s'=>oc n (all.length:Int) (i:Int) s' all) hs hi λs' o=>.step (λn=>D4 n _ _ _ _) ?_));rw[aE (i:=(i:Int)+1) (by omega) (by omega)];grind
theorem Ud:T (λn=>qk n all) (dF b):=by have o:dF b []:=⟨[],by simp,by simp,rfl⟩;refine .step (λn=>M0 n _) (.step (λn=>OC n _ _ _ _) (.ite (λc=>?_) (λ_=>.ret o)));have c:=cO c;refine zu b hb all ha hl (i:=0) (J:=λn s'=>oc n (all.length:Int) 0 s' all) o (by omega) λs' z=>.step (λn=>D4 n _ _ _ _) ?_;rw[aE (i:=(0:Int)+1) (by omega) (by omega)];exact qU b hb all ha hl _ (by omega) (by omega) s' z
theorem dd3(c:Int)(h0:0<=c)(h1:c<=(all.length:Int))(s:Rows)(hs:dF b s):T (λn=>uh n (all.length:Int) c s all) (dF b):=by
 refine T.dx (σ:=Rows) (L:=λi s n=>uh n (all.length:Int) i s all) all.length (dF b) ?_ ?_ c h0 h1 s hs
 .exactλs hs=>.step (λn=>DK n _ _ _ _) (.neg (by simp) (.ret hs))
 .intro i s hi hs z;refine .step (λn=>DK n _ _ _ _) (.pos (by simp;omega) (zu b hb all ha hl (J:=λn s'=>nJ n (all.length:Int) (i:Int) s' all) hs hi λs' o=>.step (λn=>Dg n _ _ _ _) ?_));rw[aE (i:=(i:Int)+1) (by omega) (by omega)];grind
theorem Ue:T (λn=>pU n all) (dF b):=by have o:dF b []:=⟨[],by simp,by simp,rfl⟩;refine .step (λn=>KM n _) (.step (λn=>LW n _ _ _ _) (.ite (λc=>?_) (λ_=>.ret o)));have c:=cO c;refine zu b hb all ha hl (i:=0) (J:=λn s'=>nJ n (all.length:Int) 0 s' all) o (by omega) λs' z=>.step (λn=>Dg n _ _ _ _) ?_;rw[aE (i:=(0:Int)+1) (by omega) (by omega)];exact dd3 b hb all ha hl _ (by omega) (by omega) s' z
end
def gv.mono{b c:Nat}{l:Rows}(h:gv b l)(hb:b<=c):gv c l:=λx hx=>let⟨k,h1,h2⟩:=h x hx;⟨k,by omega,h2⟩
def gv.app{b:Nat}{l m:Rows}(h:gv b l)(h':gv b m):gv b (l++m):=λx hx=>(List.mem_append.1 hx).elim (h x) (h' x)
def Fs(p:Rows)(hp:bd p)(n:Nat)(hn:n<=1000)(h:qo p n)(he:∀r,r∈p->(gD r 2).length<=16777216):∀(b i:Nat),i<b->i<n->i<p.length->T (λn=>jh n p (i:Int)) (dF (i+1))
 |0,i,hi,_,_=>absurd hi (by omega)
 |b+1,i,hi,D,N=>by
  have hr:p[i]?=some p[i]:=by grind
  have hlen:=he p[i] (List.getElem_mem N)
  have hlt:=lI h D hr
  have I:∀q,q∈gD p[i] 2->∃k:Nat,bc p (gS q 0)=k/\k<i/\T (λn=>jh n p (k:Int)) (dF (k+1)):=λq hq=>by obtain⟨h1,h2⟩:=h.ex i p[i] D hr q hq;obtain⟨k,hk⟩:∃k:Nat,bc p (gS q 0)=k:=⟨(bc p (gS q 0)).toNat,by omega⟩;exact⟨k,hk,by omega,Fs p hp n hn h he b k (by omega) (by omega) (by omega)⟩
  have o:∀{s:Rows}{j:Nat},s.length<=(j+1)*1000->j<=16777216->s.length<=16777217000:=λh1 h2=>Nat.le_trans h1 (by omega)
  have step:∀{J:Nat->Rows->Option Rows}{j:Nat}{s:Rows},j<(gD p[i] 2).length->gv i s/\s.length<=(j+1)*1000->(∀s',gv i s'/\s'.length<=(j+1+1)*1000->T (λn=>J n s') (dF (i+1)))->T (λn=>ab (gD p[i] 2) (j:Int) λr1=>(ask (oK n p (gS r1 0)) λR=>(ask (jh n p R) λO=>(fits (s.length+O.length) 8 (J n (s++O)))))) (dF (i+1)):=by intro J j s hj hs hJ;have z:=o hs.2 (by omega);refine .ab (by omega) (by omega) λq hq=>?_;obtain⟨k,hk,X,Y⟩:=I q (List.mem_of_getElem? hq);refine .cR (Bc p _ hp) ?_;rw[hk];refine .ask Y λx hx=>?_;have V:=hx.len;exact .fits (by omega) (hJ _ ⟨hs.1.app (hx.a (by omega)),by grind⟩)
  have self:gv (i+1) [[.sc (.int .i64 (i:Int))]]:=λx hx=>⟨i,by omega,by grind⟩
  have F:∀s,gv i s/\s.length<=((gD p[i] 2).length+1)*1000->T (λn=>aa ((gI p[i] 0)==1) (fits (s.length+([[.sc (.int .i64 (i:Int))]]:List (List AV)).length) 8 (qk n (s++[[.sc (.int .i64 (i:Int))]]))) (qk n s)) (dF (i+1)):=λs hs=>by have z:=o hs.2 (by omega);exact .ite (λ_=>.fits (by simp;omega) (Ud (i+1) (by omega) _ ((hs.1.mono (by omega)).app self) (by simp;omega))) (λ_=>Ud (i+1) (by omega) _ (hs.1.mono (by omega)) (by omega))
  have E:∀s,gv i s/\s.length<=((gD p[i] 2).length+1)*1000->T (λn=>aa ((gI p[i] 0)==1) (fits (s.length+([[.sc (.int .i64 (i:Int))]]:List (List AV)).length) 8 (pU n (s++[[.sc (.int .i64 (i:Int))]]))) (pU n s)) (dF (i+1)):=λs hs=>by have z:=o hs.2 (by omega);exact .ite (λ_=>.fits (by simp;omega) (Ue (i+1) (by omega) _ ((hs.1.mono (by omega)).app self) (by simp;omega))) (λ_=>Ue (i+1) (by omega) _ (hs.1.mono (by omega)) (by omega))
  have U:∀s,gv i s/\s.length<=1000->T (λn=>mM n (i:Int) (gD p[i] 2) ((gD p[i] 2).length:Int) 0 p (eD p[i] 0) s) (dF (i+1)):=by
   intro s hs
   refine T.loop (σ:=Rows) (L:=λj s n=>mM n (i:Int) (gD p[i] 2) ((gD p[i] 2).length:Int) j p (eD p[i] 0) s) (gD p[i] 2).length (λj s=>gv i s/\s.length<=(j+1)*1000) ?_ ?_ s ⟨hs.1,by omega⟩
   .exactλs hs=>.step (λn=>Ap n _ _ _ _ _ _ _) (.neg (by simp) (F s hs))
   .intro j s hj hs K;refine .step (λn=>Ap n _ _ _ _ _ _ _) (.pos (by simp;omega) ?_);rw[aE (i:=(j:Int)+1) (by omega) (by omega)];exact step (J:=λn s'=>mM n (i:Int) (gD p[i] 2) ((gD p[i] 2).length:Int) ((j:Int)+1) p (eD p[i] 0) s') hj hs K
  have S:∀s,gv i s/\s.length<=1000->T (λn=>mq n (i:Int) (gD p[i] 2) ((gD p[i] 2).length:Int) 0 p (eD p[i] 0) s) (dF (i+1)):=by
   intro s hs
   refine T.loop (σ:=Rows) (L:=λj s n=>mq n (i:Int) (gD p[i] 2) ((gD p[i] 2).length:Int) j p (eD p[i] 0) s) (gD p[i] 2).length (λj s=>gv i s/\s.length<=(j+1)*1000) ?_ ?_ s ⟨hs.1,by omega⟩
   .exactλs hs=>.step (λn=>y8 n _ _ _ _ _ _ _) (.neg (by simp) (E s hs))
   .intro j s hj hs K;refine .step (λn=>y8 n _ _ _ _ _ _ _) (.pos (by simp;omega) ?_);rw[aE (i:=(j:Int)+1) (by omega) (by omega)];exact step (J:=λn s'=>mq n (i:Int) (gD p[i] 2) ((gD p[i] 2).length:Int) ((j:Int)+1) p (eD p[i] 0) s') hj hs K
  have Q:T (λn=>ub n (i:Int) p (eD p[i] 0) []) (dF (i+1)):=.step (λn=>LS n _ _ _ _) (S [] ⟨λx hx=>(by cases hx),by simp⟩)
  refine .step (λn=>SI n _ _) (.ab (by omega) (by omega) λr M=>?_)
  obtain rfl:r=p[i]:=by
   have:p[i]?=some r:=by simpa using M
   grind
  refine .ite (λ_=>.cR (iY p i _ hp hr) (.ite (λc=>?_) (λ_=>Q))) (λ_=>Q);have c:=cO c;obtain⟨k,hk⟩:∃k:Nat,bR p p[i]=k:=⟨(bR p p[i]).toNat,by omega⟩;rw[hk];refine .ask (Fs p hp n hn h he b k (by omega) (by omega) (by omega)) λx hx=>.step (λn=>OQ n _ _ _ _) (U x ⟨hx.a (by omega),by have:=hx.len;omega⟩)
end Go.AI
