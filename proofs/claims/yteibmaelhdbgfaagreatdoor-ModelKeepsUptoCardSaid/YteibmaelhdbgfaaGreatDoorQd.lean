/-
  A part of the proof: U13 U14.
-/
import Derived.Test.YteibmaelhdbgfaaGreatDoorQc
set_option linter.all false

section
namespace Go.AI
open Go
open BD(cA)
section
variable {p:Rows}{i:Nat}{r:List AV}{s l g:Env}(hs:Sur p i)(hr:p[i]?=some r)(hd:Hd p i r)(hp:∀(k:Nat)q,k<i->p[k]?=some q->Ps p k q)(eC:bd s)(eR:bd l)(gG:bd g)
include hs hr hd hp
theorem JP{x:ByteArray×Rows×Int×Rows×Rows×Rows×Rows×Bool}(hx:sS p i r x)(h:x.2.2.2.2.2.2.2=true):
 ∃(k:Nat)(q:List AV),bR p r=k/\k<i/\p[k]?=some q/\(bj (gD q 7)).Nodup/\x.2.2.2.1.length<=16777216/\(bj x.2.2.2.1).Nodup/\(∀y,y∈x.2.2.2.1->ji (gS y 0))/\∀v,Ev (λn=>l5 n p (k:Int)) v->PT v x.2.2.2.1:=by
 obtain⟨k,q,h1,h2,h3,h4,h5⟩:=hx.2 h
 have hq:=hp k q h2 h3
 refine⟨k,q,h1,h2,h3,hq.vd h4,?_⟩
 rcases h5 with h5|⟨e,he,h5⟩
 .rw[h5];exact⟨by simp,by simp,by simp,λ_ _=>.nil⟩
 .rw[h5];have:=hq.pt h4 e he;exact⟨by have:=(hq.ev e he).1;omega,this.1,this.2.1,this.2.2⟩
include eC
theorem agC:T (λn=>Ia n (aH p i r s l g)) (AQ λx=>x=aH p i r s l g):=by
 have k:=dG hs.bp (List.mem_of_getElem? hr)
 have D:=ai k 12
 have hv:=sE hs hr
 refine .step (λn=>ahH n _) (.ask (Qc (gD r 11) (gD r 12) (ai k 11) D) λ_ _=>.bw (by omega) λ_=>.ask (Q':=λx=>sS p i r x/\(x.2.2.2.2.2.2.2=true->x.2.2.2.1=[])) ?_ λx hx=>?_)
 .have hlt:=lI hs.hh (by omega) hr
  have hi:=hs.hi
  refine .step (λn=>PU n _ _ _) (.cR (iY p i r hs.bp hr) (.ite (λ_=>.ret ⟨⟨⟨dz,cK,trivial,cK,cK,cK,cK,trivial⟩,λe=>by cases e⟩,λe=>by cases e⟩) λc=>?_))
  have c:=eU c
  obtain⟨m,hm⟩:∃m:Nat,bR p r=m:=⟨(bR p r).toNat,by omega⟩
  have e:ay (gS r 3) (bs [])=false:=by cases e:ay (gS r 3) (bs [])with|false=>rfl|true=>unfold bR at c;grind
  have hf:bc p (gS r 3)=m:=by rw[<-hm];unfold bR;grind
  rw[hm]
  refine .ab (by omega) (by grind) λq hq=>.pos (gh.2 rfl) ?_
  have hq:p[m]?=some q:=by grind
  have E:=an hs.bp hq;exact .ret ⟨⟨⟨dz,cK,trivial,cK,cK,ai E 11,ai E 12,trivial⟩,λ_=>⟨m,q,hm,by omega,hq,(hd.rf e).2.2 q (by grind),.inl rfl⟩⟩,λ_=>rfl⟩
 .have o:=hx.1.1
  refine .aw (acb hs hr eC (w:=gD r 11) (ai k 11) (qX x) ⟨o.1,o.2.1,trivial,o.2.2.2.1,o.2.2.2.2.1,o.2.2.2.2.2.1,o.2.2.2.2.2.2.1⟩ x.2.2.2.2.2.2.2 λhb=>?_) λy hy=>?_
  .obtain⟨m,q,h1,h2,h3,h4,_⟩:=JP hs hr hd hp hx.1 hb;exact⟨m,q,h1,h2,h3,h4,hx.2 hb⟩
  .subst hy
   refine .aw (Ph hs hr (acts:=gD r 12) D (env:=s) eC false) λz hz=>?_
   subst hz
   have F:=bq hv
   refine T.loop (σ:=Unit) (L:=λj _ n=>AR n (gD r 7) ((gD r 7).length:Int) j (aH p i r s l g) (ct r)) (gD r 7).length (λ_ _=>True) ?_ ?_ () trivial
   .exactλ_ _=>.step (λn=>OO n _ _ _ _ _) (.neg (by simp) (.ok rfl))
   .intro j _ hj _ I;refine .step (λn=>OO n _ _ _ _ _) (.pos (by simp;omega) (.ab (by omega) (by omega) λd hd=>?_));have kd:=an hv hd;refine .ask (aac (gD r 12) _ _ _ _ D (ak kd 0) (ak kd 2) (ai kd 3)) λ_ _=>.bw (by omega) λ_=>?_;rw[aE (i:=(j:Int)+1) (by omega) (by omega)];simp_all
omit eC
include eR gG
def B5(l:Env)(e:List AV):Prop:=(bj (gD e 3)).Nodup/\(∀x,x∈gD e 3->ji (gS x 0))/\PT l (gD e 3)
theorem agD{j:Nat}{e:List AV}(hj:(gD r 13)[j]?=some e):T (λn=>Ic n (j:Int) (aH p i r s l g)) (AQ λx=>x=aH p i r s l g/\B5 l e):=by
 have hb:=Hx hs hr
 have V:j<(gD r 13).length:=(List.getElem?_eq_some_iff.1 hj).1
 have k:=an hb hj
 have K:=B4 k
 have hl:=hd.ev e (List.mem_of_getElem? hj)
 have no:∀{Q:ar->Prop}{J:Nat->ar->Option (aW ar Unit)},T (λn=>Go.AI.aw (aO n false (gS e 0) 1 (aH p i r s l g)) λx=>J n x) (AQ Q):=.bw (by omega) λc=>by cases c
 refine .step (λn=>ahX n _ _) (.ab (by omega) (by grind) λe' D=>?_)
 have D:(gD r 13)[j]?=some e':=by grind
 rw[hj]at D
 obtain rfl:=Option.some.inj D
 refine .ask (sD _ (ak k 0)) λ_ _=>.ite (λ_=>.ite (λU=>.ite (λ_=>.ite (λ_=>.ite (λ_=>.ite (λ_=>.ask (af5 (gD e 4) (ai k 4)) λ_ _=>.ite (λ_=>.ask (Qc (gD e 5) (gD e 6) (ai k 5) (ai k 6)) λ_ _=>.ite (λ_=>.ask (ach (gD e 3) (ai k 3)) λb S=>.bw (by omega) λc=>?_) (λ_=>no)) (λ_=>no)) (λ_=>no)) (λ_=>no)) (λ_=>no)) (λ_=>no)) (λ_=>no)) (λ_=>no)
 have O:=S (by grind)
 refine .step (λn=>abG n _ _ _) (.aw (acj hs hr hd hj) λx hx=>?_)
 obtain⟨rfl,X,R⟩:=hx
 refine .aw (ack hs hr hd K) λx hx=>?_
 obtain⟨rfl,E⟩:=hx
 refine .aw (acm hs hr hd (iK e) K (by grind) eR) λx hx=>?_
 obtain⟨v,ts,rfl,hv,M,N,F⟩:=hx
 have hok:B5 l e:=⟨R,O,F⟩
 refine T.loop (σ:=Unit) (L:=λm _ n=>AW n (gD e 4) ((gD e 4).length:Int) m (aH p i r s l g) (iK e) v ts) (gD e 4).length (λ_ _=>True) ?_ ?_ () trivial
 .intro _ _
  refine .step (λn=>OH n _ _ _ _ _ _ _) (.neg (by simp) (.aw (acn hs hr hd K E) λx hx=>?_))
  subst hx
  refine .ask (ab8 hs hr hd (gS e 0) (ak k 0) λ_ n f h1 h2 m q h3 h4 y hy=>?_) λx hx=>?_
  .obtain rfl:n=j:=by omega
   rw[hj]at h2;obtain rfl:=Option.some.inj h2;exact E.2 m q h3 h4 y hy
  .have o:=hx.1;refine .aw (XN hs hr gG (w:=gD e 5) (ai k 5) (qX x) ⟨o.1,o.2.1,trivial,o.2.2.2.1,o.2.2.2.2.1,o.2.2.2.2.2.1,o.2.2.2.2.2.2.1⟩ x.2.2.2.2.2.2.2 (iK e) K M N eR (ai (dG (ai (dG hs.hb (List.mem_of_getElem? hr)) 13) (List.mem_of_getElem? hj)) 3) F λhb=>JP hs hr hd hp hx hb) λy hy=>?_;subst hy;have act:∀b,T (λn=>Go.AI.eP (sJ n (gS e 0) (gD e 6) v b (aH p i r s l g))) (AQ λx=>x=aH p i r s l g/\B5 l e):=λb=>.eP ((Ph hs hr (acts:=gD e 6) (ai k 6) hv b).mono λz hz=>by grind);exact .ite (λ_=>act _) (λ_=>act _)
 .intro m _ hm _ Y;refine .step (λn=>OH n _ _ _ _ _ _ _) (.pos (by simp;omega) (.ab (by omega) (by omega) λq hq=>?_));have I:=an (ai k 4) hq;refine .ask (S2 v _ hv ⟨trivial,ak I 2,trivial,trivial,ak I 5,ai I 6,ai I 7⟩) λ_ _=>.fail λ_=>?_;rw[aE (i:=(m:Int)+1) (by omega) (by omega)];simp_all
end
theorem agE{p:Rows}{i:Nat}{r:List AV}{s l g:Env}(hb:cA 16777216 p)(hn:p.length<=16)(hr:p[i]?=some r)(hp:∀(k:Nat)q,k<i->p[k]?=some q->Ps p k q):
 T (λn=>H3 n (aH p i r s l g)) (AQ λ_=>Ps p i r):=by
 have z:∀(k:Nat)q,k<i->p[k]?=some q->Hd p k q:=λk q h1 h2=>(hp k q h1 h2).toHd
 refine .step (λn=>ah3 n _) (.aw (agx hb hn hr z) λx hx=>?_)
 obtain⟨rfl,hd⟩:=hx
 have hs:=vp hb hn hr z hd
 refine .aw (agy hb hn hr z hd) λx hx=>?_
 obtain⟨s,l,g,rfl,eC,eR,gG,el,_,hv⟩:=hx
 refine .aw (agA hs hr eC gG) λx hx=>?_
 subst hx
 refine .ite (λc=>.ok ⟨hd,hv,λe=>?_⟩) (λc=>.aw (agB hs hr eR) λx hx=>?_)
 .grind
 subst hx
 refine .aw (agC hs hr hd hp eC) λx hx=>?_
 subst hx
 have o:=Hx hs hr
 refine T.loop (σ:=Unit) (L:=λj _ n=>AH n ((gD r 13).length:Int) j (aH p i r s l g)) (gD r 13).length (λj _=>∀e,e∈(gD r 13).take j->B5 l e) ?_ ?_ () (by simp)
 .intro _ h;rw[List.take_length]at h;have hok:Ps p i r:=⟨hd,hv,λ_ e he=>⟨(h e he).1,(h e he).2.1,λv ev=>by rw[ev.HU el];exact(h e he).2.2⟩⟩;exact .step (λn=>ON n _ _ _) (.neg (by simp) (.ask (aik (gD r 13) o) λ_ _=>.ow (by omega) λ_=>hok))
 .intro j _ hj h E
  have D:(gD r 13)[j]?=some (gD r 13)[j]:=by simp[hj]
  have hl:=bq o;refine .step (λn=>ON n _ _ _) (.pos (by simp;omega) (.aw (agD hs hr hd hp eR gG D) λx hx=>?_));obtain⟨rfl,hok⟩:=hx;rw[aE (i:=(j:Int)+1) (by omega) (by omega)];refine E () λe he=>?_;rw[fJ D]at he;grind
theorem S4{p:Rows}(hb:cA 16777216 p):T (λn=>F9 n p) λf=>f.1=0->p.length<=16/\∀(i:Nat)r,p[i]?=some r->Ps p i r:=by
 refine .step (λn=>eF9 n _) (.ite (λ_=>.ret λe=>by cases e) (λc=>?_))
 have c:¬(p.length:Int)>16:=eU c
 refine T.loop (σ:=Unit) (L:=λj _ n=>vF n p (p.length:Int) j (0,0,bs []) p) p.length (λj _=>∀(k:Nat)q,k<j->p[k]?=some q->Ps p k q) ?_ ?_ () (by grind)
 .intro _ h;refine .step (λn=>PS n _ _ _ _ _) (.neg (by simp) (.ask (.step (λn=>aby n _) (.ret (Q:=λx=>x.2=(0,0,bs [])) rfl)) λx hx=>.ret λ_=>⟨by omega,λi r hr=>h i r (List.getElem?_eq_some_iff.1 hr).1 hr⟩))
 .intro j _ hj h E
  refine .step (λn=>PS n _ _ _ _ _) (.pos (by simp;omega) (.ab (by omega) (by omega) λr hr=>?_))
  have hr:p[j]?=some r:=by grind
  obtain⟨x,hx,hq⟩:=agE (s:=([],[])) (l:=([],[])) (g:=([],[])) hb (by omega) hr h
  cases x with
  |ret x=>
   obtain⟨y,hy,o⟩:T (λn=>vF n p (p.length:Int) (IntKind.i64.wrap ((j:Int)+1)) (0,0,bs []) p) (λf=>f.1=0->p.length<=16/\∀(i:Nat)r,p[i]?=some r->Ps p i r):=by
    rw[aE (i:=(j:Int)+1) (by omega) (by omega)]
    refine E () λk q hk z=>?_
    rcases Nat.lt_or_ge k j with h1|h1
    .grind
    .obtain rfl:k=j:=by omega
     rw[hr]at z;obtain rfl:=Option.some.inj z;exact hq
   exact⟨y,.ask hx hy,o⟩|aN t q u=>obtain⟨rfl,h0⟩:=hq;have hy:T (λn=>aa (Nat.beq 29 29) (Go.AI.ask (H4 n (0,0,bs []) q) λD=>(aa D.1 (some D.2) none)) none) (λf=>f.1=0->p.length<=16/\∀(i:Nat)r,p[i]?=some r->Ps p i r):=.pos rfl (.ask (.step (λn=>ahm n _ _) (.ret (Q:=λx=>x=(true,Sj q 0)) rfl)) λx hx=>by subst hx;exact .pos rfl (.ret λe=>absurd e h0));obtain⟨y,hy,o⟩:=hy;exact⟨y,.ask hx hy,o⟩
end Go.AI
end

section
namespace Go.AI
open Go
open BD(cA)
theorem Qr(l:Rows)(hl:bd l):Ev (λn=>oL n l l) true:=by
 refine .step (λn=>ahw n _ _) (.neg (by simp) ?_)
 have h:=(abR l l hl rfl).ev
 have e:mW (λr q=>ay (gS r 0) (gS q 0)) l l=true:=by clear h hl;induction l with|nil=>rfl|cons x l c=>unfold mW;rw[c,Bool.and_true];exact gh.2 rfl
 rwa[e]at h
theorem Ft(l:Rows)(s:ByteArray)(hl:bd l):Ev (λn=>ll n l s) (l.any λr=>ay (gS r 0) s):=by
 have hb:=bq hl
 refine T.ev (.step (λn=>ahN n _ _) ?_)
 refine T.loop (σ:=Unit) (L:=λi _ n=>AK n s l (l.length:Int) i) l.length (λi _=>∀x,x∈l.take i->ay (gS x 0) s=false) ?_ ?_ () (by simp)
 .intro _ h;rw[List.take_length]at h;refine .step (λn=>OY n _ _ _ _) (.neg (by simp) (.ret ?_));grind
 .intro i _ hi h o
  refine .step (λn=>OY n _ _ _ _) (.pos (by simp;omega) (.ab (by omega) (by omega) λr hr=>?_))
  have hr:l[i]?=some r:=by grind
  refine .ite (λc=>.ret (List.any_eq_true.2 ⟨r,List.mem_of_getElem? hr,c⟩).symm) (λc=>?_);rw[aE (i:=(i:Int)+1) (by omega) (by omega)];refine o () λy hy=>?_;rw[fJ hr]at hy;grind
theorem Be{p:Rows}{f:mX}(h:Ev (λn=>F9 n p) f):Ev (λn=>Cp n p) (f.1==0):=.step (λn=>ahv n _) (.ask h (.ret _))
section
variable {p:Rows}(hb:cA 16777216 p){f:mX}(hf:Ev (λn=>F9 n p) f)(h0:f.1=0)(hn:p.length<=16)(hp:∀(i:Nat)r,p[i]?=some r->Ps p i r)
include hb hf h0
theorem agF(s:ByteArray):Ev (λn=>H2 n p s) (bc p s):=by refine .step (λn=>ahM n _ _) (.ask (Be hf) (.neg (by rw[h0];rfl) (.ask (Bc p s (iF hb)) (.ret _))))
theorem Qs{i:Nat}{r:List AV}(hr:p[i]?=some r)(hk:gI r 0=2):Ev (λn=>l4 n p (i:Int) true) 0:=by have hi:=(List.getElem?_eq_some_iff.1 hr).1;exact .step (λn=>Hp n _ _ _) (.ask (Be hf) (.neg (by rw[h0];rfl) (.neg (iQ (by omega)) (.neg (iQ (by omega)) (.pos rfl (.ab rfl hr (.neg (by rw[hk];rfl) (.ret _))))))))
include hn hp
theorem aco{i:Nat}{r:List AV}(hr:p[i]?=some r)(c:ay (gS r 3) (bs [])=false):∃(k:Nat)(q:List AV),bc p (gS r 3)=k/\bR p r=k/\k<i/\p[k]?=some q/\gI r 0=2:=by
 have h:=hp i r hr
 have h1:=h.rf c
 have hi:=(List.getElem?_eq_some_iff.1 hr).1
 refine⟨(bc p (gS r 3)).toNat,p[(bc p (gS r 3)).toNat]'(by omega),by omega,?_,by omega,by simp,?_⟩
 .unfold bR;grind
 .rcases h.kd with e|e
  .have:=h.cx e;rw[this]at c;rw[show ay (bs []) (bs [])=true from gh.2 rfl]at c;cases c
  .exact e
theorem agG{i:Nat}{r:List AV}(hr:p[i]?=some r)(E:ay (gS r 3) (bs [])=false){k:Nat}{q:List AV}(hk:bR p r=k)(hq:p[k]?=some q)(D:gI r 0=2):Ev (λn=>wx n p (i:Int)) (da true (gD q 7) (gD r 7))/\Ev (λn=>wy n p (i:Int)) (da false (gD q 7) (gD r 7)):=by
 have o:=Qs hb hf h0 hr D
 have z:∀w,Ev (λn=>wz n p (i:Int) w) (da w (gD q 7) (gD r 7)):=λw=>by
  have:=Qq p i r w (iF hb) hr (λr hr j=>(ai (dG hb hr) j).1) q λ_=>by grind
  grind
 have sh:∀{F:Nat->Option Int},Ev F 0->Ev (λn=>F (n+1)) 0:=λ⟨m,h⟩=>⟨m,λn hn=>h (n+1) (by omega)⟩;have bJ:∀{F:Nat->Option Rows}{r},Ev F r->Ev (λn=>F (n+1)) r:=λ⟨m,h⟩=>⟨m,λn hn=>h (n+1) (by omega)⟩;have c:∀{F G:Nat->Option Rows}{r},(∀n,F (n+1+1)=G n)->Ev G r->Ev F r:=λ{F G r}h⟨m,hm⟩=>⟨m+2,λn hn=>by obtain⟨k,rfl⟩:∃k,n=k+1+1:=⟨n-2,by omega⟩;grind⟩;exact⟨c (λn=>ahn n _ _) (.ask (sh (F:=λn=>l4 n p (i:Int) true) o) (.neg (by decide) (.ask (bJ (F:=λn=>s3 n p (i:Int)) (.step (λn=>SH n _ _) (.ask (z true) (.ret _)))) (.pos (tX ⟨rfl,rfl⟩) (.ret _))))),c (λn=>ahG n _ _) (.ask (sh (F:=λn=>l4 n p (i:Int) true) o) (.neg (by decide) (.ask (bJ (F:=λn=>Ib n p (i:Int)) (.step (λn=>ahO n _ _) (.ask (z false) (.ret _)))) (.pos (tX ⟨rfl,rfl⟩) (.ret _)))))⟩
end
theorem WY(m:Rows)(s:ByteArray):((m.map λd=>[AV.sc (.string (gS d 0))]).any λr=>ay (gS r 0) s)=m.any λr=>ay (gS r 0) s:=by rw[List.any_map];rfl
theorem yJ{w:Bool}{l m:Rows}{j:Nat}{d:List AV}(hd:l[j]?=some d):da w (l.take (j+1)) m=if(m.any λr=>ay (gS r 0) (gS d 0))=w then da w (l.take j) m++[[.sc (.string (gS d 0))]]else da w (l.take j) m:=by rw[fJ hd];unfold da;grind
theorem NL{w:Bool}{l m:Rows}(hl:cA 16777216 l):bd (da w l m)/\(da w l m).length<=16777216:=by
 have h1:(da w l m).length<=16777216:=by unfold da;rw[List.length_map];exact Nat.le_trans (List.length_filter_le ..) hl.1
 refine⟨⟨by omega,lL λx hx=>?_⟩,h1⟩;unfold da at hx;obtain⟨d,hd,rfl⟩:=List.mem_map.1 hx;exact bm (dv (ak (dG (iF hl) (List.mem_filter.1 hd).1) 0)) ed
theorem XO(p:Rows)(i:Int)(hb:cA 16777216 p):Ev (λn=>F5 n p i) true:=by
 have N:=iF hb
 have yes:∀{G:Nat->Option Bool},T (λn=>aa true (some true) (G n)) λb=>b=true:=.pos rfl (.ret rfl)
 refine T.ev (.step (λn=>eF5 n _ _) (.ask (Uc p N) λ_ _=>.ite (λ_=>yes) (λ_=>.mV (S4 hb) λf hf hp=>.ite (λ_=>yes) (λc=>.ite (λ_=>yes) (λX=>.ite (λ_=>yes) (λV=>?_))))))
 have h0:f.1=0:=ib c
 obtain⟨hn,hp⟩:=hp h0
 have X:=eU X
 have V:=eU V
 obtain⟨i,rfl⟩:∃k:Nat,i=k:=⟨i.toNat,by omega⟩
 have hi:i<p.length:=by omega
 have hr:p[i]?=some p[i]:=by simp[hi]
 generalize p[i]=r at hr
 have R:∀{k:Nat->List AV->Option Bool},T (λn=>k n r) (λb=>b=true)->T (λn=>ab p (i:Int) (k n)) λb=>b=true:=λh=>.ab (by omega) (by omega) λr' hr'=>by grind
 refine R (.ite (λ_=>yes) (λE=>R ?_))
 obtain⟨k,q,e1,e2,hki,hq,M⟩:=aco hb hf h0 hn hp hr E
 refine .cR (agF hb hf h0 (gS r 3)) ?_
 rw[e1]
 refine .neg (iQ (by omega)) (.neg (iQ (by omega)) (R ?_))
 have D:cA 16777216 (gD r 7):=ai (an hb hr) 7
 have o:cA 16777216 (gD q 7):=ai (an hb hq) 7
 have hlr:(gD r 7).length<=16777216:=D.1
 have hlq:(gD q 7).length<=16777216:=o.1
 obtain⟨hK,hD⟩:=agG hb hf h0 hn hp hr E e2 hq M
 have O:=NL (w:=true) (m:=gD r 7) o
 have Q:=NL (w:=false) (m:=gD r 7) o
 have hlen:∀w j,(da w ((gD q 7).take j) (gD r 7)).length<=16777216:=λw j=>by unfold da;grind
 refine T.loop (σ:=Rows) (L:=λj t n=>BG n (i:Int) (k:Int) (gD r 7) ((gD r 7).length:Int) j p t [] []) (gD r 7).length (λj t=>t=((gD r 7).take j).map λd=>[.sc (.string (gS d 0))]) ?_ ?_ [] (by simp)
 .intro own ho
  rw[List.take_length]at ho
  subst ho
  have K:bd ((gD r 7).map λd=>[AV.sc (.string (gS d 0))]):=⟨by simp;omega,lL λx hx=>by obtain⟨d,hd,rfl⟩:=List.mem_map.1 hx;exact bm (dv (ak (dG (iF D) hd) 0)) ed⟩
  have fin:∀kp S,kp=da true (gD q 7) (gD r 7)->S=da false (gD q 7) (gD r 7)->T (λn=>(ask (wx n p (i:Int)) λx3=>(ask (oL n x3 kp) λx4=>(aa x4 (ask (wy n p (i:Int)) λZ=>(ask (oL n Z S) λY=>(aa Y (aa true (some true) none) (some false)))) (some false))))) λb=>b=true:=λkp S hk hd=>by subst hk;subst hd;exact .cR hK (.cR (Qr _ O.1) (.pos rfl (.cR hD (.cR (Qr _ Q.1) (.pos rfl yes)))))
  have step:∀{J:Nat->Rows->Rows->Option Bool}{j:Nat}{t:Rows×Rows},j<(gD q 7).length->(t.1=da true ((gD q 7).take j) (gD r 7)/\t.2=da false ((gD q 7).take j) (gD r 7))->(∀t':Rows×Rows,(t'.1=da true ((gD q 7).take (j+1)) (gD r 7)/\t'.2=da false ((gD q 7).take (j+1)) (gD r 7))->T (λn=>J n t'.1 t'.2) λb=>b=true)->
   T (λn=>ab (gD q 7) (j:Int) λr1=>(ask (ll n ((gD r 7).map λd=>[AV.sc (.string (gS d 0))]) (gS r1 0)) λx2=>(aa x2 (fits (t.1.length+([[.sc (.string (gS r1 0))]]:List (List AV)).length) 16 (J n (t.1++[[.sc (.string (gS r1 0))]]) t.2)) (fits (t.2.length+([[.sc (.string (gS r1 0))]]:List (List AV)).length) 16 (J n t.1 (t.2++[[.sc (.string (gS r1 0))]])))))) λb=>b=true:=by
   intro J j t hj ht hJ
   refine .ab (by omega) (by omega) λd hd=>.cR (Ft _ _ K) ?_
   have hd:(gD q 7)[j]?=some d:=by grind
   rw[WY]
   have l1:=hlen true j
   have l2:=hlen false j
   rw[<-ht.1]at l1
   rw[<-ht.2]at l2
   refine .ite (λc=>.fits (by simp;omega) (hJ (t.1++[[.sc (.string (gS d 0))]],t.2) ⟨?_,?_⟩)) (λc=>.fits (by simp;omega) (hJ (t.1,t.2++[[.sc (.string (gS d 0))]]) ⟨?_,?_⟩))
   .rw[yJ hd,if_pos c,ht.1]
   .rw[yJ hd,if_neg (by rw[c];simp),ht.2]
   .rw[yJ hd,if_neg (by rw[c];simp),ht.1]
   .rw[yJ hd,if_pos c,ht.2]
  have F:∀m:Nat,m<=(gD q 7).length->∀t:Rows×Rows,(t.1=da true ((gD q 7).take m) (gD r 7)/\t.2=da false ((gD q 7).take m) (gD r 7))->T (λn=>zJ n (i:Int) (gD q 7) ((gD q 7).length:Int) (m:Int) p ((gD r 7).map λd=>[AV.sc (.string (gS d 0))]) t.1 t.2) λb=>b=true:=by
   intro m hm t ht
   refine T.lO (σ:=Rows×Rows) (L:=λj t n=>zJ n (i:Int) (gD q 7) ((gD q 7).length:Int) j p ((gD r 7).map λd=>[AV.sc (.string (gS d 0))]) t.1 t.2) (gD q 7).length (λj t=>t.1=da true ((gD q 7).take j) (gD r 7)/\t.2=da false ((gD q 7).take j) (gD r 7)) ?_ ?_ m hm t ht
   .intro t ht;rw[List.take_length]at ht;exact .step (λn=>Nq n _ _ _ _ _ _ _ _) (.neg (by simp) (fin _ _ ht.1 ht.2))
   .intro j t hj ht U;refine .step (λn=>Nq n _ _ _ _ _ _ _ _) (.pos (by simp;omega) ?_);refine step hj ht (J:=λn a b=>qy n (i:Int) (gD q 7) ((gD q 7).length:Int) (j:Int) p ((gD r 7).map λd=>[AV.sc (.string (gS d 0))]) a b) λt' I=>.step (λn=>OX n _ _ _ _ _ _ _ _) ?_;rw[aE (i:=(j:Int)+1) (by omega) (by omega)];grind
  refine .step (λn=>PY n _ _ _ _ _ _ _ _ _) (.neg (by simp) (.ab (by omega) (by grind) λq' z=>?_))
  have z:p[k]?=some q':=by grind
  rw[hq]at z
  obtain rfl:=Option.some.inj z
  refine .step (λn=>aec n _ _ _ _ _ _ _ _) (.ite (λc=>?_) (λc=>?_))
  .have c:=cO c;refine step (t:=([],[])) (j:=0) (by omega) ⟨by simp[da],by simp[da]⟩ (J:=λn a b=>qy n (i:Int) (gD q 7) ((gD q 7).length:Int) 0 p ((gD r 7).map λd=>[AV.sc (.string (gS d 0))]) a b) λt' I=>.step (λn=>OX n _ _ _ _ _ _ _ _) ?_;rw[aE (i:=(0:Int)+1) (by omega) (by omega)];grind
  .have c:=eU c;have e:gD q 7=[]:=List.length_eq_zero_iff.1 (by omega);exact fin [] [] (by rw[e];rfl) (by rw[e];rfl)
 .intro j t hj ht U
  have h1:t.length=j:=by grind
  refine .step (λn=>PY n _ _ _ _ _ _ _ _ _) (.pos (by simp;omega) (.ab (by omega) (by omega) λd hd=>.fits (by simp;omega) ?_))
  have hd:(gD r 7)[j]?=some d:=by grind
  rw[aE (i:=(j:Int)+1) (by omega) (by omega)];exact U _ (by rw[fJ hd,ht];simp)
end Go.AI
end
