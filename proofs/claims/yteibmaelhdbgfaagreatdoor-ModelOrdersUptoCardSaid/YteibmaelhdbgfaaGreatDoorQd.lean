/-
  A part of the proof: U13 U14 U15 U16.
-/
import Derived.Test.YteibmaelhdbgfaaGreatDoorQc
set_option linter.all false

section
namespace Go.AI
open Go
open BD(cA)
section
variable {p:Rows}{i:Nat}{r:List AV}{s l g:Env}(hs:Sur p i)(hr:p[i]?=some r)(hd:Hd p i r)(hp:∀(k:Nat)q,k<i->p[k]?=some q->Ps p k q)(eC:bd s)(eR:bd l)(gG:bd g)
include hs hr hd hp
theorem JP{x:ByteArray×Rows×Int×Rows×Rows×Rows×Rows×Bool}(hx:sS p i r x)(h:x.2.2.2.2.2.2.2=true):
 ∃(k:Nat)(q:List AV),bR p r=k/\k<i/\p[k]?=some q/\(bj (gD q 7)).Nodup/\x.2.2.2.1.length<=16777216/\(bj x.2.2.2.1).Nodup/\(∀y,y∈x.2.2.2.1->ji (gS y 0))/\∀v,Ev (λn=>l5 n p (k:Int)) v->PT v x.2.2.2.1:=by
 obtain⟨k,q,h1,h2,h3,h4,h5⟩:=hx.2 h
 have hq:=hp k q h2 h3
 refine⟨k,q,h1,h2,h3,hq.vd h4,?_⟩
 rcases h5 with h5|⟨e,he,h5⟩
 .rw[h5];exact⟨by simp,by simp,by simp,λ_ _=>.nil⟩
 .rw[h5];have:=hq.pt h4 e he;exact⟨by have:=(hq.ev e he).1;omega,this.1,this.2.1,this.2.2⟩
include eC
theorem agC:T (λn=>Ia n (aH p i r s l g)) (AQ λx=>x=aH p i r s l g):=by
 have k:=dG hs.bp (List.mem_of_getElem? hr)
 have D:=ai k 12
 have hv:=sE hs hr
 refine .step (λn=>ahH n _) (.ask (Qc (gD r 11) (gD r 12) (ai k 11) D) λ_ _=>.bw (by omega) λ_=>.ask (Q':=λx=>sS p i r x/\(x.2.2.2.2.2.2.2=true->x.2.2.2.1=[])) ?_ λx hx=>?_)
 .have hlt:=lI hs.hh (by omega) hr
  have hi:=hs.hi
  refine .step (λn=>PU n _ _ _) (.cR (iY p i r hs.bp hr) (.ite (λ_=>.ret ⟨⟨⟨dz,cK,trivial,cK,cK,cK,cK,trivial⟩,λe=>by cases e⟩,λe=>by cases e⟩) λc=>?_))
  have c:=eU c
  obtain⟨m,hm⟩:∃m:Nat,bR p r=m:=⟨(bR p r).toNat,by omega⟩
  have e:ay (gS r 3) (bs [])=false:=by cases e:ay (gS r 3) (bs [])with|false=>rfl|true=>unfold bR at c;grind
  have hf:bc p (gS r 3)=m:=by rw[<-hm];unfold bR;grind
  rw[hm]
  refine .ab (by omega) (by grind) λq hq=>.pos (gh.2 rfl) ?_
  have hq:p[m]?=some q:=by grind
  have E:=an hs.bp hq;exact .ret ⟨⟨⟨dz,cK,trivial,cK,cK,ai E 11,ai E 12,trivial⟩,λ_=>⟨m,q,hm,by omega,hq,(hd.rf e).2.2 q (by grind),.inl rfl⟩⟩,λ_=>rfl⟩
 .have o:=hx.1.1
  refine .aw (acb hs hr eC (w:=gD r 11) (ai k 11) (qX x) ⟨o.1,o.2.1,trivial,o.2.2.2.1,o.2.2.2.2.1,o.2.2.2.2.2.1,o.2.2.2.2.2.2.1⟩ x.2.2.2.2.2.2.2 λhb=>?_) λy hy=>?_
  .obtain⟨m,q,h1,h2,h3,h4,_⟩:=JP hs hr hd hp hx.1 hb;exact⟨m,q,h1,h2,h3,h4,hx.2 hb⟩
  .subst hy
   refine .aw (Ph hs hr (acts:=gD r 12) D (env:=s) eC false) λz hz=>?_
   subst hz
   have F:=bq hv
   refine T.loop (σ:=Unit) (L:=λj _ n=>AR n (gD r 7) ((gD r 7).length:Int) j (aH p i r s l g) (ct r)) (gD r 7).length (λ_ _=>True) ?_ ?_ () trivial
   .exactλ_ _=>.step (λn=>OO n _ _ _ _ _) (.neg (by simp) (.ok rfl))
   .intro j _ hj _ I;refine .step (λn=>OO n _ _ _ _ _) (.pos (by simp;omega) (.ab (by omega) (by omega) λd hd=>?_));have kd:=an hv hd;refine .ask (aac (gD r 12) _ _ _ _ D (ak kd 0) (ak kd 2) (ai kd 3)) λ_ _=>.bw (by omega) λ_=>?_;rw[aE (i:=(j:Int)+1) (by omega) (by omega)];simp_all
omit eC
include eR gG
def B5(l:Env)(e:List AV):Prop:=(bj (gD e 3)).Nodup/\(∀x,x∈gD e 3->ji (gS x 0))/\PT l (gD e 3)
theorem agD{j:Nat}{e:List AV}(hj:(gD r 13)[j]?=some e):T (λn=>Ic n (j:Int) (aH p i r s l g)) (AQ λx=>x=aH p i r s l g/\B5 l e):=by
 have hb:=Hx hs hr
 have V:j<(gD r 13).length:=(List.getElem?_eq_some_iff.1 hj).1
 have k:=an hb hj
 have K:=B4 k
 have hl:=hd.ev e (List.mem_of_getElem? hj)
 have no:∀{Q:ar->Prop}{J:Nat->ar->Option (aW ar Unit)},T (λn=>Go.AI.aw (aO n false (gS e 0) 1 (aH p i r s l g)) λx=>J n x) (AQ Q):=.bw (by omega) λc=>by cases c
 refine .step (λn=>ahX n _ _) (.ab (by omega) (by grind) λe' D=>?_)
 have D:(gD r 13)[j]?=some e':=by grind
 rw[hj]at D
 obtain rfl:=Option.some.inj D
 refine .ask (sD _ (ak k 0)) λ_ _=>.ite (λ_=>.ite (λU=>.ite (λ_=>.ite (λ_=>.ite (λ_=>.ite (λ_=>.ask (af5 (gD e 4) (ai k 4)) λ_ _=>.ite (λ_=>.ask (Qc (gD e 5) (gD e 6) (ai k 5) (ai k 6)) λ_ _=>.ite (λ_=>.ask (ach (gD e 3) (ai k 3)) λb S=>.bw (by omega) λc=>?_) (λ_=>no)) (λ_=>no)) (λ_=>no)) (λ_=>no)) (λ_=>no)) (λ_=>no)) (λ_=>no)) (λ_=>no)
 have O:=S (by grind)
 refine .step (λn=>abG n _ _ _) (.aw (acj hs hr hd hj) λx hx=>?_)
 obtain⟨rfl,X,R⟩:=hx
 refine .aw (ack hs hr hd K) λx hx=>?_
 obtain⟨rfl,E⟩:=hx
 refine .aw (acm hs hr hd (iK e) K (by grind) eR) λx hx=>?_
 obtain⟨v,ts,rfl,hv,M,N,F⟩:=hx
 have hok:B5 l e:=⟨R,O,F⟩
 refine T.loop (σ:=Unit) (L:=λm _ n=>AW n (gD e 4) ((gD e 4).length:Int) m (aH p i r s l g) (iK e) v ts) (gD e 4).length (λ_ _=>True) ?_ ?_ () trivial
 .intro _ _
  refine .step (λn=>OH n _ _ _ _ _ _ _) (.neg (by simp) (.aw (acn hs hr hd K E) λx hx=>?_))
  subst hx
  refine .ask (ab8 hs hr hd (gS e 0) (ak k 0) λ_ n f h1 h2 m q h3 h4 y hy=>?_) λx hx=>?_
  .obtain rfl:n=j:=by omega
   rw[hj]at h2;obtain rfl:=Option.some.inj h2;exact E.2 m q h3 h4 y hy
  .have o:=hx.1;refine .aw (XN hs hr gG (w:=gD e 5) (ai k 5) (qX x) ⟨o.1,o.2.1,trivial,o.2.2.2.1,o.2.2.2.2.1,o.2.2.2.2.2.1,o.2.2.2.2.2.2.1⟩ x.2.2.2.2.2.2.2 (iK e) K M N eR (ai (dG (ai (dG hs.hb (List.mem_of_getElem? hr)) 13) (List.mem_of_getElem? hj)) 3) F λhb=>JP hs hr hd hp hx hb) λy hy=>?_;subst hy;have act:∀b,T (λn=>Go.AI.eP (sJ n (gS e 0) (gD e 6) v b (aH p i r s l g))) (AQ λx=>x=aH p i r s l g/\B5 l e):=λb=>.eP ((Ph hs hr (acts:=gD e 6) (ai k 6) hv b).mono λz hz=>by grind);exact .ite (λ_=>act _) (λ_=>act _)
 .intro m _ hm _ Y;refine .step (λn=>OH n _ _ _ _ _ _ _) (.pos (by simp;omega) (.ab (by omega) (by omega) λq hq=>?_));have I:=an (ai k 4) hq;refine .ask (S2 v _ hv ⟨trivial,ak I 2,trivial,trivial,ak I 5,ai I 6,ai I 7⟩) λ_ _=>.fail λ_=>?_;rw[aE (i:=(m:Int)+1) (by omega) (by omega)];simp_all
end
theorem agE{p:Rows}{i:Nat}{r:List AV}{s l g:Env}(hb:cA 16777216 p)(hn:p.length<=16)(hr:p[i]?=some r)(hp:∀(k:Nat)q,k<i->p[k]?=some q->Ps p k q):
 T (λn=>H3 n (aH p i r s l g)) (AQ λ_=>Ps p i r):=by
 have z:∀(k:Nat)q,k<i->p[k]?=some q->Hd p k q:=λk q h1 h2=>(hp k q h1 h2).toHd
 refine .step (λn=>ah3 n _) (.aw (agx hb hn hr z) λx hx=>?_)
 obtain⟨rfl,hd⟩:=hx
 have hs:=vp hb hn hr z hd
 refine .aw (agy hb hn hr z hd) λx hx=>?_
 obtain⟨s,l,g,rfl,eC,eR,gG,el,_,hv⟩:=hx
 refine .aw (agA hs hr eC gG) λx hx=>?_
 subst hx
 refine .ite (λc=>.ok ⟨hd,hv,λe=>?_⟩) (λc=>.aw (agB hs hr eR) λx hx=>?_)
 .grind
 subst hx
 refine .aw (agC hs hr hd hp eC) λx hx=>?_
 subst hx
 have o:=Hx hs hr
 refine T.loop (σ:=Unit) (L:=λj _ n=>AH n ((gD r 13).length:Int) j (aH p i r s l g)) (gD r 13).length (λj _=>∀e,e∈(gD r 13).take j->B5 l e) ?_ ?_ () (by simp)
 .intro _ h;rw[List.take_length]at h;have hok:Ps p i r:=⟨hd,hv,λ_ e he=>⟨(h e he).1,(h e he).2.1,λv ev=>by rw[ev.HU el];exact(h e he).2.2⟩⟩;exact .step (λn=>ON n _ _ _) (.neg (by simp) (.ask (aik (gD r 13) o) λ_ _=>.ow (by omega) λ_=>hok))
 .intro j _ hj h E
  have D:(gD r 13)[j]?=some (gD r 13)[j]:=by simp[hj]
  have hl:=bq o;refine .step (λn=>ON n _ _ _) (.pos (by simp;omega) (.aw (agD hs hr hd hp eR gG D) λx hx=>?_));obtain⟨rfl,hok⟩:=hx;rw[aE (i:=(j:Int)+1) (by omega) (by omega)];refine E () λe he=>?_;rw[fJ D]at he;grind
theorem S4{p:Rows}(hb:cA 16777216 p):T (λn=>F9 n p) λf=>f.1=0->p.length<=16/\∀(i:Nat)r,p[i]?=some r->Ps p i r:=by
 refine .step (λn=>eF9 n _) (.ite (λ_=>.ret λe=>by cases e) (λc=>?_))
 have c:¬(p.length:Int)>16:=eU c
 refine T.loop (σ:=Unit) (L:=λj _ n=>vF n p (p.length:Int) j (0,0,bs []) p) p.length (λj _=>∀(k:Nat)q,k<j->p[k]?=some q->Ps p k q) ?_ ?_ () (by grind)
 .intro _ h;refine .step (λn=>PS n _ _ _ _ _) (.neg (by simp) (.ask (.step (λn=>aby n _) (.ret (Q:=λx=>x.2=(0,0,bs [])) rfl)) λx hx=>.ret λ_=>⟨by omega,λi r hr=>h i r (List.getElem?_eq_some_iff.1 hr).1 hr⟩))
 .intro j _ hj h E
  refine .step (λn=>PS n _ _ _ _ _) (.pos (by simp;omega) (.ab (by omega) (by omega) λr hr=>?_))
  have hr:p[j]?=some r:=by grind
  obtain⟨x,hx,hq⟩:=agE (s:=([],[])) (l:=([],[])) (g:=([],[])) hb (by omega) hr h
  cases x with
  |ret x=>
   obtain⟨y,hy,o⟩:T (λn=>vF n p (p.length:Int) (IntKind.i64.wrap ((j:Int)+1)) (0,0,bs []) p) (λf=>f.1=0->p.length<=16/\∀(i:Nat)r,p[i]?=some r->Ps p i r):=by
    rw[aE (i:=(j:Int)+1) (by omega) (by omega)]
    refine E () λk q hk z=>?_
    rcases Nat.lt_or_ge k j with h1|h1
    .grind
    .obtain rfl:k=j:=by omega
     rw[hr]at z;obtain rfl:=Option.some.inj z;exact hq
   exact⟨y,.ask hx hy,o⟩|aN t q u=>obtain⟨rfl,h0⟩:=hq;have hy:T (λn=>aa (Nat.beq 29 29) (Go.AI.ask (H4 n (0,0,bs []) q) λD=>(aa D.1 (some D.2) none)) none) (λf=>f.1=0->p.length<=16/\∀(i:Nat)r,p[i]?=some r->Ps p i r):=.pos rfl (.ask (.step (λn=>ahm n _ _) (.ret (Q:=λx=>x=(true,Sj q 0)) rfl)) λx hx=>by subst hx;exact .pos rfl (.ret λe=>absurd e h0));obtain⟨y,hy,o⟩:=hy;exact⟨y,.ask hx hy,o⟩
end Go.AI
end

section
namespace Go.AI
open Go
open BD(cA)
theorem Ft(l:Rows)(s:ByteArray)(hl:bd l):Ev (λn=>ll n l s) (l.any λr=>ay (gS r 0) s):=by
 have hb:=bq hl
 refine T.ev (.step (λn=>ahN n _ _) ?_)
 refine T.loop (σ:=Unit) (L:=λi _ n=>AK n s l (l.length:Int) i) l.length (λi _=>∀x,x∈l.take i->ay (gS x 0) s=false) ?_ ?_ () (by simp)
 .intro _ h;rw[List.take_length]at h;refine .step (λn=>OY n _ _ _ _) (.neg (by simp) (.ret ?_));grind
 .intro i _ hi h o
  refine .step (λn=>OY n _ _ _ _) (.pos (by simp;omega) (.ab (by omega) (by omega) λr hr=>?_))
  have hr:l[i]?=some r:=by grind
  refine .ite (λc=>.ret (List.any_eq_true.2 ⟨r,List.mem_of_getElem? hr,c⟩).symm) (λc=>?_);rw[aE (i:=(i:Int)+1) (by omega) (by omega)];refine o () λy hy=>?_;rw[fJ hr]at hy;grind
theorem Be{p:Rows}{f:mX}(h:Ev (λn=>F9 n p) f):Ev (λn=>Cp n p) (f.1==0):=.step (λn=>ahv n _) (.ask h (.ret _))
section
variable {p:Rows}(hb:cA 16777216 p){f:mX}(hf:Ev (λn=>F9 n p) f)(h0:f.1=0)(hn:p.length<=16)(hp:∀(i:Nat)r,p[i]?=some r->Ps p i r)
include hb hf h0
theorem Qs{i:Nat}{r:List AV}(hr:p[i]?=some r)(hk:gI r 0=2):Ev (λn=>l4 n p (i:Int) true) 0:=by have hi:=(List.getElem?_eq_some_iff.1 hr).1;exact .step (λn=>Hp n _ _ _) (.ask (Be hf) (.neg (by rw[h0];rfl) (.neg (iQ (by omega)) (.neg (iQ (by omega)) (.pos rfl (.ab rfl hr (.neg (by rw[hk];rfl) (.ret _))))))))
include hn hp
end
end Go.AI
end

section
namespace Go.AI
open Go
open BD(cA)
abbrev ba(ks:List Nat):Rows:=ks.map λk:Nat=>[.sc (.int .i64 (k:Int))]
theorem ur{ks:List Nat}{j:Nat}{x:List AV}(h:(ba ks)[j]?=some x):∃k:Nat,ks[j]?=some k/\x=[.sc (.int .i64 (k:Int))]:=by rw[List.getElem?_map]at h;obtain⟨k,h1,rfl⟩:=Option.map_eq_some_iff.1 h;exact⟨k,h1,rfl⟩
theorem T.sh{β:Type}{Q:β->Prop}{F:Nat->Option β}:T F Q->T (λn=>F (n+1)) Q:=λ⟨r,⟨m,h⟩,q⟩=>⟨r,⟨m,λn hn=>h (n+1) (by omega)⟩,q⟩
def Cl(p:Rows)(ks:List Nat):Prop:=∀(j k:Nat)q,ks[j]?=some k->p[k]?=some q->∀x,x∈gD q 2->∃m:Nat,m∈ks.take j/\bc p (gS x 0)=m
theorem Cl.app{p:Rows}{l m:List Nat}(h:Cl p l)(h':Cl p m):Cl p (l++m):=by
 intro j k q hk hq x hx
 rcases Nat.lt_or_ge j l.length with hj|hj
 .rw[List.getElem?_append_left hj]at hk;obtain⟨c,h1,h2⟩:=h j k q hk hq x hx;exact⟨c,by rw[List.take_append_of_le_length (by omega)];exact h1,h2⟩
 .rw[List.getElem?_append_right hj]at hk;obtain⟨c,h1,h2⟩:=h' _ k q hk hq x hx;exact⟨c,by rw[List.take_append];exact List.mem_append_right _ h1,h2⟩
theorem Cl.snoc{p:Rows}{l:List Nat}{k:Nat}(h:Cl p l)(h':∀q,p[k]?=some q->∀x,x∈gD q 2->∃m:Nat,m∈l/\bc p (gS x 0)=m):Cl p (l++[k]):=by
 intro j c q hk hq x hx
 rcases Nat.lt_or_ge j l.length with hj|hj
 .rw[List.getElem?_append_left hj]at hk;obtain⟨c,h1,h2⟩:=h j _ q hk hq x hx;exact⟨c,by rw[List.take_append_of_le_length (by omega)];exact h1,h2⟩
 .have e:j=l.length:=by have:=(List.getElem?_eq_some_iff.1 hk).1;simp at this;omega
  subst e
  have e:k=c:=by simpa using hk
  subst e;obtain⟨c,h1,h2⟩:=h' q hq x hx;exact⟨c,by simpa using h1,h2⟩
def DI(p:Rows)(cs:List Nat)(j:Nat)(s:Rows):Prop:=∃ks:List Nat,s=ba ks/\ks.Nodup/\Cl p ks/\(∀k,k∈ks↔k∈cs.take j)/\∀k,j≠0->cs[j-1]?=some k->k∉cs.take (j-1)->ks.getLast?=some k
theorem taken{α:Type}{cs:List α}{j:Nat}{k:α}(h:cs[j]?=some k):cs.take (j+1)=cs.take j++[k]:=by rw[List.take_succ,h];rfl
theorem UB{p:Rows}{cs:List Nat}{b:Nat}(hb:b<=1000)(ha:∀k,k∈cs->k<b)(hl:cs.length<=1099511627776)(hc:Cl p cs){V0 V' V:Nat->Int->Rows->Option Rows}
 (J:∀n i s,V0 (n+1) i s=(aa (decide (i<((ba cs).length:Int))) (ab (ba cs) i λ_=>(eJ (ba cs) i.toNat λr1=>(ask (l6 n s (gI r1 0)) λE=>(aa (!E) (fits (s.length+([[.sc (.int .i64 (gI r1 0))]]:List (List AV)).length) 8 (V' n i (s++[[.sc (.int .i64 (gI r1 0))]]))) (V' n i s))))) (some s)))
 (e1:∀n i s,V (n+1) i s=(aa (decide (i<((ba cs).length:Int))) (ab (ba cs) i λ_=>(eJ (ba cs) i.toNat λr1=>(ask (l6 n s (gI r1 0)) λE=>(aa (!E) (fits (s.length+([[.sc (.int .i64 (gI r1 0))]]:List (List AV)).length) 8 (V' n i (s++[[.sc (.int .i64 (gI r1 0))]]))) (V' n i s))))) (some s)))
 (e2:∀n i s,V' (n+1) i s=V n (IntKind.i64.wrap (i+1)) s):T (λn=>V0 n 0 []) (DI p cs cs.length):=by
 have body:∀(j:Nat)(s:Rows),j<cs.length->DI p cs j s->(∀s',DI p cs (j+1) s'->T (λn=>V n ((j:Int)+1) s') (DI p cs cs.length))->
  T (λn=>(ab (ba cs) (j:Int) λ_=>(eJ (ba cs) (j:Int).toNat λr1=>(ask (l6 n s (gI r1 0)) λE=>(aa (!E) (fits (s.length+([[.sc (.int .i64 (gI r1 0))]]:List (List AV)).length) 8 (V' n (j:Int) (s++[[.sc (.int .i64 (gI r1 0))]]))) (V' n (j:Int) s)))))) (DI p cs cs.length):=by
  rintro j _ hj⟨ks,rfl,h1,h2,h3,h4⟩I
  have hlen:ks.length<=b:=tt b ks h1 λk hk=>ha k (List.mem_of_mem_take ((h3 k).1 hk))
  refine .ab (by omega) (by simp;omega) λ_ _=>.eJ (by simp;omega) λr hr=>?_
  obtain⟨k,hk,rfl⟩:=ur hr
  have hk:cs[j]?=some k:=by simpa using hk
  have o:((ba ks).any λr=>(k:Int)==gI r 0)=true↔k∈ks:=by
   rw[List.any_eq_true]
   constructor
   .rintro⟨x,hx,e⟩
    obtain⟨c,hc,rfl⟩:=List.mem_map.1 hx
    have e:(k:Int)=c:=by simpa[gI]using e
    obtain rfl:k=c:=by omega
    exact hc
   .intro h;exact⟨_,List.mem_map_of_mem h,by simp[gI]⟩
  have go:∀s',DI p cs (j+1) s'->T (λn=>V' n (j:Int) s') (DI p cs cs.length):=λs' h=>.step (λn=>e2 n _ _) (by rw[aE (i:=(j:Int)+1) (by omega) (by omega)];exact I s' h)
  refine .cR (Qo (ba ks) k (by simp;omega)) (.ite (λc=>.fits (by simp;omega) (go _ ⟨ks++[k],by simp[gI],?_,?_,?_,?_⟩)) (λc=>go _ ⟨ks,rfl,h1,h2,?_,?_⟩))
  .have hn:k∉ks:=λh=>by rw[o.2 h]at c;cases c
   rw[List.nodup_append];exact⟨h1,by simp,λa ha c hc e=>by
    have hc:c=k:=by simpa using hc
    subst hc;subst e;exact hn ha⟩
  .exact h2.snoc λq hq x hx=>by obtain⟨m,hm,e⟩:=hc j k q hk hq x hx;exact⟨m,(h3 m).2 hm,e⟩
  .intro c;rw[taken hk,List.mem_append,List.mem_append,h3]
  .intro c _ D _
   have:some c=some k:=by rw[<-D,<-hk];simp
   rw[this];simp
  .have z:k∈ks:=o.1 (by simpa using c)
   intro c;rw[taken hk,List.mem_append,h3]
   constructor
   .exact .inl
   .rintro(h|h)
    .exact h
    .have:c=k:=by simpa using h
     subst this;exact(h3 _).1 z
  .have z:k∈ks:=o.1 (by simpa using c)
   intro c _ D hn
   have:some c=some k:=by rw[<-D,<-hk];simp
   cases this;exact absurd ((h3 _).1 z) (by simpa using hn)
 have loop:∀(k:Nat)s,k<=cs.length->DI p cs k s->T (λn=>V n (k:Int) s) (DI p cs cs.length):=λk s hk h=>by
  refine T.lO (σ:=Rows) (L:=λi s n=>V n i s) cs.length (DI p cs) ?_ ?_ k hk s h
  .exactλs h=>.step (λn=>e1 n _ _) (.neg (by simp) (.ret h))
  .exactλj s hj h F=>.step (λn=>e1 n _ _) (.pos (by simp;omega) (body j s hj h F))
 have h0:DI p cs 0 []:=⟨[],rfl,by simp,λj k q h=>by simp at h,by simp,λk h=>absurd rfl h⟩
 refine .step (λn=>J n _ _) (.ite (λc=>?_) (λc=>?_))
 .have c:=cO c;exact body 0 [] (by simp at c;omega) h0 λs' h'=>loop 1 s' (by simp at c;omega) h'
 .have c:=eU c
  have:cs.length=0:=by simp at c;simpa using c
  rw[this];exact .ret h0
def nh(p:Rows)(i:Nat)(l:Rows):Prop:=∃ks:List Nat,l=ba ks/\ks.Nodup/\(∀k,k∈ks->k<i+1/\∀q,p[k]?=some q->gI q 0=1)/\Cl p ks/\∀q,p[i]?=some q->gI q 0=1->ks.getLast?=some i
def IK(p:Rows)(i:Nat)(l:Rows):Prop:=∃ks:List Nat,l=ba ks/\ks.length<=i+1/\(∀k,k∈ks->k<=i)/\ks.getLast?=some i/\∀(j k:Nat)q,ks[j]?=some k->p[k]?=some q->(j=0->gS q 3=bs [])/\∀(k':Nat)c,j≠0->ks[j-1]?=some k'->p[k']?=some c->gS q 3=gS c 1
theorem PB{p:Rows}{s:ByteArray}{k:Nat}{q:List AV}(h:bc p s=k)(hq:p[k]?=some q):gS q 1=s:=by
 unfold bc gr at h
 cases e:p.findIdx? λr=>ay (gS r 1) s with
 |none=>rw[e]at h;simp at h
 |some m=>
  rw[e]at h
  have h:m=k:=by simp at h;omega
  subst h;obtain⟨hl,h1,_⟩:=List.findIdx?_eq_some_iff_getElem.1 e;obtain⟨_,h2⟩:=List.getElem?_eq_some_iff.1 hq;rw[h2]at h1;exact gh.1 h1
section
variable {p:Rows}(hb:cA 16777216 p)(hn:p.length<=16)(hp:∀(i:Nat)r,p[i]?=some r->Ps p i r)
include hb hn hp
theorem E3:∀(b i:Nat),i<b->i<p.length->T (λn=>jh n p (i:Int)) (nh p i)
 |0,i,hi,_=>absurd hi (by omega)
 |b+1,i,hi,U=>by
  have hr:p[i]?=some p[i]:=by simp[U]
  have I:=iF hb
  have hP:=hp i _ hr
  have hlen:(gD p[i] 2).length<=16777216:=(ai (an hb hr) 2).1
  generalize p[i]=r at*
  have gi:∀{β:Type}{Q:β->Prop}{k:Nat->List AV->Option β},T (λn=>k n r) Q->T (λn=>ab p (i:Int) (k n)) Q:=λh=>.ab (by omega) (by omega) λr' o=>by
   have o:p[i]?=some r':=by simpa using o
   rw[hr]at o;obtain rfl:=Option.some.inj o;exact h
  have up:∀{k:Nat}{x:Rows},k<i->nh p k x->∃ks,x=ba ks/\ks.length<=16/\(∀c,c∈ks->c<i/\∀q,p[c]?=some q->gI q 0=1)/\Cl p ks/\∀q,p[k]?=some q->gI q 0=1->k∈ks:=by rintro k _ hk⟨ks,rfl,h1,h2,h3,h4⟩;refine⟨ks,rfl,?_,λc hc=>⟨by have:=(h2 c hc).1;omega,(h2 c hc).2⟩,h3,λq hq e=>List.mem_of_getLast? (h4 q hq e)⟩;have:=tt (k+1) ks h1 λc hc=>(h2 c hc).1;omega
  let D:Nat->Rows->Prop:=λj s=>s.length<=(j+1)*1000/\∃ks,s=ba ks/\(∀c,c∈ks->c<i/\∀q,p[c]?=some q->gI q 0=1)/\Cl p ks/\∀x,x∈(gD r 2).take j->∃m:Nat,m∈ks/\bc p (gS x 0)=m
  have step:∀{J:Nat->Rows->Option Rows}{j:Nat}{s:Rows},j<(gD r 2).length->D j s->(∀s',D (j+1) s'->T (λn=>J n s') (nh p i))->
   T (λn=>ab (gD r 2) (j:Int) λr1=>(ask (oK n p (gS r1 0)) λx2=>(ask (jh n p x2) λZ=>(fits (s.length+Z.length) 8 (J n (s++Z)))))) (nh p i):=by
   rintro J j _ hj⟨hs,ks,rfl,h1,h2,h3⟩hJ
   refine .ab (by omega) (by omega) λq hq=>?_
   have hq:(gD r 2)[j]?=some q:=by simpa using hq
   obtain⟨g1,g2,g3⟩:=hP.ex q (List.mem_of_getElem? hq)
   obtain⟨k,hk⟩:∃k:Nat,bc p (gS q 0)=k:=⟨(bc p (gS q 0)).toNat,by omega⟩
   refine .cR (Bc p _ I) ?_
   rw[hk]
   have S:k<i:=by omega
   refine .ask (E3 b k (by omega) (by omega)) λx hx=>?_
   obtain⟨N,rfl,u0,M,K,u3⟩:=up S hx
   have z:(ba ks).length<=(j+1)*1000:=hs
   refine .fits (by simp at*;omega) (hJ _ ⟨by simp at*;omega,ks++N,by simp,λc hc=>(List.mem_append.1 hc).elim (h1 c) (M c),h2.app K,λx hx=>?_⟩)
   rw[taken hq]at hx
   rcases List.mem_append.1 hx with hx|hx
   .obtain⟨m,a1,a2⟩:=h3 x hx;exact⟨m,List.mem_append_left _ a1,a2⟩
   .have:x=q:=by simpa using hx
    subst this
    have hkp:k<p.length:=by omega
    exact⟨k,List.mem_append_right _ (u3 p[k] (by simp) (g3 _ (by rw[hk];simp))),hk⟩
  have dd:∀{R:Nat->Rows->Option Rows},(∀cs:List Nat,(∀k,k∈cs->k<i+1)->cs.length<=1099511627776->Cl p cs->T (λn=>R n (ba cs)) (DI p cs cs.length))->∀s,D (gD r 2).length s->
   T (λn=>aa ((gI r 0)==1) (fits (s.length+([[.sc (.int .i64 (i:Int))]]:List (List AV)).length) 8 (R n (s++[[.sc (.int .i64 (i:Int))]]))) (R n s)) (nh p i):=by
   rintro R hR _⟨hs,ks,rfl,h1,h2,h3⟩
   have z:(ba ks).length<=((gD r 2).length+1)*1000:=hs
   have Iw:ks.length<=16777217000:=by simp at z;exact Nat.le_trans z (by omega)
   rw[List.take_length]at h3
   refine .ite (λc=>.fits (by simp;omega) ?_) (λc=>?_)
   .have c:gI r 0=1:=by simpa using c
    have X:Cl p (ks++[i]):=h2.snoc λq hq x hx=>by rw[hr]at hq;obtain rfl:=Option.some.inj hq;exact h3 x hx
    have e:ba ks++[[.sc (.int .i64 (i:Int))]]=ba (ks++[i]):=by simp
    rw[e]
    refine(hR (ks++[i]) (λk hk=>?_) (by simp;omega) X).mono ?_
    .rcases List.mem_append.1 hk with hk|hk
     .have:=(h1 k hk).1;omega
     .have:k=i:=by simpa using hk
      omega
    .rintro _⟨ls,rfl,d1,Y,E,d4⟩
     rw[List.take_length]at E
     refine⟨ls,rfl,d1,λk hk=>?_,Y,λq _ _=>d4 i (by simp) (by simp) λhm=>?_⟩
     .rcases List.mem_append.1 ((E k).1 hk)with hk|hk
      .exact⟨by have:=(h1 k hk).1;omega,(h1 k hk).2⟩
      .have:k=i:=by simpa using hk
       subst this;exact⟨by omega,λq hq=>by rw[hr]at hq;obtain rfl:=Option.some.inj hq;exact c⟩
     .have hm:i∈ks:=by simpa using hm
      have:=(h1 i hm).1;omega
   .have c:gI r 0≠1:=by simpa using c
    refine(hR ks (λk hk=>by have:=(h1 k hk).1;omega) (by omega) h2).mono ?_;rintro _⟨ls,rfl,d1,Y,E,d4⟩;rw[List.take_length]at E;exact⟨ls,rfl,d1,λk hk=>⟨by have:=(h1 k ((E k).1 hk)).1;omega,(h1 k ((E k).1 hk)).2⟩,Y,λq hq e=>by rw[hr]at hq;obtain rfl:=Option.some.inj hq;exact absurd e c⟩
  have r0:∀cs:List Nat,(∀k,k∈cs->k<i+1)->cs.length<=1099511627776->Cl p cs->T (λn=>qk n (ba cs)) (DI p cs cs.length):=λcs h1 h2 h3=>.step (λn=>M0 n _) (UB (b:=i+1) (by omega) h1 h2 h3 (V0:=λn i s=>Fi n ((ba cs).length:Int) i s (ba cs)) (V':=λn i s=>oc n ((ba cs).length:Int) i s (ba cs)) (V:=λn i s=>uc n ((ba cs).length:Int) i s (ba cs)) (λn i s=>OC n _ _ _ _) (λn i s=>DJ n _ _ _ _) (λn i s=>D4 n _ _ _ _))
  have r1:∀cs:List Nat,(∀k,k∈cs->k<i+1)->cs.length<=1099511627776->Cl p cs->T (λn=>pU n (ba cs)) (DI p cs cs.length):=λcs h1 h2 h3=>.step (λn=>KM n _) (UB (b:=i+1) (by omega) h1 h2 h3 (V0:=λn i s=>D1 n ((ba cs).length:Int) i s (ba cs)) (V':=λn i s=>nJ n ((ba cs).length:Int) i s (ba cs)) (V:=λn i s=>uh n ((ba cs).length:Int) i s (ba cs)) (λn i s=>LW n _ _ _ _) (λn i s=>DK n _ _ _ _) (λn i s=>Dg n _ _ _ _))
  have l0:∀s,D 0 s->T (λn=>mM n (i:Int) (gD r 2) ((gD r 2).length:Int) 0 p (eD r 0) s) (nh p i):=by
   intro s hs
   refine T.loop (σ:=Rows) (L:=λj s n=>mM n (i:Int) (gD r 2) ((gD r 2).length:Int) j p (eD r 0) s) (gD r 2).length D ?_ ?_ s hs
   .exactλs hs=>.step (λn=>Ap n _ _ _ _ _ _ _) (.neg (by simp) (dd r0 s hs))
   .intro j s hj hs O;refine .step (λn=>Ap n _ _ _ _ _ _ _) (.pos (by simp;omega) ?_);rw[aE (i:=(j:Int)+1) (by omega) (by omega)];exact step (J:=λn s'=>mM n (i:Int) (gD r 2) ((gD r 2).length:Int) ((j:Int)+1) p (eD r 0) s') hj hs O
  have l1:∀s,D 0 s->T (λn=>mq n (i:Int) (gD r 2) ((gD r 2).length:Int) 0 p (eD r 0) s) (nh p i):=by
   intro s hs
   refine T.loop (σ:=Rows) (L:=λj s n=>mq n (i:Int) (gD r 2) ((gD r 2).length:Int) j p (eD r 0) s) (gD r 2).length D ?_ ?_ s hs
   .exactλs hs=>.step (λn=>y8 n _ _ _ _ _ _ _) (.neg (by simp) (dd r1 s hs))
   .intro j s hj hs O;refine .step (λn=>y8 n _ _ _ _ _ _ _) (.pos (by simp;omega) ?_);rw[aE (i:=(j:Int)+1) (by omega) (by omega)];exact step (J:=λn s'=>mq n (i:Int) (gD r 2) ((gD r 2).length:Int) ((j:Int)+1) p (eD r 0) s') hj hs O
  have e0:T (λn=>ub n (i:Int) p (eD r 0) []) (nh p i):=.step (λn=>LS n _ _ _ _) (l1 [] ⟨by simp,[],rfl,λ_ h=>(by cases h),λ_ _ _ h=>(by simp at h),λ_ h=>(by simp at h)⟩)
  refine .step (λn=>SI n _ _) (gi (.ite (λ_=>.cR (iY p i _ I hr) (.ite (λc=>?_) (λ_=>e0))) (λ_=>e0)))
  have c:=cO c
  have F:ay (gS r 3) (bs [])=false:=by cases e:ay (gS r 3) (bs [])with|false=>rfl|true=>rw[bR,if_pos e]at c;omega
  have hrf:=hP.rf F
  have wb:bR p r=bc p (gS r 3):=by rw[bR,if_neg (by rw[F];simp)]
  obtain⟨k,hk⟩:∃k:Nat,bR p r=k:=⟨(bR p r).toNat,by omega⟩;rw[hk];refine .ask (E3 b k (by omega) (by omega)) λx hx=>.step (λn=>OQ n _ _ _ _) (l0 x ?_);obtain⟨ks,rfl,u0,M,K,u3⟩:=up (by omega) hx;exact⟨by simp;omega,ks,rfl,M,K,λ_ h=>(by simp at h)⟩
theorem RU:∀(b i:Nat),i<b->i<p.length->T (λn=>qZ n p (i:Int)) (IK p i)
 |0,i,hi,_=>absurd hi (by omega)
 |b+1,i,hi,I=>by
  have hr:p[i]?=some p[i]:=by simp[I]
  have J:=iF hb
  have hP:=hp i _ hr
  generalize p[i]=r at*
  refine .step (λn=>Hq n _ _) (.cR (iY p i _ J hr) (.ite (λc=>?_) (λc=>.ret ⟨[i],rfl,by simp,by simp,rfl,?_⟩)))
  .have c:=cO c
   have D:ay (gS r 3) (bs [])=false:=by cases e:ay (gS r 3) (bs [])with|false=>rfl|true=>rw[bR,if_pos e]at c;omega
   have E:=hP.rf D
   have F:bR p r=bc p (gS r 3):=by rw[bR,if_neg (by rw[D];simp)]
   obtain⟨k,hk⟩:∃k:Nat,bR p r=k:=⟨(bR p r).toNat,by omega⟩
   rw[hk]
   refine .ask (RU b k (by omega) (by omega)) ?_
   rintro _⟨ks,rfl,h1,h2,h3,h4⟩
   refine .fits (by simp;omega) (.ret ⟨ks++[i],by simp,by simp;omega,λc hc=>?_,by simp,λj c q hc hq=>?_⟩)
   .rcases List.mem_append.1 hc with hc|hc
    .have:=h2 c hc;omega
    .have:c=i:=by simpa using hc
     omega
   .rcases Nat.lt_or_ge j ks.length with hj|hj
    .rw[List.getElem?_append_left hj]at hc;refine⟨(h4 j c q hc hq).1,λk' K h0 o z=>(h4 j c q hc hq).2 k' K h0 ?_ z⟩;rwa[List.getElem?_append_left (by omega)]at o
    .have e:j=ks.length:=by have:=(List.getElem?_eq_some_iff.1 hc).1;simp at this;omega
     subst e
     have e:i=c:=by simpa using hc
     subst e
     rw[hr]at hq;obtain rfl:=Option.some.inj hq
     have L:0<ks.length:=by
      rcases Nat.eq_zero_or_pos ks.length with e|e
      .rw[List.length_eq_zero_iff.1 e]at h3;cases h3
      .exact e
     refine⟨λe=>by omega,λk' K _ o z=>?_⟩;rw[List.getElem?_append_left (by omega)]at o;rw[List.getLast?_eq_getElem?]at h3;rw[h3]at o;obtain rfl:=Option.some.inj o;exact(PB (by omega) z).symm
  .have c:=eU c
   have he:gS r 3=bs []:=by
    cases e:ay (gS r 3) (bs [])with
    |true=>exact gh.1 e
    |false=>
     have E:=hP.rf e
     have F:bR p r=bc p (gS r 3):=by rw[bR,if_neg (by rw[e];simp)]
     omega
   intro j k q hk hq
   cases j with
   |succ j=>simp at hk
   |zero=>have e:i=k:=by simpa using hk
          subst e;rw[hr]at hq;obtain rfl:=Option.some.inj hq;exact⟨λ_=>he,λ_ _ h=>absurd rfl h⟩
end
end Go.AI
end

section
namespace Go.AI
open Go
open BD(cA)
abbrev fH(p:Rows)(ks:List Nat):Rows:=ks.map λk=>[.sc (.string (gS ((p[k]?).getD []) 1))]
theorem N9(p:Rows)(ks:List Nat)(s:ByteArray):((fH p ks).any λr=>ay (gS r 0) s)=ks.any λk=>ay (gS ((p[k]?).getD []) 1) s:=by rw[List.any_map];rfl
section
variable {p:Rows}(hb:cA 16777216 p){f:mX}(hf:Ev (λn=>F9 n p) f)(h0:f.1=0)(hn:p.length<=16)(hp:∀(i:Nat)r,p[i]?=some r->Ps p i r)
include hb hp
theorem Yw{a c:Nat}{q o:List AV}(ha:p[a]?=some q)(hc:p[c]?=some o)(e:gS q 1=gS o 1):a=c:=by
 have key:∀{a c:Nat}{q o:List AV},p[a]?=some q->p[c]?=some o->gS q 1=gS o 1->¬a<c:=by intro a c q o ha hc e hlt;have h:=(hp c o hc).nm;have:bc (p.take c) (gS o 1)>=0:=rD.2 (List.any_eq_true.2 ⟨q,by rw[List.mem_iff_getElem?];exact⟨a,by rw[List.getElem?_take];simp[hlt,ha]⟩,gh.2 e⟩);omega
 have h1:=key ha hc e;have h2:=key hc ha e.symm;omega
omit hb hp in
theorem acC(hb:cA 16777216 p){ks:List Nat}(hl:ks.length<=1000):bd (fH p ks):=⟨by simp;omega,lL λx hx=>by obtain⟨k,_,rfl⟩:=List.mem_map.1 hx;refine bm (dv (ak (N:=1099511627776) ?_ 1)) ed;cases e:p[k]? with|none=>exact ed|some q=>exact an (iF hb) e⟩
include hf h0 hn
theorem acD{i:Nat}(hi:i<p.length):T (λn=>Ip n p (i:Int)) (nh p i):=by refine .step2 (λn=>ahD n _ _) (.cR (x:=0) ?_ (.neg (by decide) (.ask (T.sh (F:=λn=>jh n p (i:Int)) (E3 hb hn hp (i+1) i (by omega) hi)) λx hx=>.pos (tX ⟨rfl,rfl⟩) (.ret hx))));have h:Ev (λn=>l4 n p (i:Int) false) 0:=.step (λn=>Hp n _ _ _) (.ask (Be hf) (.neg (by rw[h0];rfl) (.neg (iQ (by omega)) (.neg (iQ (by omega)) (.neg rfl (.ret _))))));exact let⟨m,h⟩:=h;⟨m,λn hn=>h (n+1) (by omega)⟩
theorem ag2{i:Nat}{r:List AV}(hr:p[i]?=some r):T (λn=>wG n p (i:Int)) λl=>(gI r 0=2->IK p i l)/\(gI r 0≠2->l=[]):=by
 have hi:=(List.getElem?_eq_some_iff.1 hr).1
 refine .step2 (λn=>ah2 n _ _) ?_
 by_cases hk:gI r 0=2
 .refine .cR (x:=0) ?_ (.neg (by decide) (.ask (T.sh (F:=λn=>qZ n p (i:Int)) (RU hb hn hp (i+1) i (by omega) hi)) λx hx=>.pos (tX ⟨rfl,rfl⟩) (.ret ⟨λ_=>hx,λh=>absurd hk h⟩)));exact let⟨m,h⟩:=Qs hb hf h0 hr hk;⟨m,λn hn=>h (n+1) (by omega)⟩
 .refine .cR (x:=31) ?_ (.pos (by decide) (.ret ⟨λh=>absurd h hk,λ_=>rfl⟩));have h:Ev (λn=>l4 n p (i:Int) true) 31:=.step (λn=>Hp n _ _ _) (.ask (Be hf) (.neg (by rw[h0];rfl) (.neg (iQ (by omega)) (.neg (iQ (by omega)) (.pos rfl (.ab rfl hr (.pos (by simpa using hk) (.ret _))))))));exact let⟨m,h⟩:=h;⟨m,λn hn=>h (n+1) (by omega)⟩
end
theorem rj{p:Rows}{j:Nat}{r:List AV}{k:Nat->List AV->Option Bool}(hr:p[j]?=some r)(h:T (λn=>k n r) (λb=>b=true)):T (λn=>ab p (j:Int) (k n)) λb=>b=true:=.ab (by omega) (by have:=(List.getElem?_eq_some_iff.1 hr).1;omega) λr' c=>by
 have c:p[j]?=some r':=by simpa using c
 rw[hr]at c;obtain rfl:=Option.some.inj c;exact h
theorem RW{i:Nat}{ls:List Nat}(hl:ls.length<=1000)(hg:ls.getLast?=some i):T (λn=>aa (decide (((ba ls).length:Int)>0)) (ab (ba ls) (IntKind.i64.wrap (((ba ls).length:Int)-1)) λr6=>(aa ((gI r6 0)==(i:Int)) (aa true (some true) none) (some false))) (some false)) λb=>b=true:=by
 have c:0<ls.length:=by
  rcases Nat.eq_zero_or_pos ls.length with e|e
  .rw[List.length_eq_zero_iff.1 e]at hg;cases hg
  .exact e
 have e:(((ba ls).length:Nat):Int)=(ls.length:Int):=by simp
 rw[e,aE (i:=(ls.length:Int)-1) (by omega) (by omega)]
 refine .pos (by simp;omega) (.ab (by omega) (by simp;omega) λr hr=>?_)
 obtain⟨k,hk,rfl⟩:=ur hr
 rw[List.getLast?_eq_getElem?]at hg
 have:((ls.length:Int)-1).toNat=ls.length-1:=by omega
 rw[this,hg]at hk;obtain rfl:=Option.some.inj hk;exact .pos (by simp[gI]) (.pos rfl (.ret rfl))
theorem acE{p:Rows}{i:Nat}(hi:i<p.length)(hn:p.length<=16):∀l,IK p i l->T (λn=>qQ n (i:Int) l l (l.length:Int) 0 p) λb=>b=true:=by
 rintro _⟨ls,rfl,h1,h2,h3,h4⟩
 refine T.loop (σ:=Unit) (L:=λj _ n=>qQ n (i:Int) (ba ls) (ba ls) ((ba ls).length:Int) j p) (ba ls).length (λ_ _=>True) ?_ ?_ () trivial
 .exactλ_ _=>.step (λn=>P2 n _ _ _ _ _ _) (.neg (by simp) (RW (by omega) h3))
 .intro j _ hj _ I
  have K:j<ls.length:=by simpa using hj
  have z:∀(k:Nat)(s:ByteArray),ls[j]?=some k->(∀q,p[k]?=some q->gS q 3=s)->T (λn=>A9 n (i:Int) (ba ls) (k:Int) s (ba ls) ((ba ls).length:Int) (j:Int) p) λb=>b=true:=by
   intro k s hk hs
   have E:=h2 k (List.mem_of_getElem? hk)
   refine .step (λn=>abJ n _ _ _ _ _ _ _ _) (rj (r:=p[k]'(by omega)) (by simp) (.neg ?_ ?_))
   .rw[hs _ (by simp),show ay s s=true from gh.2 rfl];rfl
   .rw[aE (i:=(j:Int)+1) (by omega) (by omega)];exact I () trivial
  refine .step (λn=>P2 n _ _ _ _ _ _) (.pos (by simp;omega) (.ab (by omega) (by omega) λr hr=>?_))
  obtain⟨k,hk,rfl⟩:=ur hr
  have hk:ls[j]?=some k:=by simpa using hk
  have E:=h2 k (List.mem_of_getElem? hk)
  have J:p[k]?=some (p[k]'(by omega)):=by simp
  refine .neg (iQ (show¬(k:Int)<0 by omega)) (.neg (iQ (show¬(k:Int)>i by omega)) (.ite (λc=>?_) (λc=>?_)))
  .have c:=cO c
   rw[aE (i:=(j:Int)-1) (by omega) (by omega)]
   refine .ab (by omega) (by omega) λr' D=>?_
   obtain⟨k',o,rfl⟩:=ur D
   have e:((j:Int)-1).toNat=j-1:=by omega
   rw[e]at o;have F:=h2 k' (List.mem_of_getElem? o);refine rj (j:=k') (r:=p[k']'(by omega)) (by simp) (z k _ hk λq hq=>(h4 j k q hk hq).2 k' _ (by omega) o (by simp))
  .have c:=eU c;exact z k _ hk λq hq=>(h4 j k q hk hq).1 (by omega)
theorem Xc(p:Rows)(i:Int)(hb:cA 16777216 p):Ev (λn=>F4 n p i) true:=by
 have N:=iF hb
 have yes:∀{G:Nat->Option Bool},T (λn=>aa true (some true) (G n)) λb=>b=true:=.pos rfl (.ret rfl)
 refine T.ev (.step (λn=>eF4 n _ _) (.ask (Uc p N) λ_ _=>.ite (λ_=>yes) (λ_=>.mV (S4 hb) λf hf hp=>.ite (λ_=>yes) (λc=>.ite (λ_=>yes) (λS=>.ite (λ_=>yes) (λR=>?_))))))
 have h0:f.1=0:=ib c
 obtain⟨hn,hp⟩:=hp h0
 have S:=eU S
 have R:=eU R
 obtain⟨i,rfl⟩:∃k:Nat,i=k:=⟨i.toNat,by omega⟩
 have hi:i<p.length:=by omega
 refine .ask (acD hb hf h0 hn hp hi) ?_
 rintro _⟨ks,rfl,Q,g2,g3,Z⟩
 have V:ks.length<=16:=by have:=tt (i+1) ks Q λk hk=>(g2 k hk).1;omega
 have fin:T (λn=>(ask (wG n p (i:Int)) λz=>(ab p (i:Int) λr5=>(aa ((gI r5 0)!=2) (aa (((z.length:Int):Int)==0) (aa (decide ((((ba ks).length:Int):Int)>0)) (ab (ba ks) (IntKind.i64.wrap (((ba ks).length:Int)-1)) λr6=>(aa ((gI r6 0)==(i:Int)) (aa true (some true) none) (some false))) (some false)) (some false)) (qQ n (i:Int) z z (z.length:Int) 0 p))))) λb=>b=true:=by
  have hr:p[i]?=some p[i]:=by simp[hi]
  refine .ask (ag2 hb hf h0 hn hp hr) λx hx=>rj hr (.ite (λc=>?_) (λc=>?_))
  .have c:gI p[i] 0≠2:=by simpa using c
   rw[hx.2 c];exact .pos rfl (RW (by omega) (Z _ hr ((hp i _ hr).kd.resolve_right c)))
  .have c:gI p[i] 0=2:=by simpa using c
   exact acE hi hn x (hx.1 c)
 have body:∀(k:Nat),k<ks.length->(T (λn=>og n (i:Int) (ba ks) (ba ks) ((ba ks).length:Int) ((k:Int)+1) p (fH p (ks.take (k+1)))) λb=>b=true)->∀(c:Nat)q,ks[k]?=some c->p[c]?=some q->
  (T (λn=>BZ n (i:Int) (ba ks) (c:Int) (ba ks) ((ba ks).length:Int) (k:Int) (gD q 2) ((gD q 2).length:Int) 0 p (fH p (ks.take k))) λb=>b=true)/\
  (T (λn=>lH n (i:Int) (ba ks) (c:Int) (ba ks) ((ba ks).length:Int) (k:Int) (gD q 2) ((gD q 2).length:Int) 0 p (fH p (ks.take k))) λb=>b=true):=by
  intro k hk O c q hc hq
  have X:(gD q 2).length<=16777216:=(ai (an hb hq) 2).1
  have I:bd (fH p (ks.take k)):=acC hb (by simp;omega)
  have tail:T (λn=>(ab p (c:Int) λr3=>(ask (ll n (fH p (ks.take k)) (gS r3 1)) λz=>(aa z (some false) (ab p (c:Int) λr5=>(fits ((fH p (ks.take k)).length+([[.sc (.string (gS r5 1))]]:List (List AV)).length) 16 (og n (i:Int) (ba ks) (ba ks) ((ba ks).length:Int) (IntKind.i64.wrap ((k:Int)+1)) p ((fH p (ks.take k))++[[.sc (.string (gS r5 1))]])))))))) λb=>b=true:=by
   refine rj hq (.cR (Ft _ _ I) ?_)
   rw[N9]
   refine .neg ?_ (rj hq (.fits (by simp;omega) ?_))
   .rw[List.any_eq_false]
    intro m hm e
    have e:=gh.1 e
    obtain⟨j,hj,F⟩:=List.mem_iff_getElem.1 hm
    have Y:j<k:=by simp at hj;omega
    have E:ks[j]?=some m:=by rw[List.getElem_take]at F;rw[<-F];simp
    have M:=(g2 m (List.mem_of_getElem? E)).1
    have o:p[m]?=some (p[m]'(by omega)):=by simp
    rw[o]at e;obtain rfl:=Yw hb hp o hq e;have e1:=(List.getElem?_eq_some_iff.1 E).2;have e2:=(List.getElem?_eq_some_iff.1 hc).2;have:=(List.getElem_inj (h₀:=by omega) (h₁:=hk) Q).1 (e1.trans e2.symm);omega
   .rw[aE (i:=(k:Int)+1) (by omega) (by omega)]
    have e:fH p (ks.take k)++[[.sc (.string (gS q 1))]]=fH p (ks.take (k+1)):=by rw[taken hc];simp[hq]
    rw[e];exact O
  have one:∀(j:Nat),j<(gD q 2).length->(T (λn=>lH n (i:Int) (ba ks) (c:Int) (ba ks) ((ba ks).length:Int) (k:Int) (gD q 2) ((gD q 2).length:Int) ((j:Int)+1) p (fH p (ks.take k))) λb=>b=true)->
   T (λn=>ab (gD q 2) (j:Int) λr1=>(ask (ll n (fH p (ks.take k)) (gS r1 0)) λU=>(aa (!U) (some false) (lH n (i:Int) (ba ks) (c:Int) (ba ks) ((ba ks).length:Int) (k:Int) (gD q 2) ((gD q 2).length:Int) (IntKind.i64.wrap ((j:Int)+1)) p (fH p (ks.take k)))))) λb=>b=true:=by
   intro j hj h
   refine .ab (by omega) (by omega) λx hx=>.cR (Ft _ _ I) ?_
   have hx:(gD q 2)[j]?=some x:=by simpa using hx
   obtain⟨m,hm,e⟩:=g3 k c q hc hq x (List.mem_of_getElem? hx)
   rw[N9]
   have M:=(g2 m (List.mem_of_mem_take hm)).1
   have o:p[m]?=some (p[m]'(by omega)):=by simp
   have:(ks.take k).any (λk=>ay (gS ((p[k]?).getD []) 1) (gS x 0))=true:=List.any_eq_true.2 ⟨m,hm,by rw[o];exact gh.2 (PB e o)⟩;rw[this];refine .neg rfl ?_;rw[aE (i:=(j:Int)+1) (by omega) (by omega)];exact h
  have loop:∀j:Nat,j<=(gD q 2).length->T (λn=>lH n (i:Int) (ba ks) (c:Int) (ba ks) ((ba ks).length:Int) (k:Int) (gD q 2) ((gD q 2).length:Int) (j:Int) p (fH p (ks.take k))) λb=>b=true:=by
   intro j hj
   refine T.lO (σ:=Unit) (L:=λj _ n=>lH n (i:Int) (ba ks) (c:Int) (ba ks) ((ba ks).length:Int) (k:Int) (gD q 2) ((gD q 2).length:Int) j p (fH p (ks.take k))) (gD q 2).length (λ_ _=>True) ?_ ?_ j hj () trivial
   .exactλ_ _=>.step (λn=>MX n _ _ _ _ _ _ _ _ _ _ _) (.neg (by simp) tail)
   .exactλj _ hj _ K=>.step (λn=>MX n _ _ _ _ _ _ _ _ _ _ _) (.pos (by simp;omega) (one j hj (K () trivial)))
  refine⟨.step (λn=>aeD n _ _ _ _ _ _ _ _ _ _ _) (.ite (λc=>?_) (λ_=>tail)),loop 0 (Nat.zero_le _)⟩;have c:=cO c;exact one 0 (by omega) (loop 1 (by omega))
 have pre:∀(k:Nat),k<ks.length->(T (λn=>og n (i:Int) (ba ks) (ba ks) ((ba ks).length:Int) ((k:Int)+1) p (fH p (ks.take (k+1)))) λb=>b=true)->∀{J:Nat->Int->Rows->Option Bool},(∀(c:Nat)q,ks[k]?=some c->p[c]?=some q->T (λn=>J n (c:Int) (gD q 2)) λb=>b=true)->
  T (λn=>(ab (ba ks) (k:Int) λr1=>(aa (decide ((gI r1 0)<0)) (some false) (aa (decide ((gI r1 0)>(i:Int))) (some false) (ab p (gI r1 0) λr2=>(aa ((gI r2 0)!=1) (some false) (ab p (gI r1 0) λr3=>(J n (gI r1 0) (gD r3 2))))))))) λb=>b=true:=by
  intro k hk O J hJ
  refine .ab (by omega) (by simp;omega) λr hr=>?_
  obtain⟨c,hc,rfl⟩:=ur hr
  have hc:ks[k]?=some c:=by simpa using hc
  obtain⟨h1,h2⟩:=g2 c (List.mem_of_getElem? hc)
  have hq:p[c]?=some (p[c]'(by omega)):=by simp
  exact .neg (iQ (show¬(c:Int)<0 by omega)) (.neg (iQ (show¬(c:Int)>i by omega)) (rj (j:=c) hq (.neg (by rw[h2 _ hq];rfl) (rj (j:=c) hq (hJ c _ hc hq)))))
 have loop:∀k:Nat,k<=(ba ks).length->T (λn=>og n (i:Int) (ba ks) (ba ks) ((ba ks).length:Int) (k:Int) p (fH p (ks.take k))) λb=>b=true:=by
  intro k hk
  refine T.lO (σ:=Rows) (L:=λk nm n=>og n (i:Int) (ba ks) (ba ks) ((ba ks).length:Int) k p nm) (ba ks).length (λk nm=>nm=fH p (ks.take k)) ?_ ?_ k hk _ rfl
  .rintro _ rfl;exact .step (λn=>M8 n _ _ _ _ _ _ _) (.neg (by simp) fin)
  .rintro k _ hk rfl K
   have D:k<ks.length:=by simpa using hk
   exact .step (λn=>M8 n _ _ _ _ _ _ _) (.pos (by simp;omega) (pre k D (K _ rfl) (J:=λn a e=>lH n (i:Int) (ba ks) a (ba ks) ((ba ks).length:Int) (k:Int) e (e.length:Int) 0 p (fH p (ks.take k))) λc q hc hq=>(body k D (K _ rfl) c q hc hq).2))
 refine .step (λn=>aeb n _ _ _ _ _ _ _) (.ite (λc=>?_) (λ_=>fin))
 have c:=cO c
 have hk:0<ks.length:=by simp at c;omega
 have h1:=loop 1 (by simp;omega);exact pre 0 hk h1 (J:=λn a e=>BZ n (i:Int) (ba ks) a (ba ks) ((ba ks).length:Int) 0 e (e.length:Int) 0 p (fH p (ks.take 0))) λc q hc hq=>(body 0 hk h1 c q hc hq).1
end Go.AI
end
