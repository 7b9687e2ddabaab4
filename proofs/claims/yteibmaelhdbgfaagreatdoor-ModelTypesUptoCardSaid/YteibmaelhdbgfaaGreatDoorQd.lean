/- A part. -/
import Derived.Test.YteibmaelhdbgfaaGreatDoorQc
set_option linter.all false

namespace Go.AI
open Go
section
open BD (cA)
section
variable {p:Rows}{i:Nat}{r:List AV}{s l g:Env}(hs:Sur p i)(hr:p[i]?=some r)(hd:Hd p i r)(hp:∀(k:Nat)q,k<i->p[k]?=some q->Ps p k q)(hbs:bd s)(hbl:bd l)(hbg:bd g)
include hs hr hd hp
theorem JP{x:ByteArray×Rows×Int×Rows×Rows×Rows×Rows×Bool}(hx:sS p i r x)(h:x.2.2.2.2.2.2.2=true):∃(k:Nat)(q:List AV),bR p r=k/\k<i/\p[k]?=some q/\(bj (gD q 7)).Nodup/\x.2.2.2.1.length<=16777216/\(bj x.2.2.2.1).Nodup/\(∀y,y∈x.2.2.2.1->ji (gS y 0))/\∃v,PT ((ai6 p k).1,(ai6 p k).2++gD q 7) x.2.2.2.1 v:=by
 obtain⟨k,q,h1,h2,h3,h4,h5⟩:=hx.2 h
 have hq:=hp k q h2 h3
 refine⟨k,q,h1,h2,h3,hq.vd h4,?_⟩
 rcases h5 with h5|⟨e,he,h5⟩
 .rw[h5];exact⟨by simp,by simp,by simp,_,.nil⟩
 .rw[h5];have:=hq.pt h4 e he;obtain⟨v,hv,_⟩:=this.2.2;exact⟨by have:=(hq.ev e he).1;omega,this.1,this.2.1,v,hv⟩
include hbs
theorem agC:T (λn=>Ia n (aH p i r s l g)) (AQ i λx=>x=aH p i r s l g):=by
 have k:=dG hs.bp (List.mem_of_getElem? hr)
 have z:=ai k 12
 have hv:=sE hs hr
 refine .step (λn=>ahH n) (.ask (Qc (gD r 11) (gD r 12) (ai k 11) z) λ_ _=>.bw (by omega) λ_=>.ask (Q':=λx=>sS p i r x/\(x.2.2.2.2.2.2.2=true->x.2.2.2.1=[])) ?_ λx hx=>?_)
 .have hlt:=lI hs.hh (by omega) hr
  have hi:=hs.hi
  refine .step (λn=>PU n) (.cR (iY p i r hs.bp hr) (.ite (λ_=>.ret ⟨⟨⟨dz,cK,trivial,cK,cK,cK,cK,trivial⟩,λe=>by cases e⟩,λe=>by cases e⟩) λc=>?_))
  have c:=eU c
  obtain⟨m,hm⟩:∃m:Nat,bR p r=m:=⟨(bR p r).toNat,by omega⟩
  have e:ay (gS r 3) (bs [])=false:=by cases e:ay (gS r 3) (bs [])with|false=>rfl|true=>unfold bR at c;rw[if_pos e]at c;omega
  have hf:bc p (gS r 3)=m:=by rw[<-hm];unfold bR;rw[if_neg (by rw[e];simp)]
  rw[hm]
  refine .ab (by omega) (by show(m:Int)<(p.length:Int);omega) λq hq=>.pos (gh.2 rfl) ?_
  have hq:p[m]?=some q:=by simpa using hq
  have A:=an hs.bp hq;exact .ret ⟨⟨⟨dz,cK,trivial,cK,cK,ai A 11,ai A 12,trivial⟩,λ_=>⟨m,q,hm,by omega,hq,(hd.rf e).2.2 q (by rw[hf];simpa using hq),.inl rfl⟩⟩,λ_=>rfl⟩
 .have o:=hx.1.1
  refine .aw (acb hs hr hbs (w:=gD r 11) (ai k 11) (qX x) ⟨o.1,o.2.1,trivial,o.2.2.2.1,o.2.2.2.2.1,o.2.2.2.2.2.1,o.2.2.2.2.2.2.1⟩ x.2.2.2.2.2.2.2 λhb=>?_) λy hy=>?_
  .obtain⟨m,q,h1,h2,h3,h4,_⟩:=JP hs hr hd hp hx.1 hb;exact⟨m,q,h1,h2,h3,h4,hx.2 hb⟩
  .subst hy
   refine .aw (Ph hs hr (acts:=gD r 12) z (env:=s) hbs false) λE hz=>?_
   obtain⟨rfl,_⟩:=hz
   have hvl:=bq hv
   refine T.lst (σ:=Unit) (L:=λj _ n=>AR n (gD r 7) ((gD r 7).length:Int) j (aH p i r s l g) (ct r)) (by omega) (λn _ _=>OO n) (λ_ _=>True) ?_ ?_ () trivial
   .exactλ_ _=>(.ok rfl)
   .intro j _ hj _ D;intro d hd;have kd:=an hv hd;refine .ask (aac (gD r 12) _ _ _ _ z (ak kd 0) (ak kd 2) (ai kd 3)) λ_ _=>.bw (by omega) λ_=>?_;exact D () trivial
omit hbs
include hbl hbg
def B5(r:List AV)(l:Env)(e:List AV):Prop:=(bj (gD e 3)).Nodup/\(∀x,x∈gD e 3->ji (gS x 0))/\akn r l e
theorem agD{j:Nat}{e:List AV}(hj:(gD r 13)[j]?=some e):T (λn=>Ic n (j:Int) (aH p i r s l g)) (AQ i λx=>x=aH p i r s l g/\B5 r l e):=by
 have hb:=Hx hs hr
 have Z:j<(gD r 13).length:=(List.getElem?_eq_some_iff.1 hj).1
 have k:=an hb hj
 have ke:=B4 k
 have hl:=hd.ev e (List.mem_of_getElem? hj)
 have no:∀{Q:ar->Prop}{J:Nat->ar->Option (aW ar Unit)},T (λn=>Go.AI.aw (aO n false (gS e 0) 1 (aH p i r s l g)) λx=>J n x) (AQ i Q):=.bw (by omega) λc=>by cases c
 refine .step (λn=>ahX n) (.ab (by omega) (by show(j:Int)<((gD r 13).length:Int);omega) λe' A=>?_)
 have A:(gD r 13)[j]?=some e':=by simpa using A
 rw[hj]at A
 obtain rfl:=Option.some.inj A
 refine .ask (sD _ (ak k 0)) λ_ _=>.ite (λ_=>.ite (λX=>.ite (λ_=>.ite (λ_=>.ite (λ_=>.ite (λ_=>.ask (af5 (gD e 4) (ai k 4)) λ_ _=>.ite (λ_=>.ask (Qc (gD e 5) (gD e 6) (ai k 5) (ai k 6)) λ_ _=>.ite (λ_=>.ask (ach (gD e 3) (ai k 3)) λb U=>.bw (by omega) λc=>?_) (λ_=>no)) (λ_=>no)) (λ_=>no)) (λ_=>no)) (λ_=>no)) (λ_=>no)) (λ_=>no)) (λ_=>no)
 have O:=U (by simpa using c)
 refine .step (λn=>abG n) (.aw (acj hs hr hd hj) λx hx=>?_)
 obtain⟨rfl,hev,S⟩:=hx
 refine .aw (ack hs hr hd ke) λx hx=>?_
 obtain⟨rfl,D⟩:=hx
 refine .aw (acm hs hr hd (iK e) ke (by show(gD e 3).length<=_;omega) hbl) λx hx=>?_
 obtain⟨v,ts,rfl,hv,I,N,E⟩:=hx
 refine T.lst (σ:=Unit) (L:=λm _ n=>AW n (gD e 4) ((gD e 4).length:Int) m (aH p i r s l g) (iK e) v ts) (by omega) (λn _ _=>OH n) (λm _=>ajr v ((gD e 4).take m)) ?_ ?_ () (by intro q h;simp at h)
 .intro _ z
  rw[List.take_length]at z
  refine(.aw (acn hs hr hd ke D) λx hx=>?_)
  subst hx
  refine .ask (ab8 hs hr hd (gS e 0) (ak k 0) λ_ n f h1 h2 m q h3 h4 y hy=>?_) λx hx=>?_
  .obtain rfl:n=j:=by omega
   rw[hj]at h2;obtain rfl:=Option.some.inj h2;exact D.2 m q h3 h4 y hy
  .have o:=hx.1;refine .aw (XN hs hr hbg (w:=gD e 5) (ai k 5) (qX x) ⟨o.1,o.2.1,trivial,o.2.2.2.1,o.2.2.2.2.1,o.2.2.2.2.2.1,o.2.2.2.2.2.2.1⟩ x.2.2.2.2.2.2.2 (iK e) ke I N hbl (ai (dG (ai (dG hs.hb (List.mem_of_getElem? hr)) 13) (List.mem_of_getElem? hj)) 3) E λhb=>JP hs hr hd hp hx hb) λy hy=>?_;subst hy;have act:∀b,T (λn=>Go.AI.eP (sJ n (gS e 0) (gD e 6) v b (aH p i r s l g))) (AQ i λx=>x=aH p i r s l g/\B5 r l e):=λb=>.eP ((Ph hs hr (acts:=gD e 6) (ai k 6) hv b).mono λa1 hz=>by cases a1 with|aN t q u=>exact hz|ret a1=>exact⟨hz.1,S,O,v,E,z,hz.2⟩);exact .ite (λ_=>act _) (λ_=>act _)
 .intro m _ hm z Y;intro q hq;have kq:=an (ai k 4) hq;refine .mV (S2 v _ hv ⟨trivial,ak kq 2,trivial,trivial,ak kq 5,ai kq 6,ai kq 7⟩) λx vx _=>.fail λV=>?_;have V:x=0:=V;subst V;exact Y () (ajl (by simpa using hq) z vx)
end
theorem ak1{p:Rows}{i:Nat}{r:List AV}(hr:p[i]?=some r)(hd:Hd p i r)(hp:∀(k:Nat)q,k<i->p[k]?=some q->Ps p k q):(∀a,a∈dir p r->a∈ajg p i/\∃q,q∈p/\a∈gD q 7)/\(bj (dir p r)).Nodup:=by
 unfold dir ajg
 rw[ajt hr]
 split
 .rename_i c
  have e:ay (gS r 3) (bs [])=false:=by cases e:ay (gS r 3) (bs [])with|false=>rfl|true=>unfold bR at c;rw[if_pos e]at c;omega
  have hf:bR p r=bc p (gS r 3):=by unfold bR;rw[if_neg (by rw[e];simp)]
  obtain⟨h1,h2,h3⟩:=hd.rf e
  rw[<-hf]at h1 h2 h3
  have hi:=(List.getElem?_eq_some_iff.1 hr).1
  rw[if_pos ⟨c,by omega⟩]
  have hq:p[(bR p r).toNat]?=some (p[(bR p r).toNat]'(by omega)):=by simp
  generalize p[(bR p r).toNat]'(by omega)=q at hq;have hP:=hp _ q (by omega) hq;have h4:=h3 q hq;rw[ajt hq];exact⟨λa ha=>⟨(hP.vg h4).2.1 a ha,q,List.mem_of_getElem? hq,ha⟩,hP.vd h4⟩
 .exact⟨λa ha=>(by cases ha),by simp⟩
theorem agE{p:Rows}{i:Nat}{r:List AV}{s l g:Env}(hb:cA 16777216 p)(hc:∀r,r∈p->ajn r)(hn:p.length<=16)(hr:p[i]?=some r)(hp:∀(k:Nat)q,k<i->p[k]?=some q->Ps p k q):T (λn=>H3 n (aH p i r s l g)) (AQ i λ_=>Ps p i r):=by
 have z:∀(k:Nat)q,k<i->p[k]?=some q->Hd p k q:=λk q h1 h2=>(hp k q h1 h2).toHd
 refine .step (λn=>ah3 n) (.aw (agx hb hc hn hr z) λx hx=>?_)
 obtain⟨rfl,hd⟩:=hx
 have hs:=vp hb hc hn hr z hd
 have E:=ak1 hr hd hp
 refine .aw (agy hb hc hn hr z hd λ_ a ha=>(E.1 a ha).1) λx hx=>?_
 obtain⟨s,l,g,rfl,hbs,hbl,hbg,⟨e1,hvs⟩,⟨el,e2⟩,⟨eg,e3⟩,hv⟩:=hx
 have J:=ajt hr
 have es:s=ai6 p i:=by rw[akR p i (by rw[J];exact hd.kd.elim .inl λh=>.inr ⟨(hd.mc h).1,(hd.mc h).2.1⟩),J,e1]
 refine .aw (agA hs hr hbs hbg) λx hx=>?_
 obtain⟨rfl,Z,c6⟩:=hx
 have ss:ai8 (ai6 p i)/\ajr (ai6 p i) (gD r 6):=by
  rw[<-es]
  refine⟨hvs,?_⟩
  rcases hd.kd with h|h
  .exact c6 (by omega)
  .rw[(hd.mc h).2.2];intro q hq;cases hq
 have vg:gI r 0=2->ai8 ((ai6 p i).1,(ai6 p i).2++ajb p i)/\(∀d,d∈gD r 7->d∈ajb p i)/\ajr ((ai6 p i).1,(ai6 p i).2++ajc (dir p r) (gD r 7)) (gD r 8):=λh=>by
  obtain⟨v1,O,N⟩:=hv h
  have ec:ajb p i=ajc (ajg p i) (gD r 7):=by rw[akf,J]
  have Y:ai6 p i=sb p i:=by rw[<-es,e1,(hd.mc h).1,(hd.mc h).2.1,List.append_nil,List.append_nil]
  have I:=(hc r (List.mem_of_getElem? hr)).v
  refine⟨by rw[Y,ec];exact O,λd A=>?_,e3▸Z h⟩
  rw[ec]
  rcases N d A with⟨a,h1,h2,h3⟩|h3
  .obtain⟨U,q,g2,S⟩:=E.1 a h1
   have ca:=(hc q g2).v a S
   have cd:=I d A
   have X:aK a 1=aK d 1:=h3.2 ca.2 cd.2
   have V:du a 0=du d 0:=show(gS a 0,aK a 1)=(gS d 0,aK d 1)by rw[h2,X]
   rw[cd.1,<-V,<-ca.1];exact ajM U
  .exact akM v1 A h3
 refine .ite (λc=>.ok ⟨hd,λh=>(hv h).1,λe=>?_,ss,vg,λe=>?_⟩) (λc=>.aw (agB hs hr hbl) λx hx=>?_)
 .have c:gI r 0=1:=fO c;omega
 .have c:gI r 0=1:=fO c;omega
 obtain⟨rfl,c9⟩:=hx
 refine .aw (agC hs hr hd hp hbs) λx hx=>?_
 subst hx
 have o:=Hx hs hr
 refine T.loop (σ:=Unit) (L:=λj _ n=>AH n ((gD r 13).length:Int) j (aH p i r s l g)) (gD r 13).length (λj _=>∀e,e∈(gD r 13).take j->B5 r l e) ?_ ?_ () (by simp)
 .intro _ h;rw[List.take_length]at h;have hok:Ps p i r:=⟨hd,λh=>(hv h).1,λ_ e he=>e2▸h e he,ss,vg,λ_=>e2▸c9⟩;exact .step (λn=>ON n) (.neg (by simp) (.ask (aik (gD r 13) o) λ_ _=>.ow (by omega) λ_=>hok))
 .intro j _ hj h Q
  have D:(gD r 13)[j]?=some (gD r 13)[j]:=by simp[hj]
  have hl:=bq o;refine .step (λn=>ON n) (.pos (by simp;omega) (.aw (agD hs hr hd hp hbl hbg D) λx hx=>?_));obtain⟨rfl,hok⟩:=hx;rw[aE (i:=(j:Int)+1) (by omega) (by omega)];exact Q () (ajl D h hok)
theorem S4{p:Rows}(hb:cA 16777216 p)(hc:∀r,r∈p->ajn r):T (λn=>F9 n p) λf=>f.1=0->p.length<=16/\∀(i:Nat)r,p[i]?=some r->Ps p i r:=by
 refine .step (λn=>eF9 n) (.ite (λ_=>.ret λe=>by cases e) (λc=>?_))
 have c:¬(p.length:Int)>16:=eU c
 refine T.lst (σ:=Unit) (L:=λj _ n=>vF n p (p.length:Int) j (0,0,bs []) p) (by omega) (λn _ _=>PS n) (λj _=>∀(k:Nat)q,k<j->p[k]?=some q->Ps p k q) ?_ ?_ () (by intro k q h;omega)
 .intro _ h;refine(.ask (.step (λn=>aby n) (.ret (Q:=λx=>x.2=(0,0,bs [])) rfl)) λx hx=>.ret λ_=>⟨by omega,λi r hr=>h i r (List.getElem?_eq_some_iff.1 hr).1 hr⟩)
 .intro j _ hj h A
  intro r hr
  obtain⟨x,hx,hq⟩:=agE (s:=([],[])) (l:=([],[])) (g:=([],[])) hb hc (by omega) hr h
  cases x with
  |ret x=>
   obtain⟨y,hy,o⟩:T (λn=>vF n p (p.length:Int) (be ((j:Int)+1)) (0,0,bs []) p) (λf=>f.1=0->p.length<=16/\∀(i:Nat)r,p[i]?=some r->Ps p i r):=by
    refine A () λk q hk z=>?_
    rcases Nat.lt_or_ge k j with h1|h1
    .exact h k q h1 z
    .obtain rfl:k=j:=by omega
     rw[hr]at z;obtain rfl:=Option.some.inj z;exact hq
   exact⟨y,.ask hx hy,o⟩|aN t q u=>obtain⟨rfl,h0,_⟩:=hq;have hy:T (λn=>aa (Nat.beq 29 29) (Go.AI.ask (H4 n (0,0,bs []) q) λx6=>(aa x6.1 (some x6.2) none)) none) (λf=>f.1=0->p.length<=16/\∀(i:Nat)r,p[i]?=some r->Ps p i r):=.pos rfl (.ask (.step (λn=>ahm n) (.ret (Q:=λx=>x=(true,Sj q 0)) rfl)) λx hx=>by subst hx;exact .pos rfl (.ret λe=>absurd e h0));obtain⟨y,hy,o⟩:=hy;exact⟨y,.ask hx hy,o⟩
end
section
open BD (cA)
theorem alr{e:Env}{t:fl}{x:Int×ByteArray×Rows×Int}(h:bd e)(hx:Ev (λn=>iI n e t) x)(o:x.2.2.2=0):ai8 e:=by obtain⟨b,vb,hb⟩:=ajm e h;cases b with|true=>exact hb.1 rfl|false=>have:T (λn=>Ct n e t) λy=>y.2.2.2.2=1:=.agu (λn=>ahJ n) (.ask (T.EV (F:=λn=>jN n e) ⟨_,vb,rfl⟩) λy hy=>by subst hy;exact .pos rfl (.ret rfl));obtain⟨z,vz,hz⟩:T (λn=>iI n e t) λz=>z.2.2.2=1:=.step (λn=>ah8 n) (.ask this λy hy=>.neg (by rw[hy];rfl) (.ret hy));rw[hx.HU vz,hz]at o;cases o
theorem als{r:List AV}{l:Env}{e:List AV}(hbl:bd l)(he:cA 16777216 e)(I:ajz (gD r 7))(N:bd (gD r 7))(hl:∀d,d∈gD r 7->d∈l.2)(h:akn r l e):Ev (λn=>akv n l (iK e)) true:=by
 obtain⟨v,hp,hg,ha⟩:=h
 have J:∀j,bd (gD e j)/\(gD e j).length<=16777216:=λj=>by have:=ai he j;exact⟨iF this,this.1⟩
 have l3:=(J 3).2
 have V:=(J 4).2
 have l6:=(J 6).2
 let H:Env->Prop:=λe=>∀d,d∈gD r 7->ajQ e.2 (gS d 0) (aK d 1)
 refine T.ev (.step (λn=>alE n) ?_)
 refine T.lst (σ:=Env) (L:=λj w n=>aka n (gD e 3) ((gD e 3).length:Int) j w (iK e)) (by omega) (λn _ _=>alP n) (λj w=>bd w/\PT w ((gD e 3).drop j) v/\H w) ?_ ?_ l ⟨hbl,hp,λd hd=>⟨d,hl d hd,rfl,rfl⟩⟩
 .rintro w⟨z,o,hH⟩
  rw[List.drop_length]at o
  cases o
  refine T.lst (σ:=Unit) (L:=λj _ n=>akb n (gD e 4) ((gD e 4).length:Int) j v (iK e)) (by omega) (λn _ _=>alB n) (λ_ _=>True) ?_ ?_ () trivial
  .intro _ _
   refine T.lst (σ:=Unit) (L:=λj _ n=>ajU n (gD e 6) ((gD e 6).length:Int) j v) (by omega) (λn _ _=>alF n) (λ_ _=>True) ?_ ?_ () trivial
   .exactλ_ _=>(.ret rfl)
   .intro j _ hj _ D
    intro q hq
    obtain⟨t,d,hd,hn,vt,O,b1,b2⟩:=ha q (List.mem_of_getElem? hq)
    have hh:=hH d hd
    rw[hn]at hh
    refine .cR vt (.cR (aln z (alr z vt O) (ak0 N hd) (I d hd).2 hh) (.ite (λc=>?_) (λc=>?_)))
    .refine .step (λn=>MX n) (.neg (by rw[O];rfl) (.neg rfl (.cR (b1 c).1 (.neg rfl ?_))));exact D () trivial
    .refine .step (λn=>abJ n) (.neg (by rw[O];rfl) (.neg rfl (.cR (b2 c).1 (.neg rfl ?_))));exact D () trivial
  .intro j _ hj _ D;refineλq hq=>.cR (hg q (List.mem_of_getElem? hq)) (.neg rfl ?_);exact D () trivial
 .rintro j w hj⟨z,o,hH⟩D
  intro q hq
  have k:=an (J 3).1 hq
  have e1:(gD e 3).drop j=q::(gD e 3).drop (j+1):=by rw[List.drop_eq_getElem_cons hj];rw[List.getElem?_eq_getElem hj]at hq;rw[Option.some.inj hq]
  rw[e1]at o
  cases o with
  |@cons _ w' _ _ U _ x v1 x5 xk Q hs A=>
  have S:bd (cN q 1):=⟨trivial,ak k 2,trivial,trivial,ak k 5,ai k 6,ai k 7⟩
  obtain⟨y,vy,hy⟩:=Fq w _ z S
  obtain rfl:=v1.HU vy
  have h1:=hy.2 x5.1
  refine .cR v1 (.neg (by rw[x5.2];rfl) (.neg (by rw[x5.1];rfl) (.neg (by rw[h1];rfl) (.ab (by omega) (by omega) λX hz=>?_))))
  have hz:x.2.2.1[0]?=some X:=by simpa using hz
  rw[xk]at hz;obtain rfl:=Option.some.inj hz;have E:=an hy.1.2.2.1 xk;obtain⟨X,vz,hz⟩:=S3 w (gS q 0) (aK U 0) z (ak k 0) ⟨trivial,ak E 1,ai E 2⟩;obtain rfl:=Q.HU vz;refine .cR Q (.neg rfl ?_);exact D w' ⟨⟨hz.1.1,hz.1.2.1⟩,A,λd hd=>hs _ _ (I d hd).2 (hH d hd)⟩
theorem ak2{p:Rows}{d:List AV}:∀(l:List Nat)(v:Rows),d∈l.foldl (λv k=>ajc v (gD (ai5 p k) 7)) v->d∈v\/∃k,k∈l/\d∈gD (ai5 p k) 7
 |[],v,h=>.inl h
 |k::l,v,h=>by
  rcases ak2 l _ h with h|⟨c,h1,h2⟩
  .rcases ajX h with h|h
   .exact .inl h
   .exact .inr ⟨k,by simp,h⟩
  .exact .inr ⟨c,List.mem_cons_of_mem _ h1,h2⟩
section
variable {p:Rows}(hb:cA 16777216 p)(hc:∀r,r∈p->ajn r){f:mX}(hf:Ev (λn=>F9 n p) f)(h0:f.1=0)(hn:p.length<=16)(hp:∀(i:Nat)r,p[i]?=some r->Ps p i r)
include hf h0
theorem Qs{i:Nat}{r:List AV}(hr:p[i]?=some r)(b:Bool)(hk:b=true->gI r 0=2):Ev (λn=>l4 n p (i:Int) b) 0:=by have hi:=(List.getElem?_eq_some_iff.1 hr).1;have o:Ev (λn=>Cp n p) (f.1==0):=.step (λn=>ahv n) (.ask hf (.ret _));refine .step (λn=>Hp n) (.ask o (.neg (by rw[h0];rfl) (.neg (iQ (by omega)) (.neg (iQ (by omega)) (.ite (λc=>.ab rfl hr (.neg (by rw[hk c];rfl) (.ret _))) λ_=>.ret _)))))
theorem aj4{i:Nat}{r:List AV}(hr:p[i]?=some r)(b:Bool)(hk:b=true->gI r 0=2){F:Nat->Option (Rows×Rows×Int)}{G:Nat->Option Env}{E:Env}(hG:T G λe=>vX 1100 e/\e=E)(v:ai8 E)(g:ajC E)(eF:∀n,F (n+1)=ask (l4 n p (i:Int) b) λx1=>(aa ((x1:Int)!=0) (some ([],[],x1)) (ask (G n) λo=>(ask (jN n o) λz=>(aa (!z) (some ([],[],5)) (ask (ajy n o) λx4=>(some (dQ x4 0)))))))):bd E/\Ev F (dQ E 0):=by obtain⟨e,ve,he,rfl⟩:=hG;exact⟨he.1,.step eF (.ask (Qs hf h0 hr b hk) (.neg rfl (.ask ve (.ask (v.ev he.1) (.neg rfl (.ask (alm e g he.2.1 he.2.2.1).ev (.ret _)))))))⟩
include hb hc hn hp
theorem alt{i:Nat}{r:List AV}(hr:p[i]?=some r):Sur p i/\ajC (ai6 p i)/\(∀d,d∈ajb p i->cA 16777216 d/\d=fA (du d 0)/\ajf (gD d 3))/\∀q,q∈p->∀d,d∈gD q 7->cA 16777216 d/\d=fA (du d 0)/\ajf (gD d 3):=by
 have hs:=vp hb hc hn hr (λk q _ hq=>(hp k q hq).toHd) (hp i r hr).toHd
 have hi:=hs.hi
 have cm:∀k,k<i+1->ai5 p k∈p:=λk hk=>by
  have:p[k]?=some (p[k]'(by omega)):=by simp
  rw[ajt this];exact List.mem_of_getElem? this
 have o:∀q,q∈p->∀d,d∈gD q 7->cA 16777216 d/\d=fA (du d 0)/\ajf (gD d 3):=λq hq d hd=>⟨dG (ai (dG hb hq) 7) hd,(hc q hq).v d hd⟩
 refine⟨hs,⟨λx hx=>?_,λx hx=>?_⟩,λd hd=>?_,o⟩
 .obtain⟨k,hk,hx⟩:=List.mem_flatMap.1 hx;have hm:=cm k (ajP p i k hk);exact⟨dG (ai (dG hb hm) 4) hx,(hc _ hm).c x hx⟩
 .obtain⟨k,hk,hx⟩:=List.mem_flatMap.1 hx;have hm:=cm k (ajP p i k hk);exact⟨dG (ai (dG hb hm) 5) hx,(hc _ hm).k x hx⟩
 .rcases ak2 _ _ hd with h|⟨k,hk,h⟩
  .cases h
  .exact o _ (cm k (by have:=(ajN p (i+1) i (by omega)).1 k hk;omega)) d h
end
theorem ajC.app{c a b:Rows}(g:ajC (c,a))(h:∀d,d∈b->cA 16777216 d/\d=fA (du d 0)/\ajf (gD d 3)):ajC (c,a++b):=⟨g.c,λd hd=>(List.mem_append.1 hd).elim (g.n d) (h d)⟩
theorem lawTypes(p:Rows)(hb:cA 16777216 p)(hc:∀r,r∈p->ajn r):Ev (λn=>ak5 n p) true:=by
 have S:=iF hb
 have yes:∀{G:Nat->Option Bool},T (λn=>aa true (some true) (G n)) λb=>b=true:=.pos rfl (.ret rfl)
 refine T.ev (.step (λn=>alz n) (.ask (Uc p S) λ_ _=>.ite (λ_=>yes) (λ_=>.mV (S4 hb hc) λf hf hp=>.ite (λ_=>yes) (λc=>?_))))
 have h0:f.1=0:=ib c
 obtain⟨hn,hp⟩:=hp h0
 refine T.lst (σ:=Unit) (L:=λi _ n=>ajF n p (p.length:Int) i p) (by omega) (λn _ _=>alC n) (λ_ _=>True) ?_ ?_ () trivial
 .exactλ_ _=>yes
 .intro i _ hi _ o
  intro r hr
  have z:=List.mem_of_getElem? hr
  have next:T (λn=>ajF n p (p.length:Int) (be ((i:Int)+1)) p) λb=>b=true:=by exact o () trivial
  have P:=hp i r hr
  obtain⟨hs,gs,gj,g7⟩:=alt hb hc hf h0 hn hp hr
  have I:∀j,bd (gD r j)/\(gD r j).length<=16777216:=λj=>by have:=ai (dG hb z) j;exact⟨iF this,this.1⟩
  obtain⟨U,vs⟩:=aj4 (F:=λn=>akq n p (i:Int) false) (G:=λn=>oM n p (i:Int)) hf h0 hr false (λe=>by cases e) (E:=ai6 p i) (hs.stat.mono λe⟨h,e⟩=>⟨⟨h.1,by have:=h.2.1;omega,by have:=h.2.2.1;omega,h.2.2.2⟩,e⟩) P.ss.1 gs λn=>alR n
  have Q:Ev (λn=>jN n (ai6 p i)) true:=P.ss.1.ev U
  have l6:=(I 6).2
  refine .cR (.step (λn=>alH n) (.ask vs (.ret _))) (.neg rfl (.cR Q (.neg rfl ?_)))
  refine T.lst (σ:=Unit) (L:=λj _ n=>aj5 n (i:Int) p (p.length:Int) (i:Int) (gD r 6) ((gD r 6).length:Int) j p (eD r 0) (ai6 p i)) (by omega) (λn _ _=>alM n) (λ_ _=>True) ?_ ?_ () trivial
  .intro _ _
   refine(.ite (λ_=>next) (λc2=>?_))
   have c2:gI r 0=2:=ib c2
   obtain⟨vj,A,c8⟩:=P.vg c2
   have N:=ak1 hr P.toHd λk q _ hq=>hp k q hq
   have em:∀d,d∈ajc (dir p r) (gD r 7)->d∈ajb p i:=λd hd=>(ajX hd).elim (λh=>by rw[akf];exact ajM (N.1 d h).1) (A d)
   have vl:ai8 ((ai6 p i).1,(ai6 p i).2++gD r 7):=vj.sub (P.vd c2) A
   have D:ai8 ((ai6 p i).1,(ai6 p i).2++ajc (dir p r) (gD r 7)):=vj.sub (akL N.2) em
   obtain⟨bl,v1⟩:=aj4 (F:=λn=>akr n p (i:Int) true) hf h0 hr true (λ_=>c2) (hs.loc hr) vl (gs.app (g7 r z)) λn=>alS n
   obtain⟨bg,X⟩:=aj4 (F:=λn=>aks n p (i:Int) true) hf h0 hr true (λ_=>c2) (hs.glu hr) D (gs.app λd hd=>gj d (em d hd)) λn=>alV n
   obtain⟨bj,V⟩:=aj4 (F:=λn=>akt n p (i:Int) true) hf h0 hr true (λ_=>c2) hs.Ir vj (gs.app gj) λn=>alA n
   refine .cR (.step (λn=>eF4 n) (.ask v1 (.ret _))) (.cR (.step (λn=>ahD n) (.ask X (.ret _))) (.cR (.step (λn=>ah2 n) (.ask V (.ret _))) (.neg rfl (.neg rfl (.neg rfl (.cR (vl.ev bl) (.neg rfl (.cR (D.ev bg) (.neg rfl (.cR (vj.ev bj) (.neg rfl ?_)))))))))))
   have l8:=(I 8).2
   have l9:=(I 9).2
   have Y:=(I 13).2
   refine T.lst (σ:=Unit) (L:=λj _ n=>aj6 n p (p.length:Int) (i:Int) (gD r 8) ((gD r 8).length:Int) j p (eD r 0) ((ai6 p i).1,(ai6 p i).2++gD r 7) ((ai6 p i).1,(ai6 p i).2++ajc (dir p r) (gD r 7)) ((ai6 p i).1,(ai6 p i).2++ajb p i)) (by omega) (λn _ _=>alI n) (λ_ _=>True) ?_ ?_ () trivial
   .intro _ _
    refine T.lst (σ:=Unit) (L:=λj _ n=>aj7 n p (p.length:Int) (i:Int) (gD r 9) ((gD r 9).length:Int) j p (eD r 0) ((ai6 p i).1,(ai6 p i).2++gD r 7)) (by omega) (λn _ _=>alD n) (λ_ _=>True) ?_ ?_ () trivial
    .intro _ _
     refine T.lst (σ:=Unit) (L:=λj _ n=>aj8 n p (p.length:Int) (i:Int) (gD r 13) ((gD r 13).length:Int) j p ((ai6 p i).1,(ai6 p i).2++gD r 7)) (by omega) (λn _ _=>alT n) (λ_ _=>True) ?_ ?_ () trivial
     .exactλ_ _=>next
     .intro j _ hj _ o;intro e he;have J:=List.mem_of_getElem? he;refine .cR (als bl (dG (ai (dG hb z) 13) J) (hc r z).v (I 7).1 (λd hd=>List.mem_append_right _ hd) (P.pt c2 e J).2.2) (.neg rfl ?_);exact o () trivial
    .intro j _ hj _ o;intro q hq;obtain⟨t,vt,e0⟩:=P.vt c2 q (List.mem_of_getElem? hq);refine .cR vt (.neg (by rw[e0];rfl) ?_);exact o () trivial
   .intro j _ hj _ o;intro q hq;have k:=an (I 8).1 hq;have Z:bd (cN q 1):=⟨trivial,ak k 2,trivial,trivial,ak k 5,ai k 6,ai k 7⟩;have O:=c8 q (List.mem_of_getElem? hq);refine .cR O (.neg rfl (.cR (alk _ bg bj Z D vj (λd hd=>(List.mem_append.1 hd).elim (List.mem_append_left _) λh=>List.mem_append_right _ (em d h)) O) (.neg rfl ?_)));exact o () trivial
  .intro j _ hj _ o;refineλq hq=>.cR (P.ss.2 q (List.mem_of_getElem? hq)) (.neg rfl ?_);exact o () trivial
end
end Go.AI
