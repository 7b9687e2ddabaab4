/- A part of the proof. -/
import Derived.Test.YteibmaelhdbgfaaGreatDoorSc
set_option linter.all false

section
namespace Go.AI
theorem RT.head_cons{a:LT}:∀{l:List LT}(x:a.ty)(y:RT l),RT.head (RT.cons x y)=x|[],_,_=>rfl|_::_,_,_=>rfl
theorem RT.tail_cons{a:LT}:∀{l:List LT}(x:a.ty)(y:RT l),RT.tail (RT.cons x y)=y|[],_,_=>rfl|_::_,_,_=>rfl
section
variable {P:Program}{w w':Wd}{ob ob':Tr aq}{nx:Nat}{h h':AHeap}{ρ:Type}{ss:List Sh}{v:SV}{vs:List SV}
theorem jU{α:Type}{x:Option α}{r:α}{C:Prop}(h:x=some r)(e:x=none):C:=by grind
theorem qt{α β:Type}{x:Option α}{f:α->β}{r:β}(h:x.map f=some r):∃y,x=some y/\r=f y:=by cases x with|none=>cases h|some y=>grind
theorem X6{k:IntKind}{r:RT (bF (.int k::ss))}(h:b9 P ob (.int k::ss) (v::vs)=some r):∃n r',v=.sc (.int k n)/\b9 P ob ss vs=some r'/\r=RT.cons (a:=.int) n r':=by
 cases v with
 |sc u=>cases u with
  |int k' n=>
   have h0:(if k=k' then(b9 P ob ss vs).map λr=>RT.cons (a:=.int) n r else none)=some r:=h
   by_cases e:k=k'
   .rw[if_pos e]at h0;subst e;obtain⟨r',h1,h2⟩:=qt h0;grind
   grind|_=>exact jU h rfl
 |_=>exact jU h rfl
theorem Lc{r:RT (bF (.bool::ss))}(h:b9 P ob (.bool::ss) (v::vs)=some r):∃n r',v=.sc (.bool n)/\b9 P ob ss vs=some r'/\r=RT.cons (a:=.bool) n r':=by
 cases v with
 |sc u=>cases u with|bool n=>obtain⟨r',h1,h2⟩:=qt (f:=λr=>RT.cons (a:=.bool) n r) h;grind|_=>exact jU h rfl
 |_=>exact jU h rfl
theorem X7{r:RT (bF (.str::ss))}(h:b9 P ob (.str::ss) (v::vs)=some r):∃n r',v=.sc (.string n)/\b9 P ob ss vs=some r'/\r=RT.cons (a:=.str) n r':=by
 cases v with
 |sc u=>cases u with|string n=>obtain⟨r',h1,h2⟩:=qt (f:=λr=>RT.cons (a:=.str) n r) h;grind|_=>exact jU h rfl
 |_=>exact jU h rfl
theorem aaW{t:TypeId}{r:RT (bF (.dl t::ss))}(h:b9 P ob (.dl t::ss) (v::vs)=some r):∃x r',asData ob t v=some x/\b9 P ob ss vs=some r'/\r=RT.cons (a:=.rows) x r':=by have h:(match asData ob t v,b9 P ob ss vs with|some x,some r=>some (RT.cons (a:=.rows) x r)|_,_=>none)=some r:=h;grind
theorem X8{t:TypeId}{aY:Bool}{r:RT (bF (.own t aY::ss))}(h:b9 P ob (.own t aY::ss) (v::vs)=some r):∃x r',zk ob aY v=true/\iU P t=true/\isByte P t=false/\asData ob t v=some x/\b9 P ob ss vs=some r'/\r=RT.cons (a:=.rows) x r':=by have h:(match zk ob aY v&&iU P t&&!isByte P t,asData ob t v,b9 P ob ss vs with|true,some x,some r=>some (RT.cons (a:=.rows) x r)|_,_,_=>none)=some r:=h;grind
theorem aaX{t:TypeId}{r:RT (bF (.md t::ss))}(h:b9 P ob (.md t::ss) (v::vs)=some r):∃x r',mF ob t v=some x/\b9 P ob ss vs=some r'/\r=RT.cons (a:=.rows) x r':=by have h:(match mF ob t v,b9 P ob ss vs with|some x,some r=>some (RT.cons (a:=.rows) x r)|_,_=>none)=some r:=h;grind
theorem aaY{t:TypeId}{r:RT (bF (.tr t::ss))}(h:b9 P ob (.tr t::ss) (v::vs)=some r):∃x r',iU P t=true/\isByte P t=false/\Bo ob t v=some x/\b9 P ob ss vs=some r'/\r=RT.cons (a:=.rows) x r':=by have h:(match iU P t&&!isByte P t,Bo ob t v,b9 P ob ss vs with|true,some x,some r=>some (RT.cons (a:=.rows) x r)|_,_,_=>none)=some r:=h;grind
theorem X9{t:TypeId}{r:RT (bF (.bh t::ss))}(h:b9 P ob (.bh t::ss) (v::vs)=some r):∃x r',isByte P t=true/\Bn ob t v=some x/\b9 P ob ss vs=some r'/\r=RT.cons (a:=.str) x r':=by have h:(match isByte P t,Bn ob t v,b9 P ob ss vs with|true,some x,some r=>some (RT.cons (a:=.str) x r)|_,_,_=>none)=some r:=h;grind
theorem Ya{u:SV}{r:RT (bF (.opt u::ss))}(h:b9 P ob (.opt u::ss) (v::vs)=some r):
 ∃b r',b9 P ob ss vs=some r'/\r=RT.cons (a:=.bool) b r'/\((∃v',v=.opt b v'/\eqv v' u=true)\/(v=.sc (.pointer none)/\b=false)\/(∃i o,v=.ref i o/\b=true/\eqv v u=true)):=by
 cases v with
 |opt b v'=>have h:(match eqv v' u with|true=>(b9 P ob ss vs).map λr=>RT.cons (a:=.bool) b r|false=>none)=some r:=h;cases e:eqv v' u with|true=>rw[e]at h;obtain⟨r',h1,h2⟩:=qt h;grind|false=>grind
 |ref i o=>have h:(match eqv (.ref i o) u with|true=>(b9 P ob ss vs).map λr=>RT.cons (a:=.bool) true r|false=>none)=some r:=h;cases e:eqv (.ref i o) u with|true=>rw[e]at h;obtain⟨r',h1,h2⟩:=qt h;grind|false=>grind
 |sc x=>cases x with
  |pointer p=>cases p with|none=>obtain⟨r',h1,h2⟩:=qt (f:=λr=>RT.cons (a:=.bool) false r) h;grind|some _=>exact jU h rfl
  |_=>exact jU h rfl
 |_=>exact jU h rfl
theorem Yb{u:SV}{r:RT (bF (.gz u::ss))}(h:b9 P ob (.gz u::ss) (v::vs)=some r):eqv v u=true/\b9 P ob ss vs=some r:=by have h:(match eqv v u with|true=>b9 P ob ss vs|false=>none)=some r:=h;grind
theorem Yc{r:RT (bF [])}(h:b9 P ob [] vs=some r):vs=[]:=by cases vs with|nil=>rfl|cons _ _=>exact jU h rfl
theorem W6{s:Sh}{r:RT (bF (s::ss))}(h:b9 P ob (s::ss) vs=some r):∃v c,vs=v::c:=by cases vs with|nil=>cases s<;>exact jU h rfl|cons v c=>grind
theorem dp.to{i j:Nat}{x:aq}{k:Lk}(hx:dp P w h i x)(K:∀t cs,x≠.box t cs)(hl:aX w w')(hF:∀o,w'.F o->w.F o)(hi:w.s i=some k)(hj:w'.s j=some k):dp P w' h j x:=by
 cases x with
 |box t cs=>grind
 |gone=>trivial
 |arr t rows aY=>
  obtain⟨z,J,I,D⟩:=hx
  refine⟨z,J,I,?_⟩
  rcases D with⟨q1,q2⟩|⟨o,ver,mv,c,ex,sh,cap,q1,q2,q3,q4,q5,q6,q7,q8⟩
  .grind
  .exact .inr ⟨o,ver,mv,c,ex,sh,cap,by grind,q2,q3,q4,q5,q6.mono hl,q7,λe f=>q8 e (hF _ f)⟩
 |bh s t=>obtain⟨z,D⟩:=hx;refine⟨z,?_⟩;grind
 |mp t rows aY=>obtain⟨e,o,es,cl,q1,q2,q3,q4,q5⟩:=hx;exact⟨e,o,es,cl,q1,by grind,q3,q4.bX hl.c,λa f=>q5 a (hF _ f)⟩
 |tr t rows aY=>
  obtain⟨z,J,I,D⟩:=hx
  refine⟨z,J,I,?_⟩
  rcases D with⟨q1,q2⟩|⟨o,ver,mv,c,ex,sh,n,q1,q3,q4,q5,E,q6,q8⟩
  .grind
  .exact .inr ⟨o,ver,mv,c,ex,sh,n,by grind,q3,q4,q5,E,q6.mono hl,λe f=>q8 e (hF _ f)⟩
def Wd.next(w:Wd)(i:Nat)(k:Lk):Wd:={g:=w.g,F:=w.F,s:=λj=>if j=i then some k else w.s j}
theorem ah.take(hs:ah P w ob nx h){x:aq}{k:Lk}(hx:dp P (w.next nx k) h nx x)(c:∀o,k.obj=some o->¬Ow w ob o/\o<h.next):
 ah P (w.next nx k) (ob.put nx x) (nx+1) h/\(∀j l,w.s j=some l->(w.next nx k).s j=some l)/\(w.next nx k).s nx=some k/\(∀o,Ow (w.next nx k) (ob.put nx x) o->Ow w ob o\/k.obj=some o):=by
 have z:(w.next nx k).s nx=some k:=by simp[Wd.next]
 have hd:¬live ob nx:=by rintro⟨y,e,_⟩;rw[(hs.nx nx (aC _)).2]at e;cases e
 obtain⟨q1,q2⟩:=hs.Fx (w':=w.next nx k) (i:=nx) (nx':=nx+1) rfl rfl (λj e=>by simp only[Wd.next];grind) z (.inl (hs.nx nx (aC _)).1) hd c hx (by omega) (by omega)
 refine⟨q1,q2,z,?_⟩
 rintro o⟨j,l,⟨y,h1,h2⟩,h3,h4⟩
 by_cases e:j=nx
 .grind
 .rw[Tr.aL _ _ e]at h1;simp only[Wd.next]at h3;rw[if_neg e]at h3;exact .inl ⟨j,l,⟨y,h1,h2⟩,h3,h4⟩
end
end Go.AI
end

section
namespace Go.AI
section
variable {P:Program}{h:AHeap}{L:List Nat}{w1 wc:Wd}{bV:Tr aq}
def Os(w:Wd)(ob:Tr aq)(o:Nat):Prop:=∃a k,live ob a/\w.s a=some k/\k.obj=some o/\∀n,k≠.box o n
def eV(P:Program)(w1:Wd)(bV:Tr aq)(h:AHeap)(L:List Nat)(wc:Wd)(st:ae)(p:List SV×ae)(ys:List AV):Prop:=∃c,ah P c p.2.ob p.2.nx h/\c.F=wc.F/\(∀j k,wc.s j=some k->c.s j=some k)/\au P c (nP L p.1) ys/\p.2.tm=st.tm/\p.2.r=st.r/\(∀j,j<st.nx->p.2.ob.get j=st.ob.get j)/\st.nx<=p.2.nx/\(∀o,Ow c p.2.ob o->Ow wc st.ob o\/Os w1 bV o)
theorem eV.cons{st:ae}{p:List SV×ae}{ys:List AV}{u:SV}{y:AV}(hg:wc.g=h.get)(hd:eV P w1 bV h L wc st p ys)(hu:∀c,aX wc c->(∀j k,wc.s j=some k->c.s j=some k)->RV P c (rW L u) y):eV P w1 bV h L wc st (u::p.1,p.2) (y::ys):=by obtain⟨c,q1,q2,q3,q4,q5⟩:=hd;exact⟨c,q1,q2,q3,.cons (hu c (.imp (by rw[hg];exact funext q1.g) λo f=>by grind) q3) q4,q5⟩
theorem eV.obj{st:ae}{p:List SV×ae}{ys:List AV}{x:aq}{k:Lk}{y:AV}(hs:ah P wc st.ob st.nx h)(hx:dp P (wc.next st.nx k) h st.nx x)(z:∀o,k.obj=some o->¬Ow wc st.ob o/\o<h.next)(how:∀o,k.obj=some o->Os w1 bV o)
 (hy:∀c:Wd,c.s st.nx=some k->RV P c (.own st.nx) y)(hd:eV P w1 bV h L (wc.next st.nx k) {st with ob:=st.ob.put st.nx x,nx:=st.nx+1} p ys):eV P w1 bV h L wc st (.own st.nx::p.1,p.2) (y::ys):=by
 obtain⟨t1,E,D,F⟩:=hs.take hx z
 obtain⟨c,q1,q2,q3,q4,q5,q6,q7,q8,q9⟩:=hd
 refine⟨c,q1,q2,λj l e=>q3 j l (E j l e),.cons (hy c (q3 _ _ D)) q4,q5,q6,λj hj=>?_,by grind,λo ho=>?_⟩
 .have:=q7 j (by grind);rw[this];exact Tr.aL _ _ (by omega)
 grind
theorem nodup_cons{x:Nat}{xs:List Nat}(h:nodup (x::xs)=true):x∉xs/\nodup xs=true:=by simp only[nodup,bB,Bool.not_eq_true']at h;exact⟨D9 h.1,h.2⟩
theorem Yd{a:Nat}{vs:List SV}(h:SV.own a∈vs):a∈vs.flatMap oq:=List.mem_flatMap.2 ⟨_,h,by simp[oq]⟩
theorem V9{v:SV}{vs:List SV}(h:nodup ((v::vs).flatMap oq)=true):nodup (vs.flatMap oq)=true:=by rw[List.flatMap_cons]at h;cases v with|own a=>exact(nodup_cons h).2|_=>exact h
theorem C2{a:Nat}{vs:List SV}(h:nodup ((SV.own a::vs).flatMap oq)=true):SV.own a∉vs:=by rw[List.flatMap_cons]at h;exactλe=>(nodup_cons h).1 (Yd e)
theorem aaZ{nxC:Nat}{F:Nat->Prop}{J:List SV}(hE:ah P (w1.more F) (bo bV J) nxC h)(hl:fV bV (bo bV J))
 (h3:∀i,SV.own i∈J->∀t rows l x,jd bV i t rows l->RV P w1 (.own i) x->Rd P (w1.more F) t rows x)(h5:∀i,SV.om i∈J->∀t rows l x,bV.get i=some (.mp t rows l)->RV P w1 (.om i) x->Rm P (w1.more F) t rows x):
 ∀(shs:List Sh){vs:List SV}{ys:List AV}{r:RT (bF shs)}{st:ae}{wc:Wd},b9 P bV shs vs=some r->au P w1 vs ys->(∀v,v∈gL shs vs->v∈J)->(∀a,SV.own a∈vs->SV.own a∈J->SV.own a∈gL shs vs)->nodup (vs.flatMap oq)=true->ah P wc st.ob st.nx h->wc.F=(w1.more F).F->(∀i j k,L[i]?=some j->w1.s i=some k->wc.s j=some k)->(∀o,Ow wc st.ob o->∀a,SV.own a∈vs->live bV a->∀k,w1.s a=some k->k.obj≠some o)->eV P w1 bV h L wc st (cD shs r st) ys:=by
 intro shs
 induction shs with
 |nil=>intro vs ys r st wc he hv _ _ _ hs hF _ _;have:=Yc he;subst this;cases hv;exact⟨wc,hs,rfl,λ_ _ e=>e,.nil,rfl,rfl,λ_ _=>rfl,aC _,λ_ e=>.inl e⟩
 |cons s ss ih=>
  intro vs ys r st wc he hv R Un hn hs hF hL rh
  obtain⟨v,D,rfl⟩:=W6 he
  cases hv with
  |@cons _ y _ ys a b=>
  have hg:wc.g=h.get:=funext hs.g
  have I:aX (w1.more F) wc:=.imp (by rw[hg];exact(funext hE.g).symm) λo f=>by grind
  have Y:=V9 hn
  have rest:∀{r':RT (bF ss)},(gL (s::ss) (v::D)=gL ss D\/gL (s::ss) (v::D)=v::gL ss D)->b9 P bV ss D=some r'->eV P w1 bV h L wc st (cD ss r' st) ys:=by
   intro r' hd z
   refine ih z b (λu hu=>R u ?_) (λa' K s7=>?_) Y hs hF hL λo ho a' K=>rh o ho a' (List.mem_cons_of_mem _ K)
   .grind
   .have:=Un a' (List.mem_cons_of_mem _ K) s7
    rcases hd with e|e
    .grind
    .rw[e]at this
     rcases List.mem_cons.1 this with rfl|this
     .exact absurd K (C2 hn)
     grind
  have Q:∀(E:Wd),(∀j k,wc.s j=some k->E.s j=some k)->∀i j k,L[i]?=some j->w1.s i=some k->E.s j=some k:=λE e i j k h1 h2=>e _ _ (hL i j k h1 h2)
  have own:∀{a0:Nat}{x x':aq}{r':RT (bF ss)},v=.own a0->gL (s::ss) (v::D)=gL ss D->bV.get a0=some x->x≠.gone->(∀t rows l,x≠.mp t rows l)->(∀t cs,x≠.box t cs)->(∀t cs,x'≠.box t cs)->(dp P (w1.more F) h a0 x->dp P (w1.more F) h a0 x')->b9 P bV ss D=some r'->
   eV P w1 bV h L wc st (.own st.nx::(cD ss r' {st with ob:=st.ob.put st.nx x',nx:=st.nx+1}).1,(cD ss r' {st with ob:=st.ob.put st.nx x',nx:=st.nx+1}).2) (y::ys):=by
   intro a0 x x' r' V hd hx Iu hnp CD aip hxx z
   subst V
   have Uo:live bV a0:=⟨x,hx,Iu⟩
   have hnD:SV.own a0∉J:=λe=>by have:=Un a0 (List.mem_cons_self ..) e;rw[hd]at this;exact C2 hn (Eb this)
   have Up:(bo bV J).get a0=some x:=by rw[pN hnD λt r l e=>by grind];exact hx
   have S:=hE.gJ Up
   obtain⟨k,hk⟩:∃k,w1.s a0=some k:=by cases a with|cM e=>grind|cu e=>grind
   have hlE:live (bo bV J) a0:=⟨x,Up,Iu⟩
   have N:∀o,k.obj=some o->¬Ow wc st.ob o/\o<h.next:=λo ho=>⟨λhow=>rh o how a0 (List.mem_cons_self ..) Uo k hk ho,hE.lt a0 k o hk ho⟩
   have HS:(wc.next st.nx k).s st.nx=some k:=by simp[Wd.next]
   have U:dp P (wc.next st.nx k) h st.nx x':=(hxx S).to aip (I.trans (.imp rfl λ_ f=>f)) (λo f=>by have f':wc.F o:=f;grind) hk HS
   obtain⟨t1,t2,t3,t4⟩:=hs.take U N
   refine eV.obj hs U N (λo ho=>⟨a0,k,Uo,hk,ho,λn e=>by cases a with|cM e2=>grind|cu e2=>grind⟩) (λE e=>?_) (ih z b (λu hu=>R u (by grind)) (λa' K s7=>?_) Y t1 hF (Q _ t2) ?_)
   .cases a with|cM e2=>rw[hk]at e2;cases e2;exact .cM e|cu e2=>rw[hk]at e2;cases e2;exact .cu e
   .grind
   .intro o ho a' K Iv k' sY Ck
    rcases t4 o ho with e|e
    .grind
    .have:=hE.inj a0 a' k k' o hlE ((hl.live a').2 Iv) hk sY e Ck;subst this;exact C2 hn K
  have nil:∀{x':aq}{r':RT (bF ss)},v=.sc (.slice none 0 0)->gL (s::ss) (v::D)=gL ss D->dp P (wc.next st.nx .nil) h st.nx x'->b9 P bV ss D=some r'->
   eV P w1 bV h L wc st (.own st.nx::(cD ss r' {st with ob:=st.ob.put st.nx x',nx:=st.nx+1}).1,(cD ss r' {st with ob:=st.ob.put st.nx x',nx:=st.nx+1}).2) (y::ys):=by
   intro x' r' V hd S z
   subst V
   obtain⟨t1,t2,t3,t4⟩:=hs.take (k:=.nil) S (λo e=>by cases e)
   refine eV.obj hs S (λo e=>by cases e) (λo e=>by cases e) (λE e=>?_) (ih z b (λu hu=>R u (by grind)) (λa' K s7=>?_) Y t1 hF (Q _ t2) ?_)
   .cases a;exact .cM e
   .grind
   .intro o ho a' K Iv k' sY Ck
    rcases t4 o ho with e|e
    .grind
    .cases e
  cases s with
  |int k=>obtain⟨n,r',rfl,z,rfl⟩:=X6 he;show eV P w1 bV h L wc st (.sc (.int k (RT.head (RT.cons (a:=.int) n r')))::(cD ss (RT.tail (RT.cons (a:=.int) n r')) st).1,(cD ss (RT.tail (RT.cons (a:=.int) n r')) st).2) _;rw[RT.head_cons,RT.tail_cons];cases a;exact(rest (.inl rfl) z).cons hg λ_ _ _=>.sc rfl
  |bool=>obtain⟨n,r',rfl,z,rfl⟩:=Lc he;show eV P w1 bV h L wc st (.sc (.bool (RT.head (RT.cons (a:=.bool) n r')))::(cD ss (RT.tail (RT.cons (a:=.bool) n r')) st).1,(cD ss (RT.tail (RT.cons (a:=.bool) n r')) st).2) _;rw[RT.head_cons,RT.tail_cons];cases a;exact(rest (.inl rfl) z).cons hg λ_ _ _=>.sc rfl
  |str=>obtain⟨n,r',rfl,z,rfl⟩:=X7 he;show eV P w1 bV h L wc st (.sc (.string (RT.head (RT.cons (a:=.str) n r')))::(cD ss (RT.tail (RT.cons (a:=.str) n r')) st).1,(cD ss (RT.tail (RT.cons (a:=.str) n r')) st).2) _;rw[RT.head_cons,RT.tail_cons];cases a;exact(rest (.inl rfl) z).cons hg λ_ _ _=>.sc rfl
  |dl t=>obtain⟨x,r',hx,z,rfl⟩:=aaW he;show eV P w1 bV h L wc st (.dl t (RT.head (RT.cons (a:=.rows) x r'))::(cD ss (RT.tail (RT.cons (a:=.rows) x r')) st).1,(cD ss (RT.tail (RT.cons (a:=.rows) x r')) st).2) _;rw[RT.head_cons,RT.tail_cons];have X:=K3 (R v (List.mem_cons_self ..)) h3 hx a;exact(rest (.inr rfl) z).cons hg λE M _=>.dl (X.mono (I.trans M))
  |md t=>obtain⟨x,r',hx,z,rfl⟩:=aaX he;show eV P w1 bV h L wc st (.md t (RT.head (RT.cons (a:=.rows) x r'))::(cD ss (RT.tail (RT.cons (a:=.rows) x r')) st).1,(cD ss (RT.tail (RT.cons (a:=.rows) x r')) st).2) _;rw[RT.head_cons,RT.tail_cons];have X:=XS (R v (List.mem_cons_self ..)) h5 hx a;exact(rest (.inr rfl) z).cons hg λE M _=>.md (X.bX (I.trans M).c)
  |own t aY=>
   obtain⟨x,r',hf,Z,O,hx,z,rfl⟩:=X8 he
   show eV P w1 bV h L wc st (.own st.nx::(cD ss (RT.tail (RT.cons (a:=.rows) x r')) {st with ob:=st.ob.put st.nx (.arr t (RT.head (RT.cons (a:=.rows) x r')) aY),nx:=st.nx+1}).1,(cD ss (RT.tail (RT.cons (a:=.rows) x r')) {st with ob:=st.ob.put st.nx (.arr t (RT.head (RT.cons (a:=.rows) x r')) aY),nx:=st.nx+1}).2) _
   rw[RT.head_cons,RT.tail_cons]
   unfold asData at hx
   split at hx
   .cases hf
   .cases hx;obtain⟨g1,g2,_⟩:=rP Z;exact nil rfl rfl ⟨g1,g2,O,.inl ⟨by simp[Wd.next],rfl⟩⟩ z
   .rename_i a0
    split at hx
    .rename_i t' rows l hb
     split at hx
     .rename_i e;subst e;cases hx
      refine own rfl rfl hb (by simp) (by simp) (by simp) (by simp) (λho=>?_) z
      obtain⟨a1,a2,a3,a4⟩:=ho
      refine⟨a1,a2,a3,?_⟩
      rcases a4 with q|⟨o,ver,mv,c,ex,sh,cap,q1,q2,q3,q4,q5,q6,q7,q8⟩
      .exact .inl q
      .refine .inr ⟨o,ver,mv,c,ex,sh,cap,q1,q2,q3,q4,q5,q6,λ_=>trivial,λe=>q8 ?_⟩
       have hf':(aY||!l)=true:=by simp only[zk,hb]at hf;exact hf
       grind
     .cases hx
    .cases hx
   .cases hx
  |tr t=>
   obtain⟨x,r',Z,O,hx,z,rfl⟩:=aaY he
   show eV P w1 bV h L wc st (.own st.nx::(cD ss (RT.tail (RT.cons (a:=.rows) x r')) {st with ob:=st.ob.put st.nx (.tr t (RT.head (RT.cons (a:=.rows) x r')) false),nx:=st.nx+1}).1,(cD ss (RT.tail (RT.cons (a:=.rows) x r')) {st with ob:=st.ob.put st.nx (.tr t (RT.head (RT.cons (a:=.rows) x r')) false),nx:=st.nx+1}).2) _
   rw[RT.head_cons,RT.tail_cons]
   unfold Bo at hx
   split at hx
   .cases hx;obtain⟨g1,g2,_⟩:=rP Z;exact nil rfl rfl ⟨g1,g2,O,.inl ⟨by simp[Wd.next],rfl⟩⟩ z
   .rename_i a0
    split at hx
    .rename_i t' rows hb
     split at hx
     .rename_i e;subst e;cases hx;exact own rfl rfl hb (by simp) (by simp) (by simp) (by simp) (λho=>ho) z
     .cases hx
    .cases hx
   .cases hx
  |bh t=>
   obtain⟨x,r',O,hx,z,rfl⟩:=X9 he
   show eV P w1 bV h L wc st (.own st.nx::(cD ss (RT.tail (RT.cons (a:=.str) x r')) {st with ob:=st.ob.put st.nx (.bh (RT.head (RT.cons (a:=.str) x r')) t),nx:=st.nx+1}).1,(cD ss (RT.tail (RT.cons (a:=.str) x r')) {st with ob:=st.ob.put st.nx (.bh (RT.head (RT.cons (a:=.str) x r')) t),nx:=st.nx+1}).2) _
   rw[RT.head_cons,RT.tail_cons]
   unfold Bn at hx
   split at hx
   .cases hx;exact nil rfl rfl ⟨O,.inl ⟨by simp[Wd.next],rfl⟩⟩ z
   .rename_i a0
    split at hx
    .rename_i s' t' hb
     split at hx
     .rename_i e;subst e;cases hx;exact own rfl rfl hb (by simp) (by simp) (by simp) (by simp) (λho=>ho) z
     .cases hx
    .cases hx
   .cases hx
  |opt u=>
   obtain⟨bb,r',z,rfl,hc⟩:=Ya he
   show eV P w1 bV h L wc st (.opt (RT.head (RT.cons (a:=.bool) bb r')) u::(cD ss (RT.tail (RT.cons (a:=.bool) bb r')) st).1,(cD ss (RT.tail (RT.cons (a:=.bool) bb r')) st).2) _
   rw[RT.head_cons,RT.tail_cons]
   refine(rest (.inl rfl) z).cons hg λE M T=>?_
   rcases hc with⟨v',rfl,e⟩|⟨rfl,rfl⟩|⟨i,o,rfl,rfl,e⟩
   .cases a with|fY a1 a2=>exact .fY (zx ((aX.more w1 F).trans (I.trans M)).c (Q E T) a1 e) a2|iG=>exact .iG
   .cases a;exact .iG
   .have hna:=a.na (by simp) (by simp);exact .fY (zx ((aX.more w1 F).trans (I.trans M)).c (Q E T) a e) hna
  |gz u=>obtain⟨e,z⟩:=Yb he;show eV P w1 bV h L wc st (u::(cD ss r st).1,(cD ss r st).2) _;exact(rest (.inl rfl) z).cons hg λE M T=>zx ((aX.more w1 F).trans (I.trans M)).c (Q E T) a e
  |aM=>show eV P w1 bV h L wc st (.aM::(cD ss r st).1,(cD ss r st).2) _;exact(rest (.inl rfl) (show b9 P bV ss D=some r from he)).cons hg λ_ _ _=>.aM _
  |aR=>
   show eV P w1 bV h L wc st (.aR::(cD ss r st).1,(cD ss r st).2) _
   have he:(match l3 v with|true=>b9 P bV ss D|false=>none)=some r:=by cases v<;>exact he
   split at he
   .rename_i hok;exact(rest (.inl rfl) he).cons hg λ_ _ _=>.aR (a.cell hok)
   .cases he
end
end Go.AI
end

section
namespace Go.AI
section
variable {P:Program}{w w' w1 wc:Wd}{ob ob' bV:Tr aq}{nx:Nat}{h h':AHeap}{ρ:Type}
def jS(ob:Tr aq)(w:Wd):List Nat->List AV|[]=>[]|i::is=>(match ob.get i with|some (.box _ _)=>(match w.s i with|some (.box o _)=>(match w.g o with|some (.cells _ _ c _ _ _ _)=>c|_=>[])|_=>[])|_=>[])++jS ob w is
theorem yk(hs:ah P w ob nx h):∀(is:List Nat),au P w (mh ob is) (jS ob w is)|[]=>.nil|i::is=>by simp only[mh,jS];cases hb:ob.get i with|none=>simpa using yk hs is|some x=>cases x with|box t cs=>obtain⟨o,c,sh,E,D,z,_⟩:=hs.box i t cs hb;simp only[E,hs.g,D];exact z.append (yk hs is)|_=>simpa using yk hs is
inductive Al(w1 wc:Wd)(bV:Tr aq):List Nat->List Nat->List aq->Prop|nil:Al w1 wc bV [] [] []|box{i j o n:Nat}{t:TypeId}{cs aS:List SV}{is js:List Nat}{os:List aq}:bV.get j=some (.box t aS)->w1.s j=some (.box o n)->cs.length=n->wc.s i=some (.box o n)->Al w1 wc bV is js os->Al w1 wc bV (i::is) (j::js) (.box t cs::os)|other{i j:Nat}{x:aq}{is js:List Nat}{os:List aq}:(∀t cs,x≠.box t cs)->(∀t cs,bV.get j≠some (.box t cs))->Al w1 wc bV is js os->Al w1 wc bV (i::is) (j::js) (x::os)
theorem Ye{S:Nat}{E:Tr aq}(R:ah P w1 E S h)(O:∀i t cs,E.get i=some (.box t cs)↔bV.get i=some (.box t cs))(hF:wc.F=w1.F):∀{is js:List Nat}{os:List aq},Al w1 wc bV is js os->∀{vs:List SV}{ob:Tr aq},
 ah P wc ob nx h->au P wc vs (jS bV w1 js)->cJ vs=true->is.Nodup->js.Nodup->(∀i,i∈is->¬live ob i/\i<nx)->(∀j,j∈js->live E j->∀n o,w1.s j=some (.box o n)->¬Ow wc ob o)->ah P wc (jY is os vs ob) nx h/\(∀j,j∉is->(jY is os vs ob).get j=ob.get j)/\(∀(p:Nat)(i:Nat)(t:TypeId)(cs:List SV),is[p]?=some i->os[p]?=some (.box t cs)->∃aS,(jY is os vs ob).get i=some (.box t aS))/\(∀o,Ow wc (jY is os vs ob) o->Ow wc ob o\/Ow w1 E o):=by
 intro is js os N
 induction N with
 |nil=>intro vs ob hs _ _ _ _ _ _;exact⟨hs,λ_ _=>rfl,λp i t cs e=>by simp at e,λ_ e=>.inl e⟩
 |@box i j o n t cs aS is js os hb hk hn K N Q=>
  intro vs ob hs hv hok D I hd M
  obtain⟨o',c,sh,X,Z,b3,b4,b5⟩:=R.box j t aS ((O j t aS).2 hb)
  rw[hk]at X
  simp only[ad,Lk.box.injEq]at X
  obtain⟨rfl,rfl⟩:=X
  simp only[jS,hb,hk,R.g,Z]at hv
  have h1:au P wc (vs.take cs.length) c:=by have:=hv.take c.length;rw[List.take_left]at this;rw[hn];exact this
  have h2:au P wc (vs.drop cs.length) (jS bV w1 js):=by have:=hv.drop c.length;rw[List.drop_left]at this;rw[hn];exact this
  have ej:∀(l:List SV)(n:Nat),cJ l=true->cJ (l.take n)=true/\cJ (l.drop n)=true:=by intro l;induction l with|nil=>grind|cons v l Q=>intro n e;simp only[cJ,bB]at e;cases n with|zero=>simp[cJ,e.1,e.2]|succ n=>simp only[List.take_succ_cons,List.drop_succ_cons,cJ,bB];grind
  obtain⟨k1,k2⟩:=ej vs cs.length hok
  have L:live E j:=⟨_,(O j t aS).2 hb,by simp⟩
  obtain⟨q1,_⟩:=hs.Fx (w':=wc) (i:=i) (nx':=nx) (x:=.box t (vs.take cs.length)) (k:=.box o c.length) rfl rfl (λ_ _=>rfl) K (.inr K) (hd i (List.mem_cons_self ..)).1 (λJ e=>by cases e;exact⟨M j (List.mem_cons_self ..) L _ _ hk,R.lt j _ _ hk rfl⟩) ⟨o,c,sh,K,Z,h1,k1,by grind⟩ (hd i (List.mem_cons_self ..)).2 (aC _)
  rw[List.nodup_cons]at D I
  have how:∀J,Ow wc (ob.put i (.box t (vs.take cs.length))) J->Ow wc ob J\/J=o:=by
   rintro J⟨a,k,⟨y,e1,e2⟩,e3,Y⟩
   by_cases e:a=i
   .subst e;rw[K]at e3;cases e3;cases Y;grind
   .rw[Tr.aL _ _ e]at e1;exact .inl ⟨a,k,⟨y,e1,e2⟩,e3,Y⟩
  obtain⟨r1,r2,r3,r4⟩:=Q (vs:=vs.drop cs.length) q1 h2 k2 D.2 I.2 (λa ha=>⟨λ⟨y,e1,e2⟩=>by
   have:a≠i:=by grind
   rw[Tr.aL _ _ this]at e1
   exact(hd a (List.mem_cons_of_mem _ ha)).1 ⟨y,e1,e2⟩,(hd a (List.mem_cons_of_mem _ ha)).2⟩)
   (λa ha U k J e1 e3=>by
    rcases how J e3 with e|e
    .grind
    .subst e;have:=R.inj a j _ _ _ U L e1 hk rfl rfl;grind)
  refine⟨r1,λa ha=>?_,λp a t2 V e1 e2=>?_,λJ e=>?_⟩
  .simp only[List.mem_cons,not_or]at ha;show(jY is os (vs.drop cs.length) (ob.put i (.box t (vs.take cs.length)))).get a=_;rw[r2 a ha.2,Tr.aL _ _ ha.1]
  .cases p with|zero=>simp only[List.getElem?_cons_zero,ad]at e1 e2;subst e1;cases e2;refine⟨vs.take cs.length,?_⟩;show(jY is os (vs.drop cs.length) (ob.put i (.box t (vs.take cs.length)))).get i=_;rw[r2 i D.1,Tr.a7]|succ p=>exact r3 p a t2 V (by grind) (by grind)
  .rcases r4 J e with e|e
   .rcases how J e with e|e
    .exact .inl e
    .subst e;exact .inr ⟨j,_,L,hk,rfl⟩
   grind
 |@other i j x is js os hx hb N Q=>
  intro vs ob hs hv hok D I hd M
  rw[List.nodup_cons]at D I
  have T:au P wc vs (jS bV w1 js):=by simp only[jS]at hv;cases hz:bV.get j with|none=>grind|some z=>grind
  have e0:jY (i::is) (x::os) vs ob=jY is os vs ob:=by cases x with|box t cs=>grind|_=>rfl
  rw[e0];obtain⟨r1,r2,r3,r4⟩:=Q hs T hok D.2 I.2 (λa ha=>hd a (List.mem_cons_of_mem _ ha)) (λa ha=>M a (List.mem_cons_of_mem _ ha));grind
theorem Jw(m:Nat):∀(ls:List Lf),(nO P m ls).length=ls.length|[]=>rfl|l::ls=>by cases l<;>simp[nO,Jw m ls]
theorem Yf{t e:TypeId}(h:kT P t=some e):lay P t=[.no]:=by obtain⟨c,_,_,hu,_⟩:=D8 h;unfold lay;rw[show(40:Nat)=39+1 from rfl];simp only[Bj,hu]
theorem JU(m:Nat)(t:TypeId):(El P m t).length=(lay P t).length:=by
 unfold El
 split
 .rename_i h;rw[Yf h];rfl
 .exact Jw m _
theorem Pr(m:Nat):∀{ts:List TypeId}{vs:List SV}{ys:List AV},mK P ts vs=true->au P w vs ys->∃c,au P w (kx P ts vs) c/\c.length=(mH P m ts).length/\∀(wc:Wd)(us:List SV),au P wc us c->au P wc (p6 P ts us) ys
 |[],[],_,_,.nil=>⟨[],.nil,rfl,λ_ _ _=>.nil⟩
 |t::ts,v::vs,_,h,.cons (x:=y) (xs:=o) a b=>by
  simp only[mK,bB]at h
  obtain⟨c,q1,q2,q3⟩:=Pr m h.2 b
  have one:ep P t≠some true->(lay P t).length=1->∃c,au P w (kx P (t::ts) (v::vs)) c/\c.length=(mH P m (t::ts)).length/\∀(wc:Wd)(us:List SV),au P wc us c->au P wc (p6 P (t::ts) us) (y::o):=by
   intro hn h1
   refine⟨y::c,?_,by simp only[mH,List.length_append,JU,lC,q2,h1];omega,λwc us hu=>?_⟩
   .simp only[kx];exact .cons a q1
   .cases hu with|cons D z=>simp only[p6,h1];exact .cons D (q3 wc _ z)
  have h1:=h.1
  split at h1
  .rename_i cs hi
   have hl:=Nat.eq_of_beq_eq_true h1
   cases a with
   |agg ha=>
    rename_i xs
    refine⟨xs++c,?_,by simp only[mH,List.length_append,JU,q2,<-ha.length,hl],λwc us hu=>?_⟩
    .simp only[kx,hi,bl];exact ha.append q1
    .simp only[p6,hi]
     have E:(lay P t).length=xs.length:=by rw[<-hl,ha.length]
     refine .cons (.agg ?_) (q3 wc _ ?_)
     .have:=hu.take xs.length;grind
     .have:=hu.drop xs.length;grind
  .cases h1
  .cases h1
  simp_all|[],_::_,_,h,_=>by simp[mK]at h|_::_,[],_,h,_=>by simp[mK]at h
end
end Go.AI
end

section
namespace Go.AI
variable [Kn]
structure oI(P:Program)(A:dr):Prop where
 none:∀f,A.kn f=.none->∀xs h,Kn.K f xs h=.none
 some:∀f g,A.kn f=.some g->∀(w:Wd)(h:AHeap)(xs:List AV)(bu:List SV)(v:SV),(∀o,w.g o=h.get o)->au P w bu xs->g bu=.some (true,v)->∃y,Kn.K f xs h=.some y/\RV P w v y
def iH{l m:List LT}:(p:Bool)->AT p l m->(RT l->Prop)->(TypeId->List AV->RT m->Prop)->Prop|false,r,Q,_=>Q r|true,.ret r,Q,_=>Q r|true,.aN t row b,_,Q'=>Q' t row b
theorem iH.imp{l m:List LT}{p:Bool}{a:AT p l m}{Q o:RT l->Prop}{Q' c:TypeId->List AV->RT m->Prop}(h:iH p a Q Q')(h1:∀r,Q r->o r)(h2:∀t row b,Q' t row b->c t row b):iH p a o c:=by cases p with|false=>exact h1 _ h|true=>cases a with|ret r=>exact h1 _ h|aN t row b=>exact h2 _ _ _ h
theorem aa0{ρ:Type}{l m:List LT}{p:Bool}{x:Option (AT p l m)}{k:RT l->Option ρ}{kp:TypeId->List AV->RT m->Option ρ}{r:ρ}(h:RZ p x k kp=some r):
 ∃a,x=some a/\∀(Q:RT l->Prop)(Q':TypeId->List AV->RT m->Prop),iH p a Q Q'->(∃b,Q b/\k b=some r)\/∃t row b,Q' t row b/\kp t row b=some r:=by
 cases p with
 |false=>cases x with|none=>cases h|some a=>exact⟨a,rfl,λQ Q' hq=>.inl ⟨a,hq,h⟩⟩
 |true=>cases x with|none=>cases h|some a=>cases a with|ret b=>exact⟨_,rfl,λQ Q' hq=>.inl ⟨b,hq,h⟩⟩|aN t row b=>exact⟨_,rfl,λQ Q' hq=>.inr ⟨t,row,b,hq,h⟩⟩
theorem acr{l m:List LT}{p:Bool}{x:Option (RT l)}{r:AT p l m}(h:TG p x=some r){Q:RT l->Prop}{Q':TypeId->List AV->RT m->Prop}(hq:∀a,x=some a->Q a):iH p r Q Q':=by cases p with|false=>exact hq _ h|true=>cases x with|none=>cases h|some a=>cases h;exact hq _ rfl
theorem aa1{l m:List LT}{p:Bool}{t:TypeId}{row:List AV}{x:Option (RT m)}{r:AT p l m}(h:R0 p t row x=some r){Q:RT l->Prop}{Q':TypeId->List AV->RT m->Prop}(hq:∀a,x=some a->Q' t row a):iH p r Q Q':=by cases p with|false=>cases h|true=>cases x with|none=>cases h|some a=>cases h;exact hq _ rfl
def gY(P:Program)(t:TypeId)(row:List AV)(y:AV):Prop:=∀w,RV P w (Bq P t row) y
def CE(P:Program):jg->bD->Prop|.no,.none=>True|.gZ,.none=>True|.ret,.ret=>True|.aN t row b,.aN y b'=>b=b'/\gY P t row y|_,_=>False
def s8(md:jg)(b:Bool)(c:bD):Prop:=match md with|.aN _ _ _=>b=true->∃y,c=.aN y true|.ret=>c=.ret|.no=>False|.gZ=>False
def sT{ρ:Type}(P:Program)(w:Wd)(h:AHeap)(st:ae)(f:FuncId)(xs:List AV)(k:SV->ae->Option ρ)(kp:TypeId->List AV->ae->Option ρ)(r:ρ)(fr:Prop):Prop:=(∃m w' st' h' v y,ah P w' st'.ob st'.nx h'/\a8 w st.ob h w' st'.ob h'/\st'.tm=st.tm/\st'.r=st.r/\k v st'=some r/\(bE P m).call .normal f xs .none h=some (.ret y,.none,h')/\RV P w' v y/\(fr->∀p,p∈h'.wr->p∈h.wr\/h.next<=p\/Lp h.get p))\/(∃m w' st' h' t row y,ah P w' st'.ob st'.nx h'/\a8 w st.ob h w' st'.ob h'/\st'.tm=st.tm/\st'.r=st.r/\kp t row st'=some r/\(bE P m).call .normal f xs .none h=some (.aN y,.none,h')/\gY P t row y)
structure fb(P:Program)(A:dr)(Rs:dJ A.pn):Prop where
 kn:oI P A
 call:∀f args aA shs psh r,Rs.call f args aA shs psh=some r->∀(w:Wd)(h:AHeap)(xs:List AV),ah P w (bP aA 0 .leaf) aA.length h->au P w args xs->∃m fn h',P.funcs[f]?=some fn/\iH (A.pn f) r (λr=>∃y,(bE P m).call .normal f xs .none h=some (.ret y,.none,h.outer h')/\eK P w (bP aA 0 .leaf) aA.length h.inner fn.resultTypes.toList shs r y h') (λt row b=>∃y,(bE P m).call .normal f xs .none h=some (.aN y,.none,h.outer h')/\gY P t row y/\eK P w (bP aA 0 .leaf) aA.length h.inner [] psh b dS h')
 qD:∀f md args aA shs b r,Rs.qD f md args aA shs=some (b,r)->∀(w:Wd)(h:AHeap)(xs:List AV)(cm:bD),ah P w (bP aA 0 .leaf) aA.length h->au P w args xs->CE P md cm->∃m fn y h' cm',P.funcs[f]?=some fn/\(bE P m).call .deferred f xs cm h=some (.ret y,cm',h.outer h')/\s8 md b cm'/\eK P w (bP aA 0 .leaf) aA.length h.inner fn.resultTypes.toList shs r y h'
 inl:∀{ρ:Type}(f:FuncId)(args:List SV)(st:ae)(k:SV->ae->Option ρ)(kp:TypeId->List AV->ae->Option ρ)(r:ρ),Rs.inl f args st k kp=some r->∀(w:Wd)(h:AHeap)(xs:List AV),ah P w st.ob st.nx h->au P w args xs->sT P w h st f xs k kp r False
 gZ:∀f ts bu aA shs r,Rs.gZ f ts bu aA shs=some r->fj bu=true->iW aA=true->∀(w:Wd)(h:AHeap)(l tn dd:Nat)(tm:Tr AV)(ps:List Tmp)(hd bd:Code)(ys:List AV),ah P w (bP aA 0 .leaf) aA.length h->h.get l=some (.loop .ready none f tn tm ps hd bd dd)->Fu P f tn ps hd bd->au P w bu (ts.map (λt=>ev tm (.tmp t))++ys)->∃m h',(bE P m).round l ys h=some (.ret (.sc (.bool true)),h')/\qB P (λ_=>False) w (bP aA 0 .leaf) aA.length h [] shs r dS h'
section
variable {P:Program}{w w' w1 wc:Wd}{ob ob' bV:Tr aq}{nx:Nat}{h h':AHeap}{ρ:Type}
theorem Ax{α:Type}{x:Option α}{k:α->Option ρ}{r:ρ}(h:ask x k=some r):∃a,x=some a/\k a=some r:=by unfold ask at h;grind
theorem ah.mu{h2:AHeap}(hs:ah P w ob nx h)(hg:∀o,h2.get o=h.get o)(hn:h2.next=h.next):ah P w ob nx h2:=by
 have c:h2.get=h.get:=funext hg
 refine⟨λo=>by rw[hg];exact hs.g o,?_,?_,?_,hs.inj,by rw[hn];exact hs.lt,hs.nx,by rw[hn,c];exact hs.bU,by rw[hn,c];exact hs.new,by rw[c];exact hs.mp,by rw[c];exact hs.tr⟩
 .rw[c];exact hs.box
 .rw[c];exact hs.arr
 .rw[c];exact hs.bh
theorem Dl:∀{os:List aq},nX os=true->∀(p:Nat),os[p]?≠some .gone
 |[],_,p=>by simp
 |x::os,h,0=>by intro e;simp at e;subst e;cases h
 |x::os,h,p+1=>by
  have h':nX os=true:=by cases x with|gone=>cases h|_=>exact h
  simpa using Dl h' p
theorem Mk:∀{L:List Nat},nodup L=true->L.Nodup|[],_=>List.nodup_nil|x::xs,h=>by obtain⟨a,b⟩:=nodup_cons h;exact List.nodup_cons.2 ⟨a,Mk b⟩
theorem tU:∀n,(upto n).length=n|0=>rfl|n+1=>by simp[upto,tU n]
theorem zd:∀{n p:Nat},p<n->(upto n)[p]?=some p
 |0,p,h=>by omega
 |n+1,p,h=>by
  simp only[upto]
  by_cases e:p<n
  .rw[List.getElem?_append_left (by rw[tU];exact e)];exact zd e
  .have:p=n:=by omega
   subst this;rw[List.getElem?_append_right (by rw[tU];omega),tU];simp
theorem Ml:∀{n p:Nat},p∈upto n->p<n
 |0,p,h=>by simp[upto]at h
 |n+1,p,h=>by
  simp only[upto,List.mem_append,List.mem_singleton]at h
  rcases h with h|h
  .have:=Ml h;omega
  .omega
theorem JV:∀n,(upto n).Nodup|0=>List.nodup_nil|n+1=>by simp only[upto];rw[List.nodup_append];refine⟨JV n,by simp,?_⟩;intro a ha b hb;simp at hb;subst hb;have:=Ml ha;omega
theorem I9(ob:Tr aq)(w:Wd)(F:Nat->Prop):∀is,jS ob (w.more F) is=jS ob w is|[]=>rfl|i::is=>by have:=I9 ob w F is;unfold jS;rw[this];rfl
theorem Al.oi:∀{is js:List Nat}{os:List aq},is.length=js.length->is.length=os.length->(∀(p i j:Nat)(x:aq),is[p]?=some i->js[p]?=some j->os[p]?=some x->
 (∀t cs,x=.box t cs->∃aS o n,bV.get j=some (.box t aS)/\w1.s j=some (.box o n)/\cs.length=n/\wc.s i=some (.box o n))/\((∀t cs,x≠.box t cs)->∀t cs,bV.get j≠some (.box t cs)))->Al w1 wc bV is js os
 |[],[],[],_,_,_=>.nil
 |i::is,j::js,x::os,h1,h2,hf=>by have z:=Al.oi (is:=is) (js:=js) (os:=os) (by grind) (by grind) λp i j x a b c=>hf (p+1) i j x (by grind) (by grind) (by grind);obtain⟨a,b⟩:=hf 0 i j x rfl rfl rfl;cases x with|box t cs=>obtain⟨aS,o,n,q1,q2,q3,q4⟩:=a t cs rfl;exact .box q1 q2 q3 q4 z|_=>exact .other (by simp) (b (by simp)) z
 |[],_::_,_,h,_,_=>by simp at h|_::_,[],_,h,_,_=>by simp at h|[],[],_::_,_,h,_=>by simp at h|_::_,_::_,[],_,h,_=>by simp at h
theorem C3{c o:Nat}:∀{os l:List Nat},o∈rR l c os->o∈l\/o∈os
 |[],l,h=>.inl h
 |p::os,l,h=>by
  rcases C3 (os:=os) (l:=jw l c p) h with e|e
  .rcases nD e with e|rfl
   .exact .inl e
   grind
  grind
theorem Dm{c:Nat}:∀{os l:List Nat},(∀p,p∈l->p<c)->∀p,p∈rR l c os->p<c|[],l,h=>h|o::os,l,h=>Dm (os:=os) (nM h)
theorem aa2{F:Nat->Prop}{us:List SV}(h3:∀i,SV.own i∈us->∀t rows l x,jd ob i t rows l->RV P w (.own i) x->Rd P (w.more F) t rows x)(h5:∀i,SV.om i∈us->∀t rows l x,ob.get i=some (.mp t rows l)->RV P w (.om i) x->Rm P (w.more F) t rows x){v:SV}{x:AV}(hv:∀c,c∈bl v->c∈us)(hx:RV P w v x):RV P (w.more F) (mS ob v) x:=by
 cases v with
 |agg cs=>
  cases hx with
  |agg a=>
   refine .agg ?_
   have:∀{cs:List SV}{xs:List AV},(∀c,c∈cs->c∈us)->au P w cs xs->au P (w.more F) (cs.map (bU ob)) xs:=by intro cs;induction cs with|nil=>intro xs _ hb;cases hb;exact .nil|cons c cs o=>intro xs hm hb;cases hb with|cons D z=>exact .cons (oo h3 h5 (hm c (by simp)) D) (o (λd hd=>hm d (by simp[hd])) z)
   exact this hv a
 |_=>exact oo h3 h5 (hv _ (by simp[bl])) hx
theorem tV{F:Nat->Prop}{us:List SV}(h3:∀i,SV.own i∈us->∀t rows l x,jd ob i t rows l->RV P w (.own i) x->Rd P (w.more F) t rows x)(h5:∀i,SV.om i∈us->∀t rows l x,ob.get i=some (.mp t rows l)->RV P w (.om i) x->Rm P (w.more F) t rows x):∀{vs:List SV}{xs:List AV},(∀c,c∈vs.flatMap bl->c∈us)->au P w vs xs->au P (w.more F) (vs.map (mS ob)) xs|[],_,_,.nil=>.nil|v::vs,_,hm,.cons a b=>.cons (aa2 h3 h5 (λc hc=>hm c (by simp[hc])) a) (tV h3 h5 (λc hc=>hm c (by grind)) b)
theorem zy(hs:ah P w ob nx h){L:List Nat}{z:Wd}(c:z.s=w.s){o:Nat}(ho:Ow z (gO ob L) o):¬Ow (w.sub L) (bP (cq ob L L) 0 .leaf) o/\o<h.next/\Ow w ob o:=by
 obtain⟨j,k,⟨y,h1,h2⟩,h3,h4⟩:=ho
 rw[c]at h3
 rw[ma]at h1
 split at h1
 .grind
 .rename_i hj;refine⟨λhow=>?_,hs.lt j k o h3 h4,⟨j,k,⟨y,h1,h2⟩,h3,h4⟩⟩;obtain⟨a,i,k',e1,e2,e3,D⟩:=Ow.sub how;have:=hs.inj i j k' k o e2 ⟨y,h1,h2⟩ e3 h3 D h4;grind
theorem Ow.kJ{L:List Nat}{o:Nat}(h:Ow (w.sub L) (bP (cq ob L L) 0 .leaf) o):Ow w ob o:=by obtain⟨_,i,k,_,e2,e3,c⟩:=Ow.sub h;exact⟨i,k,e2,e3,c⟩
variable {A:dr}{R:dJ A.pn}{kp:TypeId->List AV->ae->Option ρ}
theorem aa3{bx:TypeId->Nat}{st o:ae}{bu c:List SV}{L:List Nat}{aA:List aq}(hc:lF P bx st bu []=some (c,aA,L,o))(he:dV bu=[]):L=[]:=by
 unfold lF at hc
 simp only at hc
 split at hc
 .simp only[ad,av]at hc;rw[<-hc.2.2.1,he];rfl
 .cases hc
theorem Mm{E:Wd}{D:ae}{L:List Nat}{hi ho:AHeap}{X:Nat->Prop}(hig:hi.next=h.next)(hgi:hi.get=h.get)(hX:∀o,o<h.next->¬X o)(hwi:∀p,p∈hi.wr->p∈h.wr)(S:ah P E D.ob D.nx h)(c8:nodup L=true)(c5:ah P (E.sub L) (bP (cq D.ob L L) 0 .leaf) (cq D.ob L L).length h)(J:nX (cq D.ob L L)=true)
 {o0:Nat}{ts:List TypeId}{shs:List Sh}{r0:RT (bF shs)}{y0:AV}{h':AHeap}(hp:qB P X (E.sub L) (bP (cq D.ob L L) 0 .leaf) (cq D.ob L L).length hi ts shs r0 y0 h')
 (Uq:ho.get=h'.get)(hon:ho.next=h'.next)(hof:ho.floor=h.floor)(how:∀p,p∈ho.wr->p∈h.wr\/p∈h'.wr)(hol:(∀p,p∈h.wr->p<h.floor)->∀p,p∈ho.wr->p<ho.floor)
 {k:SV->ae->Option ρ}{r:ρ}(hr:qu P shs (mH P o0 ts).length ts L (cq D.ob L L) D r0 k=some r):
 ∃w' st' v,ah P w' st'.ob st'.nx ho/\a8 E D.ob h w' st'.ob ho/\st'.tm=D.tm/\st'.r=D.r/\k v st'=some r/\RV P w' v y0/\(L=[]->∀p,p∈ho.wr->p∈h.wr\/h.next<=p\/Lp h.get p):=by
 obtain⟨w1,ob',nx',vs,ys,hC,hf,hv,rfl,hnd,hok,aiq⟩:=hp
 unfold qu at hr
 simp only at hr
 split at hr
 .cases hr
 rename_i Ur
 have CD:(cq D.ob L L).length=L.length:=yL ..
 obtain⟨F,hE,hl,hFo,h3,h5⟩:=lE hC (gL shs (kx P ts vs++mh ob' (upto (cq D.ob L L).length)))
 obtain⟨Z,z1,z2,z3⟩:=Pr o0 hok hv
 have U:∀(p i:Nat),L[p]?=some i->∃z,D.ob.get i=some z/\z≠.gone/\i<D.nx/\(cq D.ob L L)[p]?=some (j9 D.ob L i):=by
  intro p i e
  have e3:(cq D.ob L L)[p]?=some (j9 D.ob L i):=by rw[rz,e];rfl
  have J:=Dl J p;rw[e3]at J;cases hz:D.ob.get i with|none=>unfold j9 at J;grind|some z=>refine⟨z,rfl,?_,S.oy hz,e3⟩;rintro rfl;unfold j9 at J;grind
 have hsk:∀(p i:Nat)(z:aq),L[p]?=some i->D.ob.get i=some z->z≠.gone->∃T,E.s i=some T:=by intro p i z _ hz hg;cases z with|box t cs=>obtain⟨o,c,sh,b1,_⟩:=S.box i t cs hz;grind|arr t rows l=>obtain⟨_,_,_,a4⟩:=S.arr i t rows l hz;grind|bh s t=>obtain⟨_,a4⟩:=S.bh i s t hz;grind|mp t rows l=>obtain⟨_,o,_,_,_,q,_⟩:=S.mp i t rows l hz;grind|tr t rows l=>obtain⟨_,_,_,a4⟩:=S.tr i t rows l hz;grind|gone=>grind
 have hss:∀(p i:Nat),L[p]?=some i->∃T,E.s i=some T/\w1.s p=some T:=by
  intro p i e
  obtain⟨z,z1,z2,_,_⟩:=U p i e
  obtain⟨T,Us⟩:=hsk p i z e z1 z2
  have hp:p<(cq D.ob L L).length:=by grind
  exact⟨T,Us,hf.s p T hp (by simp only[Wd.sub,e,Option.bind_some];exact Us)⟩
 have agH:h.next<=h'.next:=by rw[<-hig];exact hf.next
 have It:∀{o},hi.next<=o->h.next<=o:=λe=>by grind
 have Iw:∀{o:Nat}{Q:Prop},(hi.next<=o\/Q)->h.next<=o\/Q:=λe=>e.imp It id
 have M:∀o,o<h.next->¬Ow (E.sub L) (bP (cq D.ob L L) 0 .leaf) o->h'.get o=h.get o:=λo h1 h2=>by rw[hf.ck o (by grind) h2 (hX o h1),hgi]
 have hle:aX E (w1.more F):=((aX.sub E L).trans hf.le).trans (.more _ _)
 have N:∀o,Ow w1 ob' o->h.next<=o\/Ow (E.sub L) (bP (cq D.ob L L) 0 .leaf) o:=λo e=>Iw (hf.own o e)
 have Ut:∀o,(w1.more F).F o->E.F o\/h.next<=o\/Ow (E.sub L) (bP (cq D.ob L L) 0 .leaf) o:=by
  rintro o(f|f)
  .exact(hf.F o f).imp id Iw
  .grind
 have hA:=NS S hE agH M hle Ut λj hj=>by obtain⟨p,hp⟩:=List.getElem?_of_mem hj;grind
 have hD:=aaZ (L:=L) (st:={D with ob:=gO D.ob L}) hE hl h3 h5 _ aiq (z1.append (yk hC _)) (λ_ e=>e) (λ_ _ e=>e) hnd hA rfl
  (λi j k e1 e2=>by grind)
  (λo ho a _ hla k hk hko=>by
   obtain⟨n1,n2,_⟩:=zy S rfl ho
   rcases N o ⟨a,k,hla,hk,hko⟩with e|e
   .omega
   grind)
 obtain⟨I,d1,d2,d3,d4,d5,d6,d7,d8,d9⟩:=hD
 have hnn:(mH P o0 ts).length=Z.length:=z2.symm
 have hus:au P I ((nP L (cD shs r0 {D with ob:=gO D.ob L}).1).take Z.length) Z:=by have:=d4.take Z.length;rw[List.take_left]at this;exact this
 have hub:au P I ((nP L (cD shs r0 {D with ob:=gO D.ob L}).1).drop Z.length) (jS ob' (w1.more F) (upto (cq D.ob L L).length)):=by have:=d4.drop Z.length;rw[List.drop_left]at this;rw[I9];exact this
 rw[hnn]at hr Ur
 have Uf:Al (w1.more F) I ob' L (upto (cq D.ob L L).length) (cq D.ob L L):=by
  refine Al.oi (by rw[tU,CD]) CD.symm λp i j x e1 e2 e3=>?_
  obtain⟨z,y1,y2,y3,y4⟩:=U p i e1
  obtain⟨T,k1,k2⟩:=hss p i e1
  have hp:p<(cq D.ob L L).length:=by grind
  rw[zd hp]at e2;cases e2
  have K:(bP (cq D.ob L L) 0 .leaf).get p=some x:=by rw[pV];exact e3
  have air:(E.sub L).s p=some T:=by simp only[Wd.sub,e1,Option.bind_some];exact k1
  refine⟨λt cs ex=>?_,λhx t cs hbx=>?_⟩
  .subst ex;obtain⟨o,c,sh,b1,_,b3,_⟩:=c5.box p t cs K;rw[air]at b1;cases b1;obtain⟨aS,q⟩:=hf.bx p t cs hp K;exact⟨aS,o,c.length,q,k2,b3.length,d3 i _ k1⟩
  .obtain⟨o,c,sh,b1,_⟩:=hC.box p t cs hbx;rw[k2]at b1;cases b1;cases x with|box t' aS=>grind|arr t' rows l=>obtain⟨_,_,_,a4⟩:=c5.arr p t' rows l K;grind|bh s t'=>obtain⟨_,a4⟩:=c5.bh p s t' K;grind|mp t' rows l=>obtain⟨_,o',_,_,_,q,_⟩:=c5.mp p t' rows l K;grind|tr t' rows l=>obtain⟨_,_,_,a4⟩:=c5.tr p t' rows l K;grind|gone=>exact Dl J p e3
 have Uu:∀(i:Nat),i∈L->∃p:Nat,L[p]?=some i:=λi hi=>List.getElem?_of_mem hi
 obtain⟨r1,r2,r3,r4⟩:=Ye (nx:=(cD shs r0 {D with ob:=gO D.ob L}).2.nx) hE hl.box d2 Uf d1 hub Ur (Mk c8) (JV _)
  (λi hi=>by obtain⟨p,hp⟩:=Uu i hi;obtain⟨_,_,_,q,_⟩:=U p i hp;have hq:i<D.nx:=q;refine⟨λ⟨y,e1,e2⟩=>?_,Nat.lt_of_lt_of_le hq d8⟩;rw[d7 i hq]at e1;have e1:(gO D.ob L).get i=some y:=e1;rw[ma,if_pos hi]at e1;grind)
  (λj hj hlj n o hk how=>by
   have Y:live ob' j:=(hl.live j).1 hlj
   rcases d9 o how with e|⟨a,k,a1,a2,a3,a4⟩
   .obtain⟨n1,n2,_⟩:=zy S rfl e
    rcases N o ⟨j,_,Y,hk,rfl⟩with e|e
    .omega
    grind
   .have:=hC.inj a j k _ o a1 Y a2 hk a3 rfl;subst this;have sY:w1.s a=some (.box o n):=hk;grind)
 have O:∀o,Ow w1 ob' o->h.next<=o\/Ow E D.ob o:=λo e=>(N o e).imp (λe=>e) Ow.kJ
 have ais:a8 E D.ob h I (jY L (cq D.ob L L) ((nP L (cD shs r0 {D with ob:=gO D.ob L}).1).drop Z.length) (cD shs r0 {D with ob:=gO D.ob L}).2.ob) ho:=by
  refine⟨hle.trans (.imp (by rw[funext hE.g,funext d1.g]) λo f=>by grind),d3,by grind,hof,λo h1 h2=>by rw[Uq];exact M o h1 λe=>h2 e.kJ,λo e=>?_,λo f=>?_,λo e=>?_,hol,λi t cs e=>?_⟩
  .rcases r4 o e with e|⟨a,k,a1,a2,a3⟩
   .rcases d9 o e with e|⟨a,k,a1,a2,a3,_⟩
    .exact .inr (zy S rfl e).2.2
    .exact O o ⟨a,k,a1,a2,a3⟩
   .exact O o ⟨a,k,(hl.live a).1 a1,a2,a3⟩
  .rw[d2]at f
   rcases Ut o f with e|e|e
   .exact .inl e
   .grind
   .exact .inr (.inr e.kJ)
  .rcases how o e with e|e
   .exact .inl e
   .rcases Nat.lt_or_ge o h.next with q|q
    .rcases hf.wr o e with e|e|e|e|e
     .grind
     .grind
     .exact .inr (.inr (.inl e.kJ))
     .grind
     grind
    grind
  .by_cases hi:i∈L
   .obtain⟨p,hp⟩:=Uu i hi
    obtain⟨_,_,_,_,q⟩:=U p i hp
    have:j9 D.ob L i=.box t (iV L cs):=by unfold j9;rw[e]
    grind
   .refine⟨cs,?_⟩;rw[r2 i hi,d7 i (S.oy e)];show(gO D.ob L).get i=_;rw[ma,if_neg hi];exact e
 have V:=z3 I _ hus
 refine⟨I,{tm:=_,ob:=_,nx:=_,al:=_,df:=_,cm:=_},_,?_,?_,?_,?_,hr,?_,λhL p hp=>?_⟩
 .exact r1.mu (λo=>congrFun Uq o) hon
 .exact ais
 .exact d5
 .exact d6
 .generalize p6 P ts _=rv at V;cases V with|nil=>exact .bC .nil|cons a b=>cases b with|nil=>exact a|cons a' b'=>exact .bC (.cons a (.cons a' b'))
 .rcases how p hp with e|e
  .exact .inl e
  .rcases Nat.lt_or_ge p h.next with q|q
   .rcases hf.wr p e with e|e|e|e|e
    .grind
    .grind
    .obtain⟨j,i,_,q,_⟩:=Ow.sub e;grind
    .grind
    grind
   grind
theorem DP{z:Wd}{c:ae}{L:List Nat}(J:ah P z c.ob c.nx h)(F:nodup L=true)(I:ah P (z.sub L) (bP (cq c.ob L L) 0 .leaf) (cq c.ob L L).length h)(D:nX (cq c.ob L L)=true){o0:Nat}{ts:List TypeId}{shs:List Sh}{r0:RT (bF shs)}{E:AV}{h':AHeap}(hp:eK P (z.sub L) (bP (cq c.ob L L) 0 .leaf) (cq c.ob L L).length h.inner ts shs r0 E h'){k:SV->ae->Option ρ}{r:ρ}(hr:qu P shs (mH P o0 ts).length ts L (cq c.ob L L) c r0 k=some r):∃w' st' v,ah P w' st'.ob st'.nx (h.outer h')/\a8 z c.ob h w' st'.ob (h.outer h')/\st'.tm=c.tm/\st'.r=c.r/\k v st'=some r/\RV P w' v E/\(L=[]->∀p,p∈(h.outer h').wr->p∈h.wr\/h.next<=p\/Lp h.get p):=Mm (h:=h) (hi:=h.inner) (ho:=h.outer h') rfl rfl (λo h1 h2=>by have:h.next<=o:=h2.1;omega) (λ_ e=>by cases e) J F I D hp rfl rfl rfl (λ_ e=>C3 e) (λe=>Dm e) hr
theorem Yg(V:fb P A R){st:ae}(hs:ah P w st.ob st.nx h){f:FuncId}{args:List SV}{xs:List AV}(hx:au P w args xs){k:SV->ae->Option ρ}{r:ρ}(hr:E8 A R st f args k=some r):sT P w h st f xs k kp r False:=by
 unfold E8 at hr
 split at hr
 case h_2=>cases hr
 rename_i i hid
 split at hr
 case h_2=>cases hr
 rename_i t rows hb
 obtain⟨rows',Q,hr⟩:=Ax hr
 have D:cq st.ob [i] [i]=[.mp t rows false]:=by simp only[cq,hb]
 have E:=hs.sub (L:=[i]) rfl (by rw[D];rfl)
 rw[D]at E
 rcases V.inl _ _ _ _ _ _ Q (w.sub [i]) h xs E (hx.gK [i])with⟨m,w1,st',h',v,y,q1,q2,_,_,q5,q6,q7,_⟩|⟨_,_,_,_,_,_,_,_,_,_,_,q5,_⟩
 case inr=>cases q5
 have hv:v=.bC []/\st'.ob.get 0=some (.mp t rows' false):=by
  unfold FL at q5
  split at q5
  .rename_i t' N hg
   split at q5
   .rename_i e;subst e;cases q5;exact⟨rfl,hg⟩
   .cases q5
  .cases q5
 obtain⟨rfl,T⟩:=hv
 obtain⟨_,o,es,cl,_,c,_⟩:=hs.mp i t rows false hb
 have K:(w.sub [i]).s 0=some (.mp o):=by simp only[Wd.sub,List.getElem?_cons_zero,Option.bind_some];exact c
 have O:w1.s 0=some (.mp o):=q2.s _ _ K
 have I:(E7 t rows).ob=bP (cq st.ob [i] [i]) 0 .leaf:=by rw[D];rfl
 rw[I]at q2
 have hlt:i<st.nx:=hs.oy hb
 have hA:=NS hs q1 q2.next (λo h1 h2=>q2.ck o h1 h2) ((aX.sub w [i]).trans q2.le) (λo f=>q2.F o f) λj hj=>by rw[List.mem_singleton.1 hj];exact hlt
 have M:w1.g=h'.get:=funext q1.g
 have S:dp P {g:=h'.get,F:=w1.F,s:=w.s} h' i (.mp t rows' false):=(q1.gJ T).to (by simp) (.imp M.symm λ_ f=>f) (λ_ f=>f) O c
 have J:Ow (w.sub [i]) (bP (cq st.ob [i] [i]) 0 .leaf) o:=⟨0,.mp o,⟨_,by rw[<-I];exact Tr.a7 ..,by simp⟩,K,rfl⟩
 obtain⟨Y,_⟩:=hA.Fx (w':={g:=h'.get,F:=w1.F,s:=w.s}) (i:=i) (nx':=st.nx) (x:=.mp t rows' false) (k:=.mp o) rfl rfl (λ_ _=>rfl) c (.inr c) (by rintro⟨z,e1,e2⟩;rw[ma,if_pos (by simp)]at e1;cases e1;exact e2 rfl) (λo' e=>by cases e;exact⟨λhow=>(zy hs rfl how).1 J,Nat.lt_of_lt_of_le (hs.lt i _ o c rfl) q2.next⟩) S hlt (aC _)
 have X:=Y.congr (ob':=st.ob.put i (.mp t rows' false)) λj=>by
  by_cases e:j=i
  .subst e;rw[Tr.a7,Tr.a7]
  .rw[Tr.aL _ _ e,Tr.aL _ _ e,ma,if_neg (by simpa using e)]
 refine .inl ⟨m,_,{st with ob:=st.ob.put i (.mp t rows' false)},h',.bC [],y,X,⟨((aX.sub w [i]).trans q2.le).trans (.imp M.symm λ_ f=>f),λ_ _ e=>e,q2.next,q2.floor,λo h1 h2=>q2.ck o h1 λe=>h2 e.kJ,?_,?_,?_,q2.ea,E0 hb (by simp)⟩,rfl,rfl,hr,q6,?_,λe=>e.elim⟩
 .rintro o'⟨j,k',⟨z,e1,e2⟩,e3,U⟩
  by_cases e:j=i
  .subst e;exact .inr ⟨j,k',⟨_,hb,by simp⟩,e3,U⟩
  .rw[Tr.aL _ _ e]at e1;exact .inr ⟨j,k',⟨z,e1,e2⟩,e3,U⟩
 .intro o' f
  rcases q2.F o' f with e|e|e
  .exact .inl e
  .exact .inr (.inl e)
  .exact .inr (.inr e.kJ)
 .intro o' e
  rcases q2.wr o' e with e|e|e|e
  .exact .inl e
  .exact .inr (.inl e)
  .exact .inr (.inr (.inl e.kJ))
  .exact .inr (.inr (.inr e))
 .cases q7 with|bC a=>cases a;exact .bC .nil
theorem Mn(Q:fb P A R){st:ae}(hs:ah P w st.ob st.nx h){f:FuncId}{fn:Func}(hfn:P.funcs[f]?=some fn){args:List SV}{xs:List AV}(hx:au P w args xs){k:SV->ae->Option ρ}{r:ρ}(hr:AB P A R fn kp st f args k=some r):
 sT P w h st f xs k kp r (dV (args.map (mS st.ob))=[]):=by
 unfold AB at hr
 split at hr
 .rename_i g hg
  split at hr
  case h_2=>cases hr
  rename_i b v hv
  rcases rO hr with⟨rfl,hr⟩|⟨_,hr⟩
  case inr=>cases hr
  obtain⟨F0,p1,p3,o⟩:=lx hs (args.flatMap bl);have z:=tV p3 o (λc hc=>hc) hx;obtain⟨y,Z,Y⟩:=Q.kn.some f g hg _ h xs _ v p1.1.g z hv;refine .inl ⟨1,_,{st with ob:=bo st.ob (args.flatMap bl)},h,v,y,p1.1,p1.2.1,rfl,rfl,hr,?_,Y,λ_ p e=>.inl e⟩;show jP P _ .normal f xs .none h=_;unfold jP;rw[Z]
 rename_i O
 split at hr
 .cases hr
 rename_i bu aA L wi hc
 split at hr
 .cases hr
 rename_i D
 simp only[bB]at D
 have M:=aa3 hc
 obtain⟨r0,K,hr⟩:=aa0 hr
 obtain⟨F0,p1,p3,o⟩:=lx hs (args.flatMap bl)
 have z:=tV p3 o (λc hc=>hc) hx
 obtain⟨w2,X,V,U,T,N,c6,rfl,S⟩:=DO (st:={st with ob:=bo st.ob (args.flatMap bl)}) p1.1 z hc
 obtain⟨m,fn',h',e1,e2⟩:=Q.call _ _ _ _ _ _ K (w2.sub L) h xs N c6
 rw[hfn]at e1;cases e1
 rcases hr _ _ e2 with⟨b,⟨y,q1,q2⟩,q3⟩|⟨t,row,b,⟨y,q1,q0,q2⟩,q3⟩
 .obtain⟨w',st',v,t1,J,I,F,E,t6,t7⟩:=DP (o0:=A.own f) X S N D.2 q2 q3;exact .inl ⟨m,w',st',_,v,y,t1,(p1.2.1.trans V).trans J,I.trans U,F.trans T,E,q1,t6,λe=>t7 (M e)⟩
 .obtain⟨w',st',v,t1,J,I,F,E,_⟩:=DP (o0:=0) X S N D.2 q2 q3;exact .inr ⟨m,w',st',_,t,row,y,t1,(p1.2.1.trans V).trans J,I.trans U,F.trans T,E,q1,q0⟩
def ld(h:AHeap)(o:Nat):Prop:=o<h.next/\h.get o≠none
theorem ah.ld{ob:Tr aq}{nx:Nat}(hs:ah P w ob nx h):ah P (w.more (ld h)) .leaf nx h:=⟨hs.g,λi t cs e=>by simp[Tr.get]at e,λi t rows l e=>by simp[Tr.get]at e,λi s l e=>by simp[Tr.get]at e,λi j k l o h1=>by obtain⟨x,e,_⟩:=h1;simp[Tr.get]at e,hs.lt,λi e=>⟨(hs.nx i e).1,by simp[Tr.get]⟩,λo f=>f.elim (hs.bU o) id,hs.new,λi t rows l e=>by simp[Tr.get]at e,λi t rows l e=>by simp[Tr.get]at e⟩
theorem aa4{F G:Nat->Prop}(z:∀o,F o->G o):aX (w.more F) (w.more G):=⟨λo e=>e.imp id (z o),λ_ _ e _=>e,λ_ e=>⟨e,id⟩,λ_ _ v mv c fz el ex sh e=>⟨v,[],fz,el,ex,sh,by rw[List.append_nil];exact e,aC _⟩,λ_ _ _ _ e=>e⟩
theorem NT(hs:ah P w ob nx h){v:SV}{x:AV}(hx:RV P w v x):RV P (w.more (ld h)) (bU ob v) x:=by
 obtain⟨F,p1,p2,D,p3,z⟩:=lE hs [v]
 have c:aX (w.more F) (w.more (ld h)):=aa4 λo f=>by obtain⟨i,k,e1,e2,e3⟩:=D o f;exact⟨hs.lt i k o e2 e3,hs.there e1 e2 e3⟩
 exact RV.mono c (λ_ _ e=>e) (oo (F:=F) p3 z (by simp) hx)
theorem DQ(hs:ah P w ob nx h):∀{vs:List SV}{xs:List AV},au P w vs xs->au P (w.more (ld h)) (vs.map (bU ob)) xs|[],_,.nil=>.nil|_::_,_,.cons a b=>.cons (NT hs a) (DQ hs b)
theorem NU(hs:ah P w ob nx h){v:SV}{x:AV}(hx:RV P w v x):RV P (w.more (ld h)) (vz ob v) x:=by
 unfold vz
 split
 .rename_i i off
  split
  .rename_i t cs hb
   split
   .rename_i h1 h2;obtain⟨o,c,sh,D,E,z,I,F⟩:=hs.box i t cs hb;cases hx with|ref e=>rw[D]at e;cases e;have hl:=z.length;refine .pb (.inr ⟨hs.lt i _ _ D rfl,by grind⟩) (by rw[<-E];exact hs.g _) rfl (by grind) (by grind) h1 (za h2) ?_;rw[List.length_map,hl,List.take_of_length_le (aC _)];exact DQ hs z
   .exact .aM _
  .exact .aM _
 .exact NT hs hx
theorem Mo(hs:ah P w ob nx h):∀{vs:List SV}{xs:List AV},au P w vs xs->au P (w.more (ld h)) (vs.map (vz ob)) xs|[],_,.nil=>.nil|_::_,_,.cons a b=>.cons (NU hs a) (Mo hs b)
theorem acs(hs:ah P w ob nx h){v:SV}{x:AV}(hx:RV P w v x):RV P (w.more (ld h)) (wa ob v) x:=by
 unfold wa
 split
 .cases hx with|fn a=>exact .fn (Mo hs a)|fR=>exact .fR
 .cases hx with|agg a=>exact .agg (DQ hs a)
 .exact NU hs hx
theorem NV(hs:ah P w ob nx h):∀{vs:List SV}{xs:List AV},au P w vs xs->au P (w.more (ld h)) (vs.map (wa ob)) xs|[],_,.nil=>.nil|_::_,_,.cons a b=>.cons (acs hs a) (NV hs b)
theorem ah.old{h':AHeap}(hs:ah P w ob nx h)(hg:∀o,o<h.next->h'.get o=h.get o)(hn:h.next<=h'.next)(D:∀o,h'.next<=o->h'.get o=none)(hf:h'.floor=h.floor)(hw:∀p,p∈h'.wr->p∈h.wr\/h.next<=p\/Lp h.get p)(F:(∀o,o∈h.wr->o<h.floor)->∀o,o∈h'.wr->o<h'.floor):
 ah P (w.heap h'.get) ob nx h'/\a8 w ob h (w.heap h'.get) ob h':=by
 have hlt:∀{o:Nat}{x:cr},h.get o=some x->o<h.next:=λ{o x}e=>by
  rcases Nat.lt_or_ge o h.next with q|q
  .exact q
  .rw[hs.new o q]at e;cases e
 have E:aX w (w.heap h'.get):=⟨λ_ f=>f,λo x e _=>by rw[hs.g]at e;show h'.get o=_;grind,λo e=>by rw[hs.g]at e;obtain⟨x,hx⟩:=Option.ne_none_iff_exists'.1 e;show h'.get o≠none/\(Lp h'.get o->Lp w.g o);unfold Lp;rw[hg o (hlt hx),hs.g];grind,λo f v mv c fz el ex sh e=>⟨v,[],fz,el,ex,sh,by rw[hs.g]at e;show h'.get o=_;grind,aC _⟩,λo f es cl e=>by rw[hs.g]at e;show h'.get o=_;grind⟩
 have z:∀j y,ob.get j=some y->dp P (w.heap h'.get) h' j y:=by intro j y e;cases y with|gone=>trivial|_=>exact(hs.gJ e).move E (λ_ _ e=>e) λk o h1 h2=>⟨hg o (hs.lt j k o h1 h2),λf=>f⟩
 refine⟨⟨λ_=>rfl,λi t cs e=>z i _ e,λi t rows l e=>z i _ e,λi s l e=>z i _ e,hs.inj,λi k o h1 h2=>Nat.lt_of_lt_of_le (hs.lt i k o h1 h2) hn,hs.nx,λo f=>⟨Nat.lt_of_lt_of_le (hs.bU o f).1 hn,by rw[hg o (hs.bU o f).1];exact(hs.bU o f).2⟩,D,λi t rows l e=>z i _ e,λi t rows l e=>z i _ e⟩,⟨E,λ_ _ e=>e,hn,hf,λo h1 _=>hg o h1,λo e=>.inr e,λo e=>.inl e,λo e=>(hw o e).imp id (.imp id .inr),F,λi t cs e=>⟨cs,e⟩⟩⟩
theorem Yh(z:fb P A R){st:ae}(hs:ah P w st.ob st.nx h){f:FuncId}{fn:Func}(hfn:P.funcs[f]?=some fn){args:List SV}{xs:List AV}(hx:au P w args xs){k:SV->ae->Option ρ}{r:ρ}(hr:E9 P A R fn st f args k=some r):
 sT P w h st f xs k kp r True:=by
 unfold E9 at hr
 split at hr
 .rcases Mn (st:={st with ob:=.leaf}) z hs.ld hfn (NV hs hx) hr with⟨m,w',st',h',v,y,q1,q2,q3,q4,q5,q6,q7,_⟩|⟨_,_,_,_,_,_,_,_,_,_,_,q5,_⟩
  case inr=>cases q5
  simp only at q5
  split at q5
  .rename_i u
   have c:∀o,¬Ow (w.more (ld h)) .leaf o:=by rintro o⟨j,k,⟨x,e,_⟩,_⟩;simp[Tr.get]at e
   have hw:∀p,p∈h'.wr->p∈h.wr\/h.next<=p\/Lp h.get p:=λp e=>by
    rcases q2.wr p e with e|e|e|e
    .exact .inl e
    .exact .inr (.inl e)
    .exact absurd e (c p)
    .exact .inr (.inr e)
   obtain⟨E,D⟩:=hs.old (h':=h') (λo e=>q2.ck o e (c o)) q2.next q1.new q2.floor hw q2.ea;refine .inl ⟨m,_,st,h',.sc u,y,E,D,rfl,rfl,q5,q6,?_,λ_=>hw⟩;cases q7 with|sc e=>exact .sc e
  .cases q5
 .cases hr
theorem Mp(c:fb P A R){st:ae}(hs:ah P w st.ob st.nx h){f:FuncId}{args:List SV}{xs:List AV}(hx:au P w args xs){k:SV->ae->Option ρ}{r:ρ}(hr:AD P A R kp st f args k=some r):
 sT P w h st f xs k kp r ((A.inl f=false/\A.HF f=false)/\(A.tf f=true\/dV (args.map (mS st.ob))=[])):=by
 unfold AD at hr
 split at hr
 .cases hr
 rename_i fn hfn
 split at hr
 .rename_i D
  rcases c.inl _ _ _ _ _ _ hr w h xs hs hx with⟨m,w',st',h',v,y,q1,q2,q3,q4,q5,q6,q7,_⟩|q
  .exact .inl ⟨m,w',st',h',v,y,q1,q2,q3,q4,q5,q6,q7,λe=>by grind⟩
  .exact .inr q
 split at hr
 .rename_i z
  rcases Yg (kp:=kp) c hs hx hr with⟨m,w',st',h',v,y,q1,q2,q3,q4,q5,q6,q7,_⟩|q
  .exact .inl ⟨m,w',st',h',v,y,q1,q2,q3,q4,q5,q6,q7,λe=>by grind⟩
  .exact .inr q
 split at hr
 .rcases Yh (kp:=kp) c hs hfn hx hr with⟨m,w',st',h',v,y,q1,q2,q3,q4,q5,q6,q7,q8⟩|q
  .exact .inl ⟨m,w',st',h',v,y,q1,q2,q3,q4,q5,q6,q7,λ_=>q8 trivial⟩
  .exact .inr q
 .rename_i o
  rcases Mn c hs hfn hx hr with⟨m,w',st',h',v,y,q1,q2,q3,q4,q5,q6,q7,q8⟩|q
  .exact .inl ⟨m,w',st',h',v,y,q1,q2,q3,q4,q5,q6,q7,λe=>q8 (e.2.resolve_left (by simp_all))⟩
  .exact .inr q
theorem W7(Q:fb P A R){st:ae}(hs:ah P w st.ob st.nx h){f:FuncId}{ts:List Tmp}{caps args:List SV}{l:Nat}{xs:List AV}(hy:RV P w (.yl f ts caps) (.eB l))(hx:au P w args xs){k:SV->ae->Option ρ}{r:ρ}(hr:Em P A R st f ts caps args k=some r):
 ∃m w' st' h',ah P w' st'.ob st'.nx h'/\a8 w st.ob h w' st'.ob h'/\st'.tm=st.tm/\st'.r=st.r/\k (.sc (.bool true)) st'=some r/\(bE P m).round l xs h=some (.ret (.sc (.bool true)),h'):=by
 unfold Em at hr
 split at hr
 .cases hr
 rename_i bu aA L z hc
 split at hr
 .cases hr
 rename_i o
 simp only[bB]at o
 obtain⟨r0,F,hr⟩:=Ax hr
 obtain⟨F0,p1,p3,D⟩:=lx hs (args.flatMap bl)
 have E:=tV p3 D (λc hc=>hc) hx
 cases hy with
 |@yl _ _ ps _ _ tn dd tm hd bd T g2 S=>
  have hall:=(S.mono (aX.more w F0) λ_ _ e=>e).append E
  obtain⟨J,c1,Z,Y,X,I,V,rfl,U⟩:=DO (st:={st with ob:=bo st.ob (args.flatMap bl)}) p1.1 hall hc
  have hok:iW (cq z.ob L L)=true:=by
   unfold lF at hc
   simp only at hc
   split at hc
   .grind
   .cases hc
  obtain⟨m,h',q1,q2⟩:=Q.gZ _ _ _ _ _ _ F o.2 hok (J.sub L) h l tn dd tm ps hd bd xs I (by rw[<-hs.g];exact T) g2 V;obtain⟨w',st',v,t1,O,N,M,K,_,_⟩:=Mm (o0:=0) (ho:=h') rfl rfl (λ_ _ e=>e) (λ_ e=>e) c1 U I o.1.2 q2 rfl rfl q2.choose_spec.choose_spec.choose_spec.choose_spec.choose_spec.2.1.floor (λ_ e=>.inr e) q2.choose_spec.choose_spec.choose_spec.choose_spec.choose_spec.2.1.ea hr;exact⟨m,w',st',h',t1,(p1.2.1.trans Z).trans O,N.trans Y,M.trans X,K,q1⟩
theorem Yi(Q:fb P A R){st:ae}(hs:ah P w st.ob st.nx h){f:FuncId}{md:jg}{cm:bD}(hm:CE P md cm){args:List SV}{xs:List AV}(hx:au P w args xs){k:Bool->ae->Option ρ}{r:ρ}(hr:vb P A R st f md args k=some r):
 ∃m fn w' st' h' b y cm',P.funcs[f]?=some fn/\ah P w' st'.ob st'.nx h'/\a8 w st.ob h w' st'.ob h'/\st'.tm=st.tm/\st'.r=st.r/\k b st'=some r/\(bE P m).call .deferred f xs cm h=some (.ret y,cm',h')/\s8 md b cm':=by
 unfold vb at hr
 split at hr
 .cases hr
 rename_i fn hfn
 split at hr
 .cases hr
 rename_i bu aA L O hc
 split at hr
 .cases hr
 rename_i o;simp only[bB]at o;obtain⟨⟨b,r0⟩,E,hr⟩:=Ax hr;obtain⟨F0,p1,p3,z⟩:=lx hs (args.flatMap bl);have D:=tV p3 z (λc hc=>hc) hx;obtain⟨I,Z,Y,X,V,F,U,rfl,T⟩:=DO (st:={st with ob:=bo st.ob (args.flatMap bl)}) p1.1 D hc;obtain⟨m,S,y,h',cm',e1,e2,e3,q2⟩:=Q.qD _ _ _ _ _ _ _ E (I.sub L) h xs cm F U hm;rw[hfn]at e1;cases e1;obtain⟨w',st',v,t1,N,M,K,J,_,_⟩:=DP (o0:=A.own f) Z T F o.2 q2 hr;exact⟨m,fn,w',st',_,b,y,cm',hfn,t1,(p1.2.1.trans Y).trans N,M.trans X,K.trans V,J,e2,e3⟩
end
end Go.AI
end

section
namespace Go.AI
variable [Kn]
section
variable {P:Program}{w w':Wd}{ob ob':Tr aq}{nx:Nat}{h h':AHeap}{ρ:Type}{A:dr}{R:dJ A.pn}{kp:TypeId->List AV->ae->Option ρ}
def E2(h h':AHeap):Prop:=∀p,p∈h'.wr->p∈h.wr\/h.next<=p\/Lp h.get p
def Uv(P:Program)(A:dr)(w:Wd)(h:AHeap)(S:ae)(o:Oper)(k:SV->ae->Option ρ)(kp:TypeId->List AV->ae->Option ρ)(r:ρ)(cx:Ctx)(cm:bD)(ρ':Operand->AV):Prop:=(∃m w' c h' v y,ah P w' c.ob c.nx h'/\a8 w S.ob h w' c.ob h'/\c.tm=S.tm/\c.r=S.r/\k v c=some r/\cV P (bE P m) cx ρ' o cm h=some (.val y cm h')/\RV P w' v y/\(hO A S o=true->E2 h h'))\/(∃m w' c h' t row y,ah P w' c.ob c.nx h'/\a8 w S.ob h w' c.ob h'/\c.tm=S.tm/\c.r=S.r/\kp t row c=some r/\cV P (bE P m) cx ρ' o cm h=some (.aN y h')/\gY P t row y)
theorem Yj(O:fb P A R){S:ae}(hs:ah P w S.ob S.nx h){o:Oper}{ρ':Operand->AV}(J:∀x,x∈o.op.operands.toList->RV P w (bH S.tm x) (ρ' x))(hC:vr o.op=true){k:SV->ae->Option ρ}{r:ρ}(hr:h9 P A R kp o S k=some r)(cx:Ctx)(cm:bD):
 Uv P A w h S o k kp r cx cm ρ':=by
 unfold vr at hC
 split at hC
 case h_2=>cases hC
 rename_i c z
 split at hC
 case h_2=>cases hC
 rename_i fo K
 obtain⟨callee,args,Q⟩:=c
 simp only at K
 subst K
 unfold h9 at hr
 simp only[z]at hr
 split at hr
 case h_3=>cases hr
 case h_2=>
  rename_i f ts caps F
  have hf:=J fo (by rw[z];simp[Op.operands,Call.operands])
  rw[F]at hf
  have D:au P w (args.toList.map (bH S.tm)) (args.toList.map ρ'):=au.map _ λa ha=>J a (by rw[z];simp only[Op.operands,Call.operands];simp;exact .inr (by simpa using ha))
  generalize hy:ρ' fo=y at hf
  obtain⟨l,rfl⟩:∃l,y=.eB l:=by cases hf;exact⟨_,rfl⟩
  obtain⟨m,w',L,h',q1,q2,q3,q4,q5,q6⟩:=W7 O hs hf D hr
  refine .inl ⟨m,w',L,h',_,_,q1,q2,q3,q4,q5,?_,.sc rfl,λhp=>?_⟩
  .unfold cV
   have:aV P ρ' o h=some (.round l (args.toList.map ρ'),h):=by simp only[aV,z,gT,hy]
   rw[this];simp only[q6]
  .unfold hO at hp;rw[z]at hp;simp only[F]at hp;cases hp
 rename_i f caps F
 split at hr
 case h_2=>cases hr
 rename_i fn hfn
 have hf:=J fo (by rw[z];simp[Op.operands,Call.operands])
 rw[F]at hf
 have D:au P w (args.toList.map (bH S.tm)) (args.toList.map ρ'):=au.map _ λa ha=>J a (by rw[z];simp only[Op.operands,Call.operands];simp;exact .inr (by simpa using ha))
 obtain⟨xs,I,E⟩:∃xs,au P w caps xs/\aV P ρ' o h=iM P h f (args.toList.map ρ'++xs):=by generalize hy:ρ' fo=y at hf;cases hf with|fn a=>exact⟨_,a,by simp only[aV,z,gT,hy,mO,zj,List.nil_append]⟩|fR=>exact⟨[],.nil,by simp only[aV,z,gT,hy,mO,zj];rfl⟩
 split at hr
 .rename_i code hb
  rcases Mp O hs (D.append I) hr with⟨m,w',L,h',v,y,q1,q2,q3,q4,q5,q6,q7,q8⟩|⟨m,w',L,h',t,row,y,q1,q2,q3,q4,q5,q6,q7⟩
  case inr=>refine .inr ⟨m,w',L,h',t,row,y,q1,q2,q3,q4,q5,?_,q7⟩;unfold cV;rw[E];simp only[iM,hfn,hb,q6]
  refine .inl ⟨m,w',L,h',v,y,q1,q2,q3,q4,q5,?_,q7,λhp=>q8 ?_⟩
  .unfold cV;rw[E];simp only[iM,hfn,hb,q6]
  .unfold hO at hp
   rw[z]at hp
   simp only[F]at hp
   simp only[bB,Bool.or_eq_true,Bool.not_eq_true']at hp
   refine⟨hp.1,hp.2.imp id λhp=>?_⟩
   split at hp
   .rename_i e;exact e
   .cases hp
 .rename_i hb
  split at hr
  .rename_i x hk hl
   have hall:=D.append I
   rw[hl]at hall
   obtain⟨y,N,M⟩:∃y,args.toList.map ρ'++xs=[y]/\RV P w x y:=by generalize args.toList.map ρ'++xs=l at hall;cases hall with|cons a b=>cases b;exact⟨_,rfl,a⟩
   refine .inl ⟨0,w,S,h,x,y,hs,.refl _ _ _,rfl,rfl,hr,?_,M,λ_ p hp=>.inl hp⟩;unfold cV;rw[E,N];simp only[iM,hfn,hb,hk,Du]
  .cases hr
theorem NW{S:ae}{F:Nat->Prop}{I:Tr aq}{obj:cr}{y:Nat->AV}{v:SV}{x:aq}{lk:Nat->Lk}(q1:ah P (w.more F) I S.nx h)(q2:fV S.ob I)(q3:∀o,F o->Ow w S.ob o)(q6:x≠.gone)(q7:∀a,(lk a).obj=some a)
 (q8:∀(w':Wd)(h':AHeap)(a:Nat),aX (w.more F) w'->(∀i k,w.s i=some k->w'.s i=some k)->w'.s S.nx=some (lk a)->h'.get a=some obj->¬w'.F a->dp P w' h' S.nx x/\RV P w' v (y a))
 {a:Nat}{h':AHeap}(ha:h.get a=none)(Z:a<h'.next)(X:h'.get a=some obj)(J:∀o,o≠a->h'.get o=h.get o)(M:h.next<=h'.next)(N:∀o,h'.next<=o->h'.get o=none)(Q:h'.floor=h.floor)(T:h'.wr=h.wr)
 {w0:Wd}{eL:Tr aq}{h0:AHeap}(E:a8 w0 eL h0 w S.ob h)(s9:h0.next<=a):
 ∃w',ah P w' (I.put S.nx x) (S.nx+1) h'/\a8 w0 eL h0 w' (I.put S.nx x) h'/\aX w w'/\(∀i k,w.s i=some k->w'.s i=some k)/\RV P w' v (y a):=by
 have O:¬(w.more F).F a:=λf=>(q1.bU a f).2 ha
 have U:((w.more F).put h'.get S.nx (lk a)).s S.nx=some (lk a):=by simp[Wd.put]
 have K:∀i k,w.s i=some k->((w.more F).put h'.get S.nx (lk a)).s i=some k:=by
  intro i k e
  have:i≠S.nx:=by rintro rfl;have:=(q1.nx _ (aC _)).1;have e':(w.more F).s S.nx=some k:=e;rw[this]at e';cases e'
  simp only[Wd.put];rw[if_neg this];exact e
 have L:aX (w.more F) ((w.more F).put h'.get S.nx (lk a)):=⟨λ_ f=>f,λo x e _=>by rw[q1.g]at e;show h'.get o=_;grind,λo e=>by rw[q1.g]at e;have:h'.get o=h.get o:=J o λe2=>e (by rw[e2,ha]);show h'.get o≠none/\(Lp h'.get o->Lp (w.more F).g o);unfold Lp;rw[this,q1.g];grind,λo f Y mv c fz el ex sh e=>⟨Y,[],fz,el,ex,sh,by simp only[Wd.put,List.append_nil];rw[J o λe2=>O (e2▸f),<-q1.g];exact e,aC _⟩,λo f es cl e=>by rw[q1.g]at e;show h'.get o=_;grind⟩
 obtain⟨b1,b2⟩:=q8 _ h' a L K U X O
 obtain⟨c1,c2,c3⟩:=q1.fresh (h':=h') (lk:=lk a) (x:=x) (λb e=>by grind) (λo e=>J o λe2=>e (by rw[q7,e2])) M N b1
 have D:=E.trans (a8.bo q2 q3)
 refine⟨_,c1,⟨D.le.trans L,λi k e=>K i k (E.s i k e),Nat.le_trans E.next M,by rw[Q];exact E.floor,λo h1 h2=>by rw[J o (by omega)];exact D.ck o h1 h2,?_,λo f=>D.F o f,λo e=>E.wr o (by grind),λe=>by rw[T,Q];exact E.ea e,λi t cs e=>?_⟩,(aX.more w F).trans L,K,b2⟩
 .rintro o⟨j,k,⟨z,h1,h4⟩,h2,h3⟩
  simp only[Wd.put]at h2
  split at h2
  .grind
  .rename_i V;rw[Tr.aL _ _ V]at h1;exact D.own o ⟨j,k,⟨z,h1,h4⟩,h2,h3⟩
 .obtain⟨c,e1⟩:=D.bx i t cs e;exact E1 (q1.nx _ (aC _)).2 i t c e1
theorem Yk(h:AHeap)(y:cr):E2 h (h.alloc y):=λ_ e=>.inl e
theorem Pt(E:fb P A R){S:ae}(hs:ah P w S.ob S.nx h){o:Oper}{ρ':Operand->AV}(c:∀x,x∈o.op.operands.toList->RV P w (bH S.tm x) (ρ' x)){k:SV->ae->Option ρ}{r:ρ}(hr:h9 P A R kp o S k=some r)(cx:Ctx)(cm:bD):
 Uv P A w h S o k kp r cx cm ρ':=by
 cases hF:cd o.op with
 |true=>obtain⟨F,z,q1,q2,q3,v,y,q4,q5,q6⟩:=Mf hs c (λ_ _ _ _ _=>rfl) hF hr;refine .inl ⟨0,_,{S with ob:=z},h,v,y,q1,.bo q2 q3,rfl,rfl,q4,?_,q6,λ_ p hp=>.inl hp⟩;unfold cV;rw[q5]
 |false=>
  cases hA:bg o.op with
  |true=>
   obtain⟨F,eL,obj,y,v,x,lk,q1,q2,q3,q4,q5,q6,q7,q8⟩:=(NR hs c hA hr).ok;obtain⟨w',K,J,_,_,I⟩:=NW (h':=h.alloc obj) (a:=h.next) q1 q2 q3 q6 q7 q8 (q1.new _ (aC _)) (Nat.lt_succ_self _) (by simp only[AHeap.get,AHeap.alloc,Tr.a7]) (λo e=>by simp only[AHeap.get,AHeap.alloc,Tr.aL _ _ e]) (Nat.le_succ _)
    (λo ho=>by
     have D:h.next+1<=o:=ho
     have e:o≠h.next:=by omega
     have:=q1.new o (by omega);simp only[AHeap.get,AHeap.alloc,Tr.aL _ _ e];exact this) rfl rfl (a8.refl w S.ob h) (aC _);refine .inl ⟨0,w',{S with ob:=eL.put S.nx x,nx:=S.nx+1},h.alloc obj,v,_,K,J,rfl,rfl,q5,?_,I,λ_=>Yk _ _⟩;unfold cV;rw[q4]
  |false=>
   cases hC:vr o.op with
   |true=>exact Yj E hs c hC hr cx cm
   |false=>
    obtain⟨w',ob',nx',h',v,y,q1,q2,q3,q4,q5⟩:=aaV hs c hA hF hC hr
    refine .inl ⟨0,w',{S with ob:=ob',nx:=nx'},h',v,y,q1,q2,rfl,rfl,q3,?_,q5,λhp=>?_⟩
    .unfold cV;grind
    .unfold hO at hp;unfold vr at hC;grind
end
end Go.AI
end

section
namespace Go.AI
variable [Kn]
inductive gd(P:Program)(w:Wd):List (FuncId×List SV)->List ey->Prop|nil:gd P w [] []|dD{d:Nat}{l:List (FuncId×List SV)}{l':List ey}:gd P w l l'->gd P w l (.dD d::l')|cons{f:FuncId}{args:List SV}{cap xs:List AV}{l:List (FuncId×List SV)}{l':List ey}:au P w args (xs++cap)->gd P w l l'->gd P w ((f,args)::l) (.fn (.func f) cap xs::l')
theorem gd.mono{P:Program}{w w':Wd}(hl:aX w w')(hs:∀i k,w.s i=some k->w'.s i=some k){l:List (FuncId×List SV)}{l':List ey}(h:gd P w l l'):gd P w' l l':=by induction h with|nil=>exact .nil|dD _ c=>exact .dD c|cons a _ c=>exact .cons (a.mono hl hs) c
theorem gd.NX{P:Program}{w w':Wd}{l:List (FuncId×List SV)}{l':List ey}(h:gd P w l l'):l=[]->gd P w' l l':=by induction h with|nil=>intro _;exact .nil|dD _ c=>intro e;exact .dD (c e)|cons _ _ _=>grind
def sU:List ey->Prop|[]=>True|.dD d::l=>ey.dD d∉l/\sU l|.fn _ _ _::l=>sU l
structure bN(P:Program)(cx:Ctx)(w:Wd)(st:ae)(a:aD):Prop where
 h:ah P w st.ob st.nx a.h
 tm:eQ P w st.tm a.tm
 al:∀x y,(x,y)∈st.al->∃b,a.tm.get x=some (.sc (.bool b))/\a.tm.get y=some (.sc (.bool b))
 df:gd P w st.df a.df
 cm:CE P st.cm a.cm
 rn:cx.round=none\/st.cm=.gZ
 kd:st.cm=.no\/st.cm=.gZ\/cx.kind=.deferred
 co:((st.cm=.gZ\/a.h.floor<=a.h.next)/\sU a.df)/\∀d,ey.dD d∈a.df->a.h.floor<=d/\a.h.get d=some (.cE (some []))
section
variable {P:Program}{cx:Ctx}{w w':Wd}{st:ae}{a:aD}{ρ:Type}{A:dr}{R:dJ A.pn}{kp:TypeId->List AV->ae->Option ρ}
theorem eQ.put{tm:Tr SV}{bY:Tr AV}{d:Tmp}{v:SV}{x:AV}(h:eQ P w tm bY)(hx:RV P w v x):eQ P w (tm.put d v) (bY.put d x):=by
 refine⟨λt u e=>?_⟩
 by_cases e2:t=d
 .subst e2;rw[Tr.a7]at e;cases e;exact⟨x,Tr.a7 ..,hx⟩
 .rw[Tr.aL _ _ e2]at e;obtain⟨y,a,b⟩:=h.tm t u e;exact⟨y,by rw[Tr.aL _ _ e2];exact a,b⟩
theorem eQ.vZ{tm:Tr SV}{bY:Tr AV}{d:Tmp}{v:SV}{x:AV}(h:eQ P w tm bY)(hd:bY.get d=some x)(hx:RV P w v x):eQ P w (tm.put d v) bY:=by
 refine⟨λt u e=>?_⟩
 by_cases e2:t=d
 .subst e2;rw[Tr.a7]at e;grind
 .rw[Tr.aL _ _ e2]at e;exact h.tm t u e
theorem yN{d:Tmp}{t:Bool}{bY:Tr AV}(hd:bY.get d=some (.sc (.bool t))):∀{l:List (Tmp×Tmp)}{tm:Tr SV},(∀x y,(x,y)∈l->∃b,bY.get x=some (.sc (.bool b))/\bY.get y=some (.sc (.bool b)))->eQ P w tm bY->eQ P w (refine d t l tm) bY
 |[],_,_,h=>h
 |(x,y)::l,tm,hl,h=>by
  obtain⟨b,h1,h2⟩:=hl x y (List.mem_cons_self ..)
  have c:∀x y,(x,y)∈l->∃b,bY.get x=some (.sc (.bool b))/\bY.get y=some (.sc (.bool b)):=λx y e=>hl x y (List.mem_cons_of_mem _ e)
  unfold refine
  split
  .rename_i e;have:=Nat.eq_of_beq_eq_true e;subst this;rw[hd]at h2;cases h2;exact yN hd c (h.vZ h1 (.sc rfl))
  .split
   .rename_i e;have:=Nat.eq_of_beq_eq_true e;subst this;rw[hd]at h1;cases h1;exact yN hd c (h.vZ h2 (.sc rfl))
   .exact yN hd c h
theorem hT(hs:bN P cx w st a){d:Tmp}{t:Bool}(hd:a.tm.get d=some (.sc (.bool t))):bN P cx w (known st d t) a:=⟨hs.h,yN hd hs.al (hs.tm.vZ hd (.sc rfl)),hs.al,hs.df,hs.cm,hs.rn,hs.kd,hs.co⟩
theorem C4{d x y:Tmp}:∀{l:List (Tmp×Tmp)},(x,y)∈uv d l->(x,y)∈l/\x≠d/\y≠d
 |[],h=>by cases h
 |(x',c)::l,h=>by
  unfold uv at h
  split at h
  .obtain⟨a,b⟩:=C4 h;grind
  .rename_i e
   simp only[Bool.or_eq_false_iff]at e
   rcases List.mem_cons.1 h with h|h
   .cases h;exact⟨List.mem_cons_self ..,Nat.ne_of_beq_eq_false e.1,Nat.ne_of_beq_eq_false e.2⟩
   .obtain⟨a,b⟩:=C4 h;grind
def iZ(n:Nat):Option Tmp->Prop|some d=>d<n|none=>True
theorem iv(hs:bN P cx w st a){n:Nat}{dst:Option Tmp}{v:SV}{x:AV}(hx:RV P w v x)(hd:iZ n dst):∃a',a.put n dst x=some a'/\bN P cx w (dq st dst v) a'/\a'.h=a.h:=by cases dst with|none=>exact⟨a,rfl,hs,rfl⟩|some d=>refine⟨{a with tm:=a.tm.put d x},by unfold aD.put;simp only;rw[if_pos (show d<n from hd)],⟨hs.h,hs.tm.put hx,λy z e=>?_,hs.df,hs.cm,hs.rn,hs.kd,hs.co⟩,rfl⟩;obtain⟨e1,e2,e3⟩:=C4 e;obtain⟨b,o,c⟩:=hs.al y z e1;exact⟨b,by show(a.tm.put d x).get y=_;rw[Tr.aL _ _ e2];exact o,by show(a.tm.put d x).get z=_;rw[Tr.aL _ _ e3];exact c⟩
theorem Mq(hs:bN P cx w st a){n:Nat}{dst:Option Tmp}{x:Operand}(hd:iZ n dst):∃a',a.put n dst (ev a.tm x)=some a'/\bN P cx w (jZ st dst x) a'/\a'.h=a.h:=by
 obtain⟨a',q1,q2,q3⟩:=iv hs (fe hs.tm x) hd
 refine⟨a',q1,?_,q3⟩
 unfold jZ
 simp only
 split
 .rename_i d s b hv
  split
  .exact q2
  .rename_i o
   refine⟨q2.h,q2.tm,λy z e=>?_,q2.df,q2.cm,q2.rn,q2.kd,q2.co⟩
   rcases List.mem_cons.1 e with e|e
   .cases e
    have he:=fe hs.tm (.tmp s)
    rw[hv]at he
    have c:ev a.tm (.tmp s)=.sc (.bool b):=by generalize ev a.tm (.tmp s)=y at he;cases he;rfl
    unfold aD.put at q1;simp only at q1;rw[if_pos (show d<n from hd),c]at q1;cases q1;refine⟨b,Tr.a7 ..,?_⟩;show(a.tm.put d _).get s=_;rw[Tr.aL _ _ (Ne.symm (Nat.ne_of_beq_eq_false o))];simp only[ev]at c;grind
   .exact q2.al y z e
 .exact q2
theorem tW(hs:bN P cx w st a){d:Tmp}{b:Bool}(h:st.tm.get d=some (.sc (.bool b))):a.tm.get d=some (.sc (.bool b)):=by obtain⟨x,h1,h2⟩:=hs.tm.tm d _ h;cases h2;exact h1
theorem Dn(hs:bN P cx w st a){d:Tmp}(h:st.tm.get d=some (.bC [])):a.tm.get d=some (.tuple []):=by obtain⟨x,h1,h2⟩:=hs.tm.tm d _ h;cases h2 with|bC b=>cases b;exact h1
theorem jQ{b:Bool}{x y:Option ρ}{r:ρ}(h:aa b x y=some r):(b=true/\x=some r)\/(b=false/\y=some r):=by
 cases b
 .exact .inr ⟨rfl,h⟩
 .exact .inl ⟨rfl,h⟩
theorem bN.wM(hs:bN P cx w st a)(h:st.cm≠.gZ):cx.round=none:=hs.rn.resolve_right h
theorem bN.Uw(hs:bN P cx w st a)(h:st.cm≠.gZ)(h2:st.cm≠.no):cx.kind=.deferred:=(hs.kd.resolve_left h2).resolve_left h
theorem NY(hs:ah P w st.ob st.nx a.h)(hc:∀d,ey.dD d∈a.df->a.h.floor<=d/\a.h.get d=some (.cE (some []))){ob':Tr aq}{h':AHeap}(hf:a8 w st.ob a.h w' ob' h'):∀d,ey.dD d∈a.df->h'.floor<=d/\h'.get d=some (.cE (some [])):=by
 intro d hd
 obtain⟨e1,e2⟩:=hc d hd
 refine⟨by rw[hf.floor];exact e1,?_⟩
 rw[hf.ck d ?_ ?_]
 .exact e2
 .rcases Nat.lt_or_ge d a.h.next with q|q
  .exact q
  .rw[hs.new d q]at e2;cases e2
 .rintro⟨i,k,q1,q2,q3⟩;obtain⟨_,q,c⟩:=hs.cells q1 q2 q3;rw[q]at e2;cases e2;cases c
theorem bN.step(hs:bN P cx w st a){st':ae}{h':AHeap}(hh:ah P w' st'.ob st'.nx h')(hf:a8 w st.ob a.h w' st'.ob h')(o:st'.tm=st.tm)(c:st'.r=st.r):bN P cx w' st' {a with h:=h'}:=by have h1:st'.al=st.al:=congrArg (·.1) c;have h2:st'.df=st.df:=congrArg (·.2.1) c;have h3:st'.cm=st.cm:=congrArg (·.2.2) c;exact⟨hh,by rw[o];exact hs.tm.mono hf.le hf.s,by rw[h1];exact hs.al,by rw[h2];exact hs.df.mono hf.le hf.s,by rw[h3];exact hs.cm,by rw[h3];exact hs.rn,by rw[h3];exact hs.kd,by rw[h3];exact⟨hs.co.1.1.imp id λe=>by rw[hf.floor];exact Nat.le_trans e hf.next,hs.co.1.2⟩,NY hs.h hs.co.2 hf⟩
def kN(P:Program)(cx:Ctx)(w:Wd)(st:ae)(a:aD)(k:ae->Option ρ)(kp:TypeId->List AV->ae->Option ρ)(r:ρ)(run:Nat->b7->aD->Prop):Prop:=(∃m w' st' a',run m .normal a'/\bN P cx w' st' a'/\a8 w st.ob a.h w' st'.ob a'.h/\k st'=some r)\/(∃m w' st' a' t row y,run m (.panic y) a'/\bN P cx w' st' a'/\a8 w st.ob a.h w' st'.ob a'.h/\kp t row st'=some r/\gY P t row y)
theorem acu(L:fb P A R)(hs:bN P cx w st a){o:Oper}{ops:Array Oper}(hd:iZ cx.tn o.dst){k:ae->Option ρ}{r:ρ}(hr:ke P A R kp o st k=some r)(hw:cC ops o a.tm=some true):
 kN P cx w st a k kp r λm ex a'=>eu P (bE P m) cx ops o a=some (ex,a'):=by
 have mv:∀(x:Operand)(D:ae),bN P cx w D a->(∀h:AHeap,aV P (ev a.tm) o h=some (.val (ev a.tm x),h))->D.ob=st.ob->k (jZ D o.dst x)=some r->
  kN P cx w st a k kp r λm ex a'=>eu P (bE P m) cx ops o a=some (ex,a'):=by
  intro x D J he K hk
  obtain⟨a',q1,q2,q3⟩:=Mq (n:=cx.tn) (x:=x) J hd
  have F:(jZ D o.dst x).ob=D.ob:=by
   unfold jZ dq
   simp only
   split
   .grind
   .grind
  refine .inl ⟨0,w,_,a',?_,q2,by rw[q3,F,K];exact .refl _ _ _,hk⟩;simp only[eu,hw,cV,he];have:({a with cm:=a.cm,h:=a.h}:aD)=a:=rfl;rw[this,q1];rfl
 unfold ke at hr
 split at hr
 .rename_i x z;exact mv x st hs (λh=>by simp only[aV,z]) rfl hr
 .rename_i x z;exact mv x st hs (λh=>by simp only[aV,z]) rfl hr
 .rename_i c x y z
  split at hr
  .rename_i d
   split at hr
   .rename_i t ht
    have E:=tW hs ht
    rcases jQ hr with⟨rfl,hr⟩|⟨rfl,hr⟩
    .exact mv x _ (hT hs E) (λh=>by simp only[aV,z,ev,E];rfl) rfl hr
    .exact mv y _ (hT hs E) (λh=>by simp only[aV,z,ev,E];rfl) rfl hr
   .cases hr
  .rename_i t
   cases t
   .exact mv y st hs (λh=>by simp only[aV,z,ev,bz];rfl) rfl hr
   .exact mv x st hs (λh=>by simp only[aV,z,ev,bz];rfl) rfl hr
  .cases hr
 .split at hr
  .cases hr
  .rcases Pt L hs.h (λx _=>fe hs.tm x) hr cx a.cm with⟨m,w',I,h',v,y,q1,q2,q3,q4,q5,q6,q7,_⟩|⟨m,w',I,h',t,row,y,q1,q2,q3,q4,q5,q6,q7⟩
   case inr=>exact .inr ⟨m,w',I,{a with h:=h'},t,row,y,by simp only[eu,hw,q6],hs.step q1 q2 q3 q4,q2,q5,q7⟩
   obtain⟨a',p1,p2,p3⟩:=iv (n:=cx.tn) (hs.step q1 q2 q3 q4) q7 hd
   have F:(dq I o.dst v).ob=I.ob:=by cases o.dst<;>rfl
   refine .inl ⟨m,w',_,a',?_,p2,by grind,q5⟩;simp only[eu,hw,q6];rw[p1];rfl
theorem Ee:∀{ls:List Lf}{cs:List SV}{row pre:List AV}{xs:List AV},(ls.all λ|.int _|.bool|.str=>true|_=>false)=true->rowOf P .leaf ls cs=some row->au P w cs xs->∀w',au P w' (fU (pre++row) ls pre.length) xs
 |[],[],row,pre,xs,_,h,hx=>λw'=>by cases hx;exact .nil
 |[],_::_,_,_,_,_,h,_=>by cases h
 |_::_,[],_,_,_,_,h,_=>by cases h
 |l::ls,c::cs,row,pre,_,hl,h,.cons (x:=x) (xs:=z) a b=>λw'=>by
  simp only[rowOf]at h
  split at h
  .rename_i y ys h1 h2
   cases h
   simp only[List.all_cons,bB]at hl
   have o:=Ee (pre:=pre++[y]) hl.2 h2 b w'
   rw[List.append_assoc,List.singleton_append,List.length_append,List.length_singleton]at o
   refine .cons ?_ o
   unfold cellOf at h1
   split at h1
   .rename_i k k' n
    split at h1
    .rename_i e;subst e;cases h1;cases a;simp only[hY,gI,List.getElem?_append_right (aC _),Nat.sub_self,List.getElem?_cons_zero];exact .sc rfl
    .cases h1
   .cases h1;cases a;simp only[hY,gB,List.getElem?_append_right (aC _),Nat.sub_self,List.getElem?_cons_zero];exact .sc rfl
   .cases h1;cases a;simp only[hY,gS,List.getElem?_append_right (aC _),Nat.sub_self,List.getElem?_cons_zero];exact .sc rfl
   .cases hl.1
   .cases hl.1
   .cases hl.1
   .cases h1
  .cases h
def Wd.nf(w:Wd)(h:AHeap)(y:cr):Wd:={g:=(h.alloc y).get,F:=λo=>w.F o\/o=h.next,s:=w.s}
theorem ah.nf{ob:Tr aq}{nx:Nat}{h:AHeap}(hs:ah P w ob nx h)(y:cr):ah P (w.nf h y) ob nx (h.alloc y)/\a8 w ob h (w.nf h y) ob (h.alloc y):=by
 have D:∀o,o≠h.next->(h.alloc y).get o=h.get o:=λo e=>by simp only[AHeap.get,AHeap.alloc,Tr.aL _ _ e]
 have I:(h.alloc y).get h.next=some y:=by simp only[AHeap.get,AHeap.alloc,Tr.a7]
 have J:h.get h.next=none:=hs.new _ (aC _)
 have K:∀{o x},h.get o=some x->o≠h.next:=λe e2=>by grind
 have F:aX w (w.nf h y):=⟨λ_ f=>.inl f,λo x e _=>by rw[hs.g]at e;show(h.alloc y).get o=_;grind,λo e=>by rw[hs.g]at e;have:(h.alloc y).get o=h.get o:=D o λe2=>e (by grind);show(h.alloc y).get o≠none/\(Lp (h.alloc y).get o->Lp w.g o);unfold Lp;rw[this,hs.g];grind,λo f v mv c fz el ex sh e=>⟨v,[],fz,el,ex,sh,by rw[hs.g]at e;show(h.alloc y).get o=_;grind,aC _⟩,λo f es cl e=>by rw[hs.g]at e;show(h.alloc y).get o=_;grind⟩
 have E:∀i z,ob.get i=some z->dp P (w.nf h y) (h.alloc y) i z:=λi z e=>(hs.gJ e).move F (λ_ _ e=>e) λk o h1 h2=>by have hl:=hs.lt i k o h1 h2;exact⟨D o (by omega),λf=>f.resolve_right (by omega)⟩
 refine⟨⟨λ_=>rfl,λi t cs e=>E i _ e,λi t rows l e=>E i _ e,λi s l e=>E i _ e,hs.inj,λi k o h1 h2=>Nat.lt_succ_of_lt (hs.lt i k o h1 h2),hs.nx,?_,?_,λi t rows l e=>E i _ e,λi t rows l e=>E i _ e⟩,⟨F,λ_ _ e=>e,Nat.le_succ _,rfl,λo h1 _=>D o (by omega),λo⟨j,k,h1,h2,h3⟩=>.inr ⟨j,k,h1,h2,h3⟩,?_,λ_ e=>.inl e,λe=>e,λi t cs e=>⟨cs,e⟩⟩⟩
 .rintro o(f|rfl)
  .obtain⟨q1,q2⟩:=hs.bU o f;exact⟨Nat.lt_succ_of_lt q1,by grind⟩
  .exact⟨Nat.lt_succ_self _,by grind⟩
 .intro o ho;have ho:h.next+1<=o:=ho;rw[D o (by omega)];exact hs.new o (by omega)
 .rintro o(f|rfl)
  .exact .inl f
  grind
theorem Mr{x:SV}(h:cJ (bl x)=true):x≠.aM:=by rintro rfl;simp[bl,cJ,l3]at h
theorem aa5{h:AHeap}(hs:ah P w st.ob st.nx h){x:SV}{y:AV}(hx:RV P w x y){t:TypeId}{v:SV}{st':ae}(hr:FO st t (bl x)=some (v,st')):
 ∃w',ah P w' st'.ob st'.nx (h.alloc (.cells 0 0 (a6 y) 0 t true false))/\a8 w st.ob h w' st'.ob (h.alloc (.cells 0 0 (a6 y) 0 t true false))/\st'.tm=st.tm/\st'.r=st.r/\RV P w' v (.ref h.next 0 (a6 y).length 0)/\(a6 y).all dN=true:=by
 unfold FO at hr
 split at hr
 .rename_i hid hok
  simp only[bB]at hok
  simp only[ad,av]at hr
  obtain⟨rfl,rfl⟩:=hr
  have hc:=nF hx (Mr hok.1)
  obtain⟨F,p1,p2,E,p3,D⟩:=lE hs (bl x)
  have z:∀{cs:List SV}{xs:List AV},(∀c,c∈cs->c∈bl x)->au P w cs xs->au P (w.more F) (cs.map (bU st.ob)) xs:=by intro cs;induction cs with|nil=>intro xs _ hb;cases hb;exact .nil|cons c cs I=>intro xs hm hb;cases hb with|cons K J=>exact .cons (oo p3 D (hm c (by simp)) K) (I (λd hd=>hm d (by simp[hd])) J)
  have o:=z (λ_ e=>e) hc
  obtain⟨q1,q2⟩:=p1.nf (.cells 0 0 (a6 y) 0 t true false)
  have hlen:((bl x).map (bU st.ob)).length=(a6 y).length:=by rw[o.length]
  refine⟨_,q1,(a8.bo p2 E).trans q2,rfl,rfl,?_,hc.cells hok.1⟩;refine .pb (.inr rfl) (by simp only[Wd.nf,AHeap.get,AHeap.alloc,Tr.a7];rfl) rfl (by grind) (by grind) hid (za hok.2) ?_;rw[hlen,List.take_of_length_le (aC _)];exact o.mono q2.le q2.s
 .cases hr
theorem aa6{h:AHeap}(hs:ah P w st.ob st.nx h){x:SV}{y:AV}(hx:RV P w x y){t:TypeId}{v:SV}{st':ae}(hr:FP P st t (bl x)=some (v,st')):
 ∃w',ah P w' st'.ob st'.nx (h.alloc (.cells 0 0 (a6 y) 0 t true false))/\a8 w st.ob h w' st'.ob (h.alloc (.cells 0 0 (a6 y) 0 t true false))/\st'.tm=st.tm/\st'.r=st.r/\RV P w' v (.ref h.next 0 (a6 y).length 0)/\(a6 y).all dN=true:=by
 unfold FP at hr
 have key:∀(row:List AV)(u:SV)(rows:List (List AV)),cJ (bl x)=true->rowOf P st.ob (lay P t).dropLast (bl x).dropLast=some row->(bl x).getLast?=some u->(∀(w':Wd)z,aX w w'->(∀i k,w.s i=some k->w'.s i=some k)->RV P w' u z->Rl P w' t rows z)->
  ∃w',ah P w' (bo st.ob (bl x).dropLast) st.nx (h.alloc (.cells 0 0 (a6 y) 0 t true false))/\a8 w st.ob h w' (bo st.ob (bl x).dropLast) (h.alloc (.cells 0 0 (a6 y) 0 t true false))/\RV P w' (.ls t (row::rows)) (.ref h.next 0 (a6 y).length 0)/\(a6 y).all dN=true:=by
  intro row u rows hok o hu hl
  have hc:=nF hx (Mr hok)
  obtain⟨F,p1,p2,L,p3,Q⟩:=lE hs (bl x).dropLast
  obtain⟨q1,q2⟩:=p1.nf (.cells 0 0 (a6 y) 0 t true false)
  refine⟨_,q1,(a8.bo p2 L).trans q2,?_,hc.cells hok⟩
  have N:bl x≠[]:=by grind
  have D:bl x=(bl x).dropLast++[u]:=by rw[List.getLast?_eq_some_iff]at hu;obtain⟨ys,e⟩:=hu;grind
  have hlen:=hc.length
  have O:(bl x).length=(bl x).dropLast.length+1:=by grind
  have I:au P w (bl x).dropLast ((a6 y).take (bl x).dropLast.length):=by have:=hc.take ((bl x).length-1);rw[<-List.dropLast_eq_take]at this;rw[List.length_dropLast];exact this
  have c:=tT p3 (λv hv=>hv) o I
  have J:=(c.length).2
  rw[List.length_take]at J
  have K:(lay P t).dropLast.length=(bl x).dropLast.length:=by omega
  obtain⟨z,M,E⟩:=hc.get (bl x).dropLast.length u (by grind);refine .ls (.cons (.inr rfl) (by simp only[Wd.nf,AHeap.get,AHeap.alloc,Tr.a7];rfl) rfl (by omega) (by omega) ?_ (by grind) (hl _ z ((aX.more w F).trans q2.le) (λi k e=>q2.s i k e) (E.mono ((aX.more w F).trans q2.le) λi k e=>q2.s i k e)));rw[K];exact c.mono q2.le
 split at hr
 .rename_i row t' rows h1 h2 h3
  split at hr
  .rename_i e;subst e
   simp only[ad,av]at hr
   obtain⟨rfl,rfl⟩:=hr
   obtain⟨w',q1,q2,q3,q4⟩:=key row _ rows h1 h2 h3 λw' z _ _ hz=>by cases hz with|ls a=>exact a
   exact⟨w',q1,q2,rfl,rfl,q3,q4⟩
  .cases hr
 .rename_i row h1 h2 h3
  simp only[ad,av]at hr
  obtain⟨rfl,rfl⟩:=hr
  obtain⟨w',q1,q2,q3,q4⟩:=key row _ [] h1 h2 h3 λw' z _ _ hz=>by cases hz;exact .nil
  exact⟨w',q1,q2,rfl,rfl,q3,q4⟩
 .cases hr
theorem NZ{kd:IntKind}:∀{vs:List SV}{xs:List AV}{a m:Int},Bp kd vs a=some m->au P w vs xs->∃us:List Value,mn xs=some us/\b8 P (us.foldlM Builtin.max2 (.int kd a))=some (.int kd m)
 |[],_,a,m,h,.nil=>by cases h;exact⟨[],rfl,rfl⟩
 |v::vs,_,a,m,h,.cons (x:=x) D z=>by
  cases v with
  |sc u=>cases u with
   |int c b=>
    simp only[Bp]at h
    split at h
    .rename_i o;subst o;obtain⟨us,q1,q2⟩:=NZ h z;cases D;refine⟨.int kd b::us,by simp only[mn,dC,dT,q1],?_⟩;rw[List.foldlM_cons,eN];exact q2
    .cases h|_=>cases h
  |_=>cases h
theorem acv(hs:bN P cx w st a){o:Oper}{ops:Array Oper}(hd:iZ cx.tn o.dst){k:ae->Option ρ}{r:ρ}(hr:Cf P A kp o st k=some r)(hw:cC ops o a.tm=some true):
 kN P cx w st a k kp r λm ex a'=>eu P (bE P m) cx ops o a=some (ex,a'):=by
 unfold Cf at hr
 split at hr
 .cases hr
 split at hr
 .rename_i x E
  have hx:=fe hs.tm x
  split at hr
  .rename_i t v hv
   rw[hv]at hx
   generalize hy:ev a.tm x=y at hx
   cases hx with
   |@eb _ _ x' q=>
    have fin:∀row,kp t row st=some r->gY P t row (.iface t x')->kN P cx w st a k kp r λm ex a'=>eu P (bE P m) cx ops o a=some (ex,a'):=λrow h1 h2=>.inr ⟨0,w,st,a,t,row,.iface t x',by simp only[eu,hw,cV,aV,E,hy],hs,.refl _ _ _,h1,h2⟩
    split at hr
    .rename_i cs hf hg
     split at hr
     .rename_i row F;refine fin row hr λw'=>?_;cases q with|agg q=>have:=Ee (pre:=[]) hf F q w';simp only[Bq,hg];exact .eb (.agg (by grind))
     .cases hr
    .rename_i v' hf hg
     split at hr
     .rename_i row F
      refine fin row hr λw'=>?_
      have:=Ee (pre:=[]) hf F (.cons q .nil) w'
      unfold Bq
      rw[hg]
      generalize hls:lay P t=ls at this F
      cases ls with
      |nil=>cases F
      |cons l ls=>cases ls with
       |nil=>cases this with|cons a _=>exact .eb (by grind)
       |cons l' ls'=>simp only[rowOf]at F;grind
     .cases hr
    .cases hr
  .cases hr
 .rename_i c E
  obtain⟨callee,args,L⟩:=c
  split at hr
  .rename_i f Q
   simp only at Q
   subst Q
   split at hr
   .rename_i g caps hf K
    have hx:=fe hs.tm f
    rw[hf]at hx
    obtain⟨xs,first,U,hfn⟩:∃xs,∃y,au P w caps xs/\ev a.tm f=y/\mO y=some (.func g,[],xs):=by generalize hy:ev a.tm f=y at hx;cases hx with|fn a=>exact⟨_,_,a,rfl,rfl⟩|fR=>exact⟨[],_,.nil,rfl,rfl⟩
    have V:au P w (args.toList.map (bH st.tm)) (args.toList.map (ev a.tm)):=au.map _ λx _=>fe hs.tm x
    have S:bN P cx w {st with df:=(g,args.toList.map (bH st.tm)++caps)::st.df} {a with df:=.fn (.func g) xs (args.toList.map (ev a.tm))::a.df}:=⟨hs.h,hs.tm,hs.al,.cons (V.append U) hs.df,hs.cm,hs.rn,hs.kd,hs.co.1,λd e=>hs.co.2 d ((List.mem_cons.1 e).resolve_left (by simp))⟩
    obtain⟨a',p1,p2,p3⟩:=iv (n:=cx.tn) S (v:=.bC []) (x:=dS) (.bC .nil) hd
    refine .inl ⟨0,w,_,a',?_,p2,by rw[p3];cases o.dst<;>exact .refl _ _ _,hr⟩
    have D:aV P (ev a.tm) o a.h=some (.defer (.fn (.func g) xs (args.toList.map (ev a.tm))),a.h):=by simp only[aV,E,uu,hfn.1,hfn.2,List.nil_append]
    simp only[eu,hw,cV,D,hs.wM (by grind),Option.isSome_none,Bool.false_eq_true,if_false];grind
   .cases hr
  .cases hr
 .rename_i args L E
  split at hr
  .rename_i ha K
   have hm:=hs.cm
   have hk:cx.kind=.deferred:=hs.Uw (by grind) (by grind)
   have J:cx.round=none:=hs.wM (by grind)
   rw[K]at hm
   have I:a.cm=.ret:=by cases hc:a.cm<;>rw[hc]at hm<;>first|rfl|exact hm.elim
   obtain⟨a',p1,p2,p3⟩:=iv (n:=cx.tn) hs (v:=.sc .nilIface) (x:=.sc .nilIface) (.sc rfl) hd
   refine .inl ⟨0,w,_,a',?_,p2,by rw[p3];cases o.dst<;>exact .refl _ _ _,hr⟩
   have D:aV P (ev a.tm) o a.h=some (.u9,a.h):=by simp only[aV,E,gT,hN,ha,List.map_nil]
   simp only[eu,hw,cV,D,hk,J,I];rw[show({a with cm:=bD.ret,h:=a.h}:aD)=a by rw[<-I],p1];rfl
  .rename_i t row ha K
   have hm:=hs.cm
   have hk:cx.kind=.deferred:=hs.Uw (by grind) (by grind)
   have J:cx.round=none:=hs.wM (by grind)
   rw[K]at hm
   obtain⟨y,I,M⟩:∃y,a.cm=.aN y false/\gY P t row y:=by cases hc:a.cm with|aN y b=>rw[hc]at hm;obtain⟨e,h⟩:=hm;grind|_=>rw[hc]at hm;exact hm.elim
   have S:bN P cx w {st with cm:=.aN t row true} {a with cm:=.aN y true}:=⟨hs.h,hs.tm,hs.al,hs.df,⟨rfl,M⟩,.inl J,.inr (.inr hk),⟨.inr (hs.co.1.1.resolve_left (by grind)),hs.co.1.2⟩,hs.co.2⟩
   obtain⟨a',p1,p2,p3⟩:=iv (n:=cx.tn) S (M w) hd
   refine .inl ⟨0,w,_,a',?_,p2,by rw[p3];cases o.dst<;>exact .refl _ _ _,hr⟩
   have D:aV P (ev a.tm) o a.h=some (.u9,a.h):=by simp only[aV,E,gT,hN,ha,List.map_nil]
   simp only[eu,hw,cV,D,hk,J,I];grind
  .cases hr
 .rename_i args L E
  split at hr
  .rename_i v hm
   have hx:au P w (args.toList.map (bH st.tm)) (args.toList.map (ev a.tm)):=au.map _ λx _=>fe hs.tm x
   generalize args.toList.map (bH st.tm)=vs at hx hm
   unfold R3 at hm
   split at hm
   .rename_i kd a0 vs'
    split at hm
    .rename_i m hm2
     cases hm
     generalize Ux:args.toList.map (ev a.tm)=xs at hx
     cases hx with
     |cons b1 b2=>
      rename_i x0 xs0
      cases b1
      obtain⟨us,q1,q2⟩:=NZ hm2 b2
      obtain⟨a',p1,p2,p3⟩:=iv (n:=cx.tn) hs (v:=.sc (.int kd m)) (x:=.sc (.int kd m)) (.sc rfl) hd
      refine .inl ⟨0,w,_,a',?_,p2,by rw[p3];cases o.dst<;>exact .refl _ _ _,hr⟩
      have D:aV P (ev a.tm) o a.h=some (.val (.sc (.int kd m)),a.h):=by
       simp only[aV,E,gT,hN,Ux,mn,dC,dT,q1]
       have:b8 P (builtin .max L o.type #[] (Value.int kd a0::us).toArray)=some (.value (.int kd m)):=by show b8 P (Builtin.max_ L o.type (Value.int kd a0::us).toArray>>=λs=>pure (Next.value s))=_;rw[eN];show(b8 P (us.foldlM Builtin.max2 (.int kd a0))).bind _=_;rw[q2];rfl
       rw[this];rfl
      simp only[eu,hw,cV,D];simp_all
    .cases hm
   .cases hm
  .cases hr
 .rename_i t x E
  have hx:=fe hs.tm x
  have fin:∀{v:SV}{st':ae}{w':Wd},ah P w' st'.ob st'.nx (a.h.alloc (.cells 0 0 (a6 (ev a.tm x)) 0 t true false))->a8 w st.ob a.h w' st'.ob (a.h.alloc (.cells 0 0 (a6 (ev a.tm x)) 0 t true false))->st'.tm=st.tm->st'.r=st.r->RV P w' v (.ref a.h.next 0 (a6 (ev a.tm x)).length 0)->(a6 (ev a.tm x)).all dN=true->
   k (dq st' o.dst v)=some r->kN P cx w st a k kp r λm ex a'=>eu P (bE P m) cx ops o a=some (ex,a'):=by
   intro v st' w' e1 e2 e3 e4 e5 e6 hr
   obtain⟨a',p1,p2,p3⟩:=iv (n:=cx.tn) (hs.step e1 e2 e3 e4) e5 hd
   have S9:(dq st' o.dst v).ob=st'.ob:=by cases o.dst<;>rfl
   refine .inl ⟨0,w',_,a',?_,p2,by grind,hr⟩
   have D:aV P (ev a.tm) o a.h=some (.val (.ref a.h.next 0 (a6 (ev a.tm x)).length 0),a.h.alloc (.cells 0 0 (a6 (ev a.tm x)) 0 t true false)):=by simp only[aV,E,e6,if_true];rfl
   simp only[eu,hw,cV,D];rw[show({a with cm:=a.cm,h:=a.h.alloc (.cells 0 0 (a6 (ev a.tm x)) 0 t true false)}:aD)={a with h:=a.h.alloc (.cells 0 0 (a6 (ev a.tm x)) 0 t true false)}from rfl,p1];rfl
  split at hr
  .rename_i v st' hv
   split at hv
   .obtain⟨w',q1,q2,q3,q4,q5,q6⟩:=aa6 hs.h hx hv;grind
   .obtain⟨w',q1,q2,q3,q4,q5,q6⟩:=aa5 hs.h hx hv;grind
  .cases hr
 .rename_i t x hi mx E
  split at hr
  .rename_i e j kh n km m hu hx hh hm
   split at hr
   .rename_i t' rows aY hj
    split at hr
    .rename_i hb
     obtain rfl:=Nat.eq_of_beq_eq_true hb
     rcases jQ hr with⟨O,T⟩|⟨_,T⟩
     case inr=>cases T
     clear hr
     simp only[decide_eq_true_eq]at O
     obtain⟨rfl,rfl⟩:=O
     have hX:=fe hs.tm x
     have hH:=fe hs.tm hi
     have hM:=fe hs.tm mx
     rw[hx]at hX;rw[hh]at hH;rw[hm]at hM
     obtain⟨X,eX⟩:∃X,ev a.tm x=X:=⟨_,rfl⟩
     have eH:ev a.tm hi=.sc (.int kh (rows.length:Int)):=by generalize ev a.tm hi=z at hH;cases hH;rfl
     have eM:ev a.tm mx=.sc (.int km (rows.length:Int)):=by generalize ev a.tm mx=z at hM;cases hM;rfl
     rw[eX]at hX
     obtain⟨g1,g2,g3,g4⟩:=hs.h.arr j t' rows aY hj
     have fin:∀(w':Wd)(a1:AV),ah P w' ((st.ob.put j .gone).put st.nx (.arr t' rows aY)) (st.nx+1) a.h->a8 w st.ob a.h w' ((st.ob.put j .gone).put st.nx (.arr t' rows aY)) a.h->RV P w' (.own st.nx) a1->
      gk P t X none (some (.sc (.int kh (rows.length:Int)))) (some (.sc (.int km (rows.length:Int))))=some a1->kN P cx w st a k kp r λm ex a'=>eu P (bE P m) cx ops o a=some (ex,a'):=by
      intro w' a1 e1 e2 e3 e4
      obtain⟨a',p1,p2,p3⟩:=iv (n:=cx.tn) (hs.step (st':={st with ob:=(st.ob.put j .gone).put st.nx (.arr t' rows aY),nx:=st.nx+1}) e1 e2 rfl rfl) e3 hd
      refine .inl ⟨0,w',_,a',?_,p2,by rw[p3];cases o.dst<;>exact e2,T⟩
      have D:aV P (ev a.tm) o a.h=some (.val a1,a.h):=by simp only[aV,E,eX,Option.map_some,Option.map_none,eH,eM,e4,val]
      simp only[eu,hw,cV,D];rw[show({a with cm:=a.cm,h:=a.h}:aD)={a with h:=a.h}from rfl,p1];rfl
     have N:∀kd,fK (.sc (.int kd (rows.length:Int)))=some rows.length:=λkd=>by simp[fK]
     rcases g4 with⟨q,rfl⟩|⟨Y,ver,mv,c,ex,sh,cap,q,qc,qg,q2,q3,q4,q5,q6⟩
     .obtain⟨w',e1,e2,e3⟩:=hs.h.renamed (x:=.arr t' [] aY) hj (by simp) (by simp) (by simp) q (by simp) λw' _ e _=>⟨g1,g2,g3,.inl ⟨e,rfl⟩⟩;refine fin w' (.sc (.slice none 0 0)) e2 e3 (.cM e1) ?_;cases hX with|cM e=>unfold gk;rw[hu];simp only[g1,eT,N,Option.map_some,List.length_nil];rfl|cu e=>rw[q]at e;cases e
     .have Z:(w.put a.h.get st.nx (.sl Y ver (rows.length*(lay P t').length) (lay P t').length rows.length (some rows.length))).s st.nx=some (.sl Y ver (rows.length*(lay P t').length) (lay P t').length rows.length (some rows.length)):=by simp[Wd.put]
      obtain⟨e2,e3⟩:=hs.h.move (lk:=.sl Y ver (rows.length*(lay P t').length) (lay P t').length rows.length (some rows.length)) (x:=.arr t' rows aY) (h':=a.h) (g:=a.h.get) hj (by simp) (by simp) (by simp) q rfl rfl rfl (λp e=>.inl e) (λe=>e) (λ_ _=>rfl) (λo e=>e) (λo f _ v mv c fz el ex sh e=>⟨v,[],fz,el,ex,sh,by simpa using e,aC _⟩) (λo e=>⟨hs.h.there ⟨_,hj,by simp⟩ q e,hs.h.la ⟨_,hj,by simp⟩ q e⟩) (λhl _=>⟨g1,g2,g3,.inr ⟨Y,ver,mv,c,ex,sh,_,Z,λk e=>by cases e;rfl,qg,q2,q3,q4.mono hl,q5,q6⟩⟩) (by simp)
      refine fin _ (.sl Y ver (rows.length*(lay P t').length) 0 (lay P t').length rows.length (some rows.length)) e2 e3 (.cu Z) ?_
      cases hX with
      |cM e=>rw[q]at e;cases e
      |cu e=>
       rw[q]at e
       simp only[ad,Lk.sl.injEq]at e
       obtain⟨rfl,rfl,rfl,rfl,rfl,rfl⟩:=e
       unfold gk
       rw[hu]
       simp only[g1,eT,N,Option.map_some]
       have ait:rows.length<=lK cap rows.length:=by cases cap with|none=>exact aC _|some k=>have:=qc k rfl;simp only[lK];omega
       rw[if_pos ⟨trivial,Nat.zero_le _,aC _,ait,by omega,rfl⟩];simp
    .cases hr
   .cases hr
  .cases hr
 .cases hr
theorem a8.known{ob':Tr aq}{h h':AHeap}(e:st.ob=ob')(hf:a8 w st.ob h w' ob' h'):a8 w st.ob h w' ob' h':=hf
theorem JW{m c:Nat}(hm:m<=c){ops:Array Oper}{o:Oper}{r:b7×aD}(e:eu P (bE P m) cx ops o a=some r):eu P (bE P c) cx ops o a=some r:=La (iu P hm) e
theorem Ef(X:fb P A R){Q:Bool}{ops:Array Oper}{k:ae->Option ρ}{r:ρ}:∀{l:List Oper}{w:Wd}{st:ae}{a:aD},bN P cx w st a->(∀o,o∈l->iZ cx.tn o.dst)->lU P A R Q kp ops l st k=some r->
 kN P cx w st a k kp r λm ex a'=>fL P (bE P m) cx ops l a=some (ex,a')
 |[],w,st,a,hs,_,hr=>.inl ⟨0,w,{st with al:=[]},a,rfl,⟨hs.h,hs.tm,λ_ _ e=>(by cases e),hs.df,hs.cm,hs.rn,hs.kd,hs.co⟩,.refl _ _ _,hr⟩
 |o::rest,w,st,a,hs,hd,hr=>by
  have N:=hd o (List.mem_cons_self ..)
  have U:∀o,o∈rest->iZ cx.tn o.dst:=λo e=>hd o (List.mem_cons_of_mem _ e)
  have run:∀(c:ae),c.ob=st.ob->bN P cx w c a->cC ops o a.tm=some true->(match TI A Q o.op with
   |true=>Cf P A kp o c λst=>lU P A R Q kp ops rest st k
   |false=>ke P A R kp o c λst=>lU P A R Q kp ops rest st k)=some r->
   kN P cx w st a k kp r λm ex a'=>fL P (bE P m) cx ops (o::rest) a=some (ex,a'):=by
   intro c J I hw E
   have hq:kN P cx w c a (λst=>lU P A R Q kp ops rest st k) kp r λm ex a'=>eu P (bE P m) cx ops o a=some (ex,a'):=by
    split at E
    .exact acv I N E hw
    .exact acu X I N E hw
   rcases hq with⟨m,w1,S,V,q1,q2,q3,q4⟩|⟨m,w1,S,V,t,row,y,q1,q2,q3,q4,q5⟩
   .rcases Ef X q2 U q4 with⟨M,L,D,O,r1,r2,r3,r4⟩|⟨M,L,D,O,t,row,y,r1,r2,r3,r4,r5⟩
    .refine .inl ⟨max m M,L,D,O,?_,r2,by rw[<-J];exact q3.trans r3,r4⟩;show fL P _ cx ops (o::rest) a=_;rw[fL,JW (Nat.le_max_left ..) q1];exact yM (iu P (Nat.le_max_right ..)) r1
    .refine .inr ⟨max m M,L,D,O,t,row,y,?_,r2,by rw[<-J];exact q3.trans r3,r4,r5⟩;show fL P _ cx ops (o::rest) a=_;rw[fL,JW (Nat.le_max_left ..) q1];exact yM (iu P (Nat.le_max_right ..)) r1
   .exact .inr ⟨m,w1,S,V,t,row,y,by show fL P _ cx ops (o::rest) a=_;rw[fL,q1],q2,by grind,q4,q5⟩
  have skip:∀(c:ae),c.ob=st.ob->bN P cx w c a->cC ops o a.tm=some false->lU P A R Q kp ops rest (dq c o.dst (.bC [])) k=some r->
   kN P cx w st a k kp r λm ex a'=>fL P (bE P m) cx ops (o::rest) a=some (ex,a'):=by
   intro c J I hw E
   obtain⟨V,p1,p2,p3⟩:=iv (n:=cx.tn) (v:=.bC []) (x:=dS) I (.bC .nil) N
   have K:(dq c o.dst (.bC [])).ob=st.ob:=by rw[<-J];cases o.dst<;>rfl
   have T:∀m,fL P (bE P m) cx ops (o::rest) a=fL P (bE P m) cx ops rest V:=λm=>by rw[fL];simp only[eu,hw,p1,Option.map_some]
   rcases Ef X p2 U E with⟨M,L,D,O,r1,r2,r3,r4⟩|⟨M,L,D,O,t,row,y,r1,r2,r3,r4,r5⟩
   .rw[K,p3]at r3;exact .inl ⟨M,L,D,O,(T _).trans r1,r2,r3,r4⟩
   .rw[K,p3]at r3;exact .inr ⟨M,L,D,O,t,row,y,(T _).trans r1,r2,r3,r4,r5⟩
  unfold lU at hr
  unfold rX at hr
  split at hr
  .rename_i hg;exact run st rfl hs (by simp only[cC,hg]) hr
  .rename_i j want hg
   split at hr
   .rename_i d F
    split at hr
    .rename_i b hb
     have z:=tW hs hb
     split at hr
     .rcases jQ hr with⟨rfl,hr⟩|⟨rfl,hr⟩
      .exact run (known st d true) rfl (hT hs z) (by simp[cC,hg,F,z]) hr
      .exact skip (known st d false) rfl (hT hs z) (by simp[cC,hg,F,z]) hr
     .rcases jQ hr with⟨rfl,hr⟩|⟨rfl,hr⟩
      .exact skip (known st d true) rfl (hT hs z) (by simp[cC,hg,F,z]) hr
      .exact run (known st d false) rfl (hT hs z) (by simp[cC,hg,F,z]) hr
    .rename_i hb;have z:=Dn hs hb;exact skip st rfl hs (by simp only[cC,hg,F,z]) hr
    .cases hr
   .cases hr
end
end Go.AI
end
