/- A part of the proof. -/
import Derived.Test.YtkdhoflcgphcjaaGreatDoorSc
set_option linter.all false

section
namespace Go.AI
theorem RT.head_cons{a:LT}:∀{l:List LT}(x:a.ty)(y:RT l),RT.head (RT.cons x y)=x|[],_,_=>rfl|_::_,_,_=>rfl
theorem RT.tail_cons{a:LT}:∀{l:List LT}(x:a.ty)(y:RT l),RT.tail (RT.cons x y)=y|[],_,_=>rfl|_::_,_,_=>rfl
section
variable {P:Program}{w w':Wd}{ob ob':Tr ai}{nx:Nat}{h h':AHeap}{ρ:Type}{ss:List Sh}{v:SV}{vs:List SV}
theorem jG{α:Type}{x:Option α}{r:α}{c:Prop}(h:x=some r)(e:x=none):c:=by grind
theorem rh{α β:Type}{x:Option α}{f:α->β}{r:β}(h:x.map f=some r):∃y,x=some y/\r=f y:=by cases x with|none=>cases h|some y=>grind
theorem TG{k:IntKind}{r:RT (bB (.int k::ss))}(h:bQ P ob (.int k::ss) (v::vs)=some r):∃n r',v=.sc (.int k n)/\bQ P ob ss vs=some r'/\r=RT.cons (a:=.int) n r':=by
 cases v with
 |sc u=>cases u with
  |int k' n=>
   have h0:(if k=k' then(bQ P ob ss vs).map λr=>RT.cons (a:=.int) n r else none)=some r:=h
   by_cases e:k=k'
   .rw[if_pos e]at h0;subst e;obtain⟨r',h1,h2⟩:=rh h0;grind
   grind|_=>exact jG h rfl
 |_=>exact jG h rfl
theorem Jd{r:RT (bB (.bool::ss))}(h:bQ P ob (.bool::ss) (v::vs)=some r):∃n r',v=.sc (.bool n)/\bQ P ob ss vs=some r'/\r=RT.cons (a:=.bool) n r':=by
 cases v with
 |sc u=>cases u with|bool n=>obtain⟨r',h1,h2⟩:=rh (f:=λr=>RT.cons (a:=.bool) n r) h;grind|_=>exact jG h rfl
 |_=>exact jG h rfl
theorem TH{r:RT (bB (.str::ss))}(h:bQ P ob (.str::ss) (v::vs)=some r):∃n r',v=.sc (.string n)/\bQ P ob ss vs=some r'/\r=RT.cons (a:=.str) n r':=by
 cases v with
 |sc u=>cases u with|string n=>obtain⟨r',h1,h2⟩:=rh (f:=λr=>RT.cons (a:=.str) n r) h;grind|_=>exact jG h rfl
 |_=>exact jG h rfl
theorem Vh{t:TypeId}{r:RT (bB (.dl t::ss))}(h:bQ P ob (.dl t::ss) (v::vs)=some r):∃x r',asData ob t v=some x/\bQ P ob ss vs=some r'/\r=RT.cons (a:=.rows) x r':=by have h:(match asData ob t v,bQ P ob ss vs with|some x,some r=>some (RT.cons (a:=.rows) x r)|_,_=>none)=some r:=h;grind
theorem TI{t:TypeId}{aM:Bool}{r:RT (bB (.own t aM::ss))}(h:bQ P ob (.own t aM::ss) (v::vs)=some r):∃x r',yv ob aM v=true/\iJ P t=true/\isByte P t=false/\asData ob t v=some x/\bQ P ob ss vs=some r'/\r=RT.cons (a:=.rows) x r':=by have h:(match yv ob aM v&&iJ P t&&!isByte P t,asData ob t v,bQ P ob ss vs with|true,some x,some r=>some (RT.cons (a:=.rows) x r)|_,_,_=>none)=some r:=h;grind
theorem Vi{t:TypeId}{r:RT (bB (.md t::ss))}(h:bQ P ob (.md t::ss) (v::vs)=some r):∃x r',ni ob t v=some x/\bQ P ob ss vs=some r'/\r=RT.cons (a:=.rows) x r':=by have h:(match ni ob t v,bQ P ob ss vs with|some x,some r=>some (RT.cons (a:=.rows) x r)|_,_=>none)=some r:=h;grind
theorem Vj{t:TypeId}{r:RT (bB (.tr t::ss))}(h:bQ P ob (.tr t::ss) (v::vs)=some r):∃x r',iJ P t=true/\isByte P t=false/\AF ob t v=some x/\bQ P ob ss vs=some r'/\r=RT.cons (a:=.rows) x r':=by have h:(match iJ P t&&!isByte P t,AF ob t v,bQ P ob ss vs with|true,some x,some r=>some (RT.cons (a:=.rows) x r)|_,_,_=>none)=some r:=h;grind
theorem TJ{t:TypeId}{r:RT (bB (.ba t::ss))}(h:bQ P ob (.ba t::ss) (v::vs)=some r):∃x r',isByte P t=true/\AE ob t v=some x/\bQ P ob ss vs=some r'/\r=RT.cons (a:=.str) x r':=by have h:(match isByte P t,AE ob t v,bQ P ob ss vs with|true,some x,some r=>some (RT.cons (a:=.str) x r)|_,_,_=>none)=some r:=h;grind
theorem TK{u:SV}{r:RT (bB (.opt u::ss))}(h:bQ P ob (.opt u::ss) (v::vs)=some r):
 ∃b r',bQ P ob ss vs=some r'/\r=RT.cons (a:=.bool) b r'/\((∃v',v=.opt b v'/\eqv v' u=true)\/(v=.sc (.pointer none)/\b=false)\/(∃i o,v=.ref i o/\b=true/\eqv v u=true)):=by
 cases v with
 |opt b v'=>have h:(match eqv v' u with|true=>(bQ P ob ss vs).map λr=>RT.cons (a:=.bool) b r|false=>none)=some r:=h;cases e:eqv v' u with|true=>rw[e]at h;obtain⟨r',h1,h2⟩:=rh h;grind|false=>grind
 |ref i o=>have h:(match eqv (.ref i o) u with|true=>(bQ P ob ss vs).map λr=>RT.cons (a:=.bool) true r|false=>none)=some r:=h;cases e:eqv (.ref i o) u with|true=>rw[e]at h;obtain⟨r',h1,h2⟩:=rh h;grind|false=>grind
 |sc x=>cases x with
  |pointer p=>cases p with|none=>obtain⟨r',h1,h2⟩:=rh (f:=λr=>RT.cons (a:=.bool) false r) h;grind|some _=>exact jG h rfl
  |_=>exact jG h rfl
 |_=>exact jG h rfl
theorem TL{u:SV}{r:RT (bB (.iZ u::ss))}(h:bQ P ob (.iZ u::ss) (v::vs)=some r):eqv v u=true/\bQ P ob ss vs=some r:=by have h:(match eqv v u with|true=>bQ P ob ss vs|false=>none)=some r:=h;grind
theorem TM{r:RT (bB [])}(h:bQ P ob [] vs=some r):vs=[]:=by cases vs with|nil=>rfl|cons _ _=>exact jG h rfl
theorem Sv{s:Sh}{r:RT (bB (s::ss))}(h:bQ P ob (s::ss) vs=some r):∃v c,vs=v::c:=by cases vs with|nil=>cases s<;>exact jG h rfl|cons v c=>grind
theorem cN.to{i j:Nat}{x:ai}{k:Lk}(hx:cN P w h i x)(J:∀t cs,x≠.box t cs)(hl:aK w w')(hF:∀o,w'.F o->w.F o)(hi:w.s i=some k)(hj:w'.s j=some k):cN P w' h j x:=by
 cases x with
 |box t cs=>grind
 |gone=>trivial
 |arr t rows aM=>
  obtain⟨q,G,E,u⟩:=hx
  refine⟨q,G,E,?_⟩
  rcases u with⟨q1,q2⟩|⟨o,ver,mv,c,ex,sh,cap,q1,q2,q3,p,m,C,I,z⟩
  .grind
  .exact .inr ⟨o,ver,mv,c,ex,sh,cap,by grind,q2,q3,p,m,C.mono hl,I,λe f=>z e (hF _ f)⟩
 |ba s t=>obtain⟨q,u⟩:=hx;refine⟨q,?_⟩;grind
 |mp t rows aM=>obtain⟨e,o,es,cl,q1,q2,q3,p,m⟩:=hx;exact⟨e,o,es,cl,q1,by grind,q3,p.bI hl.c,λa f=>m a (hF _ f)⟩
 |tr t rows aM=>
  obtain⟨q,G,E,u⟩:=hx
  refine⟨q,G,E,?_⟩
  rcases u with⟨q1,q2⟩|⟨o,ver,mv,c,ex,sh,n,q1,q3,p,m,D,C,z⟩
  .grind
  .exact .inr ⟨o,ver,mv,c,ex,sh,n,by grind,q3,p,m,D,C.mono hl,λe f=>z e (hF _ f)⟩
def Wd.next(w:Wd)(i:Nat)(k:Lk):Wd:={g:=w.g,F:=w.F,s:=λj=>if j=i then some k else w.s j}
theorem af.take(hs:af P w ob nx h){x:ai}{k:Lk}(hx:cN P (w.next nx k) h nx x)(c:∀o,k.obj=some o->¬Ow w ob o/\o<h.next):
 af P (w.next nx k) (ob.put nx x) (nx+1) h/\(∀j l,w.s j=some l->(w.next nx k).s j=some l)/\(w.next nx k).s nx=some k/\(∀o,Ow (w.next nx k) (ob.put nx x) o->Ow w ob o\/k.obj=some o):=by
 have m:(w.next nx k).s nx=some k:=by simp[Wd.next]
 have hd:¬live ob nx:=by rintro⟨y,e,_⟩;rw[(hs.nx nx (ao _)).2]at e;cases e
 obtain⟨q1,q2⟩:=hs.EW (w':=w.next nx k) (i:=nx) (nx':=nx+1) rfl rfl (λj e=>by simp only[Wd.next];grind) m (.inl (hs.nx nx (ao _)).1) hd c hx (by omega) (by omega)
 refine⟨q1,q2,m,?_⟩
 rintro o⟨j,l,⟨y,h1,h2⟩,h3,h4⟩
 by_cases e:j=nx
 .grind
 .rw[Tr.aB _ _ e]at h1;simp only[Wd.next]at h3;rw[if_neg e]at h3;exact .inl ⟨j,l,⟨y,h1,h2⟩,h3,h4⟩
end
end Go.AI
end

section
namespace Go.AI
section
variable {P:Program}{h:AHeap}{L:List Nat}{w1 wc:Wd}{bK:Tr ai}
def Os(w:Wd)(ob:Tr ai)(o:Nat):Prop:=∃a k,live ob a/\w.s a=some k/\k.obj=some o/\∀n,k≠.box o n
def eu(P:Program)(w1:Wd)(bK:Tr ai)(h:AHeap)(L:List Nat)(wc:Wd)(st:ad)(p:List SV×ad)(ys:List AV):Prop:=∃c,af P c p.2.ob p.2.nx h/\c.F=wc.F/\(∀j k,wc.s j=some k->c.s j=some k)/\ak P c (ov L p.1) ys/\p.2.tm=st.tm/\p.2.r=st.r/\(∀j,j<st.nx->p.2.ob.get j=st.ob.get j)/\st.nx<=p.2.nx/\(∀o,Ow c p.2.ob o->Ow wc st.ob o\/Os w1 bK o)
theorem eu.cons{st:ad}{p:List SV×ad}{ys:List AV}{u:SV}{y:AV}(hg:wc.g=h.get)(hd:eu P w1 bK h L wc st p ys)(hu:∀c,aK wc c->(∀j k,wc.s j=some k->c.s j=some k)->RV P c (ta L u) y):eu P w1 bK h L wc st (u::p.1,p.2) (y::ys):=by obtain⟨c,q1,q2,q3,m,i⟩:=hd;exact⟨c,q1,q2,q3,.cons (hu c (.imp (by rw[hg];exact funext q1.g) λo f=>by grind) q3) m,i⟩
theorem eu.obj{st:ad}{p:List SV×ad}{ys:List AV}{x:ai}{k:Lk}{y:AV}(hs:af P wc st.ob st.nx h)(hx:cN P (wc.next st.nx k) h st.nx x)(i:∀o,k.obj=some o->¬Ow wc st.ob o/\o<h.next)(how:∀o,k.obj=some o->Os w1 bK o)
 (hy:∀c:Wd,c.s st.nx=some k->RV P c (.own st.nx) y)(hd:eu P w1 bK h L (wc.next st.nx k) {st with ob:=st.ob.put st.nx x,nx:=st.nx+1} p ys):eu P w1 bK h L wc st (.own st.nx::p.1,p.2) (y::ys):=by
 obtain⟨t1,t2,m,z⟩:=hs.take hx i
 obtain⟨c,q1,q2,q3,w,u,q,E,D,C⟩:=hd
 refine⟨c,q1,q2,λj l e=>q3 j l (t2 j l e),.cons (hy c (q3 _ _ m)) w,u,q,λj hj=>?_,by grind,λo ho=>?_⟩
 .grind[Tr.aB]
 grind
theorem nodup_cons{x:Nat}{xs:List Nat}(h:nodup (x::xs)=true):x∉xs/\nodup xs=true:=by simp_all[aZ,Bool.not_eq_true',DK,nodup]
theorem TN{a:Nat}{vs:List SV}(h:SV.own a∈vs):a∈vs.flatMap oV:=List.mem_flatMap.2 ⟨_,h,by simp[oV]⟩
theorem RZ{v:SV}{vs:List SV}(h:nodup ((v::vs).flatMap oV)=true):nodup (vs.flatMap oV)=true:=by rw[List.flatMap_cons]at h;cases v with|own a=>exact(nodup_cons h).2|_=>exact h
theorem CB{a:Nat}{vs:List SV}(h:nodup ((SV.own a::vs).flatMap oV)=true):SV.own a∉vs:=by rw[List.flatMap_cons]at h;exactλe=>(nodup_cons h).1 (TN e)
theorem Vk{nxC:Nat}{F:Nat->Prop}{C:List SV}(hE:af P (w1.more F) (bg bK C) nxC h)(hl:fF bK (bg bK C))
 (h3:∀i,SV.own i∈C->∀t rows l x,iR bK i t rows l->RV P w1 (.own i) x->Rd P (w1.more F) t rows x)(h5:∀i,SV.om i∈C->∀t rows l x,bK.get i=some (.mp t rows l)->RV P w1 (.om i) x->Rm P (w1.more F) t rows x):
 ∀(shs:List Sh){vs:List SV}{ys:List AV}{r:RT (bB shs)}{st:ad}{wc:Wd},bQ P bK shs vs=some r->ak P w1 vs ys->(∀v,v∈gu shs vs->v∈C)->(∀a,SV.own a∈vs->SV.own a∈C->SV.own a∈gu shs vs)->nodup (vs.flatMap oV)=true->af P wc st.ob st.nx h->wc.F=(w1.more F).F->(∀i j k,L[i]?=some j->w1.s i=some k->wc.s j=some k)->(∀o,Ow wc st.ob o->∀a,SV.own a∈vs->live bK a->∀k,w1.s a=some k->k.obj≠some o)->eu P w1 bK h L wc st (b7 shs r st) ys:=by
 intro shs
 induction shs with
 |nil=>intro vs ys r st wc he hv _ _ _ hs hF _ _;have:=TM he;subst this;cases hv;exact⟨wc,hs,rfl,λ_ _ e=>e,.nil,rfl,rfl,λ_ _=>rfl,ao _,λ_ e=>.inl e⟩
 |cons s ss ih=>
  intro vs ys r st wc he hv K hD2 hn hs hF hL BN
  obtain⟨v,p,rfl⟩:=Sv he
  cases hv with
  |@cons _ y _ ys a b=>
  have hg:wc.g=h.get:=funext hs.g
  have z:aK (w1.more F) wc:=.imp (by rw[hg];exact(funext hE.g).symm) λo f=>by grind
  have S:=RZ hn
  have rest:∀{r':RT (bB ss)},(gu (s::ss) (v::p)=gu ss p\/gu (s::ss) (v::p)=v::gu ss p)->bQ P bK ss p=some r'->eu P w1 bK h L wc st (b7 ss r' st) ys:=by
   intro r' hd m
   refine ih m b (λu hu=>K u ?_) (λa' E w9=>?_) S hs hF hL λo ho a' E=>BN o ho a' (List.mem_cons_of_mem _ E)
   .grind
   .grind[List.mem_cons_of_mem,CB]
  have J:∀(w:Wd),(∀j k,wc.s j=some k->w.s j=some k)->∀i j k,L[i]?=some j->w1.s i=some k->w.s j=some k:=λw e i j k h1 h2=>e _ _ (hL i j k h1 h2)
  have own:∀{a0:Nat}{x x':ai}{r':RT (bB ss)},v=.own a0->gu (s::ss) (v::p)=gu ss p->bK.get a0=some x->x≠.gone->(∀t rows l,x≠.mp t rows l)->(∀t cs,x≠.box t cs)->(∀t cs,x'≠.box t cs)->(cN P (w1.more F) h a0 x->cN P (w1.more F) h a0 x')->bQ P bK ss p=some r'->
   eu P w1 bK h L wc st (.own st.nx::(b7 ss r' {st with ob:=st.ob.put st.nx x',nx:=st.nx+1}).1,(b7 ss r' {st with ob:=st.ob.put st.nx x',nx:=st.nx+1}).2) (y::ys):=by
   intro a0 x x' r' Q hd hx U hnp hnb X hxx m
   subst Q
   have Y:live bK a0:=⟨x,hx,U⟩
   have hnD:SV.own a0∉C:=λe=>by have:=hD2 a0 (List.mem_cons_self ..) e;rw[hd]at this;exact CB hn (DM this)
   have V:(bg bK C).get a0=some x:=by rw[qw hnD λt r l e=>by grind];exact hx
   have M:=hE.fO V
   obtain⟨k,hk⟩:∃k,w1.s a0=some k:=by cases a with|ck e=>grind|bX e=>grind
   have hlE:live (bg bK C) a0:=⟨x,V,U⟩
   have G:∀o,k.obj=some o->¬Ow wc st.ob o/\o<h.next:=λo ho=>⟨λhow=>BN o how a0 (List.mem_cons_self ..) Y k hk ho,hE.lt a0 k o hk ho⟩
   have hnx:(wc.next st.nx k).s st.nx=some k:=by simp[Wd.next]
   have O:cN P (wc.next st.nx k) h st.nx x':=(hxx M).to X (z.trans (.imp rfl λ_ f=>f)) (λo f=>by have f':wc.F o:=f;grind) hk hnx
   obtain⟨t1,t2,t3,t4⟩:=hs.take O G
   refine eu.obj hs O G (λo ho=>⟨a0,k,Y,hk,ho,λn e=>by cases a with|ck e2=>grind|bX e2=>grind⟩) (λw e=>?_) (ih m b (λu hu=>K u (by grind)) (λa' E w9=>?_) S t1 hF (J _ t2) ?_)
   .cases a with|ck e2=>rw[hk]at e2;cases e2;exact .ck e|bX e2=>rw[hk]at e2;cases e2;exact .bX e
   .grind
   .intro o ho a' E Z k' ub BJ
    rcases t4 o ho with e|e
    .grind
    .have:=hE.inj a0 a' k k' o hlE ((hl.live a').2 Z) hk ub e BJ;subst this;exact CB hn E
  have nil:∀{x':ai}{r':RT (bB ss)},v=.sc (.slice none 0 0)->gu (s::ss) (v::p)=gu ss p->cN P (wc.next st.nx .nil) h st.nx x'->bQ P bK ss p=some r'->
   eu P w1 bK h L wc st (.own st.nx::(b7 ss r' {st with ob:=st.ob.put st.nx x',nx:=st.nx+1}).1,(b7 ss r' {st with ob:=st.ob.put st.nx x',nx:=st.nx+1}).2) (y::ys):=by
   intro x' r' Q hd M m
   subst Q
   obtain⟨t1,t2,t3,t4⟩:=hs.take (k:=.nil) M (λo e=>by cases e)
   refine eu.obj hs M (λo e=>by cases e) (λo e=>by cases e) (λw e=>?_) (ih m b (λu hu=>K u (by grind)) (λa' E w9=>?_) S t1 hF (J _ t2) ?_)
   .cases a;exact .ck e
   .grind
   .intro o ho a' E Z k' ub BJ
    rcases t4 o ho with e|e
    .grind
    .cases e
  cases s with
  |int k=>obtain⟨n,r',rfl,m,rfl⟩:=TG he;show eu P w1 bK h L wc st (.sc (.int k (RT.head (RT.cons (a:=.int) n r')))::(b7 ss (RT.tail (RT.cons (a:=.int) n r')) st).1,(b7 ss (RT.tail (RT.cons (a:=.int) n r')) st).2) _;rw[RT.head_cons,RT.tail_cons];cases a;exact(rest (.inl rfl) m).cons hg λ_ _ _=>.sc rfl
  |bool=>obtain⟨n,r',rfl,m,rfl⟩:=Jd he;show eu P w1 bK h L wc st (.sc (.bool (RT.head (RT.cons (a:=.bool) n r')))::(b7 ss (RT.tail (RT.cons (a:=.bool) n r')) st).1,(b7 ss (RT.tail (RT.cons (a:=.bool) n r')) st).2) _;rw[RT.head_cons,RT.tail_cons];cases a;exact(rest (.inl rfl) m).cons hg λ_ _ _=>.sc rfl
  |str=>obtain⟨n,r',rfl,m,rfl⟩:=TH he;show eu P w1 bK h L wc st (.sc (.string (RT.head (RT.cons (a:=.str) n r')))::(b7 ss (RT.tail (RT.cons (a:=.str) n r')) st).1,(b7 ss (RT.tail (RT.cons (a:=.str) n r')) st).2) _;rw[RT.head_cons,RT.tail_cons];cases a;exact(rest (.inl rfl) m).cons hg λ_ _ _=>.sc rfl
  |dl t=>obtain⟨x,r',hx,m,rfl⟩:=Vh he;show eu P w1 bK h L wc st (.dl t (RT.head (RT.cons (a:=.rows) x r'))::(b7 ss (RT.tail (RT.cons (a:=.rows) x r')) st).1,(b7 ss (RT.tail (RT.cons (a:=.rows) x r')) st).2) _;rw[RT.head_cons,RT.tail_cons];have R:=I4 (K v (List.mem_cons_self ..)) h3 hx a;exact(rest (.inr rfl) m).cons hg λw D _=>.dl (R.mono (z.trans D))
  |md t=>obtain⟨x,r',hx,m,rfl⟩:=Vi he;show eu P w1 bK h L wc st (.md t (RT.head (RT.cons (a:=.rows) x r'))::(b7 ss (RT.tail (RT.cons (a:=.rows) x r')) st).1,(b7 ss (RT.tail (RT.cons (a:=.rows) x r')) st).2) _;rw[RT.head_cons,RT.tail_cons];have R:=Tn (K v (List.mem_cons_self ..)) h5 hx a;exact(rest (.inr rfl) m).cons hg λw D _=>.md (R.bI (z.trans D).c)
  |own t aM=>
   obtain⟨x,r',hf,T,I,hx,m,rfl⟩:=TI he
   show eu P w1 bK h L wc st (.own st.nx::(b7 ss (RT.tail (RT.cons (a:=.rows) x r')) {st with ob:=st.ob.put st.nx (.arr t (RT.head (RT.cons (a:=.rows) x r')) aM),nx:=st.nx+1}).1,(b7 ss (RT.tail (RT.cons (a:=.rows) x r')) {st with ob:=st.ob.put st.nx (.arr t (RT.head (RT.cons (a:=.rows) x r')) aM),nx:=st.nx+1}).2) _
   rw[RT.head_cons,RT.tail_cons]
   unfold asData at hx
   split at hx
   .cases hf
   .cases hx;obtain⟨g1,g2,_⟩:=sT T;exact nil rfl rfl ⟨g1,g2,I,.inl ⟨by simp[Wd.next],rfl⟩⟩ m
   .rename_i a0
    split at hx
    .rename_i t' rows l hb
     split at hx
     .rename_i e;subst e;cases hx
      refine own rfl rfl hb (by simp) (by simp) (by simp) (by simp) (λho=>?_) m
      obtain⟨a1,a2,a3,a4⟩:=ho
      refine⟨a1,a2,a3,?_⟩
      rcases a4 with q|⟨o,ver,mv,c,ex,sh,cap,q1,q2,q3,q4,q5,q6,q7,q8⟩
      .exact .inl q
      .refine .inr ⟨o,ver,mv,c,ex,sh,cap,q1,q2,q3,q4,q5,q6,λ_=>trivial,λe=>q8 ?_⟩;grind[yv]
     .cases hx
    .cases hx
   .cases hx
  |tr t=>
   obtain⟨x,r',T,I,hx,m,rfl⟩:=Vj he
   show eu P w1 bK h L wc st (.own st.nx::(b7 ss (RT.tail (RT.cons (a:=.rows) x r')) {st with ob:=st.ob.put st.nx (.tr t (RT.head (RT.cons (a:=.rows) x r')) false),nx:=st.nx+1}).1,(b7 ss (RT.tail (RT.cons (a:=.rows) x r')) {st with ob:=st.ob.put st.nx (.tr t (RT.head (RT.cons (a:=.rows) x r')) false),nx:=st.nx+1}).2) _
   rw[RT.head_cons,RT.tail_cons]
   unfold AF at hx
   split at hx
   .cases hx;obtain⟨g1,g2,_⟩:=sT T;exact nil rfl rfl ⟨g1,g2,I,.inl ⟨by simp[Wd.next],rfl⟩⟩ m
   .rename_i a0
    split at hx
    .rename_i t' rows hb
     split at hx
     .rename_i e;subst e;cases hx;exact own rfl rfl hb (by simp) (by simp) (by simp) (by simp) (λho=>ho) m
     .cases hx
    .cases hx
   .cases hx
  |ba t=>
   obtain⟨x,r',I,hx,m,rfl⟩:=TJ he
   show eu P w1 bK h L wc st (.own st.nx::(b7 ss (RT.tail (RT.cons (a:=.str) x r')) {st with ob:=st.ob.put st.nx (.ba (RT.head (RT.cons (a:=.str) x r')) t),nx:=st.nx+1}).1,(b7 ss (RT.tail (RT.cons (a:=.str) x r')) {st with ob:=st.ob.put st.nx (.ba (RT.head (RT.cons (a:=.str) x r')) t),nx:=st.nx+1}).2) _
   rw[RT.head_cons,RT.tail_cons]
   unfold AE at hx
   split at hx
   .cases hx;exact nil rfl rfl ⟨I,.inl ⟨by simp[Wd.next],rfl⟩⟩ m
   .rename_i a0
    split at hx
    .rename_i s' t' hb
     split at hx
     .rename_i e;subst e;cases hx;exact own rfl rfl hb (by simp) (by simp) (by simp) (by simp) (λho=>ho) m
     .cases hx
    .cases hx
   .cases hx
  |opt u=>
   obtain⟨bb,r',m,rfl,hc⟩:=TK he
   show eu P w1 bK h L wc st (.opt (RT.head (RT.cons (a:=.bool) bb r')) u::(b7 ss (RT.tail (RT.cons (a:=.bool) bb r')) st).1,(b7 ss (RT.tail (RT.cons (a:=.bool) bb r')) st).2) _
   rw[RT.head_cons,RT.tail_cons]
   refine(rest (.inl rfl) m).cons hg λw D N=>?_
   rcases hc with⟨v',rfl,e⟩|⟨rfl,rfl⟩|⟨i,o,rfl,rfl,e⟩
   .cases a with|fJ a1 a2=>exact .fJ (yB ((aK.more w1 F).trans (z.trans D)).c (J w N) a1 e) a2|il=>exact .il
   .cases a;exact .il
   .have hna:=a.na (by simp) (by simp);exact .fJ (yB ((aK.more w1 F).trans (z.trans D)).c (J w N) a e) hna
  |iZ u=>obtain⟨e,m⟩:=TL he;show eu P w1 bK h L wc st (u::(b7 ss r st).1,(b7 ss r st).2) _;exact(rest (.inl rfl) m).cons hg λw D N=>yB ((aK.more w1 F).trans (z.trans D)).c (J w N) a e
  |aA=>show eu P w1 bK h L wc st (.aA::(b7 ss r st).1,(b7 ss r st).2) _;exact(rest (.inl rfl) (show bQ P bK ss p=some r from he)).cons hg λ_ _ _=>.aA _
  |ea=>
   show eu P w1 bK h L wc st (.ea::(b7 ss r st).1,(b7 ss r st).2) _
   have he:(match mo v with|true=>bQ P bK ss p|false=>none)=some r:=by cases v<;>exact he
   split at he
   .rename_i G2;exact(rest (.inl rfl) he).cons hg λ_ _ _=>.ea (a.cell G2)
   .cases he
end
end Go.AI
end

section
namespace Go.AI
section
variable {P:Program}{w w' w1 wc:Wd}{ob ob' bK:Tr ai}{nx:Nat}{h h':AHeap}{ρ:Type}
def jD(ob:Tr ai)(w:Wd):List Nat->List AV|[]=>[]|i::is=>(match ob.get i with|some (.box _ _)=>(match w.s i with|some (.box o _)=>(match w.g o with|some (.cells _ _ c _ _ _ _)=>c|_=>[])|_=>[])|_=>[])++jD ob w is
theorem xu(hs:af P w ob nx h):∀(is:List Nat),ak P w (mE ob is) (jD ob w is)|[]=>.nil|i::is=>by simp only[mE,jD];cases hb:ob.get i with|none=>simpa using xu hs is|some x=>cases x with|box t cs=>obtain⟨o,c,sh,b1,b2,b3,_⟩:=hs.box i t cs hb;simp only[b1,hs.g,b2];exact b3.append (xu hs is)|_=>simpa using xu hs is
inductive Al(w1 wc:Wd)(bK:Tr ai):List Nat->List Nat->List ai->Prop|nil:Al w1 wc bK [] [] []|box{i j o n:Nat}{t:TypeId}{cs aH:List SV}{is js:List Nat}{os:List ai}:bK.get j=some (.box t aH)->w1.s j=some (.box o n)->cs.length=n->wc.s i=some (.box o n)->Al w1 wc bK is js os->Al w1 wc bK (i::is) (j::js) (.box t cs::os)|other{i j:Nat}{x:ai}{is js:List Nat}{os:List ai}:(∀t cs,x≠.box t cs)->(∀t cs,bK.get j≠some (.box t cs))->Al w1 wc bK is js os->Al w1 wc bK (i::is) (j::js) (x::os)
theorem TO{L:Nat}{q:Tr ai}(hE:af P w1 q L h)(K:∀i t cs,q.get i=some (.box t cs)↔bK.get i=some (.box t cs))(hF:wc.F=w1.F):∀{is js:List Nat}{os:List ai},Al w1 wc bK is js os->∀{vs:List SV}{ob:Tr ai},
 af P wc ob nx h->ak P wc vs (jD bK w1 js)->cn vs=true->is.Nodup->js.Nodup->(∀i,i∈is->¬live ob i/\i<nx)->(∀j,j∈js->live q j->∀n o,w1.s j=some (.box o n)->¬Ow wc ob o)->af P wc (jN is os vs ob) nx h/\(∀j,j∉is->(jN is os vs ob).get j=ob.get j)/\(∀(p:Nat)(i:Nat)(t:TypeId)(cs:List SV),is[p]?=some i->os[p]?=some (.box t cs)->∃aH,(jN is os vs ob).get i=some (.box t aH))/\(∀o,Ow wc (jN is os vs ob) o->Ow wc ob o\/Ow w1 q o):=by
 intro is js os J
 induction J with
 |nil=>intro vs ob hs _ _ _ _ _ _;exact⟨hs,λ_ _=>rfl,λp i t cs e=>by simp at e,λ_ e=>.inl e⟩
 |@box i j o n t cs aH is js os hb hk hn D J ih=>
  intro vs ob hs hv E m u hd I
  obtain⟨o',c,sh,b1,b2,b3,Y,X⟩:=hE.box j t aH ((K j t aH).2 hb)
  rw[hk]at b1
  simp only[an,Lk.box.injEq]at b1
  obtain⟨rfl,rfl⟩:=b1
  simp only[jD,hb,hk,hE.g,b2]at hv
  have h1:ak P wc (vs.take cs.length) c:=by have:=hv.take c.length;rw[List.take_left]at this;rw[hn];exact this
  have h2:ak P wc (vs.drop cs.length) (jD bK w1 js):=by have:=hv.drop c.length;rw[List.drop_left]at this;rw[hn];exact this
  have fP:∀(l:List SV)(n:Nat),cn l=true->cn (l.take n)=true/\cn (l.drop n)=true:=by intro l;induction l with|nil=>grind|cons v l ih=>intro n e;simp only[cn,aZ]at e;cases n with|zero=>simp[cn,e.1,e.2]|succ n=>simp_all[List.take_succ_cons,List.drop_succ_cons,aZ,cn]
  obtain⟨U,T⟩:=fP vs cs.length E
  have G:live q j:=⟨_,(K j t aH).2 hb,by simp⟩
  obtain⟨q1,_⟩:=hs.EW (w':=wc) (i:=i) (nx':=nx) (x:=.box t (vs.take cs.length)) (k:=.box o c.length) rfl rfl (λ_ _=>rfl) D (.inr D) (hd i (List.mem_cons_self ..)).1 (λC e=>by cases e;exact⟨I j (List.mem_cons_self ..) G _ _ hk,hE.lt j _ _ hk rfl⟩) ⟨o,c,sh,D,b2,h1,U,by grind⟩ (hd i (List.mem_cons_self ..)).2 (ao _)
  rw[List.nodup_cons]at m u
  have how:∀C,Ow wc (ob.put i (.box t (vs.take cs.length))) C->Ow wc ob C\/C=o:=by
   rintro C⟨a,k,⟨y,e1,e2⟩,e3,e4⟩
   by_cases e:a=i
   .subst e;rw[D]at e3;cases e3;cases e4;grind
   .rw[Tr.aB _ _ e]at e1;exact .inl ⟨a,k,⟨y,e1,e2⟩,e3,e4⟩
  obtain⟨R,S,Q,O⟩:=ih (vs:=vs.drop cs.length) q1 h2 T m.2 u.2 (λa ha=>⟨λ⟨y,e1,e2⟩=>by
   have:a≠i:=by rintro rfl;exact m.1 ha
   rw[Tr.aB _ _ this]at e1
   exact(hd a (List.mem_cons_of_mem _ ha)).1 ⟨y,e1,e2⟩,(hd a (List.mem_cons_of_mem _ ha)).2⟩)
   (λa ha dU k C e1 e3=>by
    rcases how C e3 with e|e
    .grind
    .subst e;have:=hE.inj a j _ _ _ dU G e1 hk rfl rfl;grind)
  refine⟨R,λa ha=>?_,λp a t2 N e1 e2=>?_,λC e=>?_⟩
  .simp only[List.mem_cons,not_or]at ha;grind[Tr.aB,jN]
  .cases p with|zero=>grind[List.getElem?_cons_zero,an,Tr.aQ,refine,jN]|succ p=>exact Q p a t2 N (by grind) (by grind)
  .rcases O C e with e|e
   .rcases how C e with e|e
    .exact .inl e
    .subst e;exact .inr ⟨j,_,G,hk,rfl⟩
   grind
 |@other i j x is js os hx hb J ih=>
  intro vs ob hs hv E m u hd I
  rw[List.nodup_cons]at m u
  have M:ak P wc vs (jD bK w1 js):=by simp only[jD]at hv;cases hz:bK.get j with|none=>grind|some z=>grind
  have V:jN (i::is) (x::os) vs ob=jN is os vs ob:=by cases x with|box t cs=>grind|_=>rfl
  rw[V];obtain⟨R,S,Q,O⟩:=ih hs M E m.2 u.2 (λa ha=>hd a (List.mem_cons_of_mem _ ha)) (λa ha=>I a (List.mem_cons_of_mem _ ha));grind
theorem H2(m:Nat):∀(ls:List Lf),(ou P m ls).length=ls.length|[]=>rfl|l::ls=>by cases l<;>simp[ou,H2 m ls]
theorem TP{t e:TypeId}(h:lj P t=some e):lay P t=[.no]:=by grind[DJ,lay,AA]
theorem Iq(m:Nat)(t:TypeId):(D9 P m t).length=(lay P t).length:=by grind[TP,H2,D9]
theorem L4(m:Nat):∀{ts:List TypeId}{vs:List SV}{ys:List AV},nr P ts vs=true->ak P w vs ys->∃c,ak P w (ku P ts vs) c/\c.length=(nk P m ts).length/\∀(wc:Wd)(us:List SV),ak P wc us c->ak P wc (qK P ts us) ys
 |[],[],_,_,.nil=>⟨[],.nil,rfl,λ_ _ _=>.nil⟩
 |t::ts,v::vs,_,h,.cons (x:=y) (xs:=i) a b=>by
  simp only[nr,aZ]at h
  obtain⟨c,q1,q2,q3⟩:=L4 m h.2 b
  have one:dG P t≠some true->(lay P t).length=1->∃c,ak P w (ku P (t::ts) (v::vs)) c/\c.length=(nk P m (t::ts)).length/\∀(wc:Wd)(us:List SV),ak P wc us c->ak P wc (qK P (t::ts) us) (y::i):=by
   intro hn h1
   refine⟨y::c,?_,by grind[List.length_append,Iq,kx,nk],λwc us hu=>?_⟩
   .simp only[ku];exact .cons a q1
   .cases hu with|cons o j=>simp only[qK,h1];exact .cons o (q3 wc _ j)
  have h1:=h.1
  split at h1
  .rename_i cs hi
   have hl:=Nat.eq_of_beq_eq_true h1
   cases a with
   |agg ha=>
    rename_i xs
    refine⟨xs++c,?_,by simp only[nk,List.length_append,Iq,q2,<-ha.length,hl],λwc us hu=>?_⟩
    .simp only[ku,hi,bc];exact ha.append q1
    .simp only[qK,hi]
     have p:(lay P t).length=xs.length:=by rw[<-hl,ha.length]
     refine .cons (.agg ?_) (q3 wc _ ?_)
     .have:=hu.take xs.length;grind
     .have:=hu.drop xs.length;grind
  .cases h1
  .cases h1
  simp_all|[],_::_,_,h,_=>by simp[nr]at h|_::_,[],_,h,_=>by simp[nr]at h
end
end Go.AI
end

section
namespace Go.AI
variable [Kn]
structure o9(P:Program)(A:cQ):Prop where
 none:∀f,A.kn f=.none->∀xs h,Kn.K f xs h=.none
 some:∀f g,A.kn f=.some g->∀(w:Wd)(h:AHeap)(xs:List AV)(aY:List SV)(v:SV),(∀o,w.g o=h.get o)->ak P w aY xs->g aY=.some (true,v)->∃y,Kn.K f xs h=.some y/\RV P w v y
def iq{l m:List LT}:(p:Bool)->AT p l m->(RT l->Prop)->(TypeId->List AV->RT m->Prop)->Prop|false,r,Q,_=>Q r|true,.ret r,Q,_=>Q r|true,.aE t row b,_,Q'=>Q' t row b
theorem iq.imp{l m:List LT}{p:Bool}{a:AT p l m}{Q i:RT l->Prop}{Q' c:TypeId->List AV->RT m->Prop}(h:iq p a Q Q')(h1:∀r,Q r->i r)(h2:∀t row b,Q' t row b->c t row b):iq p a i c:=by cases p with|false=>exact h1 _ h|true=>cases a with|ret r=>exact h1 _ h|aE t row b=>exact h2 _ _ _ h
theorem Vl{ρ:Type}{l m:List LT}{p:Bool}{x:Option (AT p l m)}{k:RT l->Option ρ}{kp:TypeId->List AV->RT m->Option ρ}{r:ρ}(h:NS p x k kp=some r):
 ∃a,x=some a/\∀(Q:RT l->Prop)(Q':TypeId->List AV->RT m->Prop),iq p a Q Q'->(∃b,Q b/\k b=some r)\/∃t row b,Q' t row b/\kp t row b=some r:=by
 cases p with
 |false=>cases x with|none=>cases h|some a=>exact⟨a,rfl,λQ Q' hq=>.inl ⟨a,hq,h⟩⟩
 |true=>cases x with|none=>cases h|some a=>cases a with|ret b=>exact⟨_,rfl,λQ Q' hq=>.inl ⟨b,hq,h⟩⟩|aE t row b=>exact⟨_,rfl,λQ Q' hq=>.inr ⟨t,row,b,hq,h⟩⟩
theorem W6{l m:List LT}{p:Bool}{x:Option (RT l)}{r:AT p l m}(h:OZ p x=some r){Q:RT l->Prop}{Q':TypeId->List AV->RT m->Prop}(hq:∀a,x=some a->Q a):iq p r Q Q':=by cases p with|false=>exact hq _ h|true=>cases x with|none=>cases h|some a=>cases h;exact hq _ rfl
theorem Vm{l m:List LT}{p:Bool}{t:TypeId}{row:List AV}{x:Option (RT m)}{r:AT p l m}(h:NT p t row x=some r){Q:RT l->Prop}{Q':TypeId->List AV->RT m->Prop}(hq:∀a,x=some a->Q' t row a):iq p r Q Q':=by cases p with|false=>cases h|true=>cases x with|none=>cases h|some a=>cases h;exact hq _ rfl
def gM(P:Program)(t:TypeId)(row:List AV)(y:AV):Prop:=∀w,RV P w (AH P t row) y
def BO(P:Program):iY->bu->Prop|.no,.none=>True|.gP,.none=>True|.ret,.ret=>True|.aE t row b,.aE y b'=>b=b'/\gM P t row y|_,_=>False
def ue(md:iY)(b:Bool)(c:bu):Prop:=match md with|.aE _ _ _=>b=true->∃y,c=.aE y true|.ret=>c=.ret|.no=>False|.gP=>False
def tN{ρ:Type}(P:Program)(w:Wd)(h:AHeap)(st:ad)(f:FuncId)(xs:List AV)(k:SV->ad->Option ρ)(kp:TypeId->List AV->ad->Option ρ)(r:ρ)(fr:Prop):Prop:=(∃m w' st' h' v y,af P w' st'.ob st'.nx h'/\aT w st.ob h w' st'.ob h'/\st'.tm=st.tm/\st'.r=st.r/\k v st'=some r/\(bz P m).call .normal f xs .none h=some (.ret y,.none,h')/\RV P w' v y/\(fr->∀p,p∈h'.wr->p∈h.wr\/h.next<=p\/Lp h.get p))\/(∃m w' st' h' t row y,af P w' st'.ob st'.nx h'/\aT w st.ob h w' st'.ob h'/\st'.tm=st.tm/\st'.r=st.r/\kp t row st'=some r/\(bz P m).call .normal f xs .none h=some (.aE y,.none,h')/\gM P t row y)
structure eA(P:Program)(A:cQ)(Rs:dg A.pn):Prop where
 kn:o9 P A
 call:∀f args au shs psh r,Rs.call f args au shs psh=some r->∀(w:Wd)(h:AHeap)(xs:List AV),af P w (bH au 0 .leaf) au.length h->ak P w args xs->∃m fn h',P.funcs[f]?=some fn/\iq (A.pn f) r (λr=>∃y,(bz P m).call .normal f xs .none h=some (.ret y,.none,h.outer h')/\dR P w (bH au 0 .leaf) au.length h.inner fn.resultTypes.toList shs r y h') (λt row b=>∃y,(bz P m).call .normal f xs .none h=some (.aE y,.none,h.outer h')/\gM P t row y/\dR P w (bH au 0 .leaf) au.length h.inner [] psh b dm h')
 wt:∀f md args au shs b r,Rs.wt f md args au shs=some (b,r)->∀(w:Wd)(h:AHeap)(xs:List AV)(cm:bu),af P w (bH au 0 .leaf) au.length h->ak P w args xs->BO P md cm->∃m fn y h' cm',P.funcs[f]?=some fn/\(bz P m).call .deferred f xs cm h=some (.ret y,cm',h.outer h')/\ue md b cm'/\dR P w (bH au 0 .leaf) au.length h.inner fn.resultTypes.toList shs r y h'
 inl:∀{ρ:Type}(f:FuncId)(args:List SV)(st:ad)(k:SV->ad->Option ρ)(kp:TypeId->List AV->ad->Option ρ)(r:ρ),Rs.inl f args st k kp=some r->∀(w:Wd)(h:AHeap)(xs:List AV),af P w st.ob st.nx h->ak P w args xs->tN P w h st f xs k kp r False
 gP:∀f ts aY au shs r,Rs.gP f ts aY au shs=some r->eE aY=true->iL au=true->∀(w:Wd)(h:AHeap)(l tn dd:Nat)(tm:Tr AV)(ps:List Tmp)(hd bd:Code)(ys:List AV),af P w (bH au 0 .leaf) au.length h->h.get l=some (.loop .ready none f tn tm ps hd bd dd)->ET P f tn ps hd bd->ak P w aY (ts.map (λt=>ev tm (.tmp t))++ys)->∃m h',(bz P m).round l ys h=some (.ret (.sc (.bool true)),h')/\ry P (λ_=>False) w (bH au 0 .leaf) au.length h [] shs r dm h'
section
variable {P:Program}{w w' w1 wc:Wd}{ob ob' bK:Tr ai}{nx:Nat}{h h':AHeap}{ρ:Type}
theorem y5{α:Type}{x:Option α}{k:α->Option ρ}{r:ρ}(h:ask x k=some r):∃a,x=some a/\k a=some r:=by unfold ask at h;grind
theorem af.mL{h2:AHeap}(hs:af P w ob nx h)(hg:∀o,h2.get o=h.get o)(hn:h2.next=h.next):af P w ob nx h2:=by
 have c:h2.get=h.get:=funext hg
 refine⟨λo=>by rw[hg];exact hs.g o,?_,?_,?_,hs.inj,by rw[hn];exact hs.lt,hs.nx,by rw[hn,c];exact hs.bJ,by rw[hn,c];exact hs.new,by rw[c];exact hs.mp,by rw[c];exact hs.tr⟩
 .rw[c];exact hs.box
 .rw[c];exact hs.arr
 .rw[c];exact hs.ba
theorem CU:∀{os:List ai},oI os=true->∀(p:Nat),os[p]?≠some .gone
 |[],_,p=>by simp
 |x::os,h,0=>by intro e;simp at e;subst e;cases h
 |x::os,h,p+1=>by
  have h':oI os=true:=by cases x with|gone=>cases h|_=>exact h
  simpa using CU h' p
theorem J1:∀{L:List Nat},nodup L=true->L.Nodup|[],_=>List.nodup_nil|x::xs,h=>by obtain⟨a,b⟩:=nodup_cons h;exact List.nodup_cons.2 ⟨a,J1 b⟩
theorem uK:∀n,(upto n).length=n|0=>rfl|n+1=>by simp[upto,uK n]
theorem x1:∀{n p:Nat},p<n->(upto n)[p]?=some p
 |0,p,h=>by omega
 |n+1,p,h=>by
  simp only[upto]
  by_cases e:p<n
  .rw[List.getElem?_append_left (by rw[uK];exact e)];exact x1 e
  .have:p=n:=by omega
   subst this;rw[List.getElem?_append_right (by rw[uK];omega),uK];simp
theorem J2:∀{n p:Nat},p∈upto n->p<n
 |0,p,h=>by simp[upto]at h
 |n+1,p,h=>by
  simp only[upto,List.mem_append,List.mem_singleton]at h
  rcases h with h|h
  .have:=J2 h;omega
  .omega
theorem Ir:∀n,(upto n).Nodup|0=>List.nodup_nil|n+1=>by simp only[upto];rw[List.nodup_append];refine⟨Ir n,by simp,?_⟩;intro a ha b hb;simp at hb;subst hb;have:=J2 ha;omega
theorem HD(ob:Tr ai)(w:Wd)(F:Nat->Prop):∀is,jD ob (w.more F) is=jD ob w is|[]=>rfl|i::is=>by have:=HD ob w F is;unfold jD;rw[this];rfl
theorem Al.oN:∀{is js:List Nat}{os:List ai},is.length=js.length->is.length=os.length->(∀(p i j:Nat)(x:ai),is[p]?=some i->js[p]?=some j->os[p]?=some x->
 (∀t cs,x=.box t cs->∃aH o n,bK.get j=some (.box t aH)/\w1.s j=some (.box o n)/\cs.length=n/\wc.s i=some (.box o n))/\((∀t cs,x≠.box t cs)->∀t cs,bK.get j≠some (.box t cs)))->Al w1 wc bK is js os
 |[],[],[],_,_,_=>.nil
 |i::is,j::js,x::os,h1,h2,hf=>by have ih:=Al.oN (is:=is) (js:=js) (os:=os) (by simpa using h1) (by simpa using h2) λp i j x a b c=>hf (p+1) i j x (by simpa using a) (by simpa using b) (by simpa using c);obtain⟨a,b⟩:=hf 0 i j x rfl rfl rfl;cases x with|box t cs=>obtain⟨aH,o,n,q1,q2,q3,m⟩:=a t cs rfl;exact .box q1 q2 q3 m ih|_=>exact .other (by simp) (b (by simp)) ih
 |[],_::_,_,h,_,_=>by simp at h|_::_,[],_,h,_,_=>by simp at h|[],[],_::_,_,h,_=>by simp at h|_::_,_::_,[],_,h,_=>by simp at h
theorem CC{c o:Nat}:∀{os l:List Nat},o∈s5 l c os->o∈l\/o∈os
 |[],l,h=>.inl h
 |p::os,l,h=>by
  rcases CC (os:=os) (l:=jj l c p) h with e|e
  .rcases mC e with e|rfl
   .exact .inl e
   .exact .inr (List.mem_cons_self ..)
  .exact .inr (List.mem_cons_of_mem _ e)
theorem CV{c:Nat}:∀{os l:List Nat},(∀p,p∈l->p<c)->∀p,p∈s5 l c os->p<c|[],l,h=>h|o::os,l,h=>CV (os:=os) (oo h)
theorem Vn{F:Nat->Prop}{us:List SV}(h3:∀i,SV.own i∈us->∀t rows l x,iR ob i t rows l->RV P w (.own i) x->Rd P (w.more F) t rows x)(h5:∀i,SV.om i∈us->∀t rows l x,ob.get i=some (.mp t rows l)->RV P w (.om i) x->Rm P (w.more F) t rows x){v:SV}{x:AV}(hv:∀c,c∈bc v->c∈us)(hx:RV P w v x):RV P (w.more F) (nH ob v) x:=by
 cases v with
 |agg cs=>
  cases hx with
  |agg a=>
   refine .agg ?_
   have:∀{cs:List SV}{xs:List AV},(∀c,c∈cs->c∈us)->ak P w cs xs->ak P (w.more F) (cs.map (bJ ob)) xs:=by intro cs;induction cs with|nil=>intro xs _ hb;cases hb;exact .nil|cons c cs ih=>intro xs hm hb;cases hb with|cons b1 b2=>exact .cons (oO h3 h5 (hm c (by simp)) b1) (ih (λd hd=>hm d (by simp[hd])) b2)
   exact this hv a
 |_=>exact oO h3 h5 (hv _ (by simp[bc])) hx
theorem uL{F:Nat->Prop}{us:List SV}(h3:∀i,SV.own i∈us->∀t rows l x,iR ob i t rows l->RV P w (.own i) x->Rd P (w.more F) t rows x)(h5:∀i,SV.om i∈us->∀t rows l x,ob.get i=some (.mp t rows l)->RV P w (.om i) x->Rm P (w.more F) t rows x):∀{vs:List SV}{xs:List AV},(∀c,c∈vs.flatMap bc->c∈us)->ak P w vs xs->ak P (w.more F) (vs.map (nH ob)) xs|[],_,_,.nil=>.nil|v::vs,_,hm,.cons a b=>.cons (Vn h3 h5 (λc hc=>hm c (by simp[hc])) a) (uL h3 h5 (λc hc=>hm c (by grind)) b)
theorem yC(hs:af P w ob nx h){L:List Nat}{m:Wd}(c:m.s=w.s){o:Nat}(ho:Ow m (gE ob L) o):¬Ow (w.sub L) (bH (bW ob L L) 0 .leaf) o/\o<h.next/\Ow w ob o:=by
 obtain⟨j,k,⟨y,h1,h2⟩,h3,h4⟩:=ho
 rw[c]at h3
 rw[my]at h1
 split at h1
 .grind
 .rename_i hj;refine⟨λhow=>?_,hs.lt j k o h3 h4,⟨j,k,⟨y,h1,h2⟩,h3,h4⟩⟩;obtain⟨a,i,k',e1,e2,e3,e4⟩:=Ow.sub how;have:=hs.inj i j k' k o e2 ⟨y,h1,h2⟩ e3 h3 e4 h4;grind
theorem Ow.kH{L:List Nat}{o:Nat}(h:Ow (w.sub L) (bH (bW ob L L) 0 .leaf) o):Ow w ob o:=by obtain⟨_,i,k,_,e2,e3,e4⟩:=Ow.sub h;exact⟨i,k,e2,e3,e4⟩
variable {A:cQ}{R:dg A.pn}{kp:TypeId->List AV->ad->Option ρ}
theorem Vo{bx:TypeId->Nat}{st i:ad}{aY c:List SV}{L:List Nat}{au:List ai}(hc:lS P bx st aY []=some (c,au,L,i))(he:dw aY=[]):L=[]:=by
 unfold lS at hc
 simp only at hc
 split at hc
 .simp only[an,aV]at hc;rw[<-hc.2.2.1,he];rfl
 .cases hc
theorem J3{w2:Wd}{m:ad}{L:List Nat}{hi ho:AHeap}{X:Nat->Prop}(hig:hi.next=h.next)(hgi:hi.get=h.get)(hX:∀o,o<h.next->¬X o)(hwi:∀p,p∈hi.wr->p∈h.wr)(c1:af P w2 m.ob m.nx h)(c8:nodup L=true)(c5:af P (w2.sub L) (bH (bW m.ob L L) 0 .leaf) (bW m.ob L L).length h)(J:oI (bW m.ob L L)=true)
 {o0:Nat}{ts:List TypeId}{shs:List Sh}{S:RT (bB shs)}{y0:AV}{h':AHeap}(hp:ry P X (w2.sub L) (bH (bW m.ob L L) 0 .leaf) (bW m.ob L L).length hi ts shs S y0 h')
 (Z:ho.get=h'.get)(hon:ho.next=h'.next)(hof:ho.floor=h.floor)(how:∀p,p∈ho.wr->p∈h.wr\/p∈h'.wr)(hol:(∀p,p∈h.wr->p<h.floor)->∀p,p∈ho.wr->p<ho.floor)
 {k:SV->ad->Option ρ}{r:ρ}(hr:rp P shs (nk P o0 ts).length ts L (bW m.ob L L) m S k=some r):
 ∃w' st' v,af P w' st'.ob st'.nx ho/\aT w2 m.ob h w' st'.ob ho/\st'.tm=m.tm/\st'.r=m.r/\k v st'=some r/\RV P w' v y0/\(L=[]->∀p,p∈ho.wr->p∈h.wr\/h.next<=p\/Lp h.get p):=by
 obtain⟨w1,ob',nx',vs,ys,hC,hf,hv,rfl,hnd,G2,abk⟩:=hp
 unfold rp at hr
 simp only at hr
 split at hr
 .cases hr
 rename_i Pr
 have U:(bW m.ob L L).length=L.length:=xJ ..
 obtain⟨F,hE,hl,hFo,h3,h5⟩:=lR hC (gu shs (ku P ts vs++mE ob' (upto (bW m.ob L L).length)))
 obtain⟨O,z1,z2,z3⟩:=L4 o0 G2 hv
 have K:∀(p i:Nat),L[p]?=some i->∃z,m.ob.get i=some z/\z≠.gone/\i<m.nx/\(bW m.ob L L)[p]?=some (jY m.ob L i):=by
  intro p i e
  have e3:(bW m.ob L L)[p]?=some (jY m.ob L i):=by rw[sG,e];rfl
  have J:=CU J p;rw[e3]at J;cases hz:m.ob.get i with|none=>simp_all[jY]|some z=>refine⟨z,rfl,?_,c1.oZ hz,e3⟩;grind[jY]
 have hsk:∀(p i:Nat)(z:ai),L[p]?=some i->m.ob.get i=some z->z≠.gone->∃I,w2.s i=some I:=by intro p i z _ hz hg;cases z with|box t cs=>obtain⟨o,c,sh,b1,_⟩:=c1.box i t cs hz;grind|arr t rows l=>obtain⟨_,_,_,V⟩:=c1.arr i t rows l hz;grind|ba s t=>obtain⟨_,V⟩:=c1.ba i s t hz;grind|mp t rows l=>obtain⟨_,o,_,_,_,q,_⟩:=c1.mp i t rows l hz;grind|tr t rows l=>obtain⟨_,_,_,V⟩:=c1.tr i t rows l hz;grind|gone=>grind
 have hss:∀(p i:Nat),L[p]?=some i->∃I,w2.s i=some I/\w1.s p=some I:=by
  intro p i e
  obtain⟨z,z1,z2,_,_⟩:=K p i e
  obtain⟨I,hk0⟩:=hsk p i z e z1 z2
  have hp:p<(bW m.ob L L).length:=by
   rw[U]
   rcases Nat.lt_or_ge p L.length with a|a
   .exact a
   .grind
  exact⟨I,hk0,hf.s p I hp (by simp_all[Option.bind_some,Wd.sub])⟩
 have T:h.next<=h'.next:=by rw[<-hig];exact hf.next
 have hlx:∀{o},hi.next<=o->h.next<=o:=λe=>by grind
 have Ps:∀{o:Nat}{Q:Prop},(hi.next<=o\/Q)->h.next<=o\/Q:=λe=>e.imp hlx id
 have D:∀o,o<h.next->¬Ow (w2.sub L) (bH (bW m.ob L L) 0 .leaf) o->h'.get o=h.get o:=λo h1 h2=>by rw[hf.b0 o (by grind) h2 (hX o h1),hgi]
 have hle:aK w2 (w1.more F):=((aK.sub w2 L).trans hf.le).trans (.more _ _)
 have E:∀o,Ow w1 ob' o->h.next<=o\/Ow (w2.sub L) (bH (bW m.ob L L) 0 .leaf) o:=λo e=>Ps (hf.own o e)
 have Pt:∀o,(w1.more F).F o->w2.F o\/h.next<=o\/Ow (w2.sub L) (bH (bW m.ob L L) 0 .leaf) o:=by
  rintro o(f|f)
  .exact(hf.F o f).imp id Ps
  .grind
 have hA:=KY c1 hE T D hle Pt λj hj=>by grind[List.getElem?_of_mem]
 have hD:=Vk (L:=L) (st:={m with ob:=gE m.ob L}) hE hl h3 h5 _ abk (z1.append (xu hC _)) (λ_ e=>e) (λ_ _ e=>e) hnd hA rfl
  (λi j k e1 e2=>by grind)
  (λo ho a _ dU k hk hko=>by
   obtain⟨n1,n2,_⟩:=yC c1 rfl ho
   rcases E o ⟨a,k,dU,hk,hko⟩with e|e
   .omega
   grind)
 obtain⟨u,d1,d2,d3,d4,d5,d6,d7,d8,d9⟩:=hD
 have hnn:(nk P o0 ts).length=O.length:=z2.symm
 have hus:ak P u ((ov L (b7 shs S {m with ob:=gE m.ob L}).1).take O.length) O:=by have:=d4.take O.length;rw[List.take_left]at this;exact this
 have hub:ak P u ((ov L (b7 shs S {m with ob:=gE m.ob L}).1).drop O.length) (jD ob' (w1.more F) (upto (bW m.ob L L).length)):=by have:=d4.drop O.length;rw[List.drop_left]at this;rw[HD];exact this
 rw[hnn]at hr Pr
 have hal:Al (w1.more F) u ob' L (upto (bW m.ob L L).length) (bW m.ob L L):=by
  refine Al.oN (by rw[uK,U]) U.symm λp i j x e1 e2 e3=>?_
  obtain⟨z,y1,y2,y3,y4⟩:=K p i e1
  obtain⟨I,k1,k2⟩:=hss p i e1
  have hp:p<(bW m.ob L L).length:=by
   rcases Nat.lt_or_ge p (bW m.ob L L).length with a|a
   .exact a
   .grind
  rw[x1 hp]at e2;cases e2
  have C:(bH (bW m.ob L L) 0 .leaf).get p=some x:=by rw[qD];exact e3
  have Y:(w2.sub L).s p=some I:=by simp only[Wd.sub,e1,Option.bind_some];exact k1
  refine⟨λt cs ex=>?_,λhx t cs hbx=>?_⟩
  .subst ex;obtain⟨o,c,sh,b1,_,b3,_⟩:=c5.box p t cs C;rw[Y]at b1;cases b1;obtain⟨aH,q⟩:=hf.bx p t cs hp C;exact⟨aH,o,c.length,q,k2,b3.length,d3 i _ k1⟩
  .obtain⟨o,c,sh,b1,_⟩:=hC.box p t cs hbx;rw[k2]at b1;cases b1;cases x with|box t' aH=>grind|arr t' rows l=>obtain⟨_,_,_,V⟩:=c5.arr p t' rows l C;grind|ba s t'=>obtain⟨_,V⟩:=c5.ba p s t' C;grind|mp t' rows l=>obtain⟨_,o',_,_,_,q,_⟩:=c5.mp p t' rows l C;grind|tr t' rows l=>obtain⟨_,_,_,V⟩:=c5.tr p t' rows l C;grind|gone=>exact CU J p e3
 have Pu:∀(i:Nat),i∈L->∃p:Nat,L[p]?=some i:=λi hi=>List.getElem?_of_mem hi
 obtain⟨r1,r2,r3,r4⟩:=TO (nx:=(b7 shs S {m with ob:=gE m.ob L}).2.nx) hE hl.box d2 hal d1 hub Pr (J1 c8) (Ir _)
  (λi hi=>by obtain⟨p,hp⟩:=Pu i hi;obtain⟨_,_,_,q,_⟩:=K p i hp;have hq:i<m.nx:=q;refine⟨λ⟨y,e1,e2⟩=>?_,Nat.lt_of_lt_of_le hq d8⟩;rw[d7 i hq]at e1;have e1:(gE m.ob L).get i=some y:=e1;rw[my,if_pos hi]at e1;grind)
  (λj hj hlj n o hk how=>by
   have N:live ob' j:=(hl.live j).1 hlj
   rcases d9 o how with e|⟨a,k,a1,a2,a3,V⟩
   .obtain⟨n1,n2,_⟩:=yC c1 rfl e
    rcases E o ⟨j,_,N,hk,rfl⟩with e|e
    .omega
    grind
   .have:=hC.inj a j k _ o a1 N a2 hk a3 rfl;subst this;have ub:w1.s a=some (.box o n):=hk;grind)
 have G:∀o,Ow w1 ob' o->h.next<=o\/Ow w2 m.ob o:=λo e=>(E o e).imp (λe=>e) Ow.kH
 have abl:aT w2 m.ob h u (jN L (bW m.ob L L) ((ov L (b7 shs S {m with ob:=gE m.ob L}).1).drop O.length) (b7 shs S {m with ob:=gE m.ob L}).2.ob) ho:=by
  refine⟨hle.trans (.imp (by rw[funext hE.g,funext d1.g]) λo f=>by grind),d3,by grind,hof,λo h1 h2=>by rw[Z];exact D o h1 λe=>h2 e.kH,λo e=>?_,λo f=>?_,λo e=>?_,hol,λi t cs e=>?_⟩
  .rcases r4 o e with e|⟨a,k,a1,a2,a3⟩
   .rcases d9 o e with e|⟨a,k,a1,a2,a3,_⟩
    .exact .inr (yC c1 rfl e).2.2
    .exact G o ⟨a,k,a1,a2,a3⟩
   .exact G o ⟨a,k,(hl.live a).1 a1,a2,a3⟩
  .rw[d2]at f
   rcases Pt o f with e|e|e
   .exact .inl e
   .grind
   .exact .inr (.inr e.kH)
  .rcases how o e with e|e
   .exact .inl e
   .rcases Nat.lt_or_ge o h.next with q|q
    .rcases hf.wr o e with e|e|e|e|e
     .grind
     .grind
     .exact .inr (.inr (.inl e.kH))
     .grind
     grind
    grind
  .by_cases hi:i∈L
   .obtain⟨p,hp⟩:=Pu i hi
    obtain⟨_,_,_,_,q⟩:=K p i hp
    have:jY m.ob L i=.box t (iK L cs):=by unfold jY;rw[e]
    grind
   .refine⟨cs,?_⟩;rw[r2 i hi,d7 i (c1.oZ e)];show(gE m.ob L).get i=_;rw[my,if_neg hi];exact e
 have M:=z3 u _ hus
 refine⟨u,{tm:=_,ob:=_,nx:=_,al:=_,df:=_,cm:=_},_,?_,?_,?_,?_,hr,?_,λhL p hp=>?_⟩
 .exact r1.mL (λo=>congrFun Z o) hon
 .exact abl
 .exact d5
 .exact d6
 .generalize qK P ts _=rv at M;cases M with|nil=>exact .bl .nil|cons a b=>cases b with|nil=>exact a|cons a' b'=>exact .bl (.cons a (.cons a' b'))
 .rcases how p hp with e|e
  .exact .inl e
  .rcases Nat.lt_or_ge p h.next with q|q
   .rcases hf.wr p e with e|e|e|e|e
    .grind
    .grind
    .grind[Ow.sub]
    .grind
    grind
   grind
theorem Dk{w2:Wd}{c:ad}{L:List Nat}(c1:af P w2 c.ob c.nx h)(q:nodup L=true)(u:af P (w2.sub L) (bH (bW c.ob L L) 0 .leaf) (bW c.ob L L).length h)(i:oI (bW c.ob L L)=true){o0:Nat}{ts:List TypeId}{shs:List Sh}{m:RT (bB shs)}{j:AV}{h':AHeap}(hp:dR P (w2.sub L) (bH (bW c.ob L L) 0 .leaf) (bW c.ob L L).length h.inner ts shs m j h'){k:SV->ad->Option ρ}{r:ρ}(hr:rp P shs (nk P o0 ts).length ts L (bW c.ob L L) c m k=some r):∃w' st' v,af P w' st'.ob st'.nx (h.outer h')/\aT w2 c.ob h w' st'.ob (h.outer h')/\st'.tm=c.tm/\st'.r=c.r/\k v st'=some r/\RV P w' v j/\(L=[]->∀p,p∈(h.outer h').wr->p∈h.wr\/h.next<=p\/Lp h.get p):=J3 (h:=h) (hi:=h.inner) (ho:=h.outer h') rfl rfl (λo h1 h2=>by have:h.next<=o:=h2.1;omega) (λ_ e=>by cases e) c1 q u i hp rfl rfl rfl (λ_ e=>CC e) (λe=>CV e) hr
theorem TQ(S:eA P A R){st:ad}(hs:af P w st.ob st.nx h){f:FuncId}{args:List SV}{xs:List AV}(hx:ak P w args xs){k:SV->ad->Option ρ}{r:ρ}(hr:EL A R st f args k=some r):tN P w h st f xs k kp r False:=by
 unfold EL at hr
 split at hr
 case h_2=>cases hr
 rename_i i hid
 split at hr
 case h_2=>cases hr
 rename_i t rows hb
 obtain⟨rows',J,hr⟩:=y5 hr
 have p:bW st.ob [i] [i]=[.mp t rows false]:=by simp only[bW,hb]
 have q:=hs.sub (L:=[i]) rfl (by rw[p];rfl)
 rw[p]at q
 rcases S.inl _ _ _ _ _ _ J (w.sub [i]) h xs q (hx.gr [i])with⟨m,w1,st',h',v,y,q1,q2,_,_,D,Q,O,_⟩|⟨_,_,_,_,_,_,_,_,_,_,_,D,_⟩
 case inr=>cases D
 have hv:v=.bl []/\st'.ob.get 0=some (.mp t rows' false):=by
  unfold Ft at D
  split at D
  .grind
  .cases D
 obtain⟨rfl,N⟩:=hv
 obtain⟨_,o,es,cl,_,c,_⟩:=hs.mp i t rows false hb
 have E:(w.sub [i]).s 0=some (.mp o):=by simp only[Wd.sub,List.getElem?_cons_zero,Option.bind_some];exact c
 have I:w1.s 0=some (.mp o):=q2.s _ _ E
 have u:(EK t rows).ob=bH (bW st.ob [i] [i]) 0 .leaf:=by rw[p];rfl
 rw[u]at q2
 have M:i<st.nx:=hs.oZ hb
 have hA:=KY hs q1 q2.next (λo h1 h2=>q2.b0 o h1 h2) ((aK.sub w [i]).trans q2.le) (λo f=>q2.F o f) λj hj=>by grind
 have G:w1.g=h'.get:=funext q1.g
 have K:cN P {g:=h'.get,F:=w1.F,s:=w.s} h' i (.mp t rows' false):=(q1.fO N).to (by simp) (.imp G.symm λ_ f=>f) (λ_ f=>f) I c
 have C:Ow (w.sub [i]) (bH (bW st.ob [i] [i]) 0 .leaf) o:=⟨0,.mp o,⟨_,by rw[<-u];exact Tr.aQ ..,by simp⟩,E,rfl⟩
 obtain⟨U,_⟩:=hA.EW (w':={g:=h'.get,F:=w1.F,s:=w.s}) (i:=i) (nx':=st.nx) (x:=.mp t rows' false) (k:=.mp o) rfl rfl (λ_ _=>rfl) c (.inr c) (by rintro⟨z,e1,e2⟩;simp_all[my,if_pos]) (λo' e=>by cases e;exact⟨λhow=>(yC hs rfl how).1 C,Nat.lt_of_lt_of_le (hs.lt i _ o c rfl) q2.next⟩) K M (ao _)
 have T:=U.congr (ob':=st.ob.put i (.mp t rows' false)) λj=>by
  by_cases e:j=i
  .subst e;rw[Tr.aQ,Tr.aQ]
  simp_all[Tr.aB,my,if_neg]
 refine .inl ⟨m,_,{st with ob:=st.ob.put i (.mp t rows' false)},h',.bl [],y,T,⟨((aK.sub w [i]).trans q2.le).trans (.imp G.symm λ_ f=>f),λ_ _ e=>e,q2.next,q2.floor,λo h1 h2=>q2.b0 o h1 λe=>h2 e.kH,?_,?_,?_,q2.dA,Ee hb (by simp)⟩,rfl,rfl,hr,Q,?_,λe=>e.elim⟩
 .rintro o'⟨j,k',⟨z,e1,e2⟩,e3,e4⟩
  by_cases e:j=i
  .subst e;exact .inr ⟨j,k',⟨_,hb,by simp⟩,e3,e4⟩
  .rw[Tr.aB _ _ e]at e1;exact .inr ⟨j,k',⟨z,e1,e2⟩,e3,e4⟩
 .intro o' f
  rcases q2.F o' f with e|e|e
  .exact .inl e
  .grind
  .exact .inr (.inr e.kH)
 .intro o' e
  rcases q2.wr o' e with e|e|e|e
  .exact .inl e
  .grind
  .exact .inr (.inr (.inl e.kH))
  grind
 .cases O with|bl a=>cases a;exact .bl .nil
theorem J4(I:eA P A R){st:ad}(hs:af P w st.ob st.nx h){f:FuncId}{fn:Func}(D:P.funcs[f]?=some fn){args:List SV}{xs:List AV}(hx:ak P w args xs){k:SV->ad->Option ρ}{r:ρ}(hr:zM P A R fn kp st f args k=some r):
 tN P w h st f xs k kp r (dw (args.map (nH st.ob))=[]):=by
 unfold zM at hr
 split at hr
 .rename_i g hg
  split at hr
  case h_2=>cases hr
  rename_i b v hv
  rcases sS hr with⟨rfl,hr⟩|⟨_,hr⟩
  case inr=>cases hr
  obtain⟨U,p1,p3,i⟩:=lN hs (args.flatMap bc);have j:=uL p3 i (λc hc=>hc) hx;obtain⟨y,M,K⟩:=I.kn.some f g hg _ h xs _ v p1.1.g j hv;refine .inl ⟨1,_,{st with ob:=bg st.ob (args.flatMap bc)},h,v,y,p1.1,p1.2.1,rfl,rfl,hr,?_,K,λ_ p e=>.inl e⟩;show jC P _ .normal f xs .none h=_;unfold jC;rw[M]
 rename_i G
 split at hr
 .cases hr
 rename_i aY au L O hc
 split at hr
 .cases hr
 rename_i o
 simp only[aZ]at o
 have E:=Vo hc
 obtain⟨V,C,hr⟩:=Vl hr
 obtain⟨U,p1,p3,i⟩:=lN hs (args.flatMap bc)
 have j:=uL p3 i (λc hc=>hc) hx
 obtain⟨w2,c1,c2,c3,c4,F,T,rfl,J⟩:=Dj (st:={st with ob:=bg st.ob (args.flatMap bc)}) p1.1 j hc
 obtain⟨m,S,h',e1,e2⟩:=I.call _ _ _ _ _ _ C (w2.sub L) h xs F T
 rw[D]at e1;cases e1
 rcases hr _ _ e2 with⟨b,⟨y,q1,q2⟩,q3⟩|⟨t,row,b,⟨y,q1,Q,q2⟩,q3⟩
 .obtain⟨w',st',v,t1,t2,z,u,q,N,t7⟩:=Dk (o0:=A.own f) c1 J F o.2 q2 q3;exact .inl ⟨m,w',st',_,v,y,t1,(p1.2.1.trans c2).trans t2,z.trans c3,u.trans c4,q,q1,N,λe=>t7 (E e)⟩
 .obtain⟨w',st',v,t1,t2,z,u,q,_⟩:=Dk (o0:=0) c1 J F o.2 q2 q3;exact .inr ⟨m,w',st',_,t,row,y,t1,(p1.2.1.trans c2).trans t2,z.trans c3,u.trans c4,q,q1,Q⟩
def lx(h:AHeap)(o:Nat):Prop:=o<h.next/\h.get o≠none
theorem af.lx{ob:Tr ai}{nx:Nat}(hs:af P w ob nx h):af P (w.more (lx h)) .leaf nx h:=⟨hs.g,λi t cs e=>by simp[Tr.get]at e,λi t rows l e=>by simp[Tr.get]at e,λi s l e=>by simp[Tr.get]at e,λi j k l o h1=>by obtain⟨x,e,_⟩:=h1;simp[Tr.get]at e,hs.lt,λi e=>⟨(hs.nx i e).1,by simp[Tr.get]⟩,λo f=>f.elim (hs.bJ o) id,hs.new,λi t rows l e=>by simp[Tr.get]at e,λi t rows l e=>by simp[Tr.get]at e⟩
theorem Vp{F G:Nat->Prop}(i:∀o,F o->G o):aK (w.more F) (w.more G):=⟨λo e=>e.imp id (i o),λ_ _ e _=>e,λ_ e=>⟨e,id⟩,λ_ _ v mv c fz el ex sh e=>⟨v,[],fz,el,ex,sh,by rw[List.append_nil];exact e,ao _⟩,λ_ _ _ _ e=>e⟩
theorem KZ(hs:af P w ob nx h){v:SV}{x:AV}(hx:RV P w v x):RV P (w.more (lx h)) (bJ ob v) x:=by
 obtain⟨F,p1,p2,m,p3,j⟩:=lR hs [v]
 have c:aK (w.more F) (w.more (lx h)):=Vp λo f=>by obtain⟨i,k,e1,e2,e3⟩:=m o f;exact⟨hs.lt i k o e2 e3,hs.there e1 e2 e3⟩
 exact RV.mono c (λ_ _ e=>e) (oO (F:=F) p3 j (by simp) hx)
theorem Dl(hs:af P w ob nx h):∀{vs:List SV}{xs:List AV},ak P w vs xs->ak P (w.more (lx h)) (vs.map (bJ ob)) xs|[],_,.nil=>.nil|_::_,_,.cons a b=>.cons (KZ hs a) (Dl hs b)
theorem K0(hs:af P w ob nx h){v:SV}{x:AV}(hx:RV P w v x):RV P (w.more (lx h)) (wv ob v) x:=by
 unfold wv
 split
 .rename_i i off
  split
  .rename_i t cs hb
   split
   .rename_i h1 h2;obtain⟨o,c,sh,b1,b2,b3,m,j⟩:=hs.box i t cs hb;cases hx with|ref e=>rw[b1]at e;cases e;have hl:=b3.length;refine .pb (.inr ⟨hs.lt i _ _ b1 rfl,by grind⟩) (by rw[<-b2];exact hs.g _) rfl (by grind) (by grind) h1 (xY h2) ?_;rw[List.length_map,hl,List.take_of_length_le (ao _)];exact Dl hs b3
   .exact .aA _
  .exact .aA _
 .exact KZ hs hx
theorem J5(hs:af P w ob nx h):∀{vs:List SV}{xs:List AV},ak P w vs xs->ak P (w.more (lx h)) (vs.map (wv ob)) xs|[],_,.nil=>.nil|_::_,_,.cons a b=>.cons (K0 hs a) (J5 hs b)
theorem W7(hs:af P w ob nx h){v:SV}{x:AV}(hx:RV P w v x):RV P (w.more (lx h)) (wZ ob v) x:=by
 unfold wZ
 split
 .cases hx with|fn a=>exact .fn (J5 hs a)|fp=>exact .fp
 .cases hx with|agg a=>exact .agg (Dl hs a)
 .exact K0 hs hx
theorem K1(hs:af P w ob nx h):∀{vs:List SV}{xs:List AV},ak P w vs xs->ak P (w.more (lx h)) (vs.map (wZ ob)) xs|[],_,.nil=>.nil|_::_,_,.cons a b=>.cons (W7 hs a) (K1 hs b)
theorem af.old{h':AHeap}(hs:af P w ob nx h)(hg:∀o,o<h.next->h'.get o=h.get o)(hn:h.next<=h'.next)(u:∀o,h'.next<=o->h'.get o=none)(hf:h'.floor=h.floor)(hw:∀p,p∈h'.wr->p∈h.wr\/h.next<=p\/Lp h.get p)(C:(∀o,o∈h.wr->o<h.floor)->∀o,o∈h'.wr->o<h'.floor):
 af P (w.heap h'.get) ob nx h'/\aT w ob h (w.heap h'.get) ob h':=by
 have D:∀{o:Nat}{x:bT},h.get o=some x->o<h.next:=λ{o x}e=>by
  rcases Nat.lt_or_ge o h.next with q|q
  .exact q
  .rw[hs.new o q]at e;cases e
 have z:aK w (w.heap h'.get):=⟨λ_ f=>f,λo x e _=>by rw[hs.g]at e;show h'.get o=_;grind,λo e=>by rw[hs.g]at e;obtain⟨x,hx⟩:=Option.ne_none_iff_exists'.1 e;show h'.get o≠none/\(Lp h'.get o->Lp w.g o);unfold Lp;rw[hg o (D hx),hs.g];grind,λo f v mv c fz el ex sh e=>⟨v,[],fz,el,ex,sh,by rw[hs.g]at e;show h'.get o=_;grind,ao _⟩,λo f es cl e=>by rw[hs.g]at e;show h'.get o=_;grind⟩
 have m:∀j y,ob.get j=some y->cN P (w.heap h'.get) h' j y:=by intro j y e;cases y with|gone=>trivial|_=>exact(hs.fO e).move z (λ_ _ e=>e) λk o h1 h2=>⟨hg o (hs.lt j k o h1 h2),λf=>f⟩
 refine⟨⟨λ_=>rfl,λi t cs e=>m i _ e,λi t rows l e=>m i _ e,λi s l e=>m i _ e,hs.inj,λi k o h1 h2=>Nat.lt_of_lt_of_le (hs.lt i k o h1 h2) hn,hs.nx,λo f=>⟨Nat.lt_of_lt_of_le (hs.bJ o f).1 hn,by rw[hg o (hs.bJ o f).1];exact(hs.bJ o f).2⟩,u,λi t rows l e=>m i _ e,λi t rows l e=>m i _ e⟩,⟨z,λ_ _ e=>e,hn,hf,λo h1 _=>hg o h1,λo e=>.inr e,λo e=>.inl e,λo e=>(hw o e).imp id (.imp id .inr),C,λi t cs e=>⟨cs,e⟩⟩⟩
theorem TS(D:eA P A R){st:ad}(hs:af P w st.ob st.nx h){f:FuncId}{fn:Func}(q:P.funcs[f]?=some fn){args:List SV}{xs:List AV}(hx:ak P w args xs){k:SV->ad->Option ρ}{r:ρ}(hr:EM P A R fn st f args k=some r):
 tN P w h st f xs k kp r True:=by
 unfold EM at hr
 split at hr
 .rcases J4 (st:={st with ob:=.leaf}) D hs.lx q (K1 hs hx) hr with⟨m,w',st',h',v,y,q1,q2,q3,E,c,C,z,_⟩|⟨_,_,_,_,_,_,_,_,_,_,_,c,_⟩
  case inr=>cases c
  simp only at c
  split at c
  .rename_i u
   have i:∀o,¬Ow (w.more (lx h)) .leaf o:=by rintro o⟨j,k,⟨x,e,_⟩,_⟩;simp[Tr.get]at e
   have hw:∀p,p∈h'.wr->p∈h.wr\/h.next<=p\/Lp h.get p:=λp e=>by
    rcases q2.wr p e with e|e|e|e
    .exact .inl e
    .grind
    .grind
    grind
   obtain⟨c1,c2⟩:=hs.old (h':=h') (λo e=>q2.b0 o e (i o)) q2.next q1.new q2.floor hw q2.dA;refine .inl ⟨m,_,st,h',.sc u,y,c1,c2,rfl,rfl,c,C,?_,λ_=>hw⟩;cases z with|sc e=>exact .sc e
  .cases c
 .cases hr
theorem J6(u:eA P A R){st:ad}(hs:af P w st.ob st.nx h){f:FuncId}{args:List SV}{xs:List AV}(hx:ak P w args xs){k:SV->ad->Option ρ}{r:ρ}(hr:zN P A R kp st f args k=some r):
 tN P w h st f xs k kp r ((A.inl f=false/\A.GU f=false)/\(A.tf f=true\/dw (args.map (nH st.ob))=[])):=by
 unfold zN at hr
 split at hr
 .cases hr
 rename_i fn p
 split at hr
 .rename_i C
  rcases u.inl _ _ _ _ _ _ hr w h xs hs hx with⟨m,w',st',h',v,y,q1,q2,q3,o,j,i,c,_⟩|q
  .exact .inl ⟨m,w',st',h',v,y,q1,q2,q3,o,j,i,c,λe=>by grind⟩
  .exact .inr q
 split at hr
 .grind[TQ]
 split at hr
 .rcases TS (kp:=kp) u hs p hx hr with⟨m,w',st',h',v,y,q1,q2,q3,o,j,i,c,z⟩|q
  .exact .inl ⟨m,w',st',h',v,y,q1,q2,q3,o,j,i,c,λ_=>z trivial⟩
  .exact .inr q
 grind[J4]
theorem Sw(G:eA P A R){st:ad}(hs:af P w st.ob st.nx h){f:FuncId}{ts:List Tmp}{caps args:List SV}{l:Nat}{xs:List AV}(hy:RV P w (.yl f ts caps) (.ej l))(hx:ak P w args xs){k:SV->ad->Option ρ}{r:ρ}(hr:Ea P A R st f ts caps args k=some r):
 ∃m w' st' h',af P w' st'.ob st'.nx h'/\aT w st.ob h w' st'.ob h'/\st'.tm=st.tm/\st'.r=st.r/\k (.sc (.bool true)) st'=some r/\(bz P m).round l xs h=some (.ret (.sc (.bool true)),h'):=by
 unfold Ea at hr
 split at hr
 .cases hr
 rename_i aY au L o hc
 split at hr
 .cases hr
 rename_i i
 simp only[aZ]at i
 obtain⟨N,u,hr⟩:=y5 hr
 obtain⟨M,p1,p3,p⟩:=lN hs (args.flatMap bc)
 have q:=uL p3 p (λc hc=>hc) hx
 cases hy with
 |@yl _ _ ps _ _ tn dd tm hd bd g1 g2 I=>
  have j:=(I.mono (aK.more w M) λ_ _ e=>e).append q
  obtain⟨w2,c1,c2,c3,c4,C,K,rfl,J⟩:=Dj (st:={st with ob:=bg st.ob (args.flatMap bc)}) p1.1 j hc
  have z:iL (bW o.ob L L)=true:=by
   unfold lS at hc
   simp only at hc
   split at hc
   .grind
   .cases hc
  obtain⟨m,h',q1,q2⟩:=G.gP _ _ _ _ _ _ u i.2 z (w2.sub L) h l tn dd tm ps hd bd xs C (by rw[<-hs.g];exact g1) g2 K;obtain⟨w',st',v,t1,t2,F,E,D,_,_⟩:=J3 (o0:=0) (ho:=h') rfl rfl (λ_ _ e=>e) (λ_ e=>e) c1 J C i.1.2 q2 rfl rfl q2.choose_spec.choose_spec.choose_spec.choose_spec.choose_spec.2.1.floor (λ_ e=>.inr e) q2.choose_spec.choose_spec.choose_spec.choose_spec.choose_spec.2.1.dA hr;exact⟨m,w',st',h',t1,(p1.2.1.trans c2).trans t2,F.trans c3,E.trans c4,D,q1⟩
theorem TT(F:eA P A R){st:ad}(hs:af P w st.ob st.nx h){f:FuncId}{md:iY}{cm:bu}(hm:BO P md cm){args:List SV}{xs:List AV}(hx:ak P w args xs){k:Bool->ad->Option ρ}{r:ρ}(hr:vO P A R st f md args k=some r):
 ∃m fn w' st' h' b y cm',P.funcs[f]?=some fn/\af P w' st'.ob st'.nx h'/\aT w st.ob h w' st'.ob h'/\st'.tm=st.tm/\st'.r=st.r/\k b st'=some r/\(bz P m).call .deferred f xs cm h=some (.ret y,cm',h')/\ue md b cm':=by
 unfold vO at hr
 split at hr
 .cases hr
 rename_i fn j
 split at hr
 .cases hr
 rename_i aY au L E hc
 split at hr
 .cases hr
 rename_i i;simp only[aZ]at i;obtain⟨⟨b,K⟩,q,hr⟩:=y5 hr;obtain⟨M,p1,p3,o⟩:=lN hs (args.flatMap bc);have p:=uL p3 o (λc hc=>hc) hx;obtain⟨w2,c1,c2,c3,c4,u,J,rfl,I⟩:=Dj (st:={st with ob:=bg st.ob (args.flatMap bc)}) p1.1 p hc;obtain⟨m,G,y,h',cm',e1,e2,e3,q2⟩:=F.wt _ _ _ _ _ _ _ q (w2.sub L) h xs cm u J hm;rw[j]at e1;cases e1;obtain⟨w',st',v,t1,t2,D,C,z,_,_⟩:=Dk (o0:=A.own f) c1 I u i.2 q2 hr;exact⟨m,fn,w',st',_,b,y,cm',j,t1,(p1.2.1.trans c2).trans t2,D.trans c3,C.trans c4,z,e2,e3⟩
end
end Go.AI
end

section
namespace Go.AI
variable [Kn]
section
variable {P:Program}{w w':Wd}{ob ob':Tr ai}{nx:Nat}{h h':AHeap}{ρ:Type}{A:cQ}{R:dg A.pn}{kp:TypeId->List AV->ad->Option ρ}
def Eg(h h':AHeap):Prop:=∀p,p∈h'.wr->p∈h.wr\/h.next<=p\/Lp h.get p
def Pv(P:Program)(A:cQ)(w:Wd)(h:AHeap)(S:ad)(o:Oper)(k:SV->ad->Option ρ)(kp:TypeId->List AV->ad->Option ρ)(r:ρ)(cx:Ctx)(cm:bu)(ρ':Operand->AV):Prop:=(∃m w' c h' v y,af P w' c.ob c.nx h'/\aT w S.ob h w' c.ob h'/\c.tm=S.tm/\c.r=S.r/\k v c=some r/\cu P (bz P m) cx ρ' o cm h=some (.val y cm h')/\RV P w' v y/\(gA A S o=true->Eg h h'))\/(∃m w' c h' t row y,af P w' c.ob c.nx h'/\aT w S.ob h w' c.ob h'/\c.tm=S.tm/\c.r=S.r/\kp t row c=some r/\cu P (bz P m) cx ρ' o cm h=some (.aE y h')/\gM P t row y)
theorem TU(M:eA P A R){S:ad}(hs:af P w S.ob S.nx h){o:Oper}{ρ':Operand->AV}(u:∀x,x∈o.op.operands.toList->RV P w (bw S.tm x) (ρ' x))(hC:vR o.op=true){k:SV->ad->Option ρ}{r:ρ}(hr:gX P A R kp o S k=some r)(cx:Ctx)(cm:bu):
 Pv P A w h S o k kp r cx cm ρ':=by
 unfold vR at hC
 split at hC
 case h_2=>cases hC
 rename_i c z
 split at hC
 case h_2=>cases hC
 rename_i fo C
 obtain⟨callee,args,T⟩:=c
 simp only at C
 subst C
 unfold gX at hr
 simp only[z]at hr
 split at hr
 case h_3=>cases hr
 case h_2=>
  rename_i f ts caps D
  have hf:=u fo (by rw[z];simp[Op.operands,Call.operands])
  rw[D]at hf
  have i:ak P w (args.toList.map (bw S.tm)) (args.toList.map ρ'):=ak.map _ λa ha=>u a (by simp_all[Op.operands,Call.operands])
  generalize hy:ρ' fo=y at hf
  obtain⟨l,rfl⟩:∃l,y=.ej l:=by cases hf;grind
  obtain⟨m,w',G,h',q1,q2,q3,F,E,L⟩:=Sw M hs hf i hr
  refine .inl ⟨m,w',G,h',_,_,q1,q2,q3,F,E,?_,.sc rfl,λhp=>?_⟩
  .simp_all[cu,aJ,fE]
  simp_all[gA]
 rename_i f caps D
 split at hr
 case h_2=>cases hr
 rename_i fn Q
 have hf:=u fo (by rw[z];simp[Op.operands,Call.operands])
 rw[D]at hf
 have i:ak P w (args.toList.map (bw S.tm)) (args.toList.map ρ'):=ak.map _ λa ha=>u a (by simp_all[Op.operands,Call.operands])
 obtain⟨xs,j,I⟩:∃xs,ak P w caps xs/\aJ P ρ' o h=jB P h f (args.toList.map ρ'++xs):=by generalize hy:ρ' fo=y at hf;cases hf with|fn a=>exact⟨_,a,by simp only[aJ,z,fE,hy,nF,yu,List.nil_append]⟩|fp=>exact⟨[],.nil,by simp_all[aJ,fE,nF,yu]⟩
 split at hr
 .rename_i code hb
  rcases J6 M hs (i.append j) hr with⟨m,w',G,h',v,y,q1,q2,q3,F,E,L,J,N⟩|⟨m,w',G,h',t,row,y,q1,q2,q3,F,E,L,J⟩
  case inr=>refine .inr ⟨m,w',G,h',t,row,y,q1,q2,q3,F,E,?_,J⟩;simp_all[cu,jB]
  refine .inl ⟨m,w',G,h',v,y,q1,q2,q3,F,E,?_,J,λhp=>N ?_⟩
  .simp_all[cu,jB]
  .unfold gA at hp;grind
 .rename_i hb
  split at hr
  .rename_i x hk hl
   have q:=i.append j
   rw[hl]at q
   obtain⟨y,O,K⟩:∃y,args.toList.map ρ'++xs=[y]/\RV P w x y:=by generalize args.toList.map ρ'++xs=l at q;cases q with|cons a b=>cases b;grind
   refine .inl ⟨0,w,S,h,x,y,hs,.refl _ _ _,rfl,rfl,hr,?_,K,λ_ p hp=>.inl hp⟩;simp_all[cu,jB,C2]
  .cases hr
theorem K2{S:ad}{F:Nat->Prop}{q:Tr ai}{obj:bT}{y:Nat->AV}{v:SV}{x:ai}{lk:Nat->Lk}(q1:af P (w.more F) q S.nx h)(q2:fF S.ob q)(q3:∀o,F o->Ow w S.ob o)(Y:x≠.gone)(U:∀a,(lk a).obj=some a)
 (T:∀(w':Wd)(h':AHeap)(a:Nat),aK (w.more F) w'->(∀i k,w.s i=some k->w'.s i=some k)->w'.s S.nx=some (lk a)->h'.get a=some obj->¬w'.F a->cN P w' h' S.nx x/\RV P w' v (y a))
 {a:Nat}{h':AHeap}(ha:h.get a=none)(V:a<h'.next)(N:h'.get a=some obj)(u:∀o,o≠a->h'.get o=h.get o)(E:h.next<=h'.next)(G:∀o,h'.next<=o->h'.get o=none)(J:h'.floor=h.floor)(K:h'.wr=h.wr)
 {w0:Wd}{dT:Tr ai}{h0:AHeap}(p:aT w0 dT h0 w S.ob h)(X:h0.next<=a):
 ∃w',af P w' (q.put S.nx x) (S.nx+1) h'/\aT w0 dT h0 w' (q.put S.nx x) h'/\aK w w'/\(∀i k,w.s i=some k->w'.s i=some k)/\RV P w' v (y a):=by
 have I:¬(w.more F).F a:=λf=>(q1.bJ a f).2 ha
 have L:((w.more F).put h'.get S.nx (lk a)).s S.nx=some (lk a):=by simp[Wd.put]
 have C:∀i k,w.s i=some k->((w.more F).put h'.get S.nx (lk a)).s i=some k:=by
  intro i k e
  have:i≠S.nx:=by rintro rfl;have:=(q1.nx _ (ao _)).1;have O:(w.more F).s S.nx=some k:=e;rw[this]at O;cases O
  simp only[Wd.put];rw[if_neg this];exact e
 have D:aK (w.more F) ((w.more F).put h'.get S.nx (lk a)):=⟨λ_ f=>f,λo x e _=>by rw[q1.g]at e;show h'.get o=_;grind,λo e=>by rw[q1.g]at e;have:h'.get o=h.get o:=u o λe2=>e (by rw[e2,ha]);show h'.get o≠none/\(Lp h'.get o->Lp (w.more F).g o);unfold Lp;rw[this,q1.g];grind,λo f Q mv c fz el ex sh e=>⟨Q,[],fz,el,ex,sh,by simp only[Wd.put,List.append_nil];rw[u o λe2=>I (e2▸f),<-q1.g];exact e,ao _⟩,λo f es cl e=>by rw[q1.g]at e;show h'.get o=_;grind⟩
 obtain⟨b1,b2⟩:=T _ h' a D C L N I
 obtain⟨c1,c2,c3⟩:=q1.fresh (h':=h') (lk:=lk a) (x:=x) (λb e=>by grind) (λo e=>u o λe2=>e (by rw[U,e2])) E G b1
 have m:=p.trans (aT.bg q2 q3)
 refine⟨_,c1,⟨m.le.trans D,λi k e=>C i k (p.s i k e),Nat.le_trans p.next E,by rw[J];exact p.floor,λo h1 h2=>by rw[u o (by omega)];exact m.b0 o h1 h2,?_,λo f=>m.F o f,λo e=>p.wr o (by grind),λe=>by rw[K,J];exact p.dA e,λi t cs e=>?_⟩,(aK.more w F).trans D,C,b2⟩
 .rintro o⟨j,k,⟨z,h1,h4⟩,h2,h3⟩
  simp only[Wd.put]at h2
  split at h2
  .grind
  .rename_i M;rw[Tr.aB _ _ M]at h1;exact m.own o ⟨j,k,⟨z,h1,h4⟩,h2,h3⟩
 .obtain⟨c,e1⟩:=m.bx i t cs e;exact Ef (q1.nx _ (ao _)).2 i t c e1
theorem TV(h:AHeap)(y:bT):Eg h (h.alloc y):=λ_ e=>.inl e
theorem L5(D:eA P A R){S:ad}(hs:af P w S.ob S.nx h){o:Oper}{ρ':Operand->AV}(c:∀x,x∈o.op.operands.toList->RV P w (bw S.tm x) (ρ' x)){k:SV->ad->Option ρ}{r:ρ}(hr:gX P A R kp o S k=some r)(cx:Ctx)(cm:bu):
 Pv P A w h S o k kp r cx cm ρ':=by
 cases hF:bN o.op with
 |true=>obtain⟨F,q,q1,q2,q3,v,y,j,i,m⟩:=JW hs c (λ_ _ _ _ _=>rfl) hF hr;refine .inl ⟨0,_,{S with ob:=q},h,v,y,q1,.bg q2 q3,rfl,rfl,j,?_,m,λ_ p hp=>.inl hp⟩;unfold cu;rw[i]
 |false=>
  cases hA:aX o.op with
  |true=>
   obtain⟨F,dT,obj,y,v,x,lk,q1,q2,q3,j,i,m,z,u⟩:=(KX hs c hA hr).ok;obtain⟨w',c1,c2,_,_,c3⟩:=K2 (h':=h.alloc obj) (a:=h.next) q1 q2 q3 m z u (q1.new _ (ao _)) (Nat.lt_succ_self _) (by simp only[AHeap.get,AHeap.alloc,Tr.aQ]) (λo e=>by simp only[AHeap.get,AHeap.alloc,Tr.aB _ _ e]) (Nat.le_succ _)
    (λo ho=>by
     have C:h.next+1<=o:=ho
     have e:o≠h.next:=by omega
     have:=q1.new o (by omega);simp_all[Tr.aB,AHeap.get,AHeap.alloc]) rfl rfl (aT.refl w S.ob h) (ao _);refine .inl ⟨0,w',{S with ob:=dT.put S.nx x,nx:=S.nx+1},h.alloc obj,v,_,c1,c2,rfl,rfl,i,?_,c3,λ_=>TV _ _⟩;unfold cu;rw[j]
  |false=>
   cases hC:vR o.op with
   |true=>exact TU D hs c hC hr cx cm
   |false=>
    obtain⟨w',ob',nx',h',v,y,q1,q2,q3,j,i⟩:=Vg hs c hA hF hC hr
    refine .inl ⟨0,w',{S with ob:=ob',nx:=nx'},h',v,y,q1,q2,rfl,rfl,q3,?_,i,λhp=>?_⟩
    .grind[cu]
    grind[gA,vR]
end
end Go.AI
end

section
namespace Go.AI
variable [Kn]
inductive fQ(P:Program)(w:Wd):List (FuncId×List SV)->List dK->Prop|nil:fQ P w [] []|da{d:Nat}{l:List (FuncId×List SV)}{l':List dK}:fQ P w l l'->fQ P w l (.da d::l')|cons{f:FuncId}{args:List SV}{cap xs:List AV}{l:List (FuncId×List SV)}{l':List dK}:ak P w args (xs++cap)->fQ P w l l'->fQ P w ((f,args)::l) (.fn (.func f) cap xs::l')
theorem fQ.mono{P:Program}{w w':Wd}(hl:aK w w')(hs:∀i k,w.s i=some k->w'.s i=some k){l:List (FuncId×List SV)}{l':List dK}(h:fQ P w l l'):fQ P w' l l':=by induction h with|nil=>exact .nil|da _ ih=>exact .da ih|cons a _ ih=>exact .cons (a.mono hl hs) ih
theorem fQ.K3{P:Program}{w w':Wd}{l:List (FuncId×List SV)}{l':List dK}(h:fQ P w l l'):l=[]->fQ P w' l l':=by induction h with|nil=>intro _;exact .nil|da _ ih=>intro e;exact .da (ih e)|cons _ _ _=>grind
def tO:List dK->Prop|[]=>True|.da d::l=>dK.da d∉l/\tO l|.fn _ _ _::l=>tO l
structure bE(P:Program)(cx:Ctx)(w:Wd)(st:ad)(a:av):Prop where
 h:af P w st.ob st.nx a.h
 tm:dZ P w st.tm a.tm
 al:∀x y,(x,y)∈st.al->∃b,a.tm.get x=some (.sc (.bool b))/\a.tm.get y=some (.sc (.bool b))
 df:fQ P w st.df a.df
 cm:BO P st.cm a.cm
 rn:cx.round=none\/st.cm=.gP
 kd:st.cm=.no\/st.cm=.gP\/cx.kind=.deferred
 co:((st.cm=.gP\/a.h.floor<=a.h.next)/\tO a.df)/\∀d,dK.da d∈a.df->a.h.floor<=d/\a.h.get d=some (.b8 (some []))
section
variable {P:Program}{cx:Ctx}{w w':Wd}{st:ad}{a:av}{ρ:Type}{A:cQ}{R:dg A.pn}{kp:TypeId->List AV->ad->Option ρ}
theorem dZ.put{tm:Tr SV}{bO:Tr AV}{d:Tmp}{v:SV}{x:AV}(h:dZ P w tm bO)(hx:RV P w v x):dZ P w (tm.put d v) (bO.put d x):=by
 refine⟨λt u e=>?_⟩
 by_cases e2:t=d
 .simp_all[Tr.aQ]
 .rw[Tr.aB _ _ e2]at e;obtain⟨y,a,b⟩:=h.tm t u e;simp_all[Tr.aB]
theorem dZ.wA{tm:Tr SV}{bO:Tr AV}{d:Tmp}{v:SV}{x:AV}(h:dZ P w tm bO)(hd:bO.get d=some x)(hx:RV P w v x):dZ P w (tm.put d v) bO:=by
 refine⟨λt u e=>?_⟩
 by_cases e2:t=d
 .simp_all[Tr.aQ]
 .rw[Tr.aB _ _ e2]at e;exact h.tm t u e
theorem xL{d:Tmp}{t:Bool}{bO:Tr AV}(hd:bO.get d=some (.sc (.bool t))):∀{l:List (Tmp×Tmp)}{tm:Tr SV},(∀x y,(x,y)∈l->∃b,bO.get x=some (.sc (.bool b))/\bO.get y=some (.sc (.bool b)))->dZ P w tm bO->dZ P w (refine d t l tm) bO
 |[],_,_,h=>h
 |(x,y)::l,tm,hl,h=>by
  obtain⟨b,h1,h2⟩:=hl x y (List.mem_cons_self ..)
  have c:∀x y,(x,y)∈l->∃b,bO.get x=some (.sc (.bool b))/\bO.get y=some (.sc (.bool b)):=λx y e=>hl x y (List.mem_cons_of_mem _ e)
  unfold refine
  split
  .rename_i e;have:=Nat.eq_of_beq_eq_true e;subst this;rw[hd]at h2;cases h2;exact xL hd c (h.wA h1 (.sc rfl))
  .split
   .rename_i e;have:=Nat.eq_of_beq_eq_true e;subst this;rw[hd]at h1;cases h1;exact xL hd c (h.wA h2 (.sc rfl))
   .exact xL hd c h
theorem jc(hs:bE P cx w st a){d:Tmp}{t:Bool}(hd:a.tm.get d=some (.sc (.bool t))):bE P cx w (known st d t) a:=⟨hs.h,xL hd hs.al (hs.tm.wA hd (.sc rfl)),hs.al,hs.df,hs.cm,hs.rn,hs.kd,hs.co⟩
theorem CD{d x y:Tmp}:∀{l:List (Tmp×Tmp)},(x,y)∈ve d l->(x,y)∈l/\x≠d/\y≠d
 |[],h=>by cases h
 |(x',c)::l,h=>by
  unfold ve at h
  split at h
  .obtain⟨a,b⟩:=CD h;exact⟨List.mem_cons_of_mem _ a,b⟩
  .rename_i e
   simp only[Bool.or_eq_false_iff]at e
   rcases List.mem_cons.1 h with h|h
   .cases h;exact⟨List.mem_cons_self ..,Nat.ne_of_beq_eq_false e.1,Nat.ne_of_beq_eq_false e.2⟩
   .obtain⟨a,b⟩:=CD h;exact⟨List.mem_cons_of_mem _ a,b⟩
def iO(n:Nat):Option Tmp->Prop|some d=>d<n|none=>True
theorem hZ(hs:bE P cx w st a){n:Nat}{dst:Option Tmp}{v:SV}{x:AV}(hx:RV P w v x)(hd:iO n dst):∃a',a.put n dst x=some a'/\bE P cx w (cP st dst v) a'/\a'.h=a.h:=by cases dst with|none=>exact⟨a,rfl,hs,rfl⟩|some d=>refine⟨{a with tm:=a.tm.put d x},by unfold av.put;simp only;rw[if_pos (show d<n from hd)],⟨hs.h,hs.tm.put hx,λy z e=>?_,hs.df,hs.cm,hs.rn,hs.kd,hs.co⟩,rfl⟩;obtain⟨e1,e2,e3⟩:=CD e;obtain⟨b,b1,b2⟩:=hs.al y z e1;simp_all[Tr.aB]
theorem J7(hs:bE P cx w st a){n:Nat}{dst:Option Tmp}{x:Operand}(hd:iO n dst):∃a',a.put n dst (ev a.tm x)=some a'/\bE P cx w (jO st dst x) a'/\a'.h=a.h:=by
 obtain⟨a',q1,q2,q3⟩:=hZ hs (er hs.tm x) hd
 refine⟨a',q1,?_,q3⟩
 unfold jO
 simp only
 split
 .rename_i d s b hv
  split
  .exact q2
  .rename_i c
   refine⟨q2.h,q2.tm,λy z e=>?_,q2.df,q2.cm,q2.rn,q2.kd,q2.co⟩
   rcases List.mem_cons.1 e with e|e
   .cases e
    have he:=er hs.tm (.tmp s)
    rw[hv]at he
    have i:ev a.tm (.tmp s)=.sc (.bool b):=by generalize ev a.tm (.tmp s)=y at he;cases he;rfl
    unfold av.put at q1;simp only at q1;rw[if_pos (show d<n from hd),i]at q1;cases q1;refine⟨b,Tr.aQ ..,?_⟩;show(a.tm.put d _).get s=_;rw[Tr.aB _ _ (Ne.symm (Nat.ne_of_beq_eq_false c))];grind[ev]
   .exact q2.al y z e
 .exact q2
theorem uM(hs:bE P cx w st a){d:Tmp}{b:Bool}(h:st.tm.get d=some (.sc (.bool b))):a.tm.get d=some (.sc (.bool b)):=by obtain⟨x,h1,h2⟩:=hs.tm.tm d _ h;cases h2;exact h1
theorem CW(hs:bE P cx w st a){d:Tmp}(h:st.tm.get d=some (.bl [])):a.tm.get d=some (.tuple []):=by obtain⟨x,h1,h2⟩:=hs.tm.tm d _ h;cases h2 with|bl b=>cases b;exact h1
theorem kr{b:Bool}{x y:Option ρ}{r:ρ}(h:aa b x y=some r):(b=true/\x=some r)\/(b=false/\y=some r):=by
 cases b
 .exact .inr ⟨rfl,h⟩
 .exact .inl ⟨rfl,h⟩
theorem bE.xa(hs:bE P cx w st a)(h:st.cm≠.gP):cx.round=none:=hs.rn.resolve_right h
theorem bE.Pw(hs:bE P cx w st a)(h:st.cm≠.gP)(h2:st.cm≠.no):cx.kind=.deferred:=(hs.kd.resolve_left h2).resolve_left h
theorem K4(hs:af P w st.ob st.nx a.h)(hc:∀d,dK.da d∈a.df->a.h.floor<=d/\a.h.get d=some (.b8 (some []))){ob':Tr ai}{h':AHeap}(hf:aT w st.ob a.h w' ob' h'):∀d,dK.da d∈a.df->h'.floor<=d/\h'.get d=some (.b8 (some [])):=by
 intro d hd
 obtain⟨e1,e2⟩:=hc d hd
 refine⟨by rw[hf.floor];exact e1,?_⟩
 rw[hf.b0 d ?_ ?_]
 .exact e2
 .rcases Nat.lt_or_ge d a.h.next with q|q
  .exact q
  .rw[hs.new d q]at e2;cases e2
 .rintro⟨i,k,q1,q2,q3⟩;obtain⟨_,q,c⟩:=hs.cells q1 q2 q3;rw[q]at e2;cases e2;cases c
theorem bE.step(hs:bE P cx w st a){st':ad}{h':AHeap}(j:af P w' st'.ob st'.nx h')(hf:aT w st.ob a.h w' st'.ob h')(i:st'.tm=st.tm)(c:st'.r=st.r):bE P cx w' st' {a with h:=h'}:=by have h1:st'.al=st.al:=congrArg (·.1) c;have h2:st'.df=st.df:=congrArg (·.2.1) c;have h3:st'.cm=st.cm:=congrArg (·.2.2) c;exact⟨j,by rw[i];exact hs.tm.mono hf.le hf.s,by rw[h1];exact hs.al,by rw[h2];exact hs.df.mono hf.le hf.s,by rw[h3];exact hs.cm,by rw[h3];exact hs.rn,by rw[h3];exact hs.kd,by rw[h3];exact⟨hs.co.1.1.imp id λe=>by rw[hf.floor];exact Nat.le_trans e hf.next,hs.co.1.2⟩,K4 hs.h hs.co.2 hf⟩
def k0(P:Program)(cx:Ctx)(w:Wd)(st:ad)(a:av)(k:ad->Option ρ)(kp:TypeId->List AV->ad->Option ρ)(r:ρ)(run:Nat->bP->av->Prop):Prop:=(∃m w' st' a',run m .normal a'/\bE P cx w' st' a'/\aT w st.ob a.h w' st'.ob a'.h/\k st'=some r)\/(∃m w' st' a' t row y,run m (.panic y) a'/\bE P cx w' st' a'/\aT w st.ob a.h w' st'.ob a'.h/\kp t row st'=some r/\gM P t row y)
theorem W8(I:eA P A R)(hs:bE P cx w st a){o:Oper}{ops:Array Oper}(hd:iO cx.tn o.dst){k:ad->Option ρ}{r:ρ}(hr:j8 P A R kp o st k=some r)(hw:cf ops o a.tm=some true):
 k0 P cx w st a k kp r λm ex a'=>dH P (bz P m) cx ops o a=some (ex,a'):=by
 have mv:∀(x:Operand)(i:ad),bE P cx w i a->(∀h:AHeap,aJ P (ev a.tm) o h=some (.val (ev a.tm x),h))->i.ob=st.ob->k (jO i o.dst x)=some r->
  k0 P cx w st a k kp r λm ex a'=>dH P (bz P m) cx ops o a=some (ex,a'):=by
  intro x i F he G hk
  obtain⟨a',q1,q2,q3⟩:=J7 (n:=cx.tn) (x:=x) F hd
  have p:(jO i o.dst x).ob=i.ob:=by
   unfold jO cP
   simp only
   split
   .grind
   .grind
  refine .inl ⟨0,w,_,a',?_,q2,by rw[q3,p,G];exact .refl _ _ _,hk⟩;simp only[dH,hw,cu,he];have:({a with cm:=a.cm,h:=a.h}:av)=a:=rfl;rw[this,q1];rfl
 unfold j8 at hr
 split at hr
 .grind[aJ]
 .grind[aJ]
 .rename_i c x y q
  split at hr
  .rename_i d
   split at hr
   .rename_i t ht
    have j:=uM hs ht
    rcases kr hr with⟨rfl,hr⟩|⟨rfl,hr⟩
    .exact mv x _ (jc hs j) (λh=>by simp only[aJ,q,ev,j];rfl) rfl hr
    .exact mv y _ (jc hs j) (λh=>by simp only[aJ,q,ev,j];rfl) rfl hr
   .cases hr
  .rename_i t
   cases t
   .grind[aJ,ev,bh]
   grind[aJ,ev,bh]
  .cases hr
 .split at hr
  .cases hr
  .rcases L5 I hs.h (λx _=>er hs.tm x) hr cx a.cm with⟨m,w',u,h',v,y,q1,q2,q3,E,D,C,z,_⟩|⟨m,w',u,h',t,row,y,q1,q2,q3,E,D,C,z⟩
   case inr=>exact .inr ⟨m,w',u,{a with h:=h'},t,row,y,by simp only[dH,hw,C],hs.step q1 q2 q3 E,q2,D,z⟩
   obtain⟨a',p1,p2,p3⟩:=hZ (n:=cx.tn) (hs.step q1 q2 q3 E) z hd
   have p:(cP u o.dst v).ob=u.ob:=by cases o.dst<;>rfl
   refine .inl ⟨m,w',_,a',?_,p2,by grind,D⟩;simp only[dH,hw,C];rw[p1];rfl
theorem DP:∀{ls:List Lf}{cs:List SV}{row pre:List AV}{xs:List AV},(ls.all λ|.int _|.bool|.str=>true|_=>false)=true->rowOf P .leaf ls cs=some row->ak P w cs xs->∀w',ak P w' (fB (pre++row) ls pre.length) xs
 |[],[],row,pre,xs,_,h,hx=>λw'=>by cases hx;exact .nil
 |[],_::_,_,_,_,_,h,_=>by cases h
 |_::_,[],_,_,_,_,h,_=>by cases h
 |l::ls,c::cs,row,pre,_,hl,h,.cons (x:=x) (xs:=i) a b=>λw'=>by
  simp only[rowOf]at h
  split at h
  .rename_i y ys h1 h2
   cases h
   simp only[List.all_cons,aZ]at hl
   have ih:=DP (pre:=pre++[y]) hl.2 h2 b w'
   rw[List.append_assoc,List.singleton_append,List.length_append,List.length_singleton]at ih
   refine .cons ?_ ih
   unfold cellOf at h1
   split at h1
   .rename_i k k' n
    split at h1
    .rename_i e;subst e;cases h1;cases a;simp only[gU,gI,List.getElem?_append_right (ao _),Nat.sub_self,List.getElem?_cons_zero];exact .sc rfl
    .cases h1
   .cases h1;cases a;simp only[gU,gB,List.getElem?_append_right (ao _),Nat.sub_self,List.getElem?_cons_zero];exact .sc rfl
   .cases h1;cases a;simp only[gU,gS,List.getElem?_append_right (ao _),Nat.sub_self,List.getElem?_cons_zero];exact .sc rfl
   .cases hl.1
   .cases hl.1
   .cases hl.1
   .cases h1
  .cases h
def Wd.nK(w:Wd)(h:AHeap)(y:bT):Wd:={g:=(h.alloc y).get,F:=λo=>w.F o\/o=h.next,s:=w.s}
theorem af.nK{ob:Tr ai}{nx:Nat}{h:AHeap}(hs:af P w ob nx h)(y:bT):af P (w.nK h y) ob nx (h.alloc y)/\aT w ob h (w.nK h y) ob (h.alloc y):=by
 have m:∀o,o≠h.next->(h.alloc y).get o=h.get o:=λo e=>by simp only[AHeap.get,AHeap.alloc,Tr.aB _ _ e]
 have u:(h.alloc y).get h.next=some y:=by simp only[AHeap.get,AHeap.alloc,Tr.aQ]
 have C:h.get h.next=none:=hs.new _ (ao _)
 have D:∀{o x},h.get o=some x->o≠h.next:=λe e2=>by grind
 have q:aK w (w.nK h y):=⟨λ_ f=>.inl f,λo x e _=>by rw[hs.g]at e;show(h.alloc y).get o=_;grind,λo e=>by rw[hs.g]at e;have:(h.alloc y).get o=h.get o:=m o λe2=>e (by grind);show(h.alloc y).get o≠none/\(Lp (h.alloc y).get o->Lp w.g o);unfold Lp;rw[this,hs.g];grind,λo f v mv c fz el ex sh e=>⟨v,[],fz,el,ex,sh,by rw[hs.g]at e;show(h.alloc y).get o=_;grind,ao _⟩,λo f es cl e=>by rw[hs.g]at e;show(h.alloc y).get o=_;grind⟩
 have p:∀i z,ob.get i=some z->cN P (w.nK h y) (h.alloc y) i z:=λi z e=>(hs.fO e).move q (λ_ _ e=>e) λk o h1 h2=>by have hl:=hs.lt i k o h1 h2;exact⟨m o (by omega),λf=>f.resolve_right (by omega)⟩
 refine⟨⟨λ_=>rfl,λi t cs e=>p i _ e,λi t rows l e=>p i _ e,λi s l e=>p i _ e,hs.inj,λi k o h1 h2=>Nat.lt_succ_of_lt (hs.lt i k o h1 h2),hs.nx,?_,?_,λi t rows l e=>p i _ e,λi t rows l e=>p i _ e⟩,⟨q,λ_ _ e=>e,Nat.le_succ _,rfl,λo h1 _=>m o (by omega),λo⟨j,k,h1,h2,h3⟩=>.inr ⟨j,k,h1,h2,h3⟩,?_,λ_ e=>.inl e,λe=>e,λi t cs e=>⟨cs,e⟩⟩⟩
 .rintro o(f|rfl)
  .obtain⟨q1,q2⟩:=hs.bJ o f;exact⟨Nat.lt_succ_of_lt q1,by grind⟩
  .exact⟨Nat.lt_succ_self _,by grind⟩
 .intro o ho;have ho:h.next+1<=o:=ho;rw[m o (by omega)];exact hs.new o (by omega)
 .rintro o(f|rfl)
  .exact .inl f
  grind
theorem J8{x:SV}(h:cn (bc x)=true):x≠.aA:=by rintro rfl;simp[bc,cn,mo]at h
theorem Vq{h:AHeap}(hs:af P w st.ob st.nx h){x:SV}{y:AV}(hx:RV P w x y){t:TypeId}{v:SV}{st':ad}(hr:Fw st t (bc x)=some (v,st')):
 ∃w',af P w' st'.ob st'.nx (h.alloc (.cells 0 0 (aO y) 0 t true false))/\aT w st.ob h w' st'.ob (h.alloc (.cells 0 0 (aO y) 0 t true false))/\st'.tm=st.tm/\st'.r=st.r/\RV P w' v (.ref h.next 0 (aO y).length 0)/\(aO y).all dt=true:=by
 unfold Fw at hr
 split at hr
 .rename_i hid i
  simp only[aZ]at i
  cases hr
  have hc:=oc hx (J8 i.1)
  obtain⟨F,p1,p2,p,p3,o⟩:=lR hs (bc x)
  have m:∀{cs:List SV}{xs:List AV},(∀c,c∈cs->c∈bc x)->ak P w cs xs->ak P (w.more F) (cs.map (bJ st.ob)) xs:=by intro cs;induction cs with|nil=>intro xs _ hb;cases hb;exact .nil|cons c cs ih=>intro xs hm hb;cases hb with|cons b1 b2=>exact .cons (oO p3 o (hm c (by simp)) b1) (ih (λd hd=>hm d (by simp[hd])) b2)
  have j:=m (λ_ e=>e) hc
  obtain⟨q1,q2⟩:=p1.nK (.cells 0 0 (aO y) 0 t true false)
  have hlen:((bc x).map (bJ st.ob)).length=(aO y).length:=by rw[j.length]
  refine⟨_,q1,(aT.bg p2 p).trans q2,rfl,rfl,?_,hc.cells i.1⟩;refine .pb (.inr rfl) (by simp only[Wd.nK,AHeap.get,AHeap.alloc,Tr.aQ];rfl) rfl (by grind) (by grind) hid (xY i.2) ?_;rw[hlen,List.take_of_length_le (ao _)];exact j.mono q2.le q2.s
 .cases hr
theorem Vr{h:AHeap}(hs:af P w st.ob st.nx h){x:SV}{y:AV}(hx:RV P w x y){t:TypeId}{v:SV}{st':ad}(hr:Fx P st t (bc x)=some (v,st')):
 ∃w',af P w' st'.ob st'.nx (h.alloc (.cells 0 0 (aO y) 0 t true false))/\aT w st.ob h w' st'.ob (h.alloc (.cells 0 0 (aO y) 0 t true false))/\st'.tm=st.tm/\st'.r=st.r/\RV P w' v (.ref h.next 0 (aO y).length 0)/\(aO y).all dt=true:=by
 unfold Fx at hr
 have key:∀(row:List AV)(u:SV)(rows:List (List AV)),cn (bc x)=true->rowOf P st.ob (lay P t).dropLast (bc x).dropLast=some row->(bc x).getLast?=some u->(∀(w':Wd)z,aK w w'->(∀i k,w.s i=some k->w'.s i=some k)->RV P w' u z->Rl P w' t rows z)->
  ∃w',af P w' (bg st.ob (bc x).dropLast) st.nx (h.alloc (.cells 0 0 (aO y) 0 t true false))/\aT w st.ob h w' (bg st.ob (bc x).dropLast) (h.alloc (.cells 0 0 (aO y) 0 t true false))/\RV P w' (.ls t (row::rows)) (.ref h.next 0 (aO y).length 0)/\(aO y).all dt=true:=by
  intro row u rows o m hu hl
  have hc:=oc hx (J8 o)
  obtain⟨F,p1,p2,G,p3,L⟩:=lR hs (bc x).dropLast
  obtain⟨q1,q2⟩:=p1.nK (.cells 0 0 (aO y) 0 t true false)
  refine⟨_,q1,(aT.bg p2 G).trans q2,?_,hc.cells o⟩
  have J:bc x≠[]:=by rintro e;rw[e]at hu;cases hu
  have j:bc x=(bc x).dropLast++[u]:=by rw[List.getLast?_eq_some_iff]at hu;obtain⟨ys,e⟩:=hu;grind
  have hlen:=hc.length
  have K:(bc x).length=(bc x).dropLast.length+1:=by have:=congrArg List.length j;simpa using this
  have C:ak P w (bc x).dropLast ((aO y).take (bc x).dropLast.length):=by have:=hc.take ((bc x).length-1);rw[<-List.dropLast_eq_take]at this;rw[List.length_dropLast];exact this
  have c:=uJ p3 (λv hv=>hv) m C
  have D:=(c.length).2
  rw[List.length_take]at D
  have E:(lay P t).dropLast.length=(bc x).dropLast.length:=by omega
  obtain⟨z,I,q⟩:=hc.get (bc x).dropLast.length u (by grind);refine .ls (.cons (.inr rfl) (by simp only[Wd.nK,AHeap.get,AHeap.alloc,Tr.aQ];rfl) rfl (by omega) (by omega) ?_ (by grind) (hl _ z ((aK.more w F).trans q2.le) (λi k e=>q2.s i k e) (q.mono ((aK.more w F).trans q2.le) λi k e=>q2.s i k e)));rw[E];exact c.mono q2.le
 split at hr
 .rename_i row t' rows h1 h2 h3
  split at hr
  .rename_i e;subst e
   cases hr
   obtain⟨w',q1,q2,q3,p⟩:=key row _ rows h1 h2 h3 λw' z _ _ hz=>by cases hz with|ls a=>exact a
   exact⟨w',q1,q2,rfl,rfl,q3,p⟩
  .cases hr
 .rename_i row h1 h2 h3
  cases hr
  obtain⟨w',q1,q2,q3,p⟩:=key row _ [] h1 h2 h3 λw' z _ _ hz=>by cases hz;exact .nil
  exact⟨w',q1,q2,rfl,rfl,q3,p⟩
 .cases hr
theorem K5{kd:IntKind}:∀{vs:List SV}{xs:List AV}{a m:Int},AG kd vs a=some m->ak P w vs xs->∃us:List Value,mJ xs=some us/\bp P (us.foldlM Builtin.max2 (.int kd a))=some (.int kd m)
 |[],_,a,m,h,.nil=>by cases h;exact⟨[],rfl,rfl⟩
 |v::vs,_,a,m,h,.cons (x:=x) b1 b2=>by
  cases v with
  |sc u=>cases u with
   |int c b=>
    simp only[AG]at h
    split at h
    .rename_i i;subst i;obtain⟨us,q1,q2⟩:=K5 h b2;cases b1;refine⟨.int kd b::us,by simp only[mJ,du,dM,q1],?_⟩;rw[List.foldlM_cons,cT];exact q2
    .cases h|_=>cases h
  |_=>cases h
theorem W9(hs:bE P cx w st a){o:Oper}{ops:Array Oper}(hd:iO cx.tn o.dst){k:ad->Option ρ}{r:ρ}(hr:BF P A kp o st k=some r)(hw:cf ops o a.tm=some true):
 k0 P cx w st a k kp r λm ex a'=>dH P (bz P m) cx ops o a=some (ex,a'):=by
 unfold BF at hr
 split at hr
 .cases hr
 split at hr
 .rename_i x u
  have hx:=er hs.tm x
  split at hr
  .rename_i t v hv
   rw[hv]at hx
   generalize hy:ev a.tm x=y at hx
   cases hx with
   |@dB _ _ x' q=>
    have fin:∀row,kp t row st=some r->gM P t row (.iface t x')->k0 P cx w st a k kp r λm ex a'=>dH P (bz P m) cx ops o a=some (ex,a'):=λrow h1 h2=>.inr ⟨0,w,st,a,t,row,.iface t x',by simp only[dH,hw,cu,aJ,u,hy],hs,.refl _ _ _,h1,h2⟩
    split at hr
    .rename_i cs hf hg
     split at hr
     .rename_i row C;refine fin row hr λw'=>?_;cases q with|agg q=>have:=DP (pre:=[]) hf C q w';simp only[AH,hg];exact .dB (.agg (by grind))
     .cases hr
    .rename_i v' hf hg
     split at hr
     .rename_i row C
      refine fin row hr λw'=>?_
      have:=DP (pre:=[]) hf C (.cons q .nil) w'
      unfold AH
      rw[hg]
      generalize hls:lay P t=ls at this C
      cases ls with
      |nil=>cases C
      |cons l ls=>cases ls with
       |nil=>cases this with|cons a _=>exact .dB (by grind)
       |cons l' ls'=>simp_all[rowOf]
     .cases hr
    .cases hr
  .cases hr
 .rename_i c u
  obtain⟨callee,args,F⟩:=c
  split at hr
  .rename_i f J
   simp only at J
   subst J
   split at hr
   .rename_i g caps hf E
    have hx:=er hs.tm f
    rw[hf]at hx
    obtain⟨xs,first,N,U⟩:∃xs,∃y,ak P w caps xs/\ev a.tm f=y/\nF y=some (.func g,[],xs):=by generalize hy:ev a.tm f=y at hx;cases hx with|fn a=>exact⟨_,_,a,rfl,rfl⟩|fp=>exact⟨[],_,.nil,rfl,rfl⟩
    have O:ak P w (args.toList.map (bw st.tm)) (args.toList.map (ev a.tm)):=ak.map _ λx _=>er hs.tm x
    have K:bE P cx w {st with df:=(g,args.toList.map (bw st.tm)++caps)::st.df} {a with df:=.fn (.func g) xs (args.toList.map (ev a.tm))::a.df}:=⟨hs.h,hs.tm,hs.al,.cons (O.append N) hs.df,hs.cm,hs.rn,hs.kd,hs.co.1,λd e=>hs.co.2 d ((List.mem_cons.1 e).resolve_left (by simp))⟩
    obtain⟨a',p1,p2,p3⟩:=hZ (n:=cx.tn) K (v:=.bl []) (x:=dm) (.bl .nil) hd
    refine .inl ⟨0,w,_,a',?_,p2,by rw[p3];cases o.dst<;>exact .refl _ _ _,hr⟩
    have i:aJ P (ev a.tm) o a.h=some (.defer (.fn (.func g) xs (args.toList.map (ev a.tm))),a.h):=by simp only[aJ,u,vd,U.1,U.2,List.nil_append]
    simp only[dH,hw,cu,i,hs.xa (by grind),Option.isSome_none,Bool.false_eq_true,if_false];grind
   .cases hr
  .cases hr
 .rename_i args F u
  split at hr
  .rename_i ha E
   have hm:=hs.cm
   have hk:cx.kind=.deferred:=hs.Pw (by grind) (by grind)
   have L:cx.round=none:=hs.xa (by grind)
   rw[E]at hm
   have D:a.cm=.ret:=by cases hc:a.cm<;>rw[hc]at hm<;>first|rfl|exact hm.elim
   obtain⟨a',p1,p2,p3⟩:=hZ (n:=cx.tn) hs (v:=.sc .nilIface) (x:=.sc .nilIface) (.sc rfl) hd
   refine .inl ⟨0,w,_,a',?_,p2,by rw[p3];cases o.dst<;>exact .refl _ _ _,hr⟩
   have i:aJ P (ev a.tm) o a.h=some (.zI,a.h):=by simp only[aJ,u,fE,fe,ha,List.map_nil]
   simp only[dH,hw,cu,i,hk,L,D];rw[show({a with cm:=bu.ret,h:=a.h}:av)=a by rw[<-D],p1];rfl
  .rename_i t row ha E
   have hm:=hs.cm
   have hk:cx.kind=.deferred:=hs.Pw (by grind) (by grind)
   have L:cx.round=none:=hs.xa (by grind)
   rw[E]at hm
   obtain⟨y,D,G⟩:∃y,a.cm=.aE y false/\gM P t row y:=by cases hc:a.cm with|aE y b=>rw[hc]at hm;obtain⟨e,h⟩:=hm;grind|_=>rw[hc]at hm;exact hm.elim
   have K:bE P cx w {st with cm:=.aE t row true} {a with cm:=.aE y true}:=⟨hs.h,hs.tm,hs.al,hs.df,⟨rfl,G⟩,.inl L,.inr (.inr hk),⟨.inr (hs.co.1.1.resolve_left (by grind)),hs.co.1.2⟩,hs.co.2⟩;obtain⟨a',p1,p2,p3⟩:=hZ (n:=cx.tn) K (G w) hd;refine .inl ⟨0,w,_,a',?_,p2,by rw[p3];cases o.dst<;>exact .refl _ _ _,hr⟩;simp_all[List.map_nil,aJ,ev,fE,fe,dH,cu]
  .cases hr
 .rename_i args F u
  split at hr
  .rename_i v hm
   have hx:ak P w (args.toList.map (bw st.tm)) (args.toList.map (ev a.tm)):=ak.map _ λx _=>er hs.tm x
   generalize args.toList.map (bw st.tm)=vs at hx hm
   unfold NU at hm
   split at hm
   .rename_i kd a0 vs'
    split at hm
    .rename_i m hm2
     cases hm
     generalize Px:args.toList.map (ev a.tm)=xs at hx
     cases hx with
     |cons b1 b2=>
      rename_i x0 xs0
      cases b1
      obtain⟨us,q1,q2⟩:=K5 hm2 b2
      obtain⟨a',p1,p2,p3⟩:=hZ (n:=cx.tn) hs (v:=.sc (.int kd m)) (x:=.sc (.int kd m)) (.sc rfl) hd
      refine .inl ⟨0,w,_,a',?_,p2,by rw[p3];cases o.dst<;>exact .refl _ _ _,hr⟩
      have i:aJ P (ev a.tm) o a.h=some (.val (.sc (.int kd m)),a.h):=by
       simp only[aJ,u,fE,fe,Px,mJ,du,dM,q1]
       have:bp P (builtin .max F o.type #[] (Value.int kd a0::us).toArray)=some (.value (.int kd m)):=by show bp P (Builtin.max_ F o.type (Value.int kd a0::us).toArray>>=λs=>pure (Next.value s))=_;rw[cT];show(bp P (us.foldlM Builtin.max2 (.int kd a0))).bind _=_;rw[q2];rfl
       rw[this];rfl
      simp_all[dH,cu]
    .cases hm
   .cases hm
  .cases hr
 .rename_i t x u
  have hx:=er hs.tm x
  have fin:∀{v:SV}{st':ad}{w':Wd},af P w' st'.ob st'.nx (a.h.alloc (.cells 0 0 (aO (ev a.tm x)) 0 t true false))->aT w st.ob a.h w' st'.ob (a.h.alloc (.cells 0 0 (aO (ev a.tm x)) 0 t true false))->st'.tm=st.tm->st'.r=st.r->RV P w' v (.ref a.h.next 0 (aO (ev a.tm x)).length 0)->(aO (ev a.tm x)).all dt=true->
   k (cP st' o.dst v)=some r->k0 P cx w st a k kp r λm ex a'=>dH P (bz P m) cx ops o a=some (ex,a'):=by
   intro v st' w' e1 e2 e3 e4 e5 e6 hr
   obtain⟨a',p1,p2,p3⟩:=hZ (n:=cx.tn) (hs.step e1 e2 e3 e4) e5 hd
   have N3:(cP st' o.dst v).ob=st'.ob:=by cases o.dst<;>rfl
   refine .inl ⟨0,w',_,a',?_,p2,by grind,hr⟩
   have i:aJ P (ev a.tm) o a.h=some (.val (.ref a.h.next 0 (aO (ev a.tm x)).length 0),a.h.alloc (.cells 0 0 (aO (ev a.tm x)) 0 t true false)):=by simp only[aJ,u,e6,if_true];rfl
   simp only[dH,hw,cu,i];rw[show({a with cm:=a.cm,h:=a.h.alloc (.cells 0 0 (aO (ev a.tm x)) 0 t true false)}:av)={a with h:=a.h.alloc (.cells 0 0 (aO (ev a.tm x)) 0 t true false)}from rfl,p1];rfl
  split at hr
  .rename_i v st' hv
   split at hv
   .obtain⟨w',q1,q2,q3,q4,Z,Y⟩:=Vr hs.h hx hv;grind
   .obtain⟨w',q1,q2,q3,q4,Z,Y⟩:=Vq hs.h hx hv;grind
  .cases hr
 .rename_i t x hi mx u
  split at hr
  .rename_i e j kh n km m hu hx hh hm
   split at hr
   .rename_i t' rows aM hj
    split at hr
    .rename_i hb
     obtain rfl:=Nat.eq_of_beq_eq_true hb
     rcases kr hr with⟨I,M⟩|⟨_,M⟩
     case inr=>cases M
     clear hr
     simp only[decide_eq_true_eq]at I
     obtain⟨rfl,rfl⟩:=I
     have V:=er hs.tm x
     have hH:=er hs.tm hi
     have hM:=er hs.tm mx
     rw[hx]at V;rw[hh]at hH;rw[hm]at hM
     obtain⟨X,eX⟩:∃X,ev a.tm x=X:=⟨_,rfl⟩
     have eH:ev a.tm hi=.sc (.int kh (rows.length:Int)):=by generalize ev a.tm hi=z at hH;cases hH;rfl
     have eM:ev a.tm mx=.sc (.int km (rows.length:Int)):=by generalize ev a.tm mx=z at hM;cases hM;rfl
     rw[eX]at V
     obtain⟨g1,g2,g3,g4⟩:=hs.h.arr j t' rows aM hj
     have fin:∀(w':Wd)(a1:AV),af P w' ((st.ob.put j .gone).put st.nx (.arr t' rows aM)) (st.nx+1) a.h->aT w st.ob a.h w' ((st.ob.put j .gone).put st.nx (.arr t' rows aM)) a.h->RV P w' (.own st.nx) a1->
      fV P t X none (some (.sc (.int kh (rows.length:Int)))) (some (.sc (.int km (rows.length:Int))))=some a1->k0 P cx w st a k kp r λm ex a'=>dH P (bz P m) cx ops o a=some (ex,a'):=by
      intro w' a1 e1 e2 e3 e4
      obtain⟨a',p1,p2,p3⟩:=hZ (n:=cx.tn) (hs.step (st':={st with ob:=(st.ob.put j .gone).put st.nx (.arr t' rows aM),nx:=st.nx+1}) e1 e2 rfl rfl) e3 hd
      refine .inl ⟨0,w',_,a',?_,p2,by rw[p3];cases o.dst<;>exact e2,M⟩
      have i:aJ P (ev a.tm) o a.h=some (.val a1,a.h):=by simp only[aJ,u,eX,Option.map_some,Option.map_none,eH,eM,e4,val]
      simp only[dH,hw,cu,i];rw[show({a with cm:=a.cm,h:=a.h}:av)={a with h:=a.h}from rfl,p1];rfl
     have T:∀kd,ff (.sc (.int kd (rows.length:Int)))=some rows.length:=λkd=>by simp[ff]
     rcases g4 with⟨q,rfl⟩|⟨Q,ver,mv,c,ex,sh,cap,q,qc,qg,q2,q3,q4,Z,Y⟩
     .obtain⟨w',e1,e2,e3⟩:=hs.h.renamed (x:=.arr t' [] aM) hj (by simp) (by simp) (by simp) q (by simp) λw' _ e _=>⟨g1,g2,g3,.inl ⟨e,rfl⟩⟩;refine fin w' (.sc (.slice none 0 0)) e2 e3 (.ck e1) ?_;cases V with|ck e=>unfold fV;simp_all[Option.map_some,List.length_nil,ep]|bX e=>grind
     .have S:(w.put a.h.get st.nx (.sl Q ver (rows.length*(lay P t').length) (lay P t').length rows.length (some rows.length))).s st.nx=some (.sl Q ver (rows.length*(lay P t').length) (lay P t').length rows.length (some rows.length)):=by simp[Wd.put]
      obtain⟨e2,e3⟩:=hs.h.move (lk:=.sl Q ver (rows.length*(lay P t').length) (lay P t').length rows.length (some rows.length)) (x:=.arr t' rows aM) (h':=a.h) (g:=a.h.get) hj (by simp) (by simp) (by simp) q rfl rfl rfl (λp e=>.inl e) (λe=>e) (λ_ _=>rfl) (λo e=>e) (λo f _ v mv c fz el ex sh e=>⟨v,[],fz,el,ex,sh,by grind,ao _⟩) (λo e=>⟨hs.h.there ⟨_,hj,by simp⟩ q e,hs.h.lv ⟨_,hj,by simp⟩ q e⟩) (λhl _=>⟨g1,g2,g3,.inr ⟨Q,ver,mv,c,ex,sh,_,S,λk e=>by cases e;rfl,qg,q2,q3,q4.mono hl,Z,Y⟩⟩) (by simp)
      refine fin _ (.sl Q ver (rows.length*(lay P t').length) 0 (lay P t').length rows.length (some rows.length)) e2 e3 (.bX S) ?_
      cases V with
      |ck e=>grind
      |bX e=>
       rw[q]at e
       simp only[an,Lk.sl.injEq]at e
       obtain⟨rfl,rfl,rfl,rfl,rfl,rfl⟩:=e
       unfold fV
       rw[hu]
       simp only[g1,ep,T,Option.map_some]
       have ad6:rows.length<=lZ cap rows.length:=by cases cap with|none=>exact ao _|some k=>have:=qc k rfl;simp only[lZ];omega
       grind
    .cases hr
   .cases hr
  .cases hr
 .cases hr
theorem aT.known{ob':Tr ai}{h h':AHeap}(e:st.ob=ob')(hf:aT w st.ob h w' ob' h'):aT w st.ob h w' ob' h':=hf
theorem Is{m c:Nat}(hm:m<=c){ops:Array Oper}{o:Oper}{r:bP×av}(e:dH P (bz P m) cx ops o a=some r):dH P (bz P c) cx ops o a=some r:=Jb (hY P hm) e
theorem DQ(T:eA P A R){K:Bool}{ops:Array Oper}{k:ad->Option ρ}{r:ρ}:∀{l:List Oper}{w:Wd}{st:ad}{a:av},bE P cx w st a->(∀o,o∈l->iO cx.tn o.dst)->ma P A R K kp ops l st k=some r->
 k0 P cx w st a k kp r λm ex a'=>fA P (bz P m) cx ops l a=some (ex,a')
 |[],w,st,a,hs,_,hr=>.inl ⟨0,w,{st with al:=[]},a,rfl,⟨hs.h,hs.tm,λ_ _ e=>(by cases e),hs.df,hs.cm,hs.rn,hs.kd,hs.co⟩,.refl _ _ _,hr⟩
 |o::rest,w,st,a,hs,hd,hr=>by
  have I:=hd o (List.mem_cons_self ..)
  have N:∀o,o∈rest->iO cx.tn o.dst:=λo e=>hd o (List.mem_cons_of_mem _ e)
  have run:∀(c:ad),c.ob=st.ob->bE P cx w c a->cf ops o a.tm=some true->(match Pa A K o.op with
   |true=>BF P A kp o c λst=>ma P A R K kp ops rest st k
   |false=>j8 P A R kp o c λst=>ma P A R K kp ops rest st k)=some r->
   k0 P cx w st a k kp r λm ex a'=>fA P (bz P m) cx ops (o::rest) a=some (ex,a'):=by
   intro c z u hw p
   have hq:k0 P cx w c a (λst=>ma P A R K kp ops rest st k) kp r λm ex a'=>dH P (bz P m) cx ops o a=some (ex,a'):=by
    split at p
    .exact W9 u I p hw
    .exact W8 T u I p hw
   rcases hq with⟨m,w1,L,O,q1,q2,q3,S⟩|⟨m,w1,L,O,t,row,y,q1,q2,q3,S,U⟩
   .rcases DQ T q2 N S with⟨G,w2,i,J,F,E,q,D⟩|⟨G,w2,i,J,t,row,y,F,E,q,D,Q⟩
    .refine .inl ⟨max m G,w2,i,J,?_,E,by rw[<-z];exact q3.trans q,D⟩;show fA P _ cx ops (o::rest) a=_;rw[fA,Is (Nat.le_max_left ..) q1];exact xK (hY P (Nat.le_max_right ..)) F
    .refine .inr ⟨max m G,w2,i,J,t,row,y,?_,E,by rw[<-z];exact q3.trans q,D,Q⟩;show fA P _ cx ops (o::rest) a=_;rw[fA,Is (Nat.le_max_left ..) q1];exact xK (hY P (Nat.le_max_right ..)) F
   .exact .inr ⟨m,w1,L,O,t,row,y,by simp_all[fA],q2,by grind,S,U⟩
  have skip:∀(c:ad),c.ob=st.ob->bE P cx w c a->cf ops o a.tm=some false->ma P A R K kp ops rest (cP c o.dst (.bl [])) k=some r->
   k0 P cx w st a k kp r λm ex a'=>fA P (bz P m) cx ops (o::rest) a=some (ex,a'):=by
   intro c z u hw p
   obtain⟨O,p1,p2,p3⟩:=hZ (n:=cx.tn) (v:=.bl []) (x:=dm) u (.bl .nil) I
   have C:(cP c o.dst (.bl [])).ob=st.ob:=by rw[<-z];cases o.dst<;>rfl
   have M:∀m,fA P (bz P m) cx ops (o::rest) a=fA P (bz P m) cx ops rest O:=λm=>by simp_all[Option.map_some,fA,dH]
   rcases DQ T p2 N p with⟨G,w2,i,J,F,E,q,D⟩|⟨G,w2,i,J,t,row,y,F,E,q,D,Q⟩
   .rw[C,p3]at q;exact .inl ⟨G,w2,i,J,(M _).trans F,E,q,D⟩
   .rw[C,p3]at q;exact .inr ⟨G,w2,i,J,t,row,y,(M _).trans F,E,q,D,Q⟩
  unfold ma at hr
  unfold tb at hr
  split at hr
  .grind[cf]
  .rename_i j want hg
   split at hr
   .rename_i d V
    split at hr
    .grind[uM,kr,jc,known,cf]
    .grind[CW,cf]
    .cases hr
   .cases hr
end
end Go.AI
end
