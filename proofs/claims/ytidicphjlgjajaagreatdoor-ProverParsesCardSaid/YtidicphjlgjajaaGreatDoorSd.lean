/-
  A part of the proof: SvDec SvDe2 SvBack SvCl SvOp SvSeq.
-/
import Derived.Test.YtidicphjlgjajaaGreatDoorSc
set_option linter.all false

section
namespace Go.AI
theorem RT.head_cons{a:LT}:∀{l:List LT}(x:a.ty)(y:RT l),RT.head (RT.cons x y)=x|[],_,_=>rfl|_::_,_,_=>rfl
theorem RT.tail_cons{a:LT}:∀{l:List LT}(x:a.ty)(y:RT l),RT.tail (RT.cons x y)=y|[],_,_=>rfl|_::_,_,_=>rfl
section
variable {P:Program}{w w':Wd}{ob ay:Tr au}{nx:Nat}{h h':AHeap}{ρ:Type}{ss:List Sh}{v:SV}{vs:List SV}
theorem kC{α:Type}{x:Option α}{r:α}{C:Prop}(h:x=some r)(e:x=none):C:=by rw[e]at h;cases h
theorem qp{α β:Type}{x:Option α}{f:α->β}{r:β}(h:x.map f=some r):∃y,x=some y/\r=f y:=by cases x with|none=>cases h|some y=>cases h;exact⟨y,rfl,rfl⟩
theorem SE{k:IntKind}{r:RT (bC (.int k::ss))}(h:bY P ob (.int k::ss) (v::vs)=some r):∃n r',v=.sc (.int k n)/\bY P ob ss vs=some r'/\r=RT.cons (a:=.int) n r':=by
 cases v with
 |sc u=>cases u with
  |int b n=>
   have h0:(if k=b then(bY P ob ss vs).map λr=>RT.cons (a:=.int) n r else none)=some r:=h
   by_cases e:k=b
   .rw[if_pos e]at h0;subst e;obtain⟨r',h1,h2⟩:=qp h0;exact⟨n,r',rfl,h1,h2⟩
   .rw[if_neg e]at h0;cases h0|_=>exact kC h rfl
 |_=>exact kC h rfl
theorem Iq{r:RT (bC (.bool::ss))}(h:bY P ob (.bool::ss) (v::vs)=some r):∃n r',v=.sc (.bool n)/\bY P ob ss vs=some r'/\r=RT.cons (a:=.bool) n r':=by
 cases v with
 |sc u=>cases u with|bool n=>obtain⟨r',h1,h2⟩:=qp (f:=λr=>RT.cons (a:=.bool) n r) h;exact⟨n,r',rfl,h1,h2⟩|_=>exact kC h rfl
 |_=>exact kC h rfl
theorem SF{r:RT (bC (.str::ss))}(h:bY P ob (.str::ss) (v::vs)=some r):∃n r',v=.sc (.string n)/\bY P ob ss vs=some r'/\r=RT.cons (a:=.str) n r':=by
 cases v with
 |sc u=>cases u with|string n=>obtain⟨r',h1,h2⟩:=qp (f:=λr=>RT.cons (a:=.str) n r) h;exact⟨n,r',rfl,h1,h2⟩|_=>exact kC h rfl
 |_=>exact kC h rfl
theorem Ug{t:TypeId}{r:RT (bC (.dl t::ss))}(h:bY P ob (.dl t::ss) (v::vs)=some r):∃x r',asData ob t v=some x/\bY P ob ss vs=some r'/\r=RT.cons (a:=.rows) x r':=by have h:(match asData ob t v,bY P ob ss vs with|some x,some r=>some (RT.cons (a:=.rows) x r)|_,_=>none)=some r:=h;cases ha:asData ob t v with|none=>rw[ha]at h;cases h|some x=>cases hr:bY P ob ss vs with|none=>rw[ha,hr]at h;cases h|some r'=>rw[ha,hr]at h;cases h;exact⟨x,r',rfl,rfl,rfl⟩
theorem SG{t:TypeId}{bE:Bool}{r:RT (bC (.own t bE::ss))}(h:bY P ob (.own t bE::ss) (v::vs)=some r):∃x r',uP ob bE v=true/\mh P t=true/\isByte P t=false/\asData ob t v=some x/\bY P ob ss vs=some r'/\r=RT.cons (a:=.rows) x r':=by have h:(match uP ob bE v&&mh P t&&!isByte P t,asData ob t v,bY P ob ss vs with|true,some x,some r=>some (RT.cons (a:=.rows) x r)|_,_,_=>none)=some r:=h;cases hf:(uP ob bE v&&mh P t&&!isByte P t)with|false=>rw[hf]at h;cases h|true=>cases ha:asData ob t v with|none=>rw[hf,ha]at h;cases h|some x=>cases hr:bY P ob ss vs with|none=>rw[hf,ha,hr]at h;cases h|some r'=>rw[hf,ha,hr]at h;cases h;simp only[aX,Bool.not_eq_true']at hf;exact⟨x,r',hf.1.1,hf.1.2,hf.2,rfl,rfl,rfl⟩
theorem SH{t:TypeId}{r:RT (bC (.aK t::ss))}(h:bY P ob (.aK t::ss) (v::vs)=some r):∃x r',isByte P t=true/\wj ob t v=some x/\bY P ob ss vs=some r'/\r=RT.cons (a:=.str) x r':=by have h:(match isByte P t,wj ob t v,bY P ob ss vs with|true,some x,some r=>some (RT.cons (a:=.str) x r)|_,_,_=>none)=some r:=h;cases hf:isByte P t with|false=>rw[hf]at h;cases h|true=>cases ha:wj ob t v with|none=>rw[hf,ha]at h;cases h|some x=>cases hr:bY P ob ss vs with|none=>rw[hf,ha,hr]at h;cases h|some r'=>rw[hf,ha,hr]at h;cases h;exact⟨x,r',rfl,rfl,rfl,rfl⟩
theorem SI{u:SV}{r:RT (bC (.opt u::ss))}(h:bY P ob (.opt u::ss) (v::vs)=some r):
 ∃b r',bY P ob ss vs=some r'/\r=RT.cons (a:=.bool) b r'/\((∃v',v=.opt b v'/\eqv v' u=true)\/(v=.sc (.pointer none)/\b=false)\/(∃i o,v=.ref i o/\b=true/\eqv v u=true)):=by
 cases v with
 |opt b v'=>have h:(match eqv v' u with|true=>(bY P ob ss vs).map λr=>RT.cons (a:=.bool) b r|false=>none)=some r:=h;cases e:eqv v' u with|true=>rw[e]at h;obtain⟨r',h1,h2⟩:=qp h;exact⟨b,r',h1,h2,.inl ⟨v',rfl,e⟩⟩|false=>rw[e]at h;cases h
 |ref i o=>have h:(match eqv (.ref i o) u with|true=>(bY P ob ss vs).map λr=>RT.cons (a:=.bool) true r|false=>none)=some r:=h;cases e:eqv (.ref i o) u with|true=>rw[e]at h;obtain⟨r',h1,h2⟩:=qp h;exact⟨true,r',h1,h2,.inr (.inr ⟨i,o,rfl,rfl,rfl⟩)⟩|false=>rw[e]at h;cases h
 |sc x=>cases x with
  |pointer p=>cases p with|none=>obtain⟨r',h1,h2⟩:=qp (f:=λr=>RT.cons (a:=.bool) false r) h;exact⟨false,r',h1,h2,.inr (.inl ⟨rfl,rfl⟩)⟩|some _=>exact kC h rfl
  |_=>exact kC h rfl
 |_=>exact kC h rfl
theorem SJ{u:SV}{r:RT (bC (.gC u::ss))}(h:bY P ob (.gC u::ss) (v::vs)=some r):eqv v u=true/\bY P ob ss vs=some r:=by have h:(match eqv v u with|true=>bY P ob ss vs|false=>none)=some r:=h;cases e:eqv v u with|true=>rw[e]at h;exact⟨rfl,h⟩|false=>rw[e]at h;cases h
theorem SK{r:RT (bC [])}(h:bY P ob [] vs=some r):vs=[]:=by cases vs with|nil=>rfl|cons _ _=>exact kC h rfl
theorem RB{s:Sh}{r:RT (bC (s::ss))}(h:bY P ob (s::ss) vs=some r):∃v b,vs=v::b:=by cases vs with|nil=>cases s<;>exact kC h rfl|cons v b=>exact⟨v,b,rfl⟩
theorem dn.to{i j:Nat}{x:au}{k:Lk}(hx:dn P w h i x)(m:∀t cs,x≠.box t cs)(hl:bA w w')(hF:∀o,w'.F o->w.F o)(hi:w.s i=some k)(hj:w'.s j=some k):dn P w' h j x:=by
 cases x with
 |box t cs=>exact absurd rfl (m t cs)
 |gone=>trivial
 |arr t rows bE=>
  obtain⟨p,C,B,n⟩:=hx
  refine⟨p,C,B,?_⟩
  rcases n with⟨q1,q2⟩|⟨o,ad,mv,c,ex,sh,cap,q1,q2,q3,l,g,u,b,q⟩
  .exact .inl ⟨by rw[hj,<-hi];exact q1,q2⟩
  .exact .inr ⟨o,ad,mv,c,ex,sh,cap,by rw[hj,<-hi];exact q1,q2,q3,l,g,u.mono hl,b,λe f=>q e (hF _ f)⟩
 |aK s t=>
  obtain⟨p,n⟩:=hx
  refine⟨p,?_⟩
  rcases n with⟨q1,q2⟩|⟨o,ad,mv,ex,fz,cap,z,q1,q2,q3,l,g,b⟩
  .exact .inl ⟨by rw[hj,<-hi];exact q1,q2⟩
  .exact .inr ⟨o,ad,mv,ex,fz,cap,z,by rw[hj,<-hi];exact q1,q2,q3,l,g,λf=>b (hF _ f)⟩
def Wd.next(w:Wd)(i:Nat)(k:Lk):Wd:={g:=w.g,F:=w.F,s:=λj=>if j=i then some k else w.s j}
theorem aj.take(hs:aj P w ob nx h){x:au}{k:Lk}(hx:dn P (w.next nx k) h nx x)(c:∀o,k.obj=some o->¬Ow w ob o/\o<h.next):
 aj P (w.next nx k) (ob.put nx x) (nx+1) h/\(∀j l,w.s j=some l->(w.next nx k).s j=some l)/\(w.next nx k).s nx=some k/\(∀o,Ow (w.next nx k) (ob.put nx x) o->Ow w ob o\/k.obj=some o):=by
 have b:(w.next nx k).s nx=some k:=by simp[Wd.next]
 have hd:¬live ob nx:=by rintro⟨y,e,_⟩;rw[(hs.nx nx (ak _)).2]at e;cases e
 obtain⟨q1,q2⟩:=hs.MU (w':=w.next nx k) (i:=nx) (bU:=nx+1) rfl rfl (λj e=>by simp only[Wd.next];rw[if_neg e]) b (.inl (hs.nx nx (ak _)).1) hd c hx (by omega) (by omega)
 refine⟨q1,q2,b,?_⟩
 rintro o⟨j,l,⟨y,h1,h2⟩,h3,h4⟩
 by_cases e:j=nx
 .subst e;rw[b]at h3;cases h3;exact .inr h4
 .rw[Tr.a8 _ _ e]at h1;simp only[Wd.next]at h3;rw[if_neg e]at h3;exact .inl ⟨j,l,⟨y,h1,h2⟩,h3,h4⟩
end
end Go.AI
end

section
namespace Go.AI
section
variable {P:Program}{h:AHeap}{L:List Nat}{w1 wc:Wd}{bP:Tr au}
def Os(w:Wd)(ob:Tr au)(o:Nat):Prop:=∃a k,live ob a/\w.s a=some k/\k.obj=some o/\∀n,k≠.box o n
def fI(P:Program)(w1:Wd)(bP:Tr au)(h:AHeap)(L:List Nat)(wc:Wd)(st:af)(p:List SV×af)(ys:List AV):Prop:=∃b,aj P b p.2.ob p.2.nx h/\b.F=wc.F/\(∀j k,wc.s j=some k->b.s j=some k)/\aC P b (nr L p.1) ys/\p.2.tm=st.tm/\p.2.r=st.r/\(∀j,j<st.nx->p.2.ob.get j=st.ob.get j)/\st.nx<=p.2.nx/\(∀o,Ow b p.2.ob o->Ow wc st.ob o\/Os w1 bP o)
theorem fI.cons{st:af}{p:List SV×af}{ys:List AV}{u:SV}{y:AV}(hg:wc.g=h.get)(hd:fI P w1 bP h L wc st p ys)(i:∀b,bA wc b->(∀j k,wc.s j=some k->b.s j=some k)->RV P b (qj L u) y):fI P w1 bP h L wc st (u::p.1,p.2) (y::ys):=by obtain⟨b,q1,q2,q3,e,c⟩:=hd;exact⟨b,q1,q2,q3,.cons (i b (.imp (by rw[hg];exact funext q1.g) λo f=>by rw[q2];exact f) q3) e,c⟩
theorem fI.obj{st:af}{p:List SV×af}{ys:List AV}{x:au}{k:Lk}{y:AV}(hs:aj P wc st.ob st.nx h)(hx:dn P (wc.next st.nx k) h st.nx x)(c:∀o,k.obj=some o->¬Ow wc st.ob o/\o<h.next)(how:∀o,k.obj=some o->Os w1 bP o)
 (hy:∀b:Wd,b.s st.nx=some k->RV P b (.own st.nx) y)(hd:fI P w1 bP h L (wc.next st.nx k) {st with ob:=st.ob.put st.nx x,nx:=st.nx+1} p ys):fI P w1 bP h L wc st (.own st.nx::p.1,p.2) (y::ys):=by
 obtain⟨t1,t2,g,f⟩:=hs.take hx c
 obtain⟨b,q1,q2,q3,u,t,q,n,m,i⟩:=hd
 refine⟨b,q1,q2,λj l e=>q3 j l (t2 j l e),.cons (hy b (q3 _ _ g)) u,t,q,λj hj=>?_,by have:st.nx+1<=p.2.nx:=m;show st.nx<=p.2.nx;omega,λo ho=>?_⟩
 .have:=n j (by show j<st.nx+1;omega);rw[this];exact Tr.a8 _ _ (by omega)
 .rcases i o ho with e|e
  .rcases f o e with e|e
   .exact .inl e
   .exact .inr (how o e)
  .exact .inr e
theorem nodup_cons{x:Nat}{xs:List Nat}(h:nodup (x::xs)=true):x∉xs/\nodup xs=true:=by simp only[nodup,aX,Bool.not_eq_true']at h;exact⟨DV h.1,h.2⟩
theorem SL{a:Nat}{vs:List SV}(h:SV.own a∈vs):a∈vs.flatMap nE:=List.mem_flatMap.2 ⟨_,h,by simp[nE]⟩
theorem QM{v:SV}{vs:List SV}(h:nodup ((v::vs).flatMap nE)=true):nodup (vs.flatMap nE)=true:=by rw[List.flatMap_cons]at h;cases v with|own a=>exact(nodup_cons h).2|_=>exact h
theorem CD{a:Nat}{vs:List SV}(h:nodup ((SV.own a::vs).flatMap nE)=true):SV.own a∉vs:=by rw[List.flatMap_cons]at h;exactλe=>(nodup_cons h).1 (SL e)
theorem adl{v:SV}{L:List Nat}(h:v=.aO\/(∃x,v=.sc x)\/(∃t r,v=.dl t r)\/(∃i,v=.own i)):qj L v=v:=by rcases h with rfl|⟨_,rfl⟩|⟨_,_,rfl⟩|⟨_,rfl⟩<;>rfl
theorem Uh{nxC:Nat}{F:Nat->Prop}{B:List SV}(hE:aj P (w1.more F) (cv bP B) nxC h)(hl:jb bP (cv bP B))
 (h3:∀i,SV.own i∈B->∀t rows l x,bP.get i=some (.arr t rows l)->RV P w1 (.own i) x->Rd P (w1.more F) t rows x):
 ∀(aq:List Sh){vs:List SV}{ys:List AV}{r:RT (bC aq)}{st:af}{wc:Wd},bY P bP aq vs=some r->aC P w1 vs ys->(∀v,v∈ir aq vs->v∈B)->(∀a,SV.own a∈vs->SV.own a∈B->SV.own a∈ir aq vs)->nodup (vs.flatMap nE)=true->aj P wc st.ob st.nx h->wc.F=(w1.more F).F->(∀i j k,L[i]?=some j->w1.s i=some k->wc.s j=some k)->(∀o,Ow wc st.ob o->∀a,SV.own a∈vs->live bP a->∀k,w1.s a=some k->k.obj≠some o)->fI P w1 bP h L wc st (cz aq r st) ys:=by
 intro aq
 induction aq with
 |nil=>intro vs ys r st wc C hv _ _ _ hs hF _ _;have:=SK C;subst this;cases hv;exact⟨wc,hs,rfl,λ_ _ e=>e,.nil,rfl,rfl,λ_ _=>rfl,ak _,λ_ e=>.inl e⟩
 |cons s ss ih=>
  intro vs ys r st wc C hv S R hn hs hF hL Q
  obtain⟨v,p,rfl⟩:=RB C
  cases hv with
  |@cons _ y _ ys a b=>
  have hg:wc.g=h.get:=funext hs.g
  have U:bA (w1.more F) wc:=.imp (by rw[hg];exact(funext hE.g).symm) λo f=>by rw[hF];exact f
  have W:=QM hn
  have rest:∀{r':RT (bC ss)},(ir (s::ss) (v::p)=ir ss p\/ir (s::ss) (v::p)=v::ir ss p)->bY P bP ss p=some r'->fI P w1 bP h L wc st (cz ss r' st) ys:=by
   intro r' hd m
   refine ih m b (λu Z=>S u ?_) (λa' w E=>?_) W hs hF hL λo ho a' w=>Q o ho a' (List.mem_cons_of_mem _ w)
   .rcases hd with e|e
    .rw[e];exact Z
    .rw[e];exact List.mem_cons_of_mem _ Z
   .have:=R a' (List.mem_cons_of_mem _ w) E
    rcases hd with e|e
    .rw[e]at this;exact this
    .rw[e]at this
     rcases List.mem_cons.1 this with rfl|this
     .exact absurd w (CD hn)
     .exact this
  have G:∀(z:Wd),(∀j k,wc.s j=some k->z.s j=some k)->∀i j k,L[i]?=some j->w1.s i=some k->z.s j=some k:=λz e i j k h1 h2=>e _ _ (hL i j k h1 h2)
  have own:∀{a0:Nat}{x x':au}{r':RT (bC ss)},v=.own a0->ir (s::ss) (v::p)=ir ss p->bP.get a0=some x->x≠.gone->(∀t cs,x≠.box t cs)->(∀t cs,x'≠.box t cs)->(dn P (w1.more F) h a0 x->dn P (w1.more F) h a0 x')->bY P bP ss p=some r'->
   fI P w1 bP h L wc st (.own st.nx::(cz ss r' {st with ob:=st.ob.put st.nx x',nx:=st.nx+1}).1,(cz ss r' {st with ob:=st.ob.put st.nx x',nx:=st.nx+1}).2) (y::ys):=by
   intro a0 x x' r' V hd hx Gx hnb aac hxx m
   subst V
   have OH:live bP a0:=⟨x,hx,Gx⟩
   have hnD:SV.own a0∉B:=λe=>by have:=R a0 (List.mem_cons_self ..) e;rw[hd]at this;exact CD hn (DX this)
   have OI:(cv bP B).get a0=some x:=by rw[xM hnD];exact hx
   have J:=hE.jP OI
   obtain⟨k,hk⟩:∃k,w1.s a0=some k:=by cases a with|dh e=>exact⟨_,e⟩|cG e=>exact⟨_,e⟩
   have hlE:live (cv bP B) a0:=⟨x,OI,Gx⟩
   have D:∀o,k.obj=some o->¬Ow wc st.ob o/\o<h.next:=λo ho=>⟨λhow=>Q o how a0 (List.mem_cons_self ..) OH k hk ho,hE.lt a0 k o hk ho⟩
   have hnx:(wc.next st.nx k).s st.nx=some k:=by simp[Wd.next]
   have T:dn P (wc.next st.nx k) h st.nx x':=(hxx J).to aac (U.trans (.imp rfl λ_ f=>f)) (λo f=>by have f':wc.F o:=f;rw[hF]at f';exact f') hk hnx
   obtain⟨t1,t2,t3,t4⟩:=hs.take T D
   refine fI.obj hs T D (λo ho=>⟨a0,k,OH,hk,ho,λn e=>by cases a with|dh I=>rw[hk]at I;cases I;cases e|cG I=>rw[hk]at I;cases I;cases e⟩) (λz e=>?_) (ih m b (λu Z=>S u (by rw[hd];exact Z)) (λa' w E=>?_) W t1 hF (G _ t2) ?_)
   .cases a with|dh I=>rw[hk]at I;cases I;exact .dh e|cG I=>rw[hk]at I;cases I;exact .cG e
   .have:=R a' (List.mem_cons_of_mem _ w) E;rw[hd]at this;exact this
   .intro o ho a' w M k' O N
    rcases t4 o ho with e|e
    .exact Q o e a' (List.mem_cons_of_mem _ w) M k' O N
    .have:=hE.inj a0 a' k k' o hlE ((hl.live a').2 M) hk O e N;subst this;exact CD hn w
  have nil:∀{x':au}{r':RT (bC ss)},v=.sc (.slice none 0 0)->ir (s::ss) (v::p)=ir ss p->dn P (wc.next st.nx .nil) h st.nx x'->bY P bP ss p=some r'->
   fI P w1 bP h L wc st (.own st.nx::(cz ss r' {st with ob:=st.ob.put st.nx x',nx:=st.nx+1}).1,(cz ss r' {st with ob:=st.ob.put st.nx x',nx:=st.nx+1}).2) (y::ys):=by
   intro x' r' V hd J m
   subst V
   obtain⟨t1,t2,t3,t4⟩:=hs.take (k:=.nil) J (λo e=>by cases e)
   refine fI.obj hs J (λo e=>by cases e) (λo e=>by cases e) (λz e=>?_) (ih m b (λu Z=>S u (by rw[hd];exact Z)) (λa' w E=>?_) W t1 hF (G _ t2) ?_)
   .cases a;exact .dh e
   .have:=R a' (List.mem_cons_of_mem _ w) E;rw[hd]at this;exact this
   .intro o ho a' w M k' O N
    rcases t4 o ho with e|e
    .exact Q o e a' (List.mem_cons_of_mem _ w) M k' O N
    .cases e
  cases s with
  |int k=>obtain⟨n,r',rfl,m,rfl⟩:=SE C;show fI P w1 bP h L wc st (.sc (.int k (RT.head (RT.cons (a:=.int) n r')))::(cz ss (RT.tail (RT.cons (a:=.int) n r')) st).1,(cz ss (RT.tail (RT.cons (a:=.int) n r')) st).2) _;rw[RT.head_cons,RT.tail_cons];cases a;exact(rest (.inl rfl) m).cons hg λ_ _ _=>.sc rfl
  |bool=>obtain⟨n,r',rfl,m,rfl⟩:=Iq C;show fI P w1 bP h L wc st (.sc (.bool (RT.head (RT.cons (a:=.bool) n r')))::(cz ss (RT.tail (RT.cons (a:=.bool) n r')) st).1,(cz ss (RT.tail (RT.cons (a:=.bool) n r')) st).2) _;rw[RT.head_cons,RT.tail_cons];cases a;exact(rest (.inl rfl) m).cons hg λ_ _ _=>.sc rfl
  |str=>obtain⟨n,r',rfl,m,rfl⟩:=SF C;show fI P w1 bP h L wc st (.sc (.string (RT.head (RT.cons (a:=.str) n r')))::(cz ss (RT.tail (RT.cons (a:=.str) n r')) st).1,(cz ss (RT.tail (RT.cons (a:=.str) n r')) st).2) _;rw[RT.head_cons,RT.tail_cons];cases a;exact(rest (.inl rfl) m).cons hg λ_ _ _=>.sc rfl
  |dl t=>obtain⟨x,r',hx,m,rfl⟩:=Ug C;show fI P w1 bP h L wc st (.dl t (RT.head (RT.cons (a:=.rows) x r'))::(cz ss (RT.tail (RT.cons (a:=.rows) x r')) st).1,(cz ss (RT.tail (RT.cons (a:=.rows) x r')) st).2) _;rw[RT.head_cons,RT.tail_cons];have rk:=Ie (S v (List.mem_cons_self ..)) h3 hx a;exact(rest (.inr rfl) m).cons hg λz X _=>.dl (rk.mono (U.trans X))
  |own t bE=>
   obtain⟨x,r',hf,hgd,Y,hx,m,rfl⟩:=SG C
   show fI P w1 bP h L wc st (.own st.nx::(cz ss (RT.tail (RT.cons (a:=.rows) x r')) {st with ob:=st.ob.put st.nx (.arr t (RT.head (RT.cons (a:=.rows) x r')) bE),nx:=st.nx+1}).1,(cz ss (RT.tail (RT.cons (a:=.rows) x r')) {st with ob:=st.ob.put st.nx (.arr t (RT.head (RT.cons (a:=.rows) x r')) bE),nx:=st.nx+1}).2) _
   rw[RT.head_cons,RT.tail_cons]
   unfold asData at hx
   split at hx
   .cases hf
   .cases hx;obtain⟨g1,g2,_⟩:=yX hgd;exact nil rfl rfl ⟨g1,g2,Y,.inl ⟨by simp[Wd.next],rfl⟩⟩ m
   .rename_i a0
    split at hx
    .rename_i t' rows l hb
     split at hx
     .rename_i e;subst e;cases hx
      refine own rfl rfl hb (by simp) (by simp) (by simp) (λho=>?_) m
      obtain⟨a1,a2,a3,a4⟩:=ho
      refine⟨a1,a2,a3,?_⟩
      rcases a4 with q|⟨o,ad,mv,c,ex,sh,cap,q1,q2,q3,q4,q5,q6,q7,q8⟩
      .exact .inl q
      .refine .inr ⟨o,ad,mv,c,ex,sh,cap,q1,q2,q3,q4,q5,q6,λ_=>trivial,λe=>q8 ?_⟩
       have OJ:(bE||!l)=true:=by simp only[uP,hb]at hf;exact hf
       rw[e]at OJ;simpa using OJ
     .cases hx
    .cases hx
   .cases hx
  |aK t=>
   obtain⟨x,r',Y,hx,m,rfl⟩:=SH C
   show fI P w1 bP h L wc st (.own st.nx::(cz ss (RT.tail (RT.cons (a:=.str) x r')) {st with ob:=st.ob.put st.nx (.aK (RT.head (RT.cons (a:=.str) x r')) t),nx:=st.nx+1}).1,(cz ss (RT.tail (RT.cons (a:=.str) x r')) {st with ob:=st.ob.put st.nx (.aK (RT.head (RT.cons (a:=.str) x r')) t),nx:=st.nx+1}).2) _
   rw[RT.head_cons,RT.tail_cons]
   unfold wj at hx
   split at hx
   .cases hx;exact nil rfl rfl ⟨Y,.inl ⟨by simp[Wd.next],rfl⟩⟩ m
   .rename_i a0
    split at hx
    .rename_i s' t' hb
     split at hx
     .rename_i e;subst e;cases hx;exact own rfl rfl hb (by simp) (by simp) (by simp) (λho=>ho) m
     .cases hx
    .cases hx
   .cases hx
  |opt u=>
   obtain⟨bb,r',m,rfl,hc⟩:=SI C
   show fI P w1 bP h L wc st (.opt (RT.head (RT.cons (a:=.bool) bb r')) u::(cz ss (RT.tail (RT.cons (a:=.bool) bb r')) st).1,(cz ss (RT.tail (RT.cons (a:=.bool) bb r')) st).2) _
   rw[RT.head_cons,RT.tail_cons]
   refine(rest (.inl rfl) m).cons hg λz X K=>?_
   rcases hc with⟨v',rfl,e⟩|⟨rfl,rfl⟩|⟨i,o,rfl,rfl,e⟩
   .cases a with|iG a1 a2=>exact .iG (DY e (G z K) a1) a2|kU=>exact .kU
   .cases a;exact .kU
   .have hna:=a.na (by simp) (by simp);exact .iG (DY e (G z K) a) hna
  |gC u=>obtain⟨e,m⟩:=SJ C;show fI P w1 bP h L wc st (u::(cz ss r st).1,(cz ss r st).2) _;exact(rest (.inl rfl) m).cons hg λz X K=>DY e (G z K) a
  |aO=>show fI P w1 bP h L wc st (.aO::(cz ss r st).1,(cz ss r st).2) _;exact(rest (.inl rfl) (show bY P bP ss p=some r from C)).cons hg λ_ _ _=>.aO _
  |cV=>
   show fI P w1 bP h L wc st (.cV::(cz ss r st).1,(cz ss r st).2) _
   have C:(match n7 v with|true=>bY P bP ss p|false=>none)=some r:=by cases v<;>exact C
   split at C
   .rename_i aS;exact(rest (.inl rfl) C).cons hg λ_ _ _=>.cV (a.cell aS)
   .cases C
end
end Go.AI
end

section
namespace Go.AI
section
variable {P:Program}{w w' w1 wc:Wd}{ob ay bP:Tr au}{nx:Nat}{h h':AHeap}{ρ:Type}
def ky(ob:Tr au)(w:Wd):List Nat->List AV|[]=>[]|i::is=>(match ob.get i with|some (.box _ _)=>(match w.s i with|some (.box o _)=>(match w.g o with|some (.cells _ _ c _ _ _ _)=>c|_=>[])|_=>[])|_=>[])++ky ob w is
theorem xE(hs:aj P w ob nx h):∀(is:List Nat),aC P w (nh ob is) (ky ob w is)|[]=>.nil|i::is=>by simp only[nh,ky];cases hb:ob.get i with|none=>simpa using xE hs is|some x=>cases x with|box t cs=>obtain⟨o,c,sh,f,e,b,_⟩:=hs.box i t cs hb;simp only[f,hs.g,e];exact b.append (xE hs is)|_=>simpa using xE hs is
inductive Al(w1 wc:Wd)(bP:Tr au):List Nat->List Nat->List au->Prop|nil:Al w1 wc bP [] [] []|box{i j o n:Nat}{t:TypeId}{cs aP:List SV}{is js:List Nat}{os:List au}:bP.get j=some (.box t aP)->w1.s j=some (.box o n)->cs.length=n->wc.s i=some (.box o n)->Al w1 wc bP is js os->Al w1 wc bP (i::is) (j::js) (.box t cs::os)|other{i j:Nat}{x:au}{is js:List Nat}{os:List au}:(∀t cs,x≠.box t cs)->(∀t cs,bP.get j≠some (.box t cs))->Al w1 wc bP is js os->Al w1 wc bP (i::is) (j::js) (x::os)
theorem SM{R:Nat}{q:Tr au}(M:aj P w1 q R h)(J:∀i t cs,q.get i=some (.box t cs)↔bP.get i=some (.box t cs))(hF:wc.F=w1.F):∀{is js:List Nat}{os:List au},Al w1 wc bP is js os->∀{vs:List SV}{ob:Tr au},
 aj P wc ob nx h->aC P wc vs (ky bP w1 js)->cK vs=true->is.Nodup->js.Nodup->(∀i,i∈is->¬live ob i/\i<nx)->(∀j,j∈js->live q j->∀n o,w1.s j=some (.box o n)->¬Ow wc ob o)->aj P wc (kI is os vs ob) nx h/\(∀j,j∉is->(kI is os vs ob).get j=ob.get j)/\(∀(p:Nat)(i:Nat)(t:TypeId)(cs:List SV),is[p]?=some i->os[p]?=some (.box t cs)->∃aP,(kI is os vs ob).get i=some (.box t aP))/\(∀o,Ow wc (kI is os vs ob) o->Ow wc ob o\/Ow w1 q o):=by
 intro is js os G
 induction G with
 |nil=>intro vs ob hs _ _ _ _ _ _;exact⟨hs,λ_ _=>rfl,λp i t cs e=>by simp at e,λ_ e=>.inl e⟩
 |@box i j o n t cs aP is js os hb hk hn C G ih=>
  intro vs ob hs hv aS b m hd D
  obtain⟨o',c,sh,U,W,b3,b4,b5⟩:=M.box j t aP ((J j t aP).2 hb)
  rw[hk]at U
  simp only[ab,Lk.box.injEq]at U
  obtain⟨rfl,rfl⟩:=U
  simp only[ky,hb,hk,M.g,W]at hv
  have h1:aC P wc (vs.take cs.length) c:=by have:=hv.take c.length;rw[List.take_left]at this;rw[hn];exact this
  have h2:aC P wc (vs.drop cs.length) (ky bP w1 js):=by have:=hv.drop c.length;rw[List.drop_left]at this;rw[hn];exact this
  have B1:∀(l:List SV)(n:Nat),cK l=true->cK (l.take n)=true/\cK (l.drop n)=true:=by intro l;induction l with|nil=>intro n _;simp[cK]|cons v l ih=>intro n e;simp only[cK,aX]at e;cases n with|zero=>simp[cK,e.1,e.2]|succ n=>simp only[List.take_succ_cons,List.drop_succ_cons,cK,aX];exact⟨⟨e.1,(ih n e.2).1⟩,(ih n e.2).2⟩
  obtain⟨Y,X⟩:=B1 vs cs.length aS
  have E:live q j:=⟨_,(J j t aP).2 hb,by simp⟩
  obtain⟨q1,_⟩:=hs.MU (w':=wc) (i:=i) (bU:=nx) (x:=.box t (vs.take cs.length)) (k:=.box o c.length) rfl rfl (λ_ _=>rfl) C (.inr C) (hd i (List.mem_cons_self ..)).1 (λu e=>by cases e;exact⟨D j (List.mem_cons_self ..) E _ _ hk,M.lt j _ _ hk rfl⟩) ⟨o,c,sh,C,W,h1,Y,by rw[hF];exact b5⟩ (hd i (List.mem_cons_self ..)).2 (ak _)
  rw[List.nodup_cons]at b m
  have how:∀u,Ow wc (ob.put i (.box t (vs.take cs.length))) u->Ow wc ob u\/u=o:=by
   rintro u⟨a,k,⟨y,f,B⟩,K,V⟩
   by_cases e:a=i
   .subst e;rw[C]at K;cases K;cases V;exact .inr rfl
   .rw[Tr.a8 _ _ e]at f;exact .inl ⟨a,k,⟨y,f,B⟩,K,V⟩
  obtain⟨Q,L,O,N⟩:=ih (vs:=vs.drop cs.length) q1 h2 X b.2 m.2 (λa ha=>⟨λ⟨y,f,B⟩=>by
   have:a≠i:=by rintro rfl;exact b.1 ha
   rw[Tr.a8 _ _ this]at f
   exact(hd a (List.mem_cons_of_mem _ ha)).1 ⟨y,f,B⟩,(hd a (List.mem_cons_of_mem _ ha)).2⟩)
   (λa ha I k u f K=>by
    rcases how u K with e|e
    .exact D a (List.mem_cons_of_mem _ ha) I k u f e
    .subst e;have:=M.inj a j _ _ _ I E f hk rfl rfl;subst this;exact m.1 ha)
  refine⟨Q,λa ha=>?_,λp a t2 T f B=>?_,λu e=>?_⟩
  .simp only[List.mem_cons,not_or]at ha;show(kI is os (vs.drop cs.length) (ob.put i (.box t (vs.take cs.length)))).get a=_;rw[L a ha.2,Tr.a8 _ _ ha.1]
  .cases p with|zero=>simp only[List.getElem?_cons_zero,ab]at f B;subst f;cases B;refine⟨vs.take cs.length,?_⟩;show(kI is os (vs.drop cs.length) (ob.put i (.box t (vs.take cs.length)))).get i=_;rw[L i b.1,Tr.bS]|succ p=>exact O p a t2 T (by simpa using f) (by simpa using B)
  .rcases N u e with e|e
   .rcases how u e with e|e
    .exact .inl e
    .subst e;exact .inr ⟨j,_,E,hk,rfl⟩
   .exact .inr e
 |@other i j x is js os hx hb G ih=>
  intro vs ob hs hv aS b m hd D
  rw[List.nodup_cons]at b m
  have S:aC P wc vs (ky bP w1 js):=by simp only[ky]at hv;cases hz:bP.get j with|none=>simpa[hz]using hv|some z=>cases z with|box t cs=>exact absurd hz (hb t cs)|_=>simpa[hz]using hv
  have Z:kI (i::is) (x::os) vs ob=kI is os vs ob:=by cases x with|box t cs=>exact absurd rfl (hx t cs)|_=>rfl
  rw[Z];obtain⟨Q,L,O,N⟩:=ih hs S aS b.2 m.2 (λa ha=>hd a (List.mem_cons_of_mem _ ha)) (λa ha=>D a (List.mem_cons_of_mem _ ha));refine⟨Q,λa ha=>L a λe=>ha (List.mem_cons_of_mem _ e),λp a t cs f B=>?_,N⟩;cases p with|zero=>simp only[List.getElem?_cons_zero,ab]at B;exact absurd B (hx t cs)|succ p=>exact O p a t cs (by simpa using f) (by simpa using B)
theorem Cv(m:Nat):∀(ls:List Lf),(oz P m ls).length=ls.length|[]=>rfl|l::ls=>by cases l<;>simp[oz,Cv m ls]
theorem L3(m:Nat):∀{ts:List TypeId}{vs:List SV}{ys:List AV},nH P ts vs=true->aC P w vs ys->∃zs,aC P w (lj P ts vs) zs/\zs.length=(nF P m ts).length/\∀(wc:Wd)(us:List SV),aC P wc us zs->aC P wc (qa P ts us) ys
 |[],[],_,_,.nil=>⟨[],.nil,rfl,λ_ _ _=>.nil⟩
 |t::ts,v::vs,_,h,.cons (x:=y) (xs:=f) a b=>by
  simp only[nH,aX]at h
  obtain⟨zs,q1,q2,q3⟩:=L3 m h.2 b
  have one:jw P t≠some true->(lay P t).length=1->∃zs,aC P w (lj P (t::ts) (v::vs)) zs/\zs.length=(nF P m (t::ts)).length/\∀(wc:Wd)(us:List SV),aC P wc us zs->aC P wc (qa P (t::ts) us) (y::f):=by
   intro hn h1
   refine⟨y::zs,?_,by simp only[nF,List.length_append,Cv,aN,q2,h1];omega,λwc us e=>?_⟩
   .simp only[lj];exact .cons a q1
   .cases e with|cons k j=>simp only[qa,h1];exact .cons k (q3 wc _ j)
  have h1:=h.1
  split at h1
  .rename_i cs hi
   have hl:=Nat.eq_of_beq_eq_true h1
   cases a with
   |agg ha=>
    rename_i xs
    refine⟨xs++zs,?_,by simp only[nF,List.length_append,Cv,q2,<-ha.length,hl],λwc us e=>?_⟩
    .simp only[lj,hi,cj];exact ha.append q1
    .simp only[qa,hi]
     have c:(lay P t).length=xs.length:=by rw[<-hl,ha.length]
     refine .cons (.agg ?_) (q3 wc _ ?_)
     .have:=e.take xs.length;rw[List.take_left]at this;rw[c];exact this
     .have:=e.drop xs.length;rw[List.drop_left]at this;rw[c];exact this
  .cases h1
  .cases h1
  .rename_i g i;exact one g (Nat.eq_of_beq_eq_true h1)|[],_::_,_,h,_=>by simp[nH]at h|_::_,[],_,h,_=>by simp[nH]at h
end
end Go.AI
end

section
namespace Go.AI
variable [Kn]
structure po(P:Program)(A:dX):Prop where
 none:∀f,A.kn f=.none->∀xs h,Kn.K f xs h=.none
 some:∀f g,A.kn f=.some g->∀(w:Wd)(h:AHeap)(xs:List AV)(cB:List SV)(v:SV),(∀o,w.g o=h.get o)->aC P w cB xs->g cB=.some (true,v)->∃y,Kn.K f xs h=.some y/\RV P w v y
def jf{l m:List LT}:(p:Bool)->AT p l m->(RT l->Prop)->(TypeId->List AV->RT m->Prop)->Prop|false,r,Q,_=>Q r|true,.ret r,Q,_=>Q r|true,.aB t row b,_,c=>c t row b
theorem jf.imp{l m:List LT}{p:Bool}{a:AT p l m}{Q e:RT l->Prop}{f c:TypeId->List AV->RT m->Prop}(h:jf p a Q f)(h1:∀r,Q r->e r)(h2:∀t row b,f t row b->c t row b):jf p a e c:=by cases p with|false=>exact h1 _ h|true=>cases a with|ret r=>exact h1 _ h|aB t row b=>exact h2 _ _ _ h
theorem Ui{ρ:Type}{l m:List LT}{p:Bool}{x:Option (AT p l m)}{k:RT l->Option ρ}{kp:TypeId->List AV->RT m->Option ρ}{r:ρ}(h:M7 p x k kp=some r):
 ∃a,x=some a/\∀(Q:RT l->Prop)(e:TypeId->List AV->RT m->Prop),jf p a Q e->(∃b,Q b/\k b=some r)\/∃t row b,e t row b/\kp t row b=some r:=by
 cases p with
 |false=>cases x with|none=>cases h|some a=>exact⟨a,rfl,λQ e c=>.inl ⟨a,c,h⟩⟩
 |true=>cases x with|none=>cases h|some a=>cases a with|ret b=>exact⟨_,rfl,λQ e c=>.inl ⟨b,c,h⟩⟩|aB t row b=>exact⟨_,rfl,λQ e c=>.inr ⟨t,row,b,c,h⟩⟩
theorem VA{l m:List LT}{p:Bool}{x:Option (RT l)}{r:AT p l m}(h:NZ p x=some r){Q:RT l->Prop}{c:TypeId->List AV->RT m->Prop}(b:∀a,x=some a->Q a):jf p r Q c:=by cases p with|false=>exact b _ h|true=>cases x with|none=>cases h|some a=>cases h;exact b _ rfl
theorem Uj{l m:List LT}{p:Bool}{t:TypeId}{row:List AV}{x:Option (RT m)}{r:AT p l m}(h:M8 p t row x=some r){Q:RT l->Prop}{b:TypeId->List AV->RT m->Prop}(c:∀a,x=some a->b t row a):jf p r Q b:=by cases p with|false=>cases h|true=>cases x with|none=>cases h|some a=>cases h;exact c _ rfl
def ia(P:Program)(t:TypeId)(row:List AV)(y:AV):Prop:=∀w,RV P w (AM P t row) y
def B7(P:Program):jM->bo->Prop|.no,.none=>True|.gk,.none=>True|.ret,.ret=>True|.aB t row b,.aB y b'=>b=b'/\ia P t row y|_,_=>False
def tY(md:jM)(b:Bool)(c:bo):Prop:=match md with|.aB _ _ _=>b=true->∃y,c=.aB y true|.ret=>c=.ret|.no=>False|.gk=>False
def F1{ρ:Type}(P:Program)(w:Wd)(h:AHeap)(st:af)(f:FuncId)(xs:List AV)(k:SV->af->Option ρ)(kp:TypeId->List AV->af->Option ρ)(r:ρ)(fr:Prop):Prop:=(∃m w' ah h' v y,aj P w' ah.ob ah.nx h'/\bl w st.ob h w' ah.ob h'/\ah.tm=st.tm/\ah.r=st.r/\k v ah=some r/\(br P m).call .normal f xs .none h=some (.ret y,.none,h')/\RV P w' v y/\(fr->∀p,p∈h'.wr->p∈h.wr\/h.next<=p\/Lp h.get p))\/(∃m w' ah h' t row y,aj P w' ah.ob ah.nx h'/\bl w st.ob h w' ah.ob h'/\ah.tm=st.tm/\ah.r=st.r/\kp t row ah=some r/\(br P m).call .normal f xs .none h=some (.aB y,.none,h')/\ia P t row y)
structure gr(P:Program)(A:dX)(Rs:eD A.pn):Prop where
 kn:po P A
 call:∀f args aA aq bt r,Rs.call f args aA aq bt=some r->∀(w:Wd)(h:AHeap)(xs:List AV),aj P w (bJ aA 0 .leaf) aA.length h->aC P w args xs->∃m fn h',P.funcs[f]?=some fn/\jf (A.pn f) r (λr=>∃y,(br P m).call .normal f xs .none h=some (.ret y,.none,h.outer h')/\eF P w (bJ aA 0 .leaf) aA.length h.inner fn.resultTypes.toList aq r y h') (λt row b=>∃y,(br P m).call .normal f xs .none h=some (.aB y,.none,h.outer h')/\ia P t row y/\eF P w (bJ aA 0 .leaf) aA.length h.inner [] bt b dZ h')
 qH:∀f md args aA aq b r,Rs.qH f md args aA aq=some (b,r)->∀(w:Wd)(h:AHeap)(xs:List AV)(cm:bo),aj P w (bJ aA 0 .leaf) aA.length h->aC P w args xs->B7 P md cm->∃m fn y h' aW,P.funcs[f]?=some fn/\(br P m).call .deferred f xs cm h=some (.ret y,aW,h.outer h')/\tY md b aW/\eF P w (bJ aA 0 .leaf) aA.length h.inner fn.resultTypes.toList aq r y h'
 inl:∀{ρ:Type}(f:FuncId)(args:List SV)(st:af)(k:SV->af->Option ρ)(kp:TypeId->List AV->af->Option ρ)(r:ρ),Rs.inl f args st k kp=some r->∀(w:Wd)(h:AHeap)(xs:List AV),aj P w st.ob st.nx h->aC P w args xs->F1 P w h st f xs k kp r False
 gk:∀f ts cB aA aq r,Rs.gk f ts cB aA aq=some r->jG cB=true->kH aA=true->∀(w:Wd)(h:AHeap)(l tn dd:Nat)(tm:Tr AV)(ps:List Tmp)(hd bd:Code)(ys:List AV),aj P w (bJ aA 0 .leaf) aA.length h->h.get l=some (.loop .ready none f tn tm ps hd bd dd)->E3 P f tn ps hd bd->aC P w cB (ts.map (λt=>ev tm (.tmp t))++ys)->∃m h',(br P m).round l ys h=some (.ret (.sc (.bool true)),h')/\qD P (λ_=>False) w (bJ aA 0 .leaf) aA.length h [] aq r dZ h'
section
variable {P:Program}{w w' w1 wc:Wd}{ob ay bP:Tr au}{nx:Nat}{h h':AHeap}{ρ:Type}
theorem EJ{α:Type}{x:Option α}{k:α->Option ρ}{r:ρ}(h:ask x k=some r):∃a,x=some a/\k a=some r:=by
 unfold ask at h
 split at h
 .exact⟨_,rfl,h⟩
 .cases h
theorem aj.nt{h2:AHeap}(hs:aj P w ob nx h)(hg:∀o,h2.get o=h.get o)(hn:h2.next=h.next):aj P w ob nx h2:=by
 have b:h2.get=h.get:=funext hg
 refine⟨λo=>by rw[hg];exact hs.g o,?_,?_,?_,hs.inj,by rw[hn];exact hs.lt,hs.nx,by rw[hn,b];exact hs.cW,by rw[hn,b];exact hs.new⟩
 .rw[b];exact hs.box
 .rw[b];exact hs.arr
 .rw[b];exact hs.aK
theorem CV:∀{os:List au},oF os=true->∀(p:Nat),os[p]?≠some .gone
 |[],_,p=>by simp
 |x::os,h,0=>by intro e;simp at e;subst e;cases h
 |x::os,h,p+1=>by
  have h':oF os=true:=by cases x with|gone=>cases h|_=>exact h
  simpa using CV h' p
theorem Jv:∀{L:List Nat},nodup L=true->L.Nodup|[],_=>List.nodup_nil|x::xs,h=>by obtain⟨a,b⟩:=nodup_cons h;exact List.nodup_cons.2 ⟨a,Jv b⟩
theorem sd:∀n,(upto n).length=n|0=>rfl|n+1=>by simp[upto,sd n]
theorem yp:∀{n p:Nat},p<n->(upto n)[p]?=some p
 |0,p,h=>by omega
 |n+1,p,h=>by
  simp only[upto]
  by_cases e:p<n
  .rw[List.getElem?_append_left (by rw[sd];exact e)];exact yp e
  .have:p=n:=by omega
   subst this;rw[List.getElem?_append_right (by rw[sd];omega),sd];simp
theorem Jw:∀{n p:Nat},p∈upto n->p<n
 |0,p,h=>by simp[upto]at h
 |n+1,p,h=>by
  simp only[upto,List.mem_append,List.mem_singleton]at h
  rcases h with h|h
  .have:=Jw h;omega
  .omega
theorem HF:∀n,(upto n).Nodup|0=>List.nodup_nil|n+1=>by simp only[upto];rw[List.nodup_append];refine⟨HF n,by simp,?_⟩;intro a ha b hb;simp at hb;subst hb;have:=Jw ha;omega
theorem G0(ob:Tr au)(w:Wd)(F:Nat->Prop):∀is,ky ob (w.more F) is=ky ob w is|[]=>rfl|i::is=>by have:=G0 ob w F is;unfold ky;rw[this];rfl
theorem Qj(L:List Nat):∀vs,nr L vs=vs.map (qj L)|[]=>rfl|v::vs=>by simp[nr,Qj L vs]
theorem Al.oM:∀{is js:List Nat}{os:List au},is.length=js.length->is.length=os.length->(∀(p i j:Nat)(x:au),is[p]?=some i->js[p]?=some j->os[p]?=some x->
 (∀t cs,x=.box t cs->∃aP o n,bP.get j=some (.box t aP)/\w1.s j=some (.box o n)/\cs.length=n/\wc.s i=some (.box o n))/\((∀t cs,x≠.box t cs)->∀t cs,bP.get j≠some (.box t cs)))->Al w1 wc bP is js os
 |[],[],[],_,_,_=>.nil
 |i::is,j::js,x::os,h1,h2,hf=>by have ih:=Al.oM (is:=is) (js:=js) (os:=os) (by simpa using h1) (by simpa using h2) λp i j x a b c=>hf (p+1) i j x (by simpa using a) (by simpa using b) (by simpa using c);obtain⟨a,b⟩:=hf 0 i j x rfl rfl rfl;cases x with|box t cs=>obtain⟨aP,o,n,q1,q2,q3,e⟩:=a t cs rfl;exact .box q1 q2 q3 e ih|_=>exact .other (by simp) (b (by simp)) ih
 |[],_::_,_,h,_,_=>by simp at h|_::_,[],_,h,_,_=>by simp at h|[],[],_::_,_,h,_=>by simp at h|_::_,_::_,[],_,h,_=>by simp at h
theorem CE{b o:Nat}:∀{os l:List Nat},o∈sC l b os->o∈l\/o∈os
 |[],l,h=>.inl h
 |p::os,l,h=>by
  rcases CE (os:=os) (l:=lC l b p) h with e|e
  .rcases pV e with e|rfl
   .exact .inl e
   .exact .inr (List.mem_cons_self ..)
  .exact .inr (List.mem_cons_of_mem _ e)
theorem CW{b:Nat}:∀{os l:List Nat},(∀p,p∈l->p<b)->∀p,p∈sC l b os->p<b|[],l,h=>h|o::os,l,h=>CW (os:=os) (p5 h)
theorem Uk{F:Nat->Prop}{us:List SV}(h3:∀i,SV.own i∈us->∀t rows l x,ob.get i=some (.arr t rows l)->RV P w (.own i) x->Rd P (w.more F) t rows x){v:SV}{x:AV}(hv:∀c,c∈cj v->c∈us)(hx:RV P w v x):RV P (w.more F) (o4 ob v) x:=by
 cases v with
 |agg cs=>
  cases hx with
  |agg a=>
   refine .agg ?_
   have:∀{cs:List SV}{xs:List AV},(∀c,c∈cs->c∈us)->aC P w cs xs->aC P (w.more F) (cs.map (cW ob)) xs:=by intro cs;induction cs with|nil=>intro xs _ hb;cases hb;exact .nil|cons c cs ih=>intro xs hm hb;cases hb with|cons e b=>exact .cons (zO h3 (hm c (by simp)) e) (ih (λd hd=>hm d (by simp[hd])) b)
   exact this hv a
 |_=>exact zO h3 (hv _ (by simp[cj])) hx
theorem uN{F:Nat->Prop}{us:List SV}(h3:∀i,SV.own i∈us->∀t rows l x,ob.get i=some (.arr t rows l)->RV P w (.own i) x->Rd P (w.more F) t rows x):∀{vs:List SV}{xs:List AV},(∀c,c∈vs.flatMap cj->c∈us)->aC P w vs xs->aC P (w.more F) (vs.map (o4 ob)) xs|[],_,_,.nil=>.nil|v::vs,_,hm,.cons a b=>.cons (Uk h3 (λc hc=>hm c (by simp[hc])) a) (uN h3 (λc hc=>hm c (by rw[List.flatMap_cons];exact List.mem_append_right _ hc)) b)
theorem DZ(hs:aj P w ob nx h){L:List Nat}{c:Wd}(b:c.s=w.s){o:Nat}(ho:Ow c (hQ ob L) o):¬Ow (w.sub L) (bJ (bZ ob L L) 0 .leaf) o/\o<h.next/\Ow w ob o:=by
 obtain⟨j,k,⟨y,h1,h2⟩,h3,h4⟩:=ho
 rw[b]at h3
 rw[pP]at h1
 split at h1
 .cases h1;exact absurd rfl h2
 .rename_i hj;refine⟨λhow=>?_,hs.lt j k o h3 h4,⟨j,k,⟨y,h1,h2⟩,h3,h4⟩⟩;obtain⟨a,i,e,m,l,g,f⟩:=Ow.sub how;have:=hs.inj i j e k o l ⟨y,h1,h2⟩ g h3 f h4;subst this;exact hj (List.mem_of_getElem? m)
theorem Ow.oN{L:List Nat}{o:Nat}(h:Ow (w.sub L) (bJ (bZ ob L L) 0 .leaf) o):Ow w ob o:=by obtain⟨_,i,k,_,e,c,b⟩:=Ow.sub h;exact⟨i,k,e,c,b⟩
variable {A:dX}{R:eD A.pn}{kp:TypeId->List AV->af->Option ρ}
theorem Ul{bx:TypeId->Nat}{st c:af}{cB b:List SV}{L:List Nat}{aA:List au}(hc:l9 P bx st cB []=some (b,aA,L,c))(e:j7 cB=[]):L=[]:=by
 unfold l9 at hc
 simp only at hc
 split at hc
 .simp only[ab,an]at hc;rw[<-hc.2.2.1,e];rfl
 .cases hc
theorem Jx{B:Wd}{m:af}{L:List Nat}{hi ho:AHeap}{X:Nat->Prop}(Gz:hi.next=h.next)(GA:hi.get=h.get)(hX:∀o,o<h.next->¬X o)(OK:∀p,p∈hi.wr->p∈h.wr)(U:aj P B m.ob m.nx h)(c8:nodup L=true)(c5:aj P (B.sub L) (bJ (bZ m.ob L L) 0 .leaf) (bZ m.ob L L).length h)(u:oF (bZ m.ob L L)=true)
 {o0:Nat}{ts:List TypeId}{aq:List Sh}{Y:RT (bC aq)}{y0:AV}{h':AHeap}(hp:qD P X (B.sub L) (bJ (bZ m.ob L L) 0 .leaf) (bZ m.ob L L).length hi ts aq Y y0 h')
 (OL:ho.get=h'.get)(OM:ho.next=h'.next)(hof:ho.floor=h.floor)(how:∀p,p∈ho.wr->p∈h.wr\/p∈h'.wr)(hol:(∀p,p∈h.wr->p<h.floor)->∀p,p∈ho.wr->p<ho.floor)
 {k:SV->af->Option ρ}{r:ρ}(hr:qq P aq (nF P o0 ts).length ts L (bZ m.ob L L) m Y k=some r):
 ∃w' ah v,aj P w' ah.ob ah.nx ho/\bl B m.ob h w' ah.ob ho/\ah.tm=m.tm/\ah.r=m.r/\k v ah=some r/\RV P w' v y0/\(L=[]->∀p,p∈ho.wr->p∈h.wr\/h.next<=p\/Lp h.get p):=by
 obtain⟨w1,ay,bU,vs,ys,hC,hf,hv,rfl,hnd,aS,aad⟩:=hp
 unfold qq at hr
 simp only at hr
 split at hr
 .cases hr
 rename_i ON
 have Z:(bZ m.ob L L).length=L.length:=xW ..
 obtain⟨F,hE,hl,hFo,h3⟩:=sA hC (ir aq (lj P ts vs++nh ay (upto (bZ m.ob L L).length)))
 obtain⟨zs,z1,z2,z3⟩:=L3 o0 aS hv
 have K:∀(p i:Nat),L[p]?=some i->∃z,m.ob.get i=some z/\z≠.gone/\i<m.nx/\(bZ m.ob L L)[p]?=some (kV m.ob L i):=by
  intro p i e
  have e3:(bZ m.ob L L)[p]?=some (kV m.ob L i):=by rw[rP,e];rfl
  have u:=CV u p;rw[e3]at u;cases hz:m.ob.get i with|none=>unfold kV at u;rw[hz]at u;exact absurd rfl u|some z=>refine⟨z,rfl,?_,U.tj hz,e3⟩;rintro rfl;unfold kV at u;rw[hz]at u;exact absurd rfl u
 have hsk:∀(p i:Nat)(z:au),L[p]?=some i->m.ob.get i=some z->z≠.gone->∃O,B.s i=some O:=by intro p i z _ hz hg;cases z with|box t cs=>obtain⟨o,c,sh,b1,_⟩:=U.box i t cs hz;exact⟨_,b1⟩|arr t rows l=>obtain⟨_,_,_,N⟩:=U.arr i t rows l hz;rcases N with⟨q,_⟩|⟨o,ad,mv,c,ex,sh,cap,q,_⟩<;>exact⟨_,q⟩|aK s t=>obtain⟨_,N⟩:=U.aK i s t hz;rcases N with⟨q,_⟩|⟨o,ad,mv,ex,fz,cap,_,q,_⟩<;>exact⟨_,q⟩|gone=>exact absurd rfl hg
 have OO:∀(p i:Nat),L[p]?=some i->∃O,B.s i=some O/\w1.s p=some O:=by
  intro p i e
  obtain⟨z,z1,z2,_,_⟩:=K p i e
  obtain⟨O,OP⟩:=hsk p i z e z1 z2
  have hp:p<(bZ m.ob L L).length:=by
   rw[Z]
   rcases Nat.lt_or_ge p L.length with a|a
   .exact a
   .rw[List.getElem?_eq_none a]at e;cases e
  exact⟨O,OP,hf.s p O hp (by simp only[Wd.sub,e,Option.bind_some];exact OP)⟩
 have G:h.next<=h'.next:=by rw[<-Gz];exact hf.next
 have GB:∀{o},hi.next<=o->h.next<=o:=λe=>by rw[<-Gz];exact e
 have OQ:∀{o:Nat}{Q:Prop},(hi.next<=o\/Q)->h.next<=o\/Q:=λe=>e.imp GB id
 have I:∀o,o<h.next->¬Ow (B.sub L) (bJ (bZ m.ob L L) 0 .leaf) o->h'.get o=h.get o:=λo h1 h2=>by rw[hf.cb o (by rw[Gz];exact h1) h2 (hX o h1),GA]
 have hle:bA B (w1.more F):=((bA.sub B L).trans hf.le).trans (.more _ _)
 have C:∀o,Ow w1 ay o->h.next<=o\/Ow (B.sub L) (bJ (bZ m.ob L L) 0 .leaf) o:=λo e=>OQ (hf.own o e)
 have OS:∀o,(w1.more F).F o->B.F o\/h.next<=o\/Ow (B.sub L) (bJ (bZ m.ob L L) 0 .leaf) o:=by
  rintro o(f|f)
  .exact(hf.F o f).imp id OQ
  .exact .inr (C o (hFo o f))
 have hA:=Uf U hE G I hle OS λj hj=>by obtain⟨p,hp⟩:=List.getElem?_of_mem hj;obtain⟨_,_,_,q,_⟩:=K p j hp;exact q
 have hD:=Uh (L:=L) (st:={m with ob:=hQ m.ob L}) hE hl h3 _ aad (z1.append (xE hC _)) (λ_ e=>e) (λ_ _ e=>e) hnd hA rfl
  (λi j k M T=>by obtain⟨O,q1,q2⟩:=OO i j M;rw[q2]at T;cases T;exact q1)
  (λo ho a _ hla k hk hko=>by
   obtain⟨n1,n2,_⟩:=DZ U rfl ho
   rcases C o ⟨a,k,hla,hk,hko⟩with e|e
   .omega
   .exact n1 e)
 obtain⟨D,d1,d2,d3,d4,d5,d6,d7,d8,d9⟩:=hD
 have hnn:(nF P o0 ts).length=zs.length:=z2.symm
 have hus:aC P D ((nr L (cz aq Y {m with ob:=hQ m.ob L}).1).take zs.length) zs:=by have:=d4.take zs.length;rw[List.take_left]at this;exact this
 have hub:aC P D ((nr L (cz aq Y {m with ob:=hQ m.ob L}).1).drop zs.length) (ky ay (w1.more F) (upto (bZ m.ob L L).length)):=by have:=d4.drop zs.length;rw[List.drop_left]at this;rw[G0];exact this
 rw[hnn]at hr ON
 have hal:Al (w1.more F) D ay L (upto (bZ m.ob L L).length) (bZ m.ob L L):=by
  refine Al.oM (by rw[sd,Z]) Z.symm λp i j x M T e3=>?_
  obtain⟨z,y1,y2,y3,y4⟩:=K p i M
  obtain⟨O,k1,k2⟩:=OO p i M
  have hp:p<(bZ m.ob L L).length:=by
   rcases Nat.lt_or_ge p (bZ m.ob L L).length with a|a
   .exact a
   .rw[List.getElem?_eq_none (by rw[sd];exact a)]at T;cases T
  rw[yp hp]at T;cases T
  have S:(bJ (bZ m.ob L L) 0 .leaf).get p=some x:=by rw[p6];exact e3
  have E:(B.sub L).s p=some O:=by simp only[Wd.sub,M,Option.bind_some];exact k1
  refine⟨λt cs ex=>?_,λhx t cs hbx=>?_⟩
  .subst ex;obtain⟨o,c,sh,b1,_,b3,_⟩:=c5.box p t cs S;rw[E]at b1;cases b1;obtain⟨aP,q⟩:=hf.bx p t cs hp S;exact⟨aP,o,c.length,q,k2,b3.length,d3 i _ k1⟩
  .obtain⟨o,c,sh,b1,_⟩:=hC.box p t cs hbx;rw[k2]at b1;cases b1;cases x with|box t' aP=>exact hx t' aP rfl|arr t' rows l=>obtain⟨_,_,_,N⟩:=c5.arr p t' rows l S;rw[E]at N;rcases N with⟨q,_⟩|⟨_,_,_,_,_,_,_,q,_⟩<;>cases q|aK s t'=>obtain⟨_,N⟩:=c5.aK p s t' S;rw[E]at N;rcases N with⟨q,_⟩|⟨_,_,_,_,_,_,_,q,_⟩<;>cases q|gone=>exact CV u p e3
 have OT:∀(i:Nat),i∈L->∃p:Nat,L[p]?=some i:=λi hi=>List.getElem?_of_mem hi
 obtain⟨r1,r2,r3,r4⟩:=SM (nx:=(cz aq Y {m with ob:=hQ m.ob L}).2.nx) hE hl.box d2 hal d1 hub ON (Jv c8) (HF _)
  (λi hi=>by obtain⟨p,hp⟩:=OT i hi;obtain⟨_,_,_,q,_⟩:=K p i hp;have hq:i<m.nx:=q;refine⟨λ⟨y,M,T⟩=>?_,Nat.lt_of_lt_of_le hq d8⟩;rw[d7 i hq]at M;have M:(hQ m.ob L).get i=some y:=M;rw[pP,if_pos hi]at M;cases M;exact T rfl)
  (λj hj hlj n o hk how=>by
   have W:live ay j:=(hl.live j).1 hlj
   rcases d9 o how with e|⟨a,k,a1,a2,a3,N⟩
   .obtain⟨n1,n2,_⟩:=DZ U rfl e
    rcases C o ⟨j,_,W,hk,rfl⟩with e|e
    .omega
    .exact n1 e
   .have:=hC.inj a j k _ o a1 W a2 hk a3 rfl;subst this;have w9:w1.s a=some (.box o n):=hk;rw[a2]at w9;cases w9;exact N n rfl)
 have J:∀o,Ow w1 ay o->h.next<=o\/Ow B m.ob o:=λo e=>(C o e).imp (λe=>e) Ow.oN
 have aae:bl B m.ob h D (kI L (bZ m.ob L L) ((nr L (cz aq Y {m with ob:=hQ m.ob L}).1).drop zs.length) (cz aq Y {m with ob:=hQ m.ob L}).2.ob) ho:=by
  refine⟨hle.trans (.imp (by rw[funext hE.g,funext d1.g]) λo f=>by rw[d2];exact f),d3,by rw[OM];exact G,hof,λo h1 h2=>by rw[OL];exact I o h1 λe=>h2 e.oN,λo e=>?_,λo f=>?_,λo e=>?_,hol,λi t cs e=>?_⟩
  .rcases r4 o e with e|⟨a,k,a1,a2,a3⟩
   .rcases d9 o e with e|⟨a,k,a1,a2,a3,_⟩
    .exact .inr (DZ U rfl e).2.2
    .exact J o ⟨a,k,a1,a2,a3⟩
   .exact J o ⟨a,k,(hl.live a).1 a1,a2,a3⟩
  .rw[d2]at f
   rcases OS o f with e|e|e
   .exact .inl e
   .exact .inr (.inl e)
   .exact .inr (.inr e.oN)
  .rcases how o e with e|e
   .exact .inl e
   .rcases Nat.lt_or_ge o h.next with q|q
    .rcases hf.wr o e with e|e|e|e|e
     .exact .inl (OK _ e)
     .exact .inr (.inl (GB e))
     .exact .inr (.inr (.inl e.oN))
     .rw[GA]at e;exact .inr (.inr (.inr e))
     .exact absurd e (hX o q)
    .exact .inr (.inl q)
  .by_cases hi:i∈L
   .obtain⟨p,hp⟩:=OT i hi
    obtain⟨_,_,_,_,q⟩:=K p i hp
    have:kV m.ob L i=.box t (kG L cs):=by unfold kV;rw[e]
    rw[this]at q;exact r3 p i t _ hp q
   .refine⟨cs,?_⟩;rw[r2 i hi,d7 i (U.tj e)];show(hQ m.ob L).get i=_;rw[pP,if_neg hi];exact e
 have V:=z3 D _ hus
 refine⟨D,{tm:=_,ob:=_,nx:=_,al:=_,df:=_,cm:=_},_,?_,?_,?_,?_,hr,?_,λhL p hp=>?_⟩
 .exact r1.nt (λo=>congrFun OL o) OM
 .exact aae
 .exact d5
 .exact d6
 .generalize qa P ts _=rv at V;cases V with|nil=>exact .aR .nil|cons a b=>cases b with|nil=>exact a|cons a' b'=>exact .aR (.cons a (.cons a' b'))
 .rcases how p hp with e|e
  .exact .inl e
  .rcases Nat.lt_or_ge p h.next with q|q
   .rcases hf.wr p e with e|e|e|e|e
    .exact .inl (OK _ e)
    .exact .inr (.inl (GB e))
    .obtain⟨j,i,_,q,_⟩:=Ow.sub e;rw[hL]at q;simp at q
    .rw[GA]at e;exact .inr (.inr e)
    .exact absurd e (hX p q)
   .exact .inr (.inl q)
theorem Dq{c:Wd}{b:af}{L:List Nat}(m:aj P c b.ob b.nx h)(j:nodup L=true)(l:aj P (c.sub L) (bJ (bZ b.ob L L) 0 .leaf) (bZ b.ob L L).length h)(f:oF (bZ b.ob L L)=true){o0:Nat}{ts:List TypeId}{aq:List Sh}{i:RT (bC aq)}{g:AV}{h':AHeap}(hp:eF P (c.sub L) (bJ (bZ b.ob L L) 0 .leaf) (bZ b.ob L L).length h.inner ts aq i g h'){k:SV->af->Option ρ}{r:ρ}(hr:qq P aq (nF P o0 ts).length ts L (bZ b.ob L L) b i k=some r):∃w' ah v,aj P w' ah.ob ah.nx (h.outer h')/\bl c b.ob h w' ah.ob (h.outer h')/\ah.tm=b.tm/\ah.r=b.r/\k v ah=some r/\RV P w' v g/\(L=[]->∀p,p∈(h.outer h').wr->p∈h.wr\/h.next<=p\/Lp h.get p):=Jx (h:=h) (hi:=h.inner) (ho:=h.outer h') rfl rfl (λo h1 h2=>by have:h.next<=o:=h2.1;omega) (λ_ e=>by cases e) m j l f hp rfl rfl rfl (λ_ e=>CE e) (λe=>CW e) hr
theorem Jy(hR:gr P A R){st:af}(hs:aj P w st.ob st.nx h){f:FuncId}{args:List SV}{xs:List AV}(hx:aC P w args xs){k:SV->af->Option ρ}{r:ρ}(hr:zR P A R kp st f args k=some r):
 F1 P w h st f xs k kp r (A.inl f=false/\j7 (args.map (o4 st.ob))=[]):=by
 unfold zR at hr
 split at hr
 .cases hr
 rename_i fn z
 split at hr
 .rename_i u
  rcases hR.inl _ _ _ _ _ _ hr w h xs hs hx with⟨m,w',ah,h',v,y,q1,q2,q3,V,U,T,S,_⟩|q
  .exact .inl ⟨m,w',ah,h',v,y,q1,q2,q3,V,U,T,S,λe=>by rw[u]at e;cases e.1⟩
  .exact .inr q
 split at hr
 .rename_i g hg
  split at hr
  case h_2=>cases hr
  rename_i b v hv
  rcases yW hr with⟨rfl,hr⟩|⟨_,hr⟩
  case inr=>cases hr
  obtain⟨F0,p1,p3⟩:=rH hs (args.flatMap cj);have i:=uN p3 (λc hc=>hc) hx;obtain⟨y,y1,y2⟩:=hR.kn.some f g hg _ h xs _ v p1.1.g i hv;refine .inl ⟨1,_,{st with ob:=cv st.ob (args.flatMap cj)},h,v,y,p1.1,p1.2.1,rfl,rfl,hr,?_,y2,λ_ p e=>.inl e⟩;show kv P _ .normal f xs .none h=_;unfold kv;rw[y1]
 rename_i D
 split at hr
 .cases hr
 rename_i cB aA L Q hc
 split at hr
 .cases hr
 rename_i j
 simp only[aX]at j
 have B:=Ul hc
 obtain⟨r0,o,hr⟩:=Ui hr
 obtain⟨F0,p1,p3⟩:=rH hs (args.flatMap cj)
 have i:=uN p3 (λc hc=>hc) hx
 obtain⟨M,K,J,I,G,C,Z,rfl,F⟩:=Dp (st:={st with ob:=cv st.ob (args.flatMap cj)}) p1.1 i hc
 obtain⟨m,X,h',E,Y⟩:=hR.call _ _ _ _ _ _ o (M.sub L) h xs C Z
 rw[z]at E;cases E
 rcases hr _ _ Y with⟨b,⟨y,q1,q2⟩,q3⟩|⟨t,row,b,⟨y,q1,W,q2⟩,q3⟩
 .obtain⟨w',ah,v,t1,t2,n,l,t5,O,N⟩:=Dq (o0:=A.own f) K F C j.2 q2 q3;exact .inl ⟨m,w',ah,_,v,y,t1,(p1.2.1.trans J).trans t2,n.trans I,l.trans G,t5,q1,O,λe=>N (B e.2)⟩
 .obtain⟨w',ah,v,t1,t2,n,l,t5,_⟩:=Dq (o0:=0) K F C j.2 q2 q3;exact .inr ⟨m,w',ah,_,t,row,y,t1,(p1.2.1.trans J).trans t2,n.trans I,l.trans G,t5,q1,W⟩
theorem RC(hR:gr P A R){st:af}(hs:aj P w st.ob st.nx h){f:FuncId}{ts:List Tmp}{dV args:List SV}{l:Nat}{xs:List AV}(hy:RV P w (.yl f ts dV) (.e9 l))(hx:aC P w args xs){k:SV->af->Option ρ}{r:ρ}(hr:D8 P A R st f ts dV args k=some r):
 ∃m w' ah h',aj P w' ah.ob ah.nx h'/\bl w st.ob h w' ah.ob h'/\ah.tm=st.tm/\ah.r=st.r/\k (.sc (.bool true)) ah=some r/\(br P m).round l xs h=some (.ret (.sc (.bool true)),h'):=by
 unfold D8 at hr
 split at hr
 .cases hr
 rename_i cB aA L j hc
 split at hr
 .cases hr
 rename_i b
 simp only[aX]at b
 obtain⟨K,o,hr⟩:=EJ hr
 obtain⟨J,p1,p3⟩:=rH hs (args.flatMap cj)
 have n:=uN p3 (λc hc=>hc) hx
 cases hy with
 |@yl _ _ ps _ _ tn dd tm hd bd B g2 z=>
  have i:=(z.mono (bA.more w J) λ_ _ e=>e).append n
  obtain⟨q,I,G,F,E,p,D,rfl,C⟩:=Dp (st:={st with ob:=cv st.ob (args.flatMap cj)}) p1.1 i hc
  have aS:kH (bZ j.ob L L)=true:=by
   unfold l9 at hc
   simp only at hc
   split at hc
   .rename_i e;simp only[aX]at e;simp only[ab,an]at hc;rw[<-hc.2.1];exact e.2
   .cases hc
  obtain⟨m,h',q1,q2⟩:=hR.gk _ _ _ _ _ _ o b.2 aS (q.sub L) h l tn dd tm ps hd bd xs p (by rw[<-hs.g];exact B) g2 D;obtain⟨w',ah,v,t1,t2,u,t,t5,_,_⟩:=Jx (o0:=0) (ho:=h') rfl rfl (λ_ _ e=>e) (λ_ e=>e) I C p b.1.2 q2 rfl rfl q2.choose_spec.choose_spec.choose_spec.choose_spec.choose_spec.2.1.floor (λ_ e=>.inr e) q2.choose_spec.choose_spec.choose_spec.choose_spec.choose_spec.2.1.et hr;exact⟨m,w',ah,h',t1,(p1.2.1.trans G).trans t2,u.trans F,t.trans E,t5,q1⟩
theorem SN(hR:gr P A R){st:af}(hs:aj P w st.ob st.nx h){f:FuncId}{md:jM}{cm:bo}(hm:B7 P md cm){args:List SV}{xs:List AV}(hx:aC P w args xs){k:Bool->af->Option ρ}{r:ρ}(hr:vz P A R st f md args k=some r):
 ∃m fn w' ah h' b y aW,P.funcs[f]?=some fn/\aj P w' ah.ob ah.nx h'/\bl w st.ob h w' ah.ob h'/\ah.tm=st.tm/\ah.r=st.r/\k b ah=some r/\(br P m).call .deferred f xs cm h=some (.ret y,aW,h')/\tY md b aW:=by
 unfold vz at hr
 split at hr
 .cases hr
 rename_i fn g
 split at hr
 .cases hr
 rename_i cB aA L t hc
 split at hr
 .cases hr
 rename_i e;simp only[aX]at e;obtain⟨⟨b,J⟩,j,hr⟩:=EJ hr;obtain⟨K,p1,p3⟩:=rH hs (args.flatMap cj);have i:=uN p3 (λc hc=>hc) hx;obtain⟨o,I,G,F,E,n,D,rfl,C⟩:=Dp (st:={st with ob:=cv st.ob (args.flatMap cj)}) p1.1 i hc;obtain⟨m,u,y,h',aW,l,B,z,q2⟩:=hR.qH _ _ _ _ _ _ _ j (o.sub L) h xs cm n D hm;rw[g]at l;cases l;obtain⟨w',ah,v,t1,t2,q,p,t5,_,_⟩:=Dq (o0:=A.own f) I C n e.2 q2 hr;exact⟨m,fn,w',ah,_,b,y,aW,g,t1,(p1.2.1.trans G).trans t2,q.trans F,p.trans E,t5,B,z⟩
end
end Go.AI
end

section
namespace Go.AI
variable [Kn]
section
variable {P:Program}{w w':Wd}{ob ay:Tr au}{nx:Nat}{h h':AHeap}{ρ:Type}{A:dX}{R:eD A.pn}{kp:TypeId->List AV->af->Option ρ}
def EK(h h':AHeap):Prop:=∀p,p∈h'.wr->p∈h.wr\/h.next<=p\/Lp h.get p
def OU(P:Program)(A:dX)(w:Wd)(h:AHeap)(S:af)(o:Oper)(k:SV->af->Option ρ)(kp:TypeId->List AV->af->Option ρ)(r:ρ)(cx:Ctx)(cm:bo)(aI:Operand->AV):Prop:=(∃m w' b h' v y,aj P w' b.ob b.nx h'/\bl w S.ob h w' b.ob h'/\b.tm=S.tm/\b.r=S.r/\k v b=some r/\dc P (br P m) cx aI o cm h=some (.val y cm h')/\RV P w' v y/\(iX A S o=true->EK h h'))\/(∃m w' b h' t row y,aj P w' b.ob b.nx h'/\bl w S.ob h w' b.ob h'/\b.tm=S.tm/\b.r=S.r/\kp t row b=some r/\dc P (br P m) cx aI o cm h=some (.aB y h')/\ia P t row y)
theorem SO(hR:gr P A R){S:af}(hs:aj P w S.ob S.nx h){o:Oper}{aI:Operand->AV}(z:∀x,x∈o.op.operands.toList->RV P w (bK S.tm x) (aI x))(hC:we o.op=true){k:SV->af->Option ρ}{r:ρ}(hr:iD P A R kp o S k=some r)(cx:Ctx)(cm:bo):
 OU P A w h S o k kp r cx cm aI:=by
 unfold we at hC
 split at hC
 case h_2=>cases hC
 rename_i c g
 split at hC
 case h_2=>cases hC
 rename_i fo B
 obtain⟨callee,args,M⟩:=c
 simp only at B
 subst B
 unfold iD at hr
 simp only[g]at hr
 split at hr
 case h_3=>cases hr
 case h_2=>
  rename_i f ts dV n
  have hf:=z fo (by rw[g];simp[Op.operands,Call.operands])
  rw[n]at hf
  have i:aC P w (args.toList.map (bK S.tm)) (args.toList.map aI):=aC.map _ λa ha=>z a (by rw[g];simp only[Op.operands,Call.operands];simp;exact .inr (by simpa using ha))
  generalize hy:aI fo=y at hf
  obtain⟨l,rfl⟩:∃l,y=.e9 l:=by cases hf;exact⟨_,rfl⟩
  obtain⟨m,w',G,h',q1,q2,q3,F,E,D⟩:=RC hR hs hf i hr
  refine .inl ⟨m,w',G,h',_,_,q1,q2,q3,F,E,?_,.sc rfl,λhp=>?_⟩
  .unfold dc
   have:aU P aI o h=some (.round l (args.toList.map aI),h):=by simp only[aU,g,iB,hy]
   rw[this];simp only[D]
  .unfold iX at hp;rw[g]at hp;simp only[n]at hp;cases hp
 rename_i f dV n
 split at hr
 case h_2=>cases hr
 rename_i fn C
 have hf:=z fo (by rw[g];simp[Op.operands,Call.operands])
 rw[n]at hf
 have i:aC P w (args.toList.map (bK S.tm)) (args.toList.map aI):=aC.map _ λa ha=>z a (by rw[g];simp only[Op.operands,Call.operands];simp;exact .inr (by simpa using ha))
 obtain⟨xs,q,j⟩:∃xs,aC P w dV xs/\aU P aI o h=jr P h f (args.toList.map aI++xs):=by generalize hy:aI fo=y at hf;cases hf with|fn a=>exact⟨_,a,by simp only[aU,g,iB,hy,nL,yA,List.nil_append]⟩|iP=>exact⟨[],.nil,by simp only[aU,g,iB,hy,nL,yA];rfl⟩
 split at hr
 .rename_i code hb
  rcases Jy hR hs (i.append q) hr with⟨m,w',G,h',v,y,q1,q2,q3,F,E,D,I,L⟩|⟨m,w',G,h',t,row,y,q1,q2,q3,F,E,D,I⟩
  case inr=>refine .inr ⟨m,w',G,h',t,row,y,q1,q2,q3,F,E,?_,I⟩;unfold dc;rw[j];simp only[jr,C,hb,D]
  refine .inl ⟨m,w',G,h',v,y,q1,q2,q3,F,E,?_,I,λhp=>L ?_⟩
  .unfold dc;rw[j];simp only[jr,C,hb,D]
  .unfold iX at hp
   rw[g]at hp
   simp only[n]at hp
   simp only[aX,Bool.not_eq_true']at hp
   refine⟨hp.1,?_⟩
   have hp:=hp.2
   split at hp
   .rename_i e;exact e
   .cases hp
 .rename_i hb
  split at hr
  .rename_i x hk hl
   have u:=i.append q
   rw[hl]at u
   obtain⟨y,K,J⟩:∃y,args.toList.map aI++xs=[y]/\RV P w x y:=by generalize args.toList.map aI++xs=l at u;cases u with|cons a b=>cases b;exact⟨_,rfl,a⟩
   refine .inl ⟨0,w,S,h,x,y,hs,.refl _ _ _,rfl,rfl,hr,?_,J,λ_ p hp=>.inl hp⟩;unfold dc;rw[j,K];simp only[jr,C,hb,hk,C2]
  .cases hr
theorem KJ{S:af}{F:Nat->Prop}{p:Tr au}{obj:b7}{y:Nat->AV}{v:SV}{x:au}{lk:Nat->Lk}(q1:aj P (w.more F) p S.nx h)(q2:jb S.ob p)(q3:∀o,F o->Ow w S.ob o)(Z:x≠.gone)(J:∀a,(lk a).obj=some a)
 (U:∀(w':Wd)(h':AHeap)(a:Nat),bA (w.more F) w'->(∀i k,w.s i=some k->w'.s i=some k)->w'.s S.nx=some (lk a)->h'.get a=some obj->¬w'.F a->dn P w' h' S.nx x/\RV P w' v (y a))
 {a:Nat}{h':AHeap}(ha:h.get a=none)(N:a<h'.next)(M:h'.get a=some obj)(n:∀o,o≠a->h'.get o=h.get o)(D:h.next<=h'.next)(E:∀o,h'.next<=o->h'.get o=none)(I:h'.floor=h.floor)(C:h'.wr=h.wr)
 {w0:Wd}{fc:Tr au}{h0:AHeap}(m:bl w0 fc h0 w S.ob h)(O:h0.next<=a):
 ∃w',aj P w' (p.put S.nx x) (S.nx+1) h'/\bl w0 fc h0 w' (p.put S.nx x) h'/\bA w w'/\(∀i k,w.s i=some k->w'.s i=some k)/\RV P w' v (y a):=by
 have G:¬(w.more F).F a:=λf=>(q1.cW a f).2 ha
 have K:((w.more F).put h'.get S.nx (lk a)).s S.nx=some (lk a):=by simp[Wd.put]
 have q:∀i k,w.s i=some k->((w.more F).put h'.get S.nx (lk a)).s i=some k:=by
  intro i k e
  have:i≠S.nx:=by rintro rfl;have:=(q1.nx _ (ak _)).1;have Q:(w.more F).s S.nx=some k:=e;rw[this]at Q;cases Q
  simp only[Wd.put];rw[if_neg this];exact e
 have u:bA (w.more F) ((w.more F).put h'.get S.nx (lk a)):=⟨λ_ f=>f,λo x e _=>by rw[q1.g]at e;show h'.get o=_;rw[n o λB=>by rw[B,ha]at e;cases e];exact e,λo e=>by rw[q1.g]at e;have:h'.get o=h.get o:=n o λB=>e (by rw[B,ha]);show h'.get o≠none/\(Lp h'.get o->Lp (w.more F).g o);unfold Lp;rw[this,q1.g];exact⟨e,id⟩,λo f T mv c fz el ex sh e=>⟨T,[],fz,el,ex,sh,by simp only[Wd.put,List.append_nil];rw[n o λB=>G (B▸f),<-q1.g];exact e,ak _⟩⟩
 obtain⟨Y,X⟩:=U _ h' a u q K M G
 obtain⟨W,c2,c3⟩:=q1.fresh (h':=h') (lk:=lk a) (x:=x) (λb e=>by rw[J]at e;cases e;exact⟨ha,N⟩) (λo e=>n o λB=>e (by rw[J,B])) D E Y
 have l:=m.trans (bl.cv q2 q3)
 refine⟨_,W,⟨l.le.trans u,λi k e=>q i k (m.s i k e),Nat.le_trans m.next D,by rw[I];exact m.floor,λo h1 h2=>by rw[n o (by omega)];exact l.cb o h1 h2,?_,λo f=>l.F o f,λo e=>m.wr o (by rw[C]at e;exact e),λe=>by rw[C,I];exact m.et e,λi t cs e=>?_⟩,(bA.more w F).trans u,q,X⟩
 .rintro o⟨j,k,⟨z,h1,h4⟩,h2,h3⟩
  simp only[Wd.put]at h2
  split at h2
  .cases h2;rw[J]at h3;cases h3;exact .inl O
  .rename_i L;rw[Tr.a8 _ _ L]at h1;exact l.own o ⟨j,k,⟨z,h1,h4⟩,h2,h3⟩
 .obtain⟨c,V⟩:=l.bx i t cs e;exact EI (q1.nx _ (ak _)).2 i t c V
theorem SP(h:AHeap)(y:b7):EK h (h.alloc y):=λ_ e=>.inl e
theorem L4(hR:gr P A R){S:af}(hs:aj P w S.ob S.nx h){o:Oper}{aI:Operand->AV}(b:∀x,x∈o.op.operands.toList->RV P w (bK S.tm x) (aI x)){k:SV->af->Option ρ}{r:ρ}(hr:iD P A R kp o S k=some r)(cx:Ctx)(cm:bo):
 OU P A w h S o k kp r cx cm aI:=by
 cases hF:bT o.op with
 |true=>obtain⟨F,m,q1,q2,q3,v,y,i,g,l⟩:=Jr hs b (λ_ _ _ _ _=>rfl) hF hr;refine .inl ⟨0,_,{S with ob:=m},h,v,y,q1,.cv q2 q3,rfl,rfl,i,?_,l,λ_ p hp=>.inl hp⟩;unfold dc;rw[g]
 |false=>
  cases hA:a6 o.op with
  |true=>
   obtain⟨F,fc,obj,y,v,x,lk,q1,q2,q3,i,g,l,t,q⟩:=(KI hs b hA hr).ok;obtain⟨w',C,B,_,_,z⟩:=KJ (h':=h.alloc obj) (a:=h.next) q1 q2 q3 l t q (q1.new _ (ak _)) (Nat.lt_succ_self _) (by simp only[AHeap.get,AHeap.alloc,Tr.bS]) (λo e=>by simp only[AHeap.get,AHeap.alloc,Tr.a8 _ _ e]) (Nat.le_succ _)
    (λo ho=>by
     have u:h.next+1<=o:=ho
     have e:o≠h.next:=by omega
     have:=q1.new o (by omega);simp only[AHeap.get,AHeap.alloc,Tr.a8 _ _ e];exact this) rfl rfl (bl.refl w S.ob h) (ak _);refine .inl ⟨0,w',{S with ob:=fc.put S.nx x,nx:=S.nx+1},h.alloc obj,v,_,C,B,rfl,rfl,g,?_,z,λ_=>SP _ _⟩;unfold dc;rw[i]
  |false=>
   cases hC:we o.op with
   |true=>exact SO hR hs b hC hr cx cm
   |false=>
    obtain⟨w',ay,bU,h',v,y,q1,q2,q3,i,g⟩:=Ue hs b hA hF hC hr
    refine .inl ⟨0,w',{S with ob:=ay,nx:=bU},h',v,y,q1,q2,rfl,rfl,q3,?_,g,λhp=>?_⟩
    .unfold dc
     rcases i with e|⟨e,rfl⟩
     .rw[e]
     .rw[e]
    .unfold iX at hp
     unfold we at hC
     split at hp
     .rename_i c n
      rw[n]at hC
      simp only at hC
      split at hp
      .rename_i f j;rw[j]at hC;cases hC
      .cases hp
     .cases hp
end
end Go.AI
end

section
namespace Go.AI
variable [Kn]
inductive iu(P:Program)(w:Wd):List (FuncId×List SV)->List ep->Prop|nil:iu P w [] []|dK{d:Nat}{l:List (FuncId×List SV)}{l':List ep}:iu P w l l'->iu P w l (.dK d::l')|cons{f:FuncId}{args:List SV}{cap xs:List AV}{l:List (FuncId×List SV)}{l':List ep}:aC P w args (xs++cap)->iu P w l l'->iu P w ((f,args)::l) (.fn (.func f) cap xs::l')
theorem iu.mono{P:Program}{w w':Wd}(hl:bA w w')(hs:∀i k,w.s i=some k->w'.s i=some k){l:List (FuncId×List SV)}{l':List ep}(h:iu P w l l'):iu P w' l l':=by induction h with|nil=>exact .nil|dK _ ih=>exact .dK ih|cons a _ ih=>exact .cons (a.mono hl hs) ih
theorem iu.D0{P:Program}{w w':Wd}{l:List (FuncId×List SV)}{l':List ep}(h:iu P w l l'):l=[]->iu P w' l l':=by induction h with|nil=>intro _;exact .nil|dK _ ih=>intro e;exact .dK (ih e)|cons _ _ _=>intro e;cases e
def tL:List ep->Prop|[]=>True|.dK d::l=>ep.dK d∉l/\tL l|.fn _ _ _::l=>tL l
structure bQ(P:Program)(cx:Ctx)(w:Wd)(st:af)(a:aD):Prop where
 h:aj P w st.ob st.nx a.h
 tm:eN P w st.tm a.tm
 al:∀x y,(x,y)∈st.al->∃b,a.tm.get x=some (.sc (.bool b))/\a.tm.get y=some (.sc (.bool b))
 df:iu P w st.df a.df
 cm:B7 P st.cm a.cm
 rn:cx.round=none\/st.cm=.gk
 kd:st.cm=.no\/st.cm=.gk\/cx.kind=.deferred
 co:((st.cm=.gk\/a.h.floor<=a.h.next)/\tL a.df)/\∀d,ep.dK d∈a.df->a.h.floor<=d/\a.h.get d=some (.cf (some []))
section
variable {P:Program}{cx:Ctx}{w w':Wd}{st:af}{a:aD}{ρ:Type}{A:dX}{R:eD A.pn}{kp:TypeId->List AV->af->Option ρ}
theorem eN.put{tm:Tr SV}{bL:Tr AV}{d:Tmp}{v:SV}{x:AV}(h:eN P w tm bL)(hx:RV P w v x):eN P w (tm.put d v) (bL.put d x):=by
 refine⟨λt u e=>?_⟩
 by_cases c:t=d
 .subst c;rw[Tr.bS]at e;cases e;exact⟨x,Tr.bS ..,hx⟩
 .rw[Tr.a8 _ _ c]at e;obtain⟨y,a,b⟩:=h.tm t u e;exact⟨y,by rw[Tr.a8 _ _ c];exact a,b⟩
theorem eN.wQ{tm:Tr SV}{bL:Tr AV}{d:Tmp}{v:SV}{x:AV}(h:eN P w tm bL)(hd:bL.get d=some x)(hx:RV P w v x):eN P w (tm.put d v) bL:=by
 refine⟨λt u e=>?_⟩
 by_cases b:t=d
 .subst b;rw[Tr.bS]at e;cases e;exact⟨x,hd,hx⟩
 .rw[Tr.a8 _ _ b]at e;exact h.tm t u e
theorem xY{d:Tmp}{t:Bool}{bL:Tr AV}(hd:bL.get d=some (.sc (.bool t))):∀{l:List (Tmp×Tmp)}{tm:Tr SV},(∀x y,(x,y)∈l->∃b,bL.get x=some (.sc (.bool b))/\bL.get y=some (.sc (.bool b)))->eN P w tm bL->eN P w (refine d t l tm) bL
 |[],_,_,h=>h
 |(x,y)::l,tm,hl,h=>by
  obtain⟨b,h1,h2⟩:=hl x y (List.mem_cons_self ..)
  have c:∀x y,(x,y)∈l->∃b,bL.get x=some (.sc (.bool b))/\bL.get y=some (.sc (.bool b)):=λx y e=>hl x y (List.mem_cons_of_mem _ e)
  unfold refine
  split
  .rename_i e;have:=Nat.eq_of_beq_eq_true e;subst this;rw[hd]at h2;cases h2;exact xY hd c (h.wQ h1 (.sc rfl))
  .split
   .rename_i e;have:=Nat.eq_of_beq_eq_true e;subst this;rw[hd]at h1;cases h1;exact xY hd c (h.wQ h2 (.sc rfl))
   .exact xY hd c h
theorem kz(hs:bQ P cx w st a){d:Tmp}{t:Bool}(hd:a.tm.get d=some (.sc (.bool t))):bQ P cx w (known st d t) a:=⟨hs.h,xY hd hs.al (hs.tm.wQ hd (.sc rfl)),hs.al,hs.df,hs.cm,hs.rn,hs.kd,hs.co⟩
theorem CF{d x y:Tmp}:∀{l:List (Tmp×Tmp)},(x,y)∈u5 d l->(x,y)∈l/\x≠d/\y≠d
 |[],h=>by cases h
 |(x',c)::l,h=>by
  unfold u5 at h
  split at h
  .obtain⟨a,b⟩:=CF h;exact⟨List.mem_cons_of_mem _ a,b⟩
  .rename_i e
   simp only[Bool.or_eq_false_iff]at e
   rcases List.mem_cons.1 h with h|h
   .cases h;exact⟨List.mem_cons_self ..,Nat.ne_of_beq_eq_false e.1,Nat.ne_of_beq_eq_false e.2⟩
   .obtain⟨a,b⟩:=CF h;exact⟨List.mem_cons_of_mem _ a,b⟩
def jF(n:Nat):Option Tmp->Prop|some d=>d<n|none=>True
theorem lz(hs:bQ P cx w st a){n:Nat}{dst:Option Tmp}{v:SV}{x:AV}(hx:RV P w v x)(hd:jF n dst):∃a',a.put n dst x=some a'/\bQ P cx w (fu st dst v) a'/\a'.h=a.h:=by cases dst with|none=>exact⟨a,rfl,hs,rfl⟩|some d=>refine⟨{a with tm:=a.tm.put d x},by unfold aD.put;simp only;rw[if_pos (show d<n from hd)],⟨hs.h,hs.tm.put hx,λy z e=>?_,hs.df,hs.cm,hs.rn,hs.kd,hs.co⟩,rfl⟩;obtain⟨g,f,c⟩:=CF e;obtain⟨b,j,i⟩:=hs.al y z g;exact⟨b,by show(a.tm.put d x).get y=_;rw[Tr.a8 _ _ f];exact j,by show(a.tm.put d x).get z=_;rw[Tr.a8 _ _ c];exact i⟩
theorem Jz(hs:bQ P cx w st a){n:Nat}{dst:Option Tmp}{x:Operand}(hd:jF n dst):∃a',a.put n dst (ev a.tm x)=some a'/\bQ P cx w (kJ st dst x) a'/\a'.h=a.h:=by
 obtain⟨a',q1,q2,q3⟩:=lz hs (gv hs.tm x) hd
 refine⟨a',q1,?_,q3⟩
 unfold kJ
 simp only
 split
 .rename_i d s b hv
  split
  .exact q2
  .rename_i f
   refine⟨q2.h,q2.tm,λy z e=>?_,q2.df,q2.cm,q2.rn,q2.kd,q2.co⟩
   rcases List.mem_cons.1 e with e|e
   .cases e
    have g:=gv hs.tm (.tmp s)
    rw[hv]at g
    have c:ev a.tm (.tmp s)=.sc (.bool b):=by generalize ev a.tm (.tmp s)=y at g;cases g;rfl
    unfold aD.put at q1
    simp only at q1
    rw[if_pos (show d<n from hd),c]at q1
    cases q1
    refine⟨b,Tr.bS ..,?_⟩
    show(a.tm.put d _).get s=_
    rw[Tr.a8 _ _ (Ne.symm (Nat.ne_of_beq_eq_false f))]
    simp only[ev]at c
    split at c
    .rename_i v hg;rw[hg,c]
    .cases c
   .exact q2.al y z e
 .exact q2
theorem yq(hs:bQ P cx w st a){d:Tmp}{b:Bool}(h:st.tm.get d=some (.sc (.bool b))):a.tm.get d=some (.sc (.bool b)):=by obtain⟨x,h1,h2⟩:=hs.tm.tm d _ h;cases h2;exact h1
theorem Ir(hs:bQ P cx w st a){d:Tmp}(h:st.tm.get d=some (.aR [])):a.tm.get d=some (.tuple []):=by obtain⟨x,h1,h2⟩:=hs.tm.tm d _ h;cases h2 with|aR b=>cases b;exact h1
theorem l0{b:Bool}{x y:Option ρ}{r:ρ}(h:aa b x y=some r):(b=true/\x=some r)\/(b=false/\y=some r):=by
 cases b
 .exact .inr ⟨rfl,h⟩
 .exact .inl ⟨rfl,h⟩
theorem bQ.xj(hs:bQ P cx w st a)(h:st.cm≠.gk):cx.round=none:=hs.rn.resolve_right h
theorem bQ.OV(hs:bQ P cx w st a)(h:st.cm≠.gk)(h2:st.cm≠.no):cx.kind=.deferred:=(hs.kd.resolve_left h2).resolve_left h
theorem KK(hs:aj P w st.ob st.nx a.h)(hc:∀d,ep.dK d∈a.df->a.h.floor<=d/\a.h.get d=some (.cf (some []))){ay:Tr au}{h':AHeap}(hf:bl w st.ob a.h w' ay h'):∀d,ep.dK d∈a.df->h'.floor<=d/\h'.get d=some (.cf (some [])):=by
 intro d hd
 obtain⟨c,b⟩:=hc d hd
 refine⟨by rw[hf.floor];exact c,?_⟩
 rw[hf.cb d ?_ ?_]
 .exact b
 .rcases Nat.lt_or_ge d a.h.next with q|q
  .exact q
  .rw[hs.new d q]at b;cases b
 .rintro⟨i,k,q1,q2,q3⟩;obtain⟨_,_,_,_,_,_,_,q⟩:=hs.cells q1 q2 q3;rw[q]at b;cases b
theorem bQ.step(hs:bQ P cx w st a){ah:af}{h':AHeap}(f:aj P w' ah.ob ah.nx h')(hf:bl w st.ob a.h w' ah.ob h')(c:ah.tm=st.tm)(b:ah.r=st.r):bQ P cx w' ah {a with h:=h'}:=by have h1:ah.al=st.al:=congrArg (·.1) b;have h2:ah.df=st.df:=congrArg (·.2.1) b;have h3:ah.cm=st.cm:=congrArg (·.2.2) b;exact⟨f,by rw[c];exact hs.tm.mono hf.le hf.s,by rw[h1];exact hs.al,by rw[h2];exact hs.df.mono hf.le hf.s,by rw[h3];exact hs.cm,by rw[h3];exact hs.rn,by rw[h3];exact hs.kd,by rw[h3];exact⟨hs.co.1.1.imp id λe=>by rw[hf.floor];exact Nat.le_trans e hf.next,hs.co.1.2⟩,KK hs.h hs.co.2 hf⟩
def mB(P:Program)(cx:Ctx)(w:Wd)(st:af)(a:aD)(k:af->Option ρ)(kp:TypeId->List AV->af->Option ρ)(r:ρ)(run:Nat->bM->aD->Prop):Prop:=(∃m w' ah a',run m .normal a'/\bQ P cx w' ah a'/\bl w st.ob a.h w' ah.ob a'.h/\k ah=some r)\/(∃m w' ah a' t row y,run m (.panic y) a'/\bQ P cx w' ah a'/\bl w st.ob a.h w' ah.ob a'.h/\kp t row ah=some r/\ia P t row y)
theorem VB(hR:gr P A R)(hs:bQ P cx w st a){o:Oper}{ops:Array Oper}(hd:jF cx.tn o.dst){k:af->Option ρ}{r:ρ}(hr:mQ P A R kp o st k=some r)(hw:cE ops o a.tm=some true):
 mB P cx w st a k kp r λm ex a'=>eS P (br P m) cx ops o a=some (ex,a'):=by
 have mv:∀(x:Operand)(e:af),bQ P cx w e a->(∀h:AHeap,aU P (ev a.tm) o h=some (.val (ev a.tm x),h))->e.ob=st.ob->k (kJ e o.dst x)=some r->
  mB P cx w st a k kp r λm ex a'=>eS P (br P m) cx ops o a=some (ex,a'):=by
  intro x e u C z hk
  obtain⟨a',q1,q2,q3⟩:=Jz (n:=cx.tn) (x:=x) u hd
  have f:(kJ e o.dst x).ob=e.ob:=by
   unfold kJ fu
   simp only
   split
   .split
    .cases o.dst<;>rfl
    .cases o.dst<;>rfl
   .cases o.dst<;>rfl
  refine .inl ⟨0,w,_,a',?_,q2,by rw[q3,f,z];exact .refl _ _ _,hk⟩;simp only[eS,hw,dc,C];have:({a with cm:=a.cm,h:=a.h}:aD)=a:=rfl;rw[this,q1];rfl
 unfold mQ at hr
 split at hr
 .rename_i x b;exact mv x st hs (λh=>by simp only[aU,b]) rfl hr
 .rename_i x b;exact mv x st hs (λh=>by simp only[aU,b]) rfl hr
 .rename_i c x y b
  split at hr
  .rename_i d
   split at hr
   .rename_i t B
    have g:=yq hs B
    rcases l0 hr with⟨rfl,hr⟩|⟨rfl,hr⟩
    .exact mv x _ (kz hs g) (λh=>by simp only[aU,b,ev,g];rfl) rfl hr
    .exact mv y _ (kz hs g) (λh=>by simp only[aU,b,ev,g];rfl) rfl hr
   .cases hr
  .rename_i t
   cases t
   .exact mv y st hs (λh=>by simp only[aU,b,ev,bn];rfl) rfl hr
   .exact mv x st hs (λh=>by simp only[aU,b,ev,bn];rfl) rfl hr
  .cases hr
 .split at hr
  .cases hr
  .rcases L4 hR hs.h (λx _=>gv hs.tm x) hr cx a.cm with⟨m,w',i,h',v,y,q1,q2,q3,q,p,l,j,_⟩|⟨m,w',i,h',t,row,y,q1,q2,q3,q,p,l,j⟩
   case inr=>exact .inr ⟨m,w',i,{a with h:=h'},t,row,y,by simp only[eS,hw,l],hs.step q1 q2 q3 q,q2,p,j⟩
   obtain⟨a',p1,p2,p3⟩:=lz (n:=cx.tn) (hs.step q1 q2 q3 q) j hd
   have f:(fu i o.dst v).ob=i.ob:=by cases o.dst<;>rfl
   refine .inl ⟨m,w',_,a',?_,p2,by rw[p3,f];exact q2,p⟩;simp only[eS,hw,l];rw[p1];rfl
theorem D1:∀{ls:List Lf}{cs:List SV}{row pre:List AV}{xs:List AV},(ls.all λ|.int _|.bool|.str=>true|_=>false)=true->rowOf P .leaf ls cs=some row->aC P w cs xs->∀w',aC P w' (lA (pre++row) ls pre.length) xs
 |[],[],row,pre,xs,_,h,hx=>λw'=>by cases hx;exact .nil
 |[],_::_,_,_,_,_,h,_=>by cases h
 |_::_,[],_,_,_,_,h,_=>by cases h
 |l::ls,c::cs,row,pre,_,hl,h,.cons (x:=x) (xs:=f) a b=>λw'=>by
  simp only[rowOf]at h
  split at h
  .rename_i y ys h1 h2
   cases h
   simp only[List.all_cons,aX]at hl
   have ih:=D1 (pre:=pre++[y]) hl.2 h2 b w'
   rw[List.append_assoc,List.singleton_append,List.length_append,List.length_singleton]at ih
   refine .cons ?_ ih
   unfold cellOf at h1
   split at h1
   .rename_i k g n
    split at h1
    .rename_i e;subst e;cases h1;cases a;simp only[j6,gI,List.getElem?_append_right (ak _),Nat.sub_self,List.getElem?_cons_zero];exact .sc rfl
    .cases h1
   .cases h1;cases a;simp only[j6,gB,List.getElem?_append_right (ak _),Nat.sub_self,List.getElem?_cons_zero];exact .sc rfl
   .cases h1;cases a;simp only[j6,gS,List.getElem?_append_right (ak _),Nat.sub_self,List.getElem?_cons_zero];exact .sc rfl
   .cases hl.1
   .cases hl.1
   .cases hl.1
   .cases h1
  .cases h
theorem VC(hs:bQ P cx w st a){o:Oper}{ops:Array Oper}(hd:jF cx.tn o.dst){k:af->Option ρ}{r:ρ}(hr:Bw P kp o st k=some r)(hw:cE ops o a.tm=some true):
 mB P cx w st a k kp r λm ex a'=>eS P (br P m) cx ops o a=some (ex,a'):=by
 unfold Bw at hr
 split at hr
 .cases hr
 split at hr
 .rename_i x C
  have hx:=gv hs.tm x
  split at hr
  .rename_i t v hv
   rw[hv]at hx
   generalize hy:ev a.tm x=y at hx
   cases hx with
   |@eI _ _ x' q=>
    have fin:∀row,kp t row st=some r->ia P t row (.iface t x')->mB P cx w st a k kp r λm ex a'=>eS P (br P m) cx ops o a=some (ex,a'):=λrow h1 h2=>.inr ⟨0,w,st,a,t,row,.iface t x',by simp only[eS,hw,dc,aU,C,hy],hs,.refl _ _ _,h1,h2⟩
    split at hr
    .rename_i cs hf hg
     split at hr
     .rename_i row i;refine fin row hr λw'=>?_;cases q with|agg q=>have:=D1 (pre:=[]) hf i q w';simp only[AM,hg];exact .eI (.agg (by simpa using this))
     .cases hr
    .rename_i v' hf hg
     split at hr
     .rename_i row i
      refine fin row hr λw'=>?_
      have:=D1 (pre:=[]) hf i (.cons q .nil) w'
      unfold AM
      rw[hg]
      generalize hls:lay P t=ls at this i
      cases ls with
      |nil=>cases i
      |cons l ls=>cases ls with
       |nil=>cases this with|cons a _=>exact .eI (by simpa using a)
       |cons l' ls'=>
        simp only[rowOf]at i
        split at i
        .rename_i h2;cases h2
        .cases i
     .cases hr
    .cases hr
  .cases hr
 .rename_i c C
  obtain⟨callee,args,tU⟩:=c
  split at hr
  .rename_i f J
   simp only at J
   subst J
   split at hr
   .rename_i g dV hf u
    have hx:=gv hs.tm f
    rw[hf]at hx
    obtain⟨xs,first,M,T⟩:∃xs,∃y,aC P w dV xs/\ev a.tm f=y/\nL y=some (.func g,[],xs):=by generalize hy:ev a.tm f=y at hx;cases hx with|fn a=>exact⟨_,_,a,rfl,rfl⟩|iP=>exact⟨[],_,.nil,rfl,rfl⟩
    have N:aC P w (args.toList.map (bK st.tm)) (args.toList.map (ev a.tm)):=aC.map _ λx _=>gv hs.tm x
    have K:bQ P cx w {st with df:=(g,args.toList.map (bK st.tm)++dV)::st.df} {a with df:=.fn (.func g) xs (args.toList.map (ev a.tm))::a.df}:=⟨hs.h,hs.tm,hs.al,.cons (N.append M) hs.df,hs.cm,hs.rn,hs.kd,hs.co.1,λd e=>hs.co.2 d ((List.mem_cons.1 e).resolve_left (by simp))⟩
    obtain⟨a',p1,p2,p3⟩:=lz (n:=cx.tn) K (v:=.aR []) (x:=dZ) (.aR .nil) hd
    refine .inl ⟨0,w,_,a',?_,p2,by rw[p3];cases o.dst<;>exact .refl _ _ _,hr⟩
    have B:aU P (ev a.tm) o a.h=some (.defer (.fn (.func g) xs (args.toList.map (ev a.tm))),a.h):=by simp only[aU,C,u2,T.1,T.2,List.nil_append]
    simp only[eS,hw,dc,B,hs.xj (by rw[u];simp),Option.isSome_none,Bool.false_eq_true,if_false];rw[show({a with h:=a.h,df:=ep.fn (.func g) xs (args.toList.map (ev a.tm))::a.df}:aD)={a with df:=.fn (.func g) xs (args.toList.map (ev a.tm))::a.df}from rfl,p1];rfl
   .cases hr
  .cases hr
 .rename_i args tU C
  split at hr
  .rename_i ha u
   have hm:=hs.cm
   have hk:cx.kind=.deferred:=hs.OV (by rw[u];simp) (by rw[u];simp)
   have E:cx.round=none:=hs.xj (by rw[u];simp)
   rw[u]at hm
   have D:a.cm=.ret:=by cases hc:a.cm<;>rw[hc]at hm<;>first|rfl|exact hm.elim
   obtain⟨a',p1,p2,p3⟩:=lz (n:=cx.tn) hs (v:=.sc .nilIface) (x:=.sc .nilIface) (.sc rfl) hd
   refine .inl ⟨0,w,_,a',?_,p2,by rw[p3];cases o.dst<;>exact .refl _ _ _,hr⟩
   have B:aU P (ev a.tm) o a.h=some (.vw,a.h):=by simp only[aU,C,iB,iW,ha,List.map_nil]
   simp only[eS,hw,dc,B,hk,E,D];rw[show({a with cm:=bo.ret,h:=a.h}:aD)=a by rw[<-D],p1];rfl
  .rename_i t row ha u
   have hm:=hs.cm
   have hk:cx.kind=.deferred:=hs.OV (by rw[u];simp) (by rw[u];simp)
   have E:cx.round=none:=hs.xj (by rw[u];simp)
   rw[u]at hm
   obtain⟨y,D,F⟩:∃y,a.cm=.aB y false/\ia P t row y:=by cases hc:a.cm with|aB y b=>rw[hc]at hm;obtain⟨e,h⟩:=hm;subst e;exact⟨y,rfl,h⟩|_=>rw[hc]at hm;exact hm.elim
   have K:bQ P cx w {st with cm:=.aB t row true} {a with cm:=.aB y true}:=⟨hs.h,hs.tm,hs.al,hs.df,⟨rfl,F⟩,.inl E,.inr (.inr hk),⟨.inr (hs.co.1.1.resolve_left (by rw[u];simp)),hs.co.1.2⟩,hs.co.2⟩
   obtain⟨a',p1,p2,p3⟩:=lz (n:=cx.tn) K (F w) hd
   refine .inl ⟨0,w,_,a',?_,p2,by rw[p3];cases o.dst<;>exact .refl _ _ _,hr⟩
   have B:aU P (ev a.tm) o a.h=some (.vw,a.h):=by simp only[aU,C,iB,iW,ha,List.map_nil]
   simp only[eS,hw,dc,B,hk,E,D];rw[show({a with cm:=bo.aB y true,h:=a.h}:aD)={a with cm:=.aB y true}from rfl,p1];rfl
  .cases hr
 .rename_i t x hi mx C
  split at hr
  .rename_i e j kh n km m hu hx hh hm
   split at hr
   .rename_i t' rows bE hj
    split at hr
    .rename_i hb
     obtain rfl:=Nat.eq_of_beq_eq_true hb
     rcases l0 hr with⟨I,L⟩|⟨_,L⟩
     case inr=>cases L
     clear hr
     simp only[decide_eq_true_eq]at I
     obtain⟨rfl,rfl⟩:=I
     have W:=gv hs.tm x
     have hH:=gv hs.tm hi
     have hM:=gv hs.tm mx
     rw[hx]at W;rw[hh]at hH;rw[hm]at hM
     obtain⟨X,eX⟩:∃X,ev a.tm x=X:=⟨_,rfl⟩
     have eH:ev a.tm hi=.sc (.int kh (rows.length:Int)):=by generalize ev a.tm hi=z at hH;cases hH;rfl
     have eM:ev a.tm mx=.sc (.int km (rows.length:Int)):=by generalize ev a.tm mx=z at hM;cases hM;rfl
     rw[eX]at W
     obtain⟨Z,g2,g3,g4⟩:=hs.h.arr j t' rows bE hj
     have fin:∀(w':Wd)(Y:AV),aj P w' ((st.ob.put j .gone).put st.nx (.arr t' rows bE)) (st.nx+1) a.h->bl w st.ob a.h w' ((st.ob.put j .gone).put st.nx (.arr t' rows bE)) a.h->RV P w' (.own st.nx) Y->
      i6 P t X none (some (.sc (.int kh (rows.length:Int)))) (some (.sc (.int km (rows.length:Int))))=some Y->mB P cx w st a k kp r λm ex a'=>eS P (br P m) cx ops o a=some (ex,a'):=by
      intro w' Y e1 O V e4
      obtain⟨a',p1,p2,p3⟩:=lz (n:=cx.tn) (hs.step (ah:={st with ob:=(st.ob.put j .gone).put st.nx (.arr t' rows bE),nx:=st.nx+1}) e1 O rfl rfl) V hd
      refine .inl ⟨0,w',_,a',?_,p2,by rw[p3];cases o.dst<;>exact O,L⟩
      have B:aU P (ev a.tm) o a.h=some (.val Y,a.h):=by simp only[aU,C,eX,Option.map_some,Option.map_none,eH,eM,e4,val]
      simp only[eS,hw,dc,B];rw[show({a with cm:=a.cm,h:=a.h}:aD)={a with h:=a.h}from rfl,p1];rfl
     have G:∀kd,gb (.sc (.int kd (rows.length:Int)))=some rows.length:=λkd=>by simp[gb]
     rcases g4 with⟨q,rfl⟩|⟨Q,ad,mv,c,ex,sh,cap,q,qc,qg,q2,q3,q4,q5,q6⟩
     .obtain⟨w',e1,O,V⟩:=hs.h.renamed (x:=.arr t' [] bE) hj (by simp) (by simp) q (by simp) λw' _ e _=>⟨Z,g2,g3,.inl ⟨e,rfl⟩⟩;refine fin w' (.sc (.slice none 0 0)) O V (.dh e1) ?_;cases W with|dh e=>unfold i6;rw[hu];simp only[Z,e7,G,Option.map_some,List.length_nil];rfl|cG e=>rw[q]at e;cases e
     .have S:(w.put a.h.get st.nx (.sl Q ad (rows.length*(lay P t').length) (lay P t').length rows.length (some rows.length))).s st.nx=some (.sl Q ad (rows.length*(lay P t').length) (lay P t').length rows.length (some rows.length)):=by simp[Wd.put]
      obtain⟨O,V⟩:=hs.h.move (lk:=.sl Q ad (rows.length*(lay P t').length) (lay P t').length rows.length (some rows.length)) (x:=.arr t' rows bE) (h':=a.h) (g:=a.h.get) hj (by simp) (by simp) q rfl rfl rfl (λp e=>.inl e) (λe=>e) (λ_ _=>rfl) (λo e=>e) (λo f _ v mv c fz el ex sh e=>⟨v,[],fz,el,ex,sh,by simpa using e,ak _⟩) (λo e=>⟨hs.h.there ⟨_,hj,by simp⟩ q e,hs.h.qX ⟨_,hj,by simp⟩ q e⟩) (λhl _=>⟨Z,g2,g3,.inr ⟨Q,ad,mv,c,ex,sh,_,S,λk e=>by cases e;rfl,qg,q2,q3,q4.mono hl,q5,q6⟩⟩) (by simp)
      refine fin _ (.sl Q ad (rows.length*(lay P t').length) 0 (lay P t').length rows.length (some rows.length)) O V (.cG S) ?_
      cases W with
      |dh e=>rw[q]at e;cases e
      |cG e=>
       rw[q]at e
       simp only[ab,Lk.sl.injEq]at e
       obtain⟨rfl,rfl,rfl,rfl,rfl,rfl⟩:=e
       unfold i6
       rw[hu]
       simp only[Z,e7,G,Option.map_some]
       have U:rows.length<=mf cap rows.length:=by cases cap with|none=>exact ak _|some k=>have:=qc k rfl;simp only[mf];omega
       rw[if_pos ⟨trivial,Nat.zero_le _,ak _,U,by omega,rfl⟩];simp
    .cases hr
   .cases hr
  .cases hr
 .cases hr
theorem bl.known{ay:Tr au}{h h':AHeap}(e:st.ob=ay)(hf:bl w st.ob h w' ay h'):bl w st.ob h w' ay h':=hf
theorem HG{m b:Nat}(hm:m<=b){ops:Array Oper}{o:Oper}{r:bM×aD}(e:eS P (br P m) cx ops o a=some r):eS P (br P b) cx ops o a=some r:=Io (jX P hm) e
theorem D2(hR:gr P A R){ops:Array Oper}{k:af->Option ρ}{r:ρ}:∀{l:List Oper}{w:Wd}{st:af}{a:aD},bQ P cx w st a->(∀o,o∈l->jF cx.tn o.dst)->mG P A R kp ops l st k=some r->
 mB P cx w st a k kp r λm ex a'=>gd P (br P m) cx ops l a=some (ex,a')
 |[],w,st,a,hs,_,hr=>.inl ⟨0,w,{st with al:=[]},a,rfl,⟨hs.h,hs.tm,λ_ _ e=>(by cases e),hs.df,hs.cm,hs.rn,hs.kd,hs.co⟩,.refl _ _ _,hr⟩
 |o::rest,w,st,a,hs,hd,hr=>by
  have I:=hd o (List.mem_cons_self ..)
  have M:∀o,o∈rest->jF cx.tn o.dst:=λo e=>hd o (List.mem_cons_of_mem _ e)
  have run:∀(c:af),c.ob=st.ob->bQ P cx w c a->cE ops o a.tm=some true->(match N1 o.op with
   |true=>Bw P kp o c λst=>mG P A R kp ops rest st k
   |false=>mQ P A R kp o c λst=>mG P A R kp ops rest st k)=some r->
   mB P cx w st a k kp r λm ex a'=>gd P (br P m) cx ops (o::rest) a=some (ex,a'):=by
   intro c p z hw i
   have T:mB P cx w c a (λst=>mG P A R kp ops rest st k) kp r λm ex a'=>eS P (br P m) cx ops o a=some (ex,a'):=by
    split at i
    .exact VC z I i hw
    .exact VB hR z I i hw
   rcases T with⟨m,w1,K,N,q1,q2,q3,Q⟩|⟨m,w1,K,N,t,row,y,q1,q2,q3,Q,S⟩
   .rcases D2 hR q2 M Q with⟨G,C,g,J,F,E,u,D⟩|⟨G,C,g,J,t,row,y,F,E,u,D,O⟩
    .refine .inl ⟨max m G,C,g,J,?_,E,by rw[<-p];exact q3.trans u,D⟩;show gd P _ cx ops (o::rest) a=_;rw[gd,HG (Nat.le_max_left ..) q1];exact xX (jX P (Nat.le_max_right ..)) F
    .refine .inr ⟨max m G,C,g,J,t,row,y,?_,E,by rw[<-p];exact q3.trans u,D,O⟩;show gd P _ cx ops (o::rest) a=_;rw[gd,HG (Nat.le_max_left ..) q1];exact xX (jX P (Nat.le_max_right ..)) F
   .exact .inr ⟨m,w1,K,N,t,row,y,by show gd P _ cx ops (o::rest) a=_;rw[gd,q1],q2,by rw[<-p];exact q3,Q,S⟩
  have skip:∀(c:af),c.ob=st.ob->bQ P cx w c a->cE ops o a.tm=some false->mG P A R kp ops rest (fu c o.dst (.aR [])) k=some r->
   mB P cx w st a k kp r λm ex a'=>gd P (br P m) cx ops (o::rest) a=some (ex,a'):=by
   intro c p z hw i
   obtain⟨N,p1,p2,p3⟩:=lz (n:=cx.tn) (v:=.aR []) (x:=dZ) z (.aR .nil) I
   have B:(fu c o.dst (.aR [])).ob=st.ob:=by rw[<-p];cases o.dst<;>rfl
   have L:∀m,gd P (br P m) cx ops (o::rest) a=gd P (br P m) cx ops rest N:=λm=>by rw[gd];simp only[eS,hw,p1,Option.map_some]
   rcases D2 hR p2 M i with⟨G,C,g,J,F,E,u,D⟩|⟨G,C,g,J,t,row,y,F,E,u,D,O⟩
   .rw[B,p3]at u;exact .inl ⟨G,C,g,J,(L _).trans F,E,u,D⟩
   .rw[B,p3]at u;exact .inr ⟨G,C,g,J,t,row,y,(L _).trans F,E,u,D,O⟩
  unfold mG at hr
  unfold y7 at hr
  split at hr
  .rename_i hg;exact run st rfl hs (by simp only[cE,hg]) hr
  .rename_i j want hg
   split at hr
   .rename_i d q
    split at hr
    .rename_i b hb
     have f:=yq hs hb
     split at hr
     .rcases l0 hr with⟨rfl,hr⟩|⟨rfl,hr⟩
      .exact run (known st d true) rfl (kz hs f) (by simp[cE,hg,q,f]) hr
      .exact skip (known st d false) rfl (kz hs f) (by simp[cE,hg,q,f]) hr
     .rcases l0 hr with⟨rfl,hr⟩|⟨rfl,hr⟩
      .exact skip (known st d true) rfl (kz hs f) (by simp[cE,hg,q,f]) hr
      .exact run (known st d false) rfl (kz hs f) (by simp[cE,hg,q,f]) hr
    .rename_i hb;have f:=Ir hs hb;exact skip st rfl hs (by simp only[cE,hg,q,f]) hr
    .cases hr
   .cases hr
end
end Go.AI
end
