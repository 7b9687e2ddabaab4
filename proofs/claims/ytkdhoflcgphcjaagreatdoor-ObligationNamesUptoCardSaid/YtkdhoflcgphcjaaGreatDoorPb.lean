/- A part of the proof. -/
import Derived.Test.YtkdhoflcgphcjaaGreatDoorPa
set_option linter.all false

namespace Go.AI
open Go
inductive Ty where|int|dV(s:ByteArray)|pair(a b:Ty)|set(a:Ty)
def enc:Ty->cd|.int=>(1,bs [],[])|.dV s=>(3,s,[])|.pair a b=>(4,bs [],[aR (enc a),aR (enc b)])|.set a=>(5,bs [],[aR (enc a)])
abbrev KT:=Option Ty
def fR(k:Int):KT->cd|none=>(k,bs [],[])|some a=>enc a
abbrev aS:KT->cd:=fR 2
inductive CT:Rows->Prop|nil:CT []|cons{k:Int}{s:ByteArray}{ks rs:Rows}:CT ks->CT rs->CT (aR (k,s,ks)::rs)
theorem CT.head{r:List AV}{l:Rows}(h:CT (r::l)):r=aR (ah r 0)/\CT (ah r 0).2.2/\CT l:=by cases h with|cons a b=>exact⟨rfl,a,b⟩
theorem ab2{l:Rows}(h:l.length=1):∃r,l=[r]:=by match l,h with|[r],_=>grind
theorem ab3{l:Rows}(h:l.length=2):∃r q,l=[r,q]:=by match l,h with|[r,q],_=>grind
theorem aaE{x:cd}{w:Bool}(h:fa x w=true):(x.1=1/\x.2.2=[]/\x.2.1=bs [])\/(x.1=2/\w=false)\/(x.1=3/\x.2.2=[])\/(x.1=4/\x.2.2.length=2/\x.2.1=bs [])\/(x.1=5/\x.2.2.length=1/\x.2.1=bs []):=by
 unfold fa at h
 simp only[aZ,Bool.or_eq_true,decide_eq_true_eq,bS]at h
 obtain⟨⟨h1,h2⟩,h3⟩:=h
 rcases h1 with(((h1|⟨h1,hw⟩)|⟨h1,_⟩)|h1)|h1
 .simp_all
 .grind
 .simp_all
 .grind
 grind
theorem zC:∀{f:Nat}{x:cd}{w:Bool}{n m:Nat},(w=true\/x.1≠2)->CT x.2.2->cy f x w n=some m->∃a,x=enc a
 |0,_,_,_,_,_,_,h=>by cases h
 |f+1,x,w,n,m,hw,hc,h=>by
  unfold cy at h
  split at h
  .rename_i c
   obtain⟨k,s,ks⟩:=x
   rcases aaE c.2 with⟨h1,h2,h3⟩|⟨h1,h2⟩|⟨h1,h2⟩|⟨h1,h2,h3⟩|⟨h1,h2,h3⟩
   .exact⟨.int,by simp only at h1 h2 h3;subst h1;subst h2;subst h3;rfl⟩
   .grind
   .exact⟨.dV s,by simp only at h1 h2;subst h1;subst h2;rfl⟩
   .obtain⟨r,q,rfl⟩:=ab3 h2;obtain⟨e1,e2,e3⟩:=CT.head hc;obtain⟨e4,e5,_⟩:=CT.head e3;simp only[List.foldlM_cons,List.foldlM_nil]at h;cases g1:cy f (ah r 0) true (n+1)with|none=>grind|some m1=>rw[g1]at h;cases g2:cy f (ah q 0) true m1 with|none=>grind|some m2=>obtain⟨a,ha⟩:=zC (.inl rfl) e2 g1;obtain⟨b,hb⟩:=zC (.inl rfl) e5 g2;refine⟨.pair a b,?_⟩;simp only at h1 h3;subst h1;subst h3;rw[e1,e4,ha,hb];rfl
   .obtain⟨r,rfl⟩:=ab2 h2;obtain⟨e1,e2,e3⟩:=CT.head hc;simp only[List.foldlM_cons,List.foldlM_nil]at h;cases g1:cy f (ah r 0) true (n+1)with|none=>grind|some m1=>obtain⟨a,ha⟩:=zC (.inl rfl) e2 g1;refine⟨.set a,?_⟩;simp only at h1 h3;subst h1;subst h3;rw[e1,ha];rfl
  .cases h
theorem DX{x:cd}(h:dj x=true)(hk:x.1≠2)(hc:CT x.2.2):∃a,x=enc a:=by unfold dj at h;cases e:cy 6 x false 0 with|none=>grind|some m=>exact zC (.inr hk) hc e
theorem GG{x:cd}(h:bd x):gQ 1099511627776 (aR x):=sa haI (sa (w5 (gp x.2 (cq x h))) (sa (haD (cq x.2 (cq x h))) w4))
theorem iX{a:Ty}(h:bd (enc a)):bd (enc (.set a)):=⟨trivial,BM,(by show(1:Nat)<=1099511627776;omega),ud (GG h) w6⟩
theorem tH{a b:Ty}(h:bd (enc a))(h':bd (enc b)):bd (enc (.pair a b)):=⟨trivial,BM,(by show(2:Nat)<=1099511627776;omega),ud (GG h) (ud (GG h') w6)⟩
theorem aaF:bd (aS none):=⟨trivial,BM,BL⟩
theorem OS:bd (enc .int):=⟨trivial,BM,BL⟩
theorem GH{x:cd}(h:gQ 1099511627776 (aR x)):bd x:=by have h1:=eV (N:=1099511627776) h 1;have h2:=fN (N:=1099511627776) h 2;exact⟨trivial,h1,h2⟩
theorem ib{a:Ty}(h:bd (enc (.set a))):bd (enc a):=GH (ju (cq _ (cq _ h)) (List.mem_cons_self ..))
theorem lY{a b:Ty}(h:bd (enc (.pair a b))):bd (enc a)/\bd (enc b):=⟨GH (ju (cq _ (cq _ h)) (List.mem_cons_self ..)),GH (ju (cq _ (cq _ h)) (List.mem_cons_of_mem _ (List.mem_cons_self ..)))⟩
theorem T.gx{β:Type}{Q:β->Prop}{l:Rows}{i:Int}{x:List AV}{k:Nat->List AV->Option β}(hx:l[i.toNat]?=some x)(hk:T (λn=>k n x) Q)(h0:0<=i:=by decide):T (λn=>Go.AI.ab l i (k n)) Q:=by obtain⟨r,a,b⟩:=hk;exact⟨r,.ab (m:=i.toNat) (by omega) hx a,b⟩
section
variable {E:Nat->cd->cd->Option Bool}{L:Nat->Int->cd->cd->Option Bool}(he:∀(x y:cd)(Q:Bool->Prop),(x.1≠y.1->Q false)->(x.2.1≠y.2.1->Q false)->(x.2.2.length≠y.2.2.length->Q false)->(x.1=y.1->x.2.1=y.2.1->x.2.2.length=y.2.2.length->T (λn=>L n 0 x y) Q)->T (λn=>E n x y) Q)(hl:∀(x y:cd)(i:Int)(Q:Bool->Prop),(decide (i<x.2.2.length)=false->Q true)->(decide (i<x.2.2.length)=true->T (λn=>ab x.2.2 i λr=>ab y.2.2 i λq=>ask (E n (ah r 0) (ah q 0)) λz=>aa (!z) (some false) (L n (IntKind.i64.wrap (i+1)) x y)) Q)->T (λn=>L n i x y) Q)
include he hl
theorem ab4(a:Ty):∀b:Ty,T (λn=>E n (enc a) (enc b)) λr=>r=true↔a=b:=by
 induction a with
 |int=>intro b;cases b<;>refine he _ _ _ (λc=>⟨(λe=>by cases e),λe=>(c (by rw[e])).elim⟩) (λc=>⟨(λe=>by cases e),λe=>(c (by rw[e])).elim⟩) (λc=>⟨(λe=>by cases e),λe=>(c (by rw[e])).elim⟩) λc1 c2 c3=>?_
       .exact hl _ _ _ _ (λ_=>by simp) λc=>by cases c
       all_goals cases c1
 |dV s=>intro b;cases b<;>refine he _ _ _ (λc=>⟨(λe=>by cases e),λe=>(c (by rw[e])).elim⟩) (λc=>⟨(λe=>by cases e),λe=>(c (by rw[e])).elim⟩) (λc=>⟨(λe=>by cases e),λe=>(c (by rw[e])).elim⟩) λc1 c2 c3=>?_
        any_goals cases c1
        exact hl _ _ _ _ (λ_=>⟨λ_=>congrArg Ty.dV c2,λ_=>rfl⟩) λc=>by cases c
 |set a ih=>
  intro b;cases b<;>refine he _ _ _ (λc=>⟨(λe=>by cases e),λe=>(c (by rw[e])).elim⟩) (λc=>⟨(λe=>by cases e),λe=>(c (by rw[e])).elim⟩) (λc=>⟨(λe=>by cases e),λe=>(c (by rw[e])).elim⟩) λc1 c2 c3=>?_
  any_goals cases c1
  refine hl _ _ _ _ (λc=>by cases c) λ_=>.gx rfl (.gx rfl (.ask (ih _) λz hz=>.ite (λc=>.ret ?_) λc=>hl _ _ _ _ (λ_=>?_) λc=>by cases c))
  .grind
  grind
 |pair p o m j=>
  intro b;cases b<;>refine he _ _ _ (λc=>⟨(λe=>by cases e),λe=>(c (by rw[e])).elim⟩) (λc=>⟨(λe=>by cases e),λe=>(c (by rw[e])).elim⟩) (λc=>⟨(λe=>by cases e),λe=>(c (by rw[e])).elim⟩) λc1 c2 c3=>?_
  any_goals cases c1
  refine hl _ _ _ _ (λc=>by cases c) λ_=>.gx rfl (.gx rfl (.ask (m _) λz hz=>.ite (λc=>.ret ?_) λc=>hl _ _ _ _ (λc=>by cases c) λ_=>.gx rfl (.gx rfl (.ask (j _) λy hy=>.ite (λd=>.ret ?_) λd=>hl _ _ _ _ (λ_=>?_) λc=>by cases c))))
  .grind
  .grind
  grind
theorem GI{k:Int}(hk:k=2\/k=0)(a b:KT):T (λn=>E n (fR k a) (fR k b)) λr=>r=true↔a=b:=by
 cases a with
 |none=>cases b with|none=>exact he _ _ _ (λc=>(c rfl).elim) (λc=>(c rfl).elim) (λc=>(c rfl).elim) λ_ _ _=>hl _ _ _ _ (λ_=>by simp) λc=>by cases c|some b=>cases b<;>refine he _ _ _ (λc=>by simp) (λc=>by simp) (λc=>by simp) λc1 c2 c3=>?_;all_goals(rcases hk with rfl|rfl<;>cases c1)
 |some a=>cases b with|none=>cases a<;>refine he _ _ _ (λc=>by simp) (λc=>by simp) (λc=>by simp) λc1 c2 c3=>?_;all_goals(rcases hk with rfl|rfl<;>cases c1)|some b=>exact(ab4 he hl a b).mono λr hr=>by grind
end
theorem yO{k:Int}(hk:k=2\/k=0)(a b:KT):T (λn=>ei n (fR k a) (fR k b)) λr=>r=true↔a=b:=GI (E:=λn x y=>ei n x y) (L:=λn i x y=>y8 n i x y) (λx y Q h1 h2 h3 h4=>.step aak (.ite (λc=>.ret (h1 (ml c))) λc=>.ite (λd=>.ret (h2 (by have:=gN d;rwa[ur]at this))) λd=>.ite (λe=>.ret (h3 (by grind))) λe=>h4 (mj c) (by have:=cF d;rwa[bS]at this) (by grind))) (λx y i Q h1 h2=>.step VP (.ite (λc=>h2 c) λc=>.ret (h1 c))) hk a b
theorem jh(a b:KT):T (λn=>ei n (aS a) (aS b)) λr=>r=true↔a=b:=yO (.inl rfl) a b
theorem oT(a b:KT):T (λn=>j0 n (aS a) (aS b)) λr=>r=true↔a=b:=GI (E:=λn x y=>j0 n x y) (L:=λn i x y=>ye n y.2.2 x.2.2 (x.2.2.length:Int) i) (λx y Q h1 h2 h3 h4=>.step ZN (.ite (λc=>.ite (λd=>.ask (Q':=Q) (.step Wa (.ite (λe=>.ret (h3 (by grind))) λe=>h4 (aL c) (by rwa[bS]at d) (by grind))) λr hr=>.ret hr) λd=>.ret (h2 (by rwa[ur]at d))) λc=>.ret (h1 (aP c)))) (λx y i Q h1 h2=>.step SR (.ite (λc=>h2 c) λc=>.ret (h1 c))) (.inl rfl) a b
theorem Ex(a b:KT):T (λn=>rP n (fR 0 a) (fR 0 b)) λr=>r=true↔a=b:=GI (E:=λn x y=>rP n x y) (L:=λn i x y=>zk n y.2.2 x.2.2 (x.2.2.length:Int) i) (λx y Q h1 h2 h3 h4=>.step YQ (.ite (λc=>.ite (λd=>.ask (Q':=Q) (.step aaq (.ite (λe=>.ret (h3 (by grind))) λe=>h4 (aL c) (by rwa[bS]at d) (by grind))) λr hr=>.ret hr) λd=>.ret (h2 (by rwa[ur]at d))) λc=>.ret (h1 (aP c)))) (λx y i Q h1 h2=>.step Ww (.ite (λc=>h2 c) λc=>.ret (h1 c))) (.inr rfl) a b
abbrev KB:=Int×ByteArray×Rows×Bool
def KL(l:List KT):Rows:=l.map λx=>aR (aS x)
abbrev rQ(o:Option KT)(r:KB):Prop:=match o with|some t=>r=aC (aS t) true|none=>r.2.2.2=false
open Classical in
noncomputable def ft(p:Prop)(t:KT):Option KT:=if p then some t else none
theorem rI{p:Prop}{z:Bool}{t:KT}(h:z=true↔p):rQ (ft p t) (aC (aS t) z):=by
 unfold ft
 split
 .grind
 .rename_i hp;show z=false;grind
theorem rN{p:Prop}{t:KT}(h:¬p){r:KB}(hr:r.2.2.2=false):rQ (ft p t) r:=by unfold ft;grind
def nV:KT->KB|some (.set a)=>aC (enc a) true|_=>(0,bs [],[],false)
theorem ji(x:KT):T (λn=>fK n (aS x)) (.=nV x):=by refine .step Z5 ?_;match x with|none=>exact .pos rfl (.ret rfl)|some .int=>exact .pos rfl (.ret rfl)|some (.dV _)=>exact .pos rfl (.ret rfl)|some (.pair _ _)=>exact .pos rfl (.ret rfl)|some (.set a)=>exact .neg rfl (.gx rfl (.ret rfl))
def Cc:KT->Int×ByteArray×Rows×Int×ByteArray×Rows×Bool|some (.set (.pair a b))=>aC (enc a) (aC (enc b) true)|_=>(0,bs [],[],0,bs [],[],false)
theorem Ey(x:KT):T (λn=>jt n (aS x)) (.=Cc x):=by refine .step aac (.ask (ji x) λy hy=>?_);subst hy;match x with|none=>exact .pos rfl (.ret rfl)|some .int=>exact .pos rfl (.ret rfl)|some (.dV _)=>exact .pos rfl (.ret rfl)|some (.pair _ _)=>exact .pos rfl (.ret rfl)|some (.set .int)=>exact .neg rfl (.pos rfl (.ret rfl))|some (.set (.dV _))=>exact .neg rfl (.pos rfl (.ret rfl))|some (.set (.set _))=>exact .neg rfl (.pos rfl (.ret rfl))|some (.set (.pair a b))=>exact .neg rfl (.neg rfl (.gx rfl (.gx rfl (.ret rfl))))
theorem zD:T (λn=>wP n) (.=aS none):=.step aaw (.ret rfl)
theorem ML:T (λn=>Bl n) (.=enc .int):=.step ZF (.ret rfl)
theorem oU(a:Ty):T (λn=>jK n (enc a)) (.=enc (.set a)):=.step yN (.ret rfl)
theorem X1(a b:Ty):T (λn=>Bk n (enc a) (enc b)) (.=enc (.pair a b)):=.step Ao (.ret rfl)
theorem zE(a b:Ty):T (λn=>rU n (enc a) (enc b)) (.=enc (.set (.pair a b))):=.step E6 (.ask (X1 a b) λx hx=>hx▸.ask (oU _) λy hy=>.ret hy)
theorem X2(a b:Ty):T (λn=>Gm n (enc a) (enc b)) (.=enc (.set (.set (.pair a b)))):=.step ZC (.ask (zE a b) λx hx=>hx▸.ask (oU _) λy hy=>.ret hy)
theorem we(k:Int)(t:KT)(hk:(k=1/\t=some .int)\/(k=2/\t=none))(x:KT):((aS x).1 !=k)=false↔x=t:=by
 rcases hk with⟨rfl,rfl⟩|⟨rfl,rfl⟩
 .match x with|none=>simp[fR]|some .int=>simp[fR,enc]|some (.dV _)=>simp[fR,enc]|some (.pair _ _)=>simp[fR,enc]|some (.set _)=>simp[fR,enc]
 .match x with|none=>simp[fR]|some .int=>simp[fR,enc]|some (.dV _)=>simp[fR,enc]|some (.pair _ _)=>simp[fR,enc]|some (.set _)=>simp[fR,enc]
theorem Ez{l:List KT}{i:Nat}{r:List AV}(h:(KL l)[i]?=some r):∃x,l[i]?=some x/\r=aR (aS x):=by grind[KL]
theorem WI{J:Nat->Int->Option Int}{l:List KT}{P:Nat->cd->Option Bool}{p:KT->Prop}(hl:l.length<=4611686018427387904)
 (h:∀n i,J (n+1) i=aa (decide (i<((KL l).length:Int))) (ab (KL l) i λr=>ask (P n (ah r 0)) λx=>aa x (some i) (J n (IntKind.i64.wrap (i+1)))) (some (-1)))
 (hp:∀x,x∈l->T (λn=>P n (aS x)) λb=>b=false↔p x):T (λn=>J n 0) λi=>(!decide (i>=0))=true↔∀x,x∈l->p x:=by
 have j:(KL l).length=l.length:=by unfold KL;simp
 refine T.loop (σ:=Unit) (L:=λi _ n=>J n i) l.length (λi _=>∀x,x∈l.take i->p x) ?_ ?_ () (by simp)
 .intro _ hs;rw[List.take_length]at hs;exact .step (λn=>h n _) (.neg (by simp[j]) (.ret ⟨λ_=>hs,λ_=>rfl⟩))
 .intro i _ hi hs ih
  refine .step (λn=>h n _) (.pos (by grind) (.ab (by omega) (by omega) λr hr=>?_))
  obtain⟨x,hx,rfl⟩:=Ez (show(KL l)[i]?=some r by grind)
  refine .ask (hp x (List.mem_of_getElem? hx)) λb hb=>.ite (λc=>.ret ?_) λc=>?_
  .grind
  .rw[bA (by omega) (by omega)];refine ih () λy hy=>?_;grind[List.take_add_one]
theorem Kp(l:List KT)(hl:l.length<=9999)(k:Int)(t:KT)(hk:(k=1/\t=some .int)\/(k=2/\t=none)):T (λn=>zr n (KL l) k) λb=>(!b)=true↔∀x,x∈l->x=t:=.step Wm (.ask (Q':=λi=>(!decide (i>=0))=true↔∀x,x∈l->x=t) (.step VW (WI (J:=λn i=>yi n (KL l) k ((KL l).length:Int) i) (P:=λn t=>Gv n t k) (p:=λx=>x=t) (Nat.le_trans hl (by decide)) (λn i=>SN n) λx _=>.step ZH (.ret (we k t hk x)))) λi hi=>.ret hi)
theorem vG(x:KT)(l:List KT)(hl:l.length<=9999):T (λn=>rT n (KL (x::l))) λb=>b=true↔x≠none/\∀y,y∈l->y=x:=by
 refine .step YZ (.gx rfl (.ite (λc=>?_) λc=>.ret ?_))
 .have hx:x≠none:=λe=>by subst e;cases c
  refine .ask (Q':=λr=>(!r.1)=true↔∀y,y∈x::l->y=x) (.step V2 (.ask (Q':=λr=>(!decide (r.1>=0))=true↔∀y,y∈x::l->y=x) (.step We ?_) λi hi=>.ret hi)) λr hr=>.ret (by grind)
  have j:(KL (x::l)).length=l.length+1:=by unfold KL;simp
  refine T.loop (σ:=Unit) (L:=λi _ n=>yj n (KL (x::l)) ((KL (x::l)).length:Int) i (KL (x::l))) (l.length+1) (λi _=>∀y,y∈(x::l).take i->y=x) ?_ ?_ () (by simp)
  .intro _ hs;have hs:∀y,y∈x::l->y=x:=λy hy=>hs y (by grind);exact .step Jm (.neg (by simp[j]) (.ret ⟨λ_=>hs,λ_=>rfl⟩))
  .intro i _ hi hs ih
   refine .step Jm (.pos (by grind) (.ab (by omega) (by omega) λr hr=>?_))
   obtain⟨y,hy,rfl⟩:=Ez (show(KL (x::l))[i]?=some r by grind)
   refine .ask (Q':=λz=>(z.1=false↔y=x)/\z.2=KL (x::l)) (.step aaD (.gx rfl (.ask (oT y x) λb hb=>.ret ⟨by grind,rfl⟩))) λz hz=>?_
   obtain⟨o,m⟩:=z
   obtain⟨hz,rfl⟩:=hz
   refine .ite (λc=>.ret ?_) λc=>?_
   .constructor
    .grind
    .intro e;rw[hz.2 (e y (List.mem_of_getElem? hy))]at c;cases c
   .rw[bA (by omega) (by omega)];refine ih () λw hw=>?_;grind[List.take_add_one]
 .have hx:x=none:=by have:=we 2 none (.inr ⟨rfl,rfl⟩) x;exact this.1 c
  simp[hx]
noncomputable def lF(l:List KT)(t r:KT):Option KT:=ft (∀x,x∈l->x=t) r
noncomputable def Fa(x y:KT):Option KT:=ft (x≠none/\y=x) none
noncomputable def uu(x:KT):KT->Option KT|some (.set b)=>ft (x=some b) none|_=>none
noncomputable def l6(x y r:KT):Option KT:=match x with|some (.set _)=>ft (y=x) r|_=>none
noncomputable def wg(y r:KT):Option KT:=ft (y=none) r
def Au:KT->KT->Option KT|some a,some b=>some (some (.pair a b))|_,_=>none
noncomputable def GJ(x:KT)(l:List KT):Option KT:=match x with|some a=>ft (∀y,y∈l->y=x) (some (.set a))|none=>none
def rC:KT->KT->Option KT|some (.set a),some (.set b)=>some (some (.set (.pair a b)))|_,_=>none
def qf:KT->KT->Option KT|some (.set a),some (.set b)=>some (some (.set (.set (.pair a b))))|_,_=>none
noncomputable def tI(x y:KT):Option KT:=match x with|some (.set (.pair _ _))=>ft (y=x) x|_=>none
noncomputable def l7:KT->KT->Option KT|some (.set (.pair a b)),some (.set (.pair c d))=>ft (b=c) (some (.set (.pair a d)))|_,_=>none
noncomputable def nC:KT->KT->Option KT|some (.set s),some (.set (.pair a b))=>ft (s=a) (some (.set (.pair a b)))|_,_=>none
noncomputable def nD:KT->KT->Option KT|some (.set (.pair a b)),some (.set s)=>ft (s=b) (some (.set (.pair a b)))|_,_=>none
def wU:KT->Option KT|some (.set a)=>some (some (.set (.set a)))|_=>none
def wh:KT->Option KT|some (.set _)=>some (some .int)|_=>none
def rX:KT->Option KT|some (.set .int)=>some (some .int)|_=>none
def tV:KT->Option KT|some (.set (.pair a _))=>some (some (.set a))|_=>none
def tW:KT->Option KT|some (.set (.pair _ b))=>some (some (.set b))|_=>none
def tX:KT->Option KT|some (.set (.pair a b))=>some (some (.set (.pair b a)))|_=>none
noncomputable def px:KT->KT->Option KT|some (.set (.pair a b)),some (.set s)=>ft (s=a) (some (.set b))|_,_=>none
noncomputable def tY:KT->KT->Option KT|some (.set (.pair a b)),c=>ft (c=some a) (some b)|_,_=>none
def GK:Ty->KT->Option KT|a,some b=>some (some (.set (.pair a b)))|_,none=>none
theorem Fb(c:Int)(t:KT)(h:aS t=(c,bs [],[])):T (λn=>ly n (KL []) c (bs [])) (rQ (some t)):=.step aat (.ret (by show _=aC (aS t) true;rw[h];rfl))
theorem ic(l:List KT)(hl:l.length<=9999)(c k:Int)(t r:KT)(hk:(k=1/\t=some .int)\/(k=2/\t=none))(h:aS r=(c,bs [],[])):T (λn=>cb n (KL l) c (bs []) k) (rQ (lF l t r)):=.step Ze (.ask (Kp l hl k t hk) λb hb=>.ret (by have:=rI (t:=r) hb;rw[h]at this;exact this))
theorem WJ(l:List KT)(hl:l.length<=9999):T (λn=>vr n (KL l) 5 (bs []) [(aR (1,(bs []),[]))] 1) (rQ (lF l (some .int) (some (.set .int)))):=.step V7 (.ask (Kp l hl 1 (some .int) (.inl ⟨rfl,rfl⟩)) λb hb=>.ret (rI hb))
theorem kb(y:KT):((aS y).1==2)=true↔y=none:=by have:=we 2 none (.inr ⟨rfl,rfl⟩) y;grind
theorem NA(x y:KT):T (λn=>pg n (KL [x,y])) (rQ (wg y none)):=.step ZA (.gx rfl (.ask (.step Nv (.ask zD λu hu=>.ret hu)) λu hu=>.gx rfl (.ret (hu▸rI (kb y)))))
theorem WK(x y:KT):T (λn=>vA n (KL [x,y])) (rQ (wg y x)):=.step VV (.gx rfl (.ask (Q':=(.=aS x)) (.step Np (.ret rfl)) λu hu=>.gx rfl (.ret (hu▸rI (kb y)))))
theorem NB(x y:KT):T (λn=>pj n (KL [x,y])) (rQ (Fa x y)):=.step ZT (.ask zD λu hu=>.ask (vG x [y] (by simp)) λb hb=>.ret (hu▸rI (by simp_all)))
theorem NC(x y:KT):T (λn=>pk n (KL [x,y])) (rQ (uu x y)):=by refine .step Z7 (.gx rfl (.ask (ji y) λu hu=>.ask zD λv hv=>?_));subst hu;subst hv;match y with|some (.set b)=>exact .pos rfl (.gx rfl (.ask (oT x (some b)) λz hz=>.ret (rI hz)))|none=>exact .neg rfl (.ret rfl)|some .int=>exact .neg rfl (.ret rfl)|some (.dV _)=>exact .neg rfl (.ret rfl)|some (.pair _ _)=>exact .neg rfl (.ret rfl)
theorem DY(x y:KT):T (λn=>kK n (KL [x,y])) (rQ (l6 x y x)):=by refine .step Wg (.gx rfl (.ask (Q':=(.=aS x)) (.step Np (.ret rfl)) λu hu=>.gx rfl ?_));subst hu;match x with|some (.set a)=>exact .pos rfl (.ask (vG _ [y] (by simp)) λz hz=>.ret (rI (by simp_all)))|none=>exact .neg rfl (.ret rfl)|some .int=>exact .neg rfl (.ret rfl)|some (.dV _)=>exact .neg rfl (.ret rfl)|some (.pair _ _)=>exact .neg rfl (.ret rfl)
theorem aaG(x y:KT):T (λn=>wI n (KL [x,y])) (rQ (l6 x y none)):=by refine .step aau (.gx rfl (.ask (Q':=(.=aS none)) (.step Nv (.ask zD λu hu=>.ret hu)) λu hu=>.gx rfl ?_));subst hu;match x with|some (.set a)=>exact .pos rfl (.ask (vG _ [y] (by simp)) λz hz=>.ret (rI (by simp_all)))|none=>exact .neg rfl (.ret rfl)|some .int=>exact .neg rfl (.ret rfl)|some (.dV _)=>exact .neg rfl (.ret rfl)|some (.pair _ _)=>exact .neg rfl (.ret rfl)
theorem aaH(x y:KT):T (λn=>wJ n (KL [x,y])) (rQ (Au x y)):=by
 refine .step YX (.gx rfl (.gx rfl (.ask (Q':=(.=(4,bs [],[aR (aS x),aR (aS y)]))) (.step Ao (.ret rfl)) λu hu=>.gx rfl ?_)))
 subst hu
 have nb:∀a:Ty,((aS (some a)).1 !=2)=true:=λa=>by cases a<;>rfl
 match x,y with|none,_=>exact .neg rfl (.ret (by unfold Au;rfl))|some a,none=>exact .pos (nb a) (.gx rfl (.ret rfl))|some a,some b=>exact .pos (nb a) (.gx rfl (.ret (by show _=aC _ _;rw[<-nb b];rfl)))
theorem aaI(x:KT)(l:List KT)(hl:l.length<=9999):T (λn=>wK n (KL (x::l))) (rQ (GJ x l)):=by refine .step Zf (.gx rfl (.ask (Q':=(.=(5,bs [],[aR (aS x)]))) (.step yN (.ret rfl)) λu hu=>.ask (vG x l hl) λz hz=>.ret ?_));subst hu;match x with|none=>show z=false;grind|some a=>exact rI (t:=some (.set a)) (by grind)
theorem aaJ(x y:KT):T (λn=>wL n (KL [x,y])) (rQ (rC x y)):=by
 refine .step Z8 (.gx rfl (.ask (ji x) λu hu=>.gx rfl (.ask (ji y) λv hv=>?_)))
 subst hu;subst hv
 unfold rC
 split
 .exact .neg rfl (.neg rfl (.ask (zE _ _) λz hz=>.ret (by subst hz;rfl)))
 .rename_i h
  unfold nV
  split
  .split
   .grind
   .exact .neg rfl (.pos rfl (.ret rfl))
  .exact .pos rfl (.ret rfl)
theorem vb(x y:KT):T (λn=>gH n (KL [x,y])) (rQ (qf x y)):=by
 refine .step Wh (.gx rfl (.ask (ji x) λu hu=>.gx rfl (.ask (ji y) λv hv=>?_)))
 subst hu;subst hv
 unfold qf
 split
 .exact .neg rfl (.neg rfl (.ask (X2 _ _) λz hz=>.ret (by subst hz;rfl)))
 .rename_i h
  unfold nV
  split
  .split
   .grind
   .exact .neg rfl (.pos rfl (.ret rfl))
  .exact .pos rfl (.ret rfl)
theorem py{G:Nat->Rows->Option KB}{H:Nat->cd->cd->Rows->Option KB}{o:Option KT}{x:KT}{l:List KT}(h:∀n a,G (n+1) a=ab a 0 λj=>ask (jt n (ah j 0)) λc=>aa (!c.2.2.2.2.2.2) (some (0,bs [],[],false)) (ask (H n (ae c) (ae c.2.2.2) a) λi=>some i))
 (h1:∀a b,x=some (.set (.pair a b))->T (λn=>H n (enc a) (enc b) (KL (x::l))) (rQ o))(h2:(∀a b,x≠some (.set (.pair a b)))->o=none):T (λn=>G n (KL (x::l))) (rQ o):=by
 refine .step (λn=>h n _) (.gx rfl (.ask (Ey x) λu hu=>?_))
 subst hu
 unfold Cc
 split
 .rename_i a b;exact .neg rfl (.ask (h1 a b rfl) λz hz=>.ret hz)
 .rename_i hn;rw[h2 hn];exact .pos rfl (.ret rfl)
theorem aaK(x y:KT):T (λn=>wM n (KL [x,y])) (rQ (tI x y)):=py (λn a=>@aav a n) (λa b e=>by subst e;exact .step aax (.gx rfl (.ask (vG _ [y] (by simp)) λz hz=>.ret (rI (by simp_all))))) λh=>by simp_all[tI]
theorem WL(x y:KT):T (λn=>vt n (KL [x,y])) (rQ (l7 x y)):=py (λn a=>@VT a n) (λa b e=>by
 subst e
 refine .step Y0 (.gx rfl (.ask (Ey y) λv hv=>?_))
 subst hv
 unfold Cc
 split
 .rename_i c d;exact .ask (zE a d) λz hz=>hz▸.pos rfl (.ask (oT (some b) (some c)) λw hw=>.ret (rI (t:=some (.set (.pair a d))) (by grind)))
 .rename_i h
  have:l7 (some (.set (.pair a b))) y=none:=by simp_all[l7]
  rw[this];.exact .ask (Q':=λ_=>True) (.step E6 (.ask (Q':=λ_=>True) (.step Ao (.ret trivial)) λ_ _=>.ask (Q':=λ_=>True) (.step yN (.ret trivial)) λ_ _=>.ret trivial)) λ_ _=>.neg rfl (.ret rfl)) λh=>by simp_all[l7]
theorem ND(x y:KT):T (λn=>po n (KL [x,y])) (rQ (nC x y)):=by
 refine .step Zg (.gx rfl (.ask (ji x) λu hu=>.gx rfl (.ask (Ey y) λv hv=>.gx rfl ?_)))
 subst hu;subst hv
 unfold nC
 split
 .rename_i s a b;exact .pos rfl (.pos rfl (.ask (oT (some s) (some a)) λz hz=>.ret (rI (t:=some (.set (.pair a b))) (by grind))))
 .rename_i h
  unfold nV
  split
  .unfold Cc
   split
   .grind
   .exact .pos rfl (.neg rfl (.ret rfl))
  .exact .neg rfl (.ret rfl)
theorem LI(x y:KT):T (λn=>oQ n (KL [x,y])) (rQ (nD x y)):=py (λn a=>@V8 a n) (λa b e=>by
 subst e
 refine .step Zj (.gx rfl (.ask (ji y) λv hv=>.gx rfl ?_))
 subst hv
 unfold nD
 split
 .rename_i s e1;cases e1;exact .pos rfl (.ask (oT (some s) (some b)) λz hz=>.ret (rI (t:=some (.set (.pair a b))) (by grind)))
 .rename_i h
  unfold nV
  split
  .grind
  .exact .neg rfl (.ret rfl)) λh=>by simp_all[nD]
theorem GL{G:Nat->Rows->Option KB}{H:Nat->cd->Option KB}{o:Option KT}{x:KT}(h:∀n a,G (n+1) a=ab a 0 λj=>ask (fK n (ah j 0)) λc=>aa (!c.2.2.2) (some (0,bs [],[],false)) (ask (H n (ae c)) λi=>some i))
 (h1:∀a,x=some (.set a)->T (λn=>H n (enc a)) (rQ o))(h2:(∀a,x≠some (.set a))->o=none):T (λn=>G n (KL [x])) (rQ o):=by
 refine .step (λn=>h n _) (.gx rfl (.ask (ji x) λu hu=>?_))
 subst hu
 unfold nV
 split
 .rename_i a;exact .neg rfl (.ask (h1 a rfl) λz hz=>.ret hz)
 .rename_i hn;rw[h2 hn];exact .pos rfl (.ret rfl)
theorem aaL(x:KT):T (λn=>wN n (KL [x])) (rQ (wU x)):=GL (λn a=>@Z9 a n) (λa e=>by subst e;exact .step ZW (.ask (oU a) λz hz=>hz▸.ask (oU _) λw hw=>.ret (by subst hw;rfl))) λh=>by simp_all[wU]
theorem WM(x:KT):T (λn=>vu n (KL [x])) (rQ (wh x)):=GL (λn a=>@Wz a n) (λa e=>by subst e;exact .step aad (.ask ML λz hz=>.ret (by subst hz;rfl))) λh=>by simp_all[wh]
theorem LJ(x:KT):T (λn=>oR n (KL [x])) (rQ (rX x)):=GL (λn a=>@VU a n) (λa e=>by subst e;exact .step aay (.ask ML λz hz=>.ret (by subst hz;cases a<;>rfl))) λh=>by simp_all[rX]
theorem WN(x:KT):T (λn=>vv n (KL [x])) (rQ (tV x)):=py (λn a=>@VZ a n) (λa b e=>by subst e;exact .step Y1 (.ask (oU a) λz hz=>.ret (by subst hz;rfl))) λh=>by simp_all[tV]
theorem WO(x:KT):T (λn=>vw n (KL [x])) (rQ (tW x)):=py (λn a=>@V9 a n) (λa b e=>by subst e;exact .step Zk (.ask (oU b) λz hz=>.ret (by subst hz;rfl))) λh=>by simp_all[tW]
theorem WQ(x:KT):T (λn=>vx n (KL [x])) (rQ (tX x)):=py (λn a=>@Wi a n) (λa b e=>by subst e;exact .step ZD (.ask (zE b a) λz hz=>.ret (by subst hz;rfl))) λh=>by simp_all[tX]
theorem WR(x y:KT):T (λn=>vy n (KL [x,y])) (rQ (px x y)):=py (λn a=>@Wv a n) (λa b e=>by
 subst e
 refine .step ZX (.gx rfl (.ask (ji y) λv hv=>.ask (oU b) λw hw=>?_))
 subst hv;subst hw
 unfold px
 split
 .rename_i s e1;cases e1;exact .pos rfl (.ask (oT (some s) (some a)) λz hz=>.ret (rI (t:=some (.set b)) (by grind)))
 .rename_i h
  unfold nV
  split
  .grind
  .exact .neg rfl (.ret rfl)) λh=>by simp_all[px]
theorem WS(x y:KT):T (λn=>vz n (KL [x,y])) (rQ (tY x y)):=py (λn a=>@WA a n) (λa b e=>by subst e;exact .step aae (.gx rfl (.ask (oT y (some a)) λz hz=>.ret (rI (t:=some b) hz)))) λh=>by simp_all[tY]
theorem aaM(a:Ty)(y:KT):T (λn=>wO n (KL [some (.set a),y])) (rQ (GK a y)):=by
 refine .step Zh (.gx rfl (.ask (ji _) λu hu=>.gx rfl ?_))
 subst hu
 refine .ask (Q':=(.=(5,bs [],[aR (4,bs [],[aR (enc a),aR (aS y)])]))) (.step E6 (.ask (Q':=(.=(4,bs [],[aR (enc a),aR (aS y)]))) (.step Ao (.ret rfl)) λv hv=>.ask (Q':=(.=(5,bs [],[aR v]))) (.step yN (.ret rfl)) λw hw=>.ret (by rw[hw,hv]))) λv hv=>?_
 subst hv
 refine .pos rfl (.gx rfl (.ret ?_))
 match y with
 |none=>rfl
 |some b=>have nb:((aS (some b)).1 !=2)=true:=by cases b<;>rfl
          show _=aC _ _;rw[<-nb];rfl
inductive cM:Int->List KT->Option KT->Prop|tf{op:Int}:1<=op->op<=2->cM op [] (some none)|num:cM 19 [] (some (some .int))|nt(x:KT):cM 3 [x] (lF [x] none none)|log{op:Int}(x y:KT):4<=op->op<=7->cM op [x,y] (lF [x,y] none none)|qu{op:Int}(a:Ty)(y:KT):8<=op->op<=9->cM op [some (.set a),y] (wg y none)|eq{op:Int}(x y:KT):10<=op->op<=11->cM op [x,y] (Fa x y)|ord{op:Int}(x y:KT):12<=op->op<=15->cM op [x,y] (lF [x,y] (some .int) none)|mem{op:Int}(x y:KT):16<=op->op<=17->cM op [x,y] (uu x y)|sub(x y:KT):cM 18 [x,y] (l6 x y none)|neg(x:KT):cM 21 [x] (lF [x] (some .int) (some .int))|ar{op:Int}(x y:KT):22<=op->op<=26->cM op [x,y] (lF [x,y] (some .int) (some .int))|pair(x y:KT):cM 27 [x,y] (Au x y)|set(x:KT)(l:List KT):cM 28 (x::l) (GJ x l)|range(x y:KT):cM 30 [x,y] (lF [x,y] (some .int) (some (.set .int)))|un{op:Int}(x y:KT):31<=op->op<=33->cM op [x,y] (l6 x y x)|prod(x y:KT):cM 34 [x,y] (rC x y)|over(x y:KT):cM 35 [x,y] (tI x y)|comp(x y:KT):cM 36 [x,y] (l7 x y)|GM{op:Int}(x y:KT):37<=op->op<=38->cM op [x,y] (nC x y)|GN{op:Int}(x y:KT):39<=op->op<=40->cM op [x,y] (nD x y)|fn{op:Int}(x y:KT):41<=op->op<=45->cM op [x,y] (qf x y)|pow(x:KT):cM 46 [x] (wU x)|card(x:KT):cM 47 [x] (wh x)|mn{op:Int}(x:KT):48<=op->op<=49->cM op [x] (rX x)|Hf(x:KT):cM 50 [x] (tV x)|Hg(x:KT):cM 51 [x] (tW x)|inv(x:KT):cM 52 [x] (tX x)|Hh(x y:KT):cM 53 [x,y] (px x y)|app(x y:KT):cM 54 [x,y] (tY x y)|Fc(a:Ty)(y:KT):cM 55 [some (.set a),y] (wg y (some (.set a)))|lam(a:Ty)(y:KT):cM 56 [some (.set a),y] (GK a y)
theorem nf:T (λn=>lC n) (.=aS none):=.step Y4 (.ret rfl)
theorem nh:T (λn=>lB n) (.=enc .int):=.step aaf (.ret rfl)
theorem fW(x:cd):T (λn=>eT n x) (.=(5,bs [],[aR x])):=.step Zl (.ret rfl)
theorem vH(x y:cd):T (λn=>pq n x y) (.=(4,bs [],[aR x,aR y])):=.step Y3 (.ret rfl)
def lH(x:KT):Bool:=match x with|some (.set _)=>true|_=>false
def xl(x:KT):Bool:=match x with|some (.set (.pair _ _))=>true|_=>false
theorem uv(a:Ty):((enc a).1 !=2)=true:=by cases a<;>rfl
theorem vI{x:KT}(h:lH x=true):∃a,x=some (.set a):=by unfold lH at h;grind
theorem vJ{x:KT}(h:xl x=true):∃a b,x=some (.set (.pair a b)):=by unfold xl at h;grind
theorem vK{x:KT}(h:lH x=false):∀a,x≠some (.set a):=λa e=>by subst e;cases h
theorem EA{x:KT}(h:xl x=false):∀a b,x≠some (.set (.pair a b)):=λa b e=>by subst e;cases h
theorem kQ(x:KT):T (λn=>jr n (aS x)) (.=lH x):=by refine .step aaa ?_;match x with|none=>exact .neg rfl (.ret rfl)|some .int=>exact .neg rfl (.ret rfl)|some (.dV _)=>exact .neg rfl (.ret rfl)|some (.pair _ _)=>exact .neg rfl (.ret rfl)|some (.set a)=>exact .pos rfl (.gx rfl (.ret (uv a)))
theorem vL(x:KT):T (λn=>tS n (aS x)) (.=xl x):=by refine .step Y5 ?_;match x with|none=>exact .neg rfl (.ret rfl)|some .int=>exact .neg rfl (.ret rfl)|some (.dV _)=>exact .neg rfl (.ret rfl)|some (.pair _ _)=>exact .neg rfl (.ret rfl)|some (.set .int)=>exact .pos rfl (.gx rfl (.ret rfl))|some (.set (.dV _))=>exact .pos rfl (.gx rfl (.ret rfl))|some (.set (.set _))=>exact .pos rfl (.gx rfl (.ret rfl))|some (.set (.pair _ _))=>exact .pos rfl (.gx rfl (.ret rfl))
theorem rl(a b:Ty):T (λn=>lD n (enc (.set (.pair a b)))) (.=enc b):=.step Zn (.gx rfl (.gx rfl (.ret rfl)))
theorem rm(a b:Ty):T (λn=>lE n (enc (.set (.pair a b)))) (.=enc a):=.step ZG (.gx rfl (.gx rfl (.ret rfl)))
theorem vM(l:List KT)(hl:l.length<=9999)(t:KT):T (λn=>rV n (KL l) (aS t)) λb=>b=true↔∀x,x∈l->x=t:=by
 have j:(KL l).length=l.length:=by unfold KL;simp
 refine .step aaA ?_
 refine T.loop (σ:=Unit) (L:=λi _ n=>zy n (KL l) i (aS t)) l.length (λi _=>∀x,x∈l.take i->x=t) ?_ ?_ () (by simp)
 .intro _ hs;rw[List.take_length]at hs;exact .step LH (.neg (by simp[j]) (.ret ⟨λ_=>hs,λ_=>rfl⟩))
 .intro i _ hi hs ih
  refine .step LH (.pos (by grind) (.ab (by omega) (by omega) λr hr=>?_))
  obtain⟨x,hx,rfl⟩:=Ez (show(KL l)[i]?=some r by grind)
  refine .ask (jh x t) λb hb=>.ite (λc=>.ret ?_) λc=>?_
  .exact⟨(λe=>by cases e),λe=>by rw[hb.2 (e x (List.mem_of_getElem? hx))]at c;cases c⟩
  .rw[bA (by omega) (by omega)];refine ih () λy hy=>?_;grind[List.take_add_one,cF]
theorem xm(x:KT):((aS x).1 !=2)=true↔x≠none:=by cases x with|none=>simp[fR]|some a=>exact⟨λ_=>by simp,λ_=>uv a⟩
theorem sL(l:List KT)(hl:l.length<=9999)(u v):T (λn=>oB n (KL l) u v) (rQ (lF l (some .int) (some .int))):=.step Us (.ask nh λx hx=>.ask nh λy hy=>hy▸.ask (vM l hl (some .int)) λb hb=>.ret (hx▸rI (t:=some .int) hb))
theorem Kq(x:KT)(u v):T (λn=>yF n (KL [x]) u v) (rQ (rX x)):=.step Uj (.ask nh λy hy=>.gx rfl (.ask nh λz hz=>hz▸.ask (fW _) λw hw=>hw▸.ask (jh x (some (.set .int))) λb hb=>.ret (by
 subst hy
 cases b with
 |true=>rw[hb.1 rfl];rfl
 |false=>
  have:rX x=none:=by simp_all[rX]
  rw[this];rfl)))
theorem DA(x y:KT)(u v):T (λn=>u6 n (KL [x,y]) u v) (rQ (l6 x y x)):=by
 refine .step UA (.gx rfl (.gx rfl (.ask (kQ x) λb hb=>.ite (λc=>?_) λc=>.ret ?_)))
 .obtain⟨a,rfl⟩:=vI (hb▸c);exact .gx rfl (.gx rfl (.ask (jh _ y) λz hz=>.ret (rI (t:=some (.set a)) (hz.trans eq_comm))))
 .have h:=vK (hb▸c)
  unfold l6;split
  .grind
  .rfl
theorem Kr(t:b6)(x y:KT)(u v):T (λn=>mP n (KL [x,y]) t u v) (rQ (if t.1=34 then rC x y else qf x y)):=by
 refine .step Ur (.gx rfl (.ask (kQ x) λb hb=>.ite (λc=>.ret ?_) λc=>.gx rfl (.ask (kQ y) λd hd=>.ite (λc2=>.ret ?_) λc2=>?_)))
 .simp_all[vK,gN,rC,qf]
 .simp_all[vK,gN,rC,qf]
 .obtain⟨a,rfl⟩:=vI (hb▸cF c)
  obtain⟨e,rfl⟩:=vI (hd▸cF c2)
  refine .gx rfl (.gx rfl (.gx rfl (.gx rfl (.ask (vH _ _) λp hp=>hp▸.ask (fW _) λq hq=>hq▸.ite (λc3=>?_) λc3=>.ret ?_))))
  .rw[if_neg (ml c3)];exact .ask (fW _) λz hz=>.ret (by subst hz;rfl)
  .rw[if_pos (mj c3)];rfl
theorem uV(l:List KT)(hl:l.length<=9999)(u v):T (λn=>qQ n (KL l) u v) (rQ (lF l none none)):=.step Uu (.ask nf λx hx=>.ask nf λy hy=>hy▸.ask (vM l hl none) λb hb=>.ret (hx▸rI hb))
theorem yp(l:List KT)(hl:l.length<=9999)(u v):T (λn=>sX n (KL l) u v) (rQ (lF l (some .int) none)):=.step Ut (.ask nf λx hx=>.ask nh λy hy=>hy▸.ask (vM l hl (some .int)) λb hb=>.ret (hx▸rI hb))
theorem Ks(a:Ty)(y:KT)(u v):T (λn=>yK n (KL [some (.set a),y]) u v) (rQ (wg y none)):=.step Ul (.ask nf λx hx=>.gx rfl (.ask (kQ (some (.set a))) λb hb=>.pos hb (.gx rfl (.ret (hx▸rI (kb y))))))
theorem Kt(x y:KT)(u v):T (λn=>yJ n (KL [x,y]) u v) (rQ (Fa x y)):=.step UB (.ask nf λz hz=>hz▸.gx rfl (.ite (λc=>.gx rfl (.gx rfl (.ask (jh x y) λb hb=>.ret (rI (by rw[hb];exact⟨λe=>⟨(xm x).1 c,e.symm⟩,λe=>e.2.symm⟩))))) λc=>.ret (rN (λe=>by have:=(xm x).2 e.1;exact absurd (this.symm.trans c) (by simp)) rfl)))
theorem Ku(x y:KT)(u v):T (λn=>yH n (KL [x,y]) u v) (rQ (uu x y)):=by
 refine .step Uk (.ask nf λz hz=>hz▸.gx rfl (.ite (λc=>?_) λc=>.ret ?_))
 .obtain⟨a,rfl⟩:=Option.ne_none_iff_exists'.1 ((xm x).1 c)
  refine .gx rfl (.ask (fW _) λw hw=>hw▸.gx rfl (.ask (jh (some (.set a)) y) λb hb=>.ret ?_))
  unfold uu
  split
  .exact rI (by grind)
  .rename_i h;show b=false;grind
 .have hx:x=none:=by cases x with|none=>rfl|some a=>exact absurd ((uv a).symm.trans c) (by simp)
  subst hx
  unfold uu;split
  .exact rN (by simp) rfl
  .rfl
theorem ab5(x y:KT)(u v):T (λn=>yI n (KL [x,y]) 18 u v) (rQ (l6 x y none)):=by
 refine .step Uo (.pos rfl (.ask nf λz hz=>hz▸.gx rfl (.ask (kQ x) λb hb=>.ite (λc=>?_) λc=>.ret ?_)))
 .obtain⟨a,rfl⟩:=vI (hb▸c);exact .gx rfl (.gx rfl (.ask (jh _ y) λz hz=>.ret (rI (hz.trans eq_comm))))
 .have h:=vK (hb▸c)
  unfold l6;split
  .grind
  .rfl
theorem Kv(a b:Ty)(y:KT)(u v):T (λn=>sZ n (KL [y,some (.set (.pair a b))]) u (enc (.set (.pair a b))) v) (rQ (nC y (some (.set (.pair a b))))):=by
 refine .step UC (.gx rfl (.ask (rm a b) λz hz=>hz▸.ask (fW _) λw hw=>hw▸.ask (jh y (some (.set a))) λe he=>.ret ?_))
 unfold nC
 split
 .rename_i s a' b' h1;cases h1;exact rI (t:=some (.set (.pair a b))) (by grind)
 .rename_i h;show e=false;grind
theorem Kw(a b:Ty)(y:KT)(u v):T (λn=>yL n (KL [some (.set (.pair a b)),y]) u (enc (.set (.pair a b))) v) (rQ (nD (some (.set (.pair a b))) y)):=by
 refine .step Uv (.gx rfl (.ask (rl a b) λz hz=>hz▸.ask (fW _) λw hw=>hw▸.ask (jh y (some (.set b))) λe he=>.ret ?_))
 unfold nD
 split
 .rename_i a' b' s h1;cases h1;exact rI (t:=some (.set (.pair a b))) (by grind)
 .rename_i h;show e=false;grind
theorem GO{x:KT}{o:Option KT}{z:Bool}(h2:(∀a b,x≠some (.set (.pair a b)))->o=none)(hz:z=xl x)(c:(!z)=true):rQ o (0,bs [],[],false):=by rw[h2 (EA (hz▸gN c))]
theorem aaN(x y:KT):T (λn=>iV n 35 (KL [x,y])) (rQ (tI x y)):=by
 refine .step wb (.gx rfl (.neg rfl (.neg rfl (.ask (vL x) λb hb=>.ite (λc=>.ret (GO (λh=>?_) hb c)) λc=>?_))))
 .simp_all[tI]
 .obtain⟨a,b,rfl⟩:=vJ (hb▸cF c);exact .pos rfl (.gx rfl (.ask (jh _ y) λz hz=>.ret (rI (t:=some (.set (.pair a b))) (hz.trans eq_comm))))
theorem aaO(x y:KT):T (λn=>iV n 36 (KL [x,y])) (rQ (l7 x y)):=by
 refine .step wb (.gx rfl (.neg rfl (.neg rfl (.ask (vL x) λb hb=>.ite (λc=>.ret (GO (λh=>?_) hb c)) λc=>?_))))
 .simp_all[l7]
 .obtain⟨a,b,rfl⟩:=vJ (hb▸cF c)
  refine .neg rfl (.pos rfl (.gx rfl (.ask (vL y) λu hu=>.ite (λc=>.ret ?_) λc=>?_)))
  .simp_all[EA,gN,l7]
  .obtain⟨c,d,rfl⟩:=vJ (hu▸cF c)
   refine .ask (rl a b) λp hp=>hp▸.gx rfl (.ask (rm c d) λq hq=>hq▸.ask (jh (some b) (some c)) λz hz=>.ite (λe=>.ret (rN (λq=>by grind) rfl)) λe=>.ask (rm a b) λp hp=>hp▸.gx rfl (.ask (rl c d) λq hq=>hq▸.ask (vH _ _) λr hr=>hr▸.ask (fW _) λs hs=>hs▸.ret ?_))
   have e:=hz.1 (cF e)
   have e:b=c:=by grind
   have:l7 (some (.set (.pair a b))) (some (.set (.pair c d)))=some (some (.set (.pair a d))):=by show ft (b=c) _=_;unfold ft;grind
   rw[this];rfl
theorem aaP{op:Int}(i:op=37\/op=38)(x y:KT):T (λn=>iV n op (KL [x,y])) (rQ (nC x y)):=by
 have key:T (λn=>zz n op (KL [x,y]) (0,bs []) (0,bs []) (aS x) [] []) (rQ (nC x y)):=by
  refine .step V3 (.gx rfl (.ask (vL y) λu hu=>.ite (λc=>.ret ?_) λc=>?_))
  .have h:=EA (hu▸gN c)
   unfold nC;split
   .grind
   .rfl
  .obtain⟨c,d,rfl⟩:=vJ (hu▸cF c)
   rcases i with rfl|rfl
   .exact .neg rfl (.neg rfl (.pos rfl (.pos rfl (Kv c d x _ _))))
   .exact .neg rfl (.neg rfl (.neg rfl (.pos rfl (Kv c d x _ _))))
 rcases i with rfl|rfl
 .exact .step wb (.gx rfl (.pos rfl key))
 .exact .step wb (.gx rfl (.neg rfl (.pos rfl key)))
theorem OT{op:Int}(h:39<=op){l:List KT}{x:KT}{o:Option KT}(h1:∀a b,x=some (.set (.pair a b))->T (λn=>s0 n (KL (x::l)) op (0,bs []) (0,bs []) (enc (.set (.pair a b))) [] []) (rQ o))(h2:(∀a b,x≠some (.set (.pair a b)))->o=none):T (λn=>iV n op (KL (x::l))) (rQ o):=by
 have d:∀k:Int,k<39->(op==k)=false:=λk hk=>by grind
 refine .step wb (.gx rfl (.neg (d _ (by omega)) (.neg (d _ (by omega)) (.ask (vL x) λb hb=>.ite (λc=>.ret (GO h2 hb c)) λc=>?_))));obtain⟨a,b,rfl⟩:=vJ (hb▸cF c);exact .neg (d _ (by omega)) (.neg (d _ (by omega)) (.neg (d _ (by omega)) (.neg (d _ (by omega)) (h1 a b rfl))))
theorem aaQ{op:Int}(c:op=39\/op=40)(x y:KT):T (λn=>iV n op (KL [x,y])) (rQ (nD x y)):=OT (by omega) (λa b e=>by
 subst e
 rcases c with rfl|rfl
 .exact .step Dv (.pos rfl (.pos rfl (Kw a b y _ _)))
 .exact .step Dv (.neg rfl (.pos rfl (Kw a b y _ _)))) λh=>by simp_all[nD]
theorem wV{op:Int}(h:50<=op){l:List KT}{x:KT}{o:Option KT}(h1:∀a b,x=some (.set (.pair a b))->T (λn=>yM n (KL (x::l)) op (0,bs []) (0,bs []) (enc (.set (.pair a b))) [] []) (rQ o))(h2:(∀a b,x≠some (.set (.pair a b)))->o=none):T (λn=>iV n op (KL (x::l))) (rQ o):=OT (by omega) (λa b e=>.step Dv (.neg (by simp;omega) (.neg (by simp;omega) (h1 a b e)))) h2
theorem ab6(x:KT):T (λn=>iV n 50 (KL [x])) (rQ (tV x)):=wV (by omega) (λa b e=>by subst e;exact .step uU (.pos rfl (.ask (rm a b) λp hp=>hp▸.ask (fW _) λq hq=>hq▸.ret rfl))) λh=>by simp_all[tV]
theorem ab7(x:KT):T (λn=>iV n 51 (KL [x])) (rQ (tW x)):=wV (by omega) (λa b e=>by subst e;exact .step uU (.neg rfl (.pos rfl (.ask (rl a b) λp hp=>hp▸.ask (fW _) λq hq=>hq▸.ret rfl)))) λh=>by simp_all[tW]
theorem ab8(x:KT):T (λn=>iV n 52 (KL [x])) (rQ (tX x)):=wV (by omega) (λa b e=>by subst e;exact .step uU (.neg rfl (.neg rfl (.pos rfl (.ask (rl a b) λp hp=>hp▸.ask (rm a b) λq hq=>hq▸.ask (vH _ _) λr hr=>hr▸.ask (fW _) λs hs=>hs▸.ret rfl))))) λh=>by simp_all[tX]
theorem ab9(x y:KT):T (λn=>iV n 53 (KL [x,y])) (rQ (px x y)):=wV (by omega) (λa b e=>by
 subst e
 refine .step uU (.neg rfl (.neg rfl (.neg rfl (.pos rfl (.ask (rl a b) λp hp=>hp▸.ask (fW _) λq hq=>hq▸.gx rfl (.ask (rm a b) λr hr=>hr▸.ask (fW _) λs hs=>hs▸.ask (jh y (some (.set a))) λz hz=>.ret ?_))))))
 unfold px;split
 .rename_i s e1;cases e1;exact rI (t:=some (.set b)) (by grind)
 .rename_i h;show z=false;grind) λh=>by simp_all[px]
theorem aca(x y:KT):T (λn=>iV n 54 (KL [x,y])) (rQ (tY x y)):=wV (by omega) (λa b e=>by subst e;exact .step uU (.neg rfl (.neg rfl (.neg rfl (.neg rfl (.pos rfl (.ask (rl a b) λp hp=>hp▸.gx rfl (.ask (rm a b) λr hr=>hr▸.ask (jh y (some a)) λz hz=>.ret (rI (t:=some b) hz))))))))) λh=>by simp_all[tY]
section
variable (t':ByteArray×Int×Int×ByteArray×Rows×Rows)
theorem nO{op:Int}{K:Rows}{Q:KB->Prop}(h0:op≠19/\(op<21\/26<op))(h:∀u v,T (λn=>oC n K op (op,t') u v) Q):T (λn=>lA n (op,t') K) Q:=by
 have d:∀k:Int,(k=19\/(21<=k/\k<=26))->(op==k)=false:=λk hk=>by grind
 exact .step Ap (.neg (d _ (by omega)) (.neg (d _ (by omega)) (.neg (d _ (by omega)) (.neg (d _ (by omega)) (.neg (d _ (by omega)) (.neg (d _ (by omega)) (.neg (d _ (by omega)) (h _ _))))))))
theorem GP{op:Int}{K:Rows}{Q:KB->Prop}(h0:op≠19/\(op<21\/30<op)/\(op<47\/49<op)/\op≠55/\op≠56)(h:∀u v,T (λn=>yG n K op (op,t') u v) Q):T (λn=>lA n (op,t') K) Q:=by
 have d:∀k:Int,((27<=k/\k<=30)\/(47<=k/\k<=49)\/k=55\/k=56)->(op==k)=false:=λk hk=>by grind
 exact nO t' (by omega) λu v=>.step mI (.neg (d _ (by omega)) (.neg (d _ (by omega)) (.neg (d _ (by omega)) (.neg (d _ (by omega)) (.neg (d _ (by omega)) (.neg (d _ (by omega)) (.neg (d _ (by omega)) (.neg (d _ (by omega)) (.neg (d _ (by omega)) (h _ _))))))))))
theorem GQ{op:Int}{K:Rows}{Q:KB->Prop}(h0:op≠19/\(op<21\/33<op)/\(op<46\/49<op)/\op≠55/\op≠56)(h:∀u v,T (λn=>u7 n K op (op,t') u v) Q):T (λn=>lA n (op,t') K) Q:=by
 have d:∀k:Int,(k=46\/(31<=k/\k<=33))->(op==k)=false:=λk hk=>by grind
 exact GP t' (by omega) λu v=>.step Dw (.neg (d _ (by omega)) (.neg (d _ (by omega)) (.neg (d _ (by omega)) (.neg (d _ (by omega)) (h _ _)))))
theorem OU{op:Int}{K:Rows}{Q:KB->Prop}(h0:op≠19/\(op<21\/34<op)/\(op<41\/49<op)/\op≠55/\op≠56)(h:∀u v,T (λn=>oA n K (op,t') u v) Q):T (λn=>lA n (op,t') K) Q:=by
 have d:∀k:Int,(k=34\/(41<=k/\k<=45))->(op==k)=false:=λk hk=>by grind
 exact GQ t' (by omega) λu v=>.step Dt (.neg (d _ (by omega)) (.neg (d _ (by omega)) (.neg (d _ (by omega)) (.neg (d _ (by omega)) (.neg (d _ (by omega)) (.neg (d _ (by omega)) (h _ _)))))))
theorem o3{op:Int}{K:Rows}{o:Option KT}(h0:op≠19/\op<21)(h:T (λn=>Gs n op K) (rQ o)):T (λn=>lA n (op,t') K) (rQ o):=OU t' (by omega) λu v=>.step Kl (.pos (b9 (by grind)) (.ask h λz hz=>.ret hz))
theorem nE{op:Int}{K:Rows}{o:Option KT}(h0:34<op/\op≠55/\op≠56/\(op<41\/49<op))(h:T (λn=>iV n op K) (rQ o)):T (λn=>lA n (op,t') K) (rQ o):=OU t' (by omega) λu v=>.step Kl (.neg (fy (by grind)) (.ask h λz hz=>.ret hz))
theorem NH{op:Int}{l:List KT}{o:Option KT}(h:cM op l o)(hl:l.length<=9999):T (λn=>lA n (op,t') (KL l)) (rQ o):=by
 have d1:∀k:Int,op≠k->(op==k)=false:=λk hk=>by grind
 cases h with
 |tf a b=>
  refine o3 t' (by omega) ?_
  rcases(by omega:op=1\/op=2)with rfl|rfl
  .exact .step nz (.pos rfl (.pos rfl (.ask nf λx hx=>.ret (hx▸rfl))))
  .exact .step nz (.neg rfl (.pos rfl (.ask nf λx hx=>.ret (hx▸rfl))))
 |num=>exact .step Ap (.pos rfl (.ask nh λx hx=>.ret (hx▸rfl)))
 |nt x=>exact o3 t' (by omega) (.step nz (.neg rfl (.neg rfl (.step qW (.pos rfl (.pos rfl (uV _ hl _ _)))))))
 |log x y a b=>refine o3 t' (by omega) (.step nz (.neg (by simp;omega) (.neg (by simp;omega) (.step qW (.neg (by simp;omega) ?_)))));exact .ite (λc=>.pos c (uV _ hl _ _)) λc1=>.ite (λc=>.pos c (uV _ hl _ _)) λc2=>.ite (λc=>.pos c (uV _ hl _ _)) λc3=>.pos (by grind) (uV _ hl _ _)
 |qu a y c1 c2=>refine o3 t' (by omega) (.step nz (.neg (by simp;omega) (.neg (by simp;omega) (.step qW (.neg (by simp;omega) (.neg (by simp;omega) (.neg (by simp;omega) (.neg (by simp;omega) (.neg (by simp;omega) (.step uT ?_))))))))));exact .ite (λc=>.pos c (Ks _ _ _ _)) λc3=>.pos (by grind) (Ks _ _ _ _)
 |eq x y c1 c2=>refine o3 t' (by omega) (.step nz (.neg (d1 _ (by omega)) (.neg (d1 _ (by omega)) (.step qW (.neg (d1 _ (by omega)) (.neg (d1 _ (by omega)) (.neg (d1 _ (by omega)) (.neg (d1 _ (by omega)) (.neg (d1 _ (by omega)) (.step uT (.neg (d1 _ (by omega)) (.neg (d1 _ (by omega)) (.step yn ?_)))))))))))));exact .ite (λc=>.pos c (Kt _ _ _ _)) λc3=>.pos (by grind) (Kt _ _ _ _)
 |ord x y c1 c2=>refine o3 t' (by omega) (.step nz (.neg (d1 _ (by omega)) (.neg (d1 _ (by omega)) (.step qW (.neg (d1 _ (by omega)) (.neg (d1 _ (by omega)) (.neg (d1 _ (by omega)) (.neg (d1 _ (by omega)) (.neg (d1 _ (by omega)) (.step uT (.neg (d1 _ (by omega)) (.neg (d1 _ (by omega)) (.step yn (.neg (d1 _ (by omega)) (.neg (d1 _ (by omega)) (.step Du ?_))))))))))))))));exact .ite (λc=>.pos c (yp _ hl _ _)) λc1=>.ite (λc=>.pos c (yp _ hl _ _)) λc2=>.ite (λc=>.pos c (yp _ hl _ _)) λc3=>.pos (by grind) (yp _ hl _ _)
 |mem x y c1 c2=>refine o3 t' (by omega) (.step nz (.neg (d1 _ (by omega)) (.neg (d1 _ (by omega)) (.step qW (.neg (d1 _ (by omega)) (.neg (d1 _ (by omega)) (.neg (d1 _ (by omega)) (.neg (d1 _ (by omega)) (.neg (d1 _ (by omega)) (.step uT (.neg (d1 _ (by omega)) (.neg (d1 _ (by omega)) (.step yn (.neg (d1 _ (by omega)) (.neg (d1 _ (by omega)) (.step Du (.neg (d1 _ (by omega)) (.neg (d1 _ (by omega)) (.neg (d1 _ (by omega)) (.neg (d1 _ (by omega)) (.step Km ?_)))))))))))))))))))));exact .ite (λc=>.pos c (Ku _ _ _ _)) λc3=>.pos (by grind) (Ku _ _ _ _)
 |sub x y=>exact o3 t' (by omega) (.step nz (.neg rfl (.neg rfl (.step qW (.neg rfl (.neg rfl (.neg rfl (.neg rfl (.neg rfl (.step uT (.neg rfl (.neg rfl (.step yn (.neg rfl (.neg rfl (.step Du (.neg rfl (.neg rfl (.neg rfl (.neg rfl (.step Km (.neg rfl (.neg rfl (ab5 x y _ _))))))))))))))))))))))))
 |neg x=>exact .step Ap (.neg rfl (.pos rfl (.pos rfl (sL _ hl _ _))))
 |ar x y c1 c2=>refine .step Ap (.neg (d1 _ (by omega)) (.neg (d1 _ (by omega)) ?_));exact .ite (λc=>.pos c (sL _ hl _ _)) λe1=>.ite (λc=>.pos c (sL _ hl _ _)) λe2=>.ite (λc=>.pos c (sL _ hl _ _)) λe3=>.ite (λc=>.pos c (sL _ hl _ _)) λe4=>.pos (by grind) (sL _ hl _ _)
 |pair x y=>
  refine nO t' (by omega) λu v=>.step mI<|.pos rfl (.gx rfl (.gx rfl (.ask (vH _ _) λp hp=>hp▸.gx rfl (.ite (λc=>.gx rfl (.ret ?_)) λc=>.ret ?_))))
  .obtain⟨a,rfl⟩:=Option.ne_none_iff_exists'.1 ((xm x).1 c);cases y with|none=>rfl|some b=>show _=aC _ _;rw[<-uv b];rfl
  .have hx:x=none:=by cases x with|none=>rfl|some a=>exact absurd ((uv a).symm.trans c) (by simp)
   subst hx;rfl
 |set x l=>
  refine nO t' (by omega) λu v=>.step mI<|.neg rfl (.pos rfl (.gx rfl (.ask (fW _) λp hp=>hp▸.gx rfl (.ite (λc=>.gx rfl (.ask (vM _ hl x) λb hb=>.ret ?_)) λc=>.ret ?_))))
  .obtain⟨a,rfl⟩:=Option.ne_none_iff_exists'.1 ((xm x).1 c);exact rI (t:=some (.set a)) (by grind)
  .have hx:x=none:=by cases x with|none=>rfl|some a=>exact absurd ((uv a).symm.trans c) (by simp)
   subst hx;rfl
 |range x y=>exact nO t' (by omega) λu v=>.step mI<|.neg rfl (.neg rfl (.neg rfl (.pos rfl (.ask nh λp hp=>.ask (fW _) λq hq=>.ask nh λr hr=>by subst hp;subst hq;subst hr;exact .ask (vM _ hl (some .int)) λb hb=>.ret (rI (t:=some (.set .int)) hb)))))
 |un x y c1 c2=>refine GP t' (by omega) λu v=>.step Dw<|.neg (d1 _ (by omega)) ?_;exact .ite (λc=>.pos c (DA _ _ _ _)) λe1=>.ite (λc=>.pos c (DA _ _ _ _)) λe2=>.pos (by grind) (DA _ _ _ _)
 |prod x y=>exact GQ t' (by omega) λu v=>.step Dt<|.pos rfl (.pos rfl ((Kr _ _ _ _ _).mono λr hr=>by grind))
 |fn x y c1 c2=>
  have k:∀u v,T (λn=>mP n (KL [x,y]) (op,t') u v) (rQ (qf x y)):=λu v=>(Kr _ _ _ _ _).mono λr hr=>by grind
  refine GQ t' (by omega) λu v=>.step Dt<|.neg (d1 _ (by omega)) ?_;exact .ite (λc=>.pos c (k _ _)) λe1=>.ite (λc=>.pos c (k _ _)) λe2=>.ite (λc=>.pos c (k _ _)) λe3=>.ite (λc=>.pos c (k _ _)) λe4=>.pos (by grind) (k _ _)
 |pow x=>
  refine GP t' (by omega) λu v=>.step Dw<|.pos rfl (.gx rfl (.ask (fW _) λp hp=>hp▸.gx rfl (.ask (kQ x) λb hb=>.ret ?_)))
  subst hb
  unfold wU;split
  .rfl
  .rename_i h;show lH x=false;simp_all[lH]
 |card x=>
  refine nO t' (by omega) λu v=>.step mI<|.neg rfl (.neg rfl (.neg rfl (.neg rfl (.neg rfl (.neg rfl (.pos rfl (.ask nh λp hp=>hp▸.gx rfl (.ask (kQ x) λb hb=>.ret ?_))))))))
  subst hb
  unfold wh;split
  .rfl
  .rename_i h;show lH x=false;simp_all[lH]
 |mn x c1 c2=>refine nO t' (by omega) λu v=>.step mI<|.neg (d1 _ (by omega)) (.neg (d1 _ (by omega)) (.neg (d1 _ (by omega)) (.neg (d1 _ (by omega)) (.neg (d1 _ (by omega)) (.neg (d1 _ (by omega)) (.neg (d1 _ (by omega)) ?_))))));exact .ite (λc=>.pos c (Kq _ _ _)) λe1=>.pos (by grind) (Kq _ _ _)
 |over x y=>exact nE t' (by omega) (aaN x y)
 |comp x y=>exact nE t' (by omega) (aaO x y)
 |GM x y c1 c2=>exact nE t' (by omega) (aaP (by omega) x y)
 |GN x y c1 c2=>exact nE t' (by omega) (aaQ (by omega) x y)
 |Hf x=>exact nE t' (by omega) (ab6 x)
 |Hg x=>exact nE t' (by omega) (ab7 x)
 |inv x=>exact nE t' (by omega) (ab8 x)
 |Hh x y=>exact nE t' (by omega) (ab9 x y)
 |app x y=>exact nE t' (by omega) (aca x y)
 |Fc a y=>exact nO t' (by omega) λu v=>.step mI<|.neg rfl (.neg rfl (.neg rfl (.neg rfl (.pos rfl (.gx rfl (.gx rfl (.ask (kQ (some (.set a))) λb hb=>.pos hb (.gx rfl (.ret (rI (t:=some (.set a)) (kb y)))))))))))
 |lam a y=>
  refine nO t' (by omega) λu v=>.step mI<|.neg rfl (.neg rfl (.neg rfl (.neg rfl (.neg rfl (.pos rfl (.gx rfl (.ask (kQ (some (.set a))) λb hb=>.neg (by rw[hb];rfl) (.gx rfl (.ite (λc=>.ret ?_) λc=>?_)))))))))
  .have:=(kb y).1 c;subst this;rfl
  .cases y with|none=>cases c|some b=>exact .gx rfl (.gx rfl (.gx rfl (.ask (vH _ _) λp hp=>hp▸.ask (fW _) λq hq=>hq▸.ret rfl)))
end
section
set_option maxRecDepth 10000
theorem OV{β:Type}{op:Int}{l:List KT}{o:Option KT}{Q:β->Prop}(i:Nat->Bool->cd->Option β)(h:cM op l o)(hl:l.length<=9999)(j:∀r:KB,rQ o r->T (λn=>i n r.2.2.2 (ae r)) Q):T (λn=>aa (op==0) none (aa (op==1) (ask (ly n (KL l) 2 (bs [])) λx9=>(i n x9.2.2.2 (ae x9))) (aa (op==2) (ask (ly n (KL l) 2 (bs [])) λpI=>(i n pI.2.2.2 (ae pI))) (aa (op==3) (ask (cb n (KL l) 2 (bs []) 2) λpJ=>(i n pJ.2.2.2 (ae pJ))) (aa (op==4) (ask (cb n (KL l) 2 (bs []) 2) λpK=>(i n pK.2.2.2 (ae pK))) (aa (op==5) (ask (cb n (KL l) 2 (bs []) 2) λpL=>(i n pL.2.2.2 (ae pL))) (aa (op==6) (ask (cb n (KL l) 2 (bs []) 2) λpM=>(i n pM.2.2.2 (ae pM))) (aa (op==7) (ask (cb n (KL l) 2 (bs []) 2) λpN=>(i n pN.2.2.2 (ae pN))) (aa (op==8) (ask (pg n (KL l)) λpO=>(i n pO.2.2.2 (ae pO))) (aa (op==9) (ask (pg n (KL l)) λpP=>(i n pP.2.2.2 (ae pP))) (aa (op==10) (ask (pj n (KL l)) λpQ=>(i n pQ.2.2.2 (ae pQ))) (aa (op==11) (ask (pj n (KL l)) λpR=>(i n pR.2.2.2 (ae pR))) (aa (op==12) (ask (cb n (KL l) 2 (bs []) 1) λpS=>(i n pS.2.2.2 (ae pS))) (aa (op==13) (ask (cb n (KL l) 2 (bs []) 1) λpT=>(i n pT.2.2.2 (ae pT))) (aa (op==14) (ask (cb n (KL l) 2 (bs []) 1) λpU=>(i n pU.2.2.2 (ae pU))) (aa (op==15) (ask (cb n (KL l) 2 (bs []) 1) λpV=>(i n pV.2.2.2 (ae pV))) (aa (op==16) (ask (pk n (KL l)) λpW=>(i n pW.2.2.2 (ae pW))) (aa (op==17) (ask (pk n (KL l)) λpX=>(i n pX.2.2.2 (ae pX))) (aa (op==18) (ask (wI n (KL l)) λpY=>(i n pY.2.2.2 (ae pY))) (aa (op==19) (ask (ly n (KL l) 1 (bs [])) λpZ=>(i n pZ.2.2.2 (ae pZ))) (aa (op==20) none (aa (op==21) (ask (cb n (KL l) 1 (bs []) 1) λp0=>(i n p0.2.2.2 (ae p0))) (aa (op==22) (ask (cb n (KL l) 1 (bs []) 1) λp6=>(i n p6.2.2.2 (ae p6))) (aa (op==23) (ask (cb n (KL l) 1 (bs []) 1) λp7=>(i n p7.2.2.2 (ae p7))) (aa (op==24) (ask (cb n (KL l) 1 (bs []) 1) λp8=>(i n p8.2.2.2 (ae p8))) (aa (op==25) (ask (cb n (KL l) 1 (bs []) 1) λp9=>(i n p9.2.2.2 (ae p9))) (aa (op==26) (ask (cb n (KL l) 1 (bs []) 1) λqa=>(i n qa.2.2.2 (ae qa))) (aa (op==27) (ask (wJ n (KL l)) λqb=>(i n qb.2.2.2 (ae qb))) (aa (op==28) (ask (wK n (KL l)) λqd=>(i n qd.2.2.2 (ae qd))) (aa (op==29) none (aa (op==30) (ask (vr n (KL l) 5 (bs []) [(aR (1,(bs []),[]))] 1) λPO=>(i n PO.2.2.2 (ae PO))) (aa (op==31) (ask (kK n (KL l)) λZ=>(i n Z.2.2.2 (ae Z))) (aa (op==32) (ask (kK n (KL l)) λY=>(i n Y.2.2.2 (ae Y))) (aa (op==33) (ask (kK n (KL l)) λX=>(i n X.2.2.2 (ae X))) (aa (op==34) (ask (wL n (KL l)) λV=>(i n V.2.2.2 (ae V))) (aa (op==35) (ask (wM n (KL l)) λU=>(i n U.2.2.2 (ae U))) (aa (op==36) (ask (vt n (KL l)) λS=>(i n S.2.2.2 (ae S))) (aa (op==37) (ask (po n (KL l)) λR=>(i n R.2.2.2 (ae R))) (aa (op==38) (ask (po n (KL l)) λP=>(i n P.2.2.2 (ae P))) (aa (op==39) (ask (oQ n (KL l)) λO=>(i n O.2.2.2 (ae O))) (aa (op==40) (ask (oQ n (KL l)) λN=>(i n N.2.2.2 (ae N))) (aa (op==41) (ask (gH n (KL l)) λM=>(i n M.2.2.2 (ae M))) (aa (op==42) (ask (gH n (KL l)) λL=>(i n L.2.2.2 (ae L))) (aa (op==43) (ask (gH n (KL l)) λK=>(i n K.2.2.2 (ae K))) (aa (op==44) (ask (gH n (KL l)) λJ=>(i n J.2.2.2 (ae J))) (aa (op==45) (ask (gH n (KL l)) λI=>(i n I.2.2.2 (ae I))) (aa (op==46) (ask (wN n (KL l)) λG=>(i n G.2.2.2 (ae G))) (aa (op==47) (ask (vu n (KL l)) λF=>(i n F.2.2.2 (ae F))) (aa (op==48) (ask (oR n (KL l)) λE=>(i n E.2.2.2 (ae E))) (aa (op==49) (ask (oR n (KL l)) λD=>(i n D.2.2.2 (ae D))) (aa (op==50) (ask (vv n (KL l)) λC=>(i n C.2.2.2 (ae C))) (aa (op==51) (ask (vw n (KL l)) λz=>(i n z.2.2.2 (ae z))) (aa (op==52) (ask (vx n (KL l)) λw=>(i n w.2.2.2 (ae w))) (aa (op==53) (ask (vy n (KL l)) λu=>(i n u.2.2.2 (ae u))) (aa (op==54) (ask (vz n (KL l)) λq=>(i n q.2.2.2 (ae q))) (aa (op==55) (ask (vA n (KL l)) λp=>(i n p.2.2.2 (ae p))) (aa (op==56) (ask (wO n (KL l)) λm=>(i n m.2.2.2 (ae m))) none))))))))))))))))))))))))))))))))))))))))))))))))))))))))) Q:=by refine .ite (λc=>by obtain rfl:=aL c;cases h<;>grind) (λc0=>?_);refine .ite (λc=>by obtain rfl:=aL c;cases h<;>first|(exfalso;omega)|exact .ask (Fb 2 none rfl) λx hx=>j _ hx) (λc1=>?_);refine .ite (λc=>by obtain rfl:=aL c;cases h<;>first|(exfalso;omega)|exact .ask (Fb 2 none rfl) λx hx=>j _ hx) (λc2=>?_);refine .ite (λc=>by obtain rfl:=aL c;cases h<;>first|(exfalso;omega)|exact .ask (ic _ hl 2 2 none none (.inr ⟨rfl,rfl⟩) rfl) λx hx=>j _ hx) (λc3=>?_);refine .ite (λc=>by obtain rfl:=aL c;cases h<;>first|(exfalso;omega)|exact .ask (ic _ hl 2 2 none none (.inr ⟨rfl,rfl⟩) rfl) λx hx=>j _ hx) (λc4=>?_);refine .ite (λc=>by obtain rfl:=aL c;cases h<;>first|(exfalso;omega)|exact .ask (ic _ hl 2 2 none none (.inr ⟨rfl,rfl⟩) rfl) λx hx=>j _ hx) (λc5=>?_);refine .ite (λc=>by obtain rfl:=aL c;cases h<;>first|(exfalso;omega)|exact .ask (ic _ hl 2 2 none none (.inr ⟨rfl,rfl⟩) rfl) λx hx=>j _ hx) (λc6=>?_);refine .ite (λc=>by obtain rfl:=aL c;cases h<;>first|(exfalso;omega)|exact .ask (ic _ hl 2 2 none none (.inr ⟨rfl,rfl⟩) rfl) λx hx=>j _ hx) (λc7=>?_);refine .ite (λc=>by obtain rfl:=aL c;cases h<;>first|(exfalso;omega)|exact .ask (NA _ _) λx hx=>j _ hx) (λc8=>?_);refine .ite (λc=>by obtain rfl:=aL c;cases h<;>first|(exfalso;omega)|exact .ask (NA _ _) λx hx=>j _ hx) (λc9=>?_);refine .ite (λc=>by obtain rfl:=aL c;cases h<;>first|(exfalso;omega)|exact .ask (NB _ _) λx hx=>j _ hx) (λPQ=>?_);refine .ite (λc=>by obtain rfl:=aL c;cases h<;>first|(exfalso;omega)|exact .ask (NB _ _) λx hx=>j _ hx) (λPS=>?_);refine .ite (λc=>by obtain rfl:=aL c;cases h<;>first|(exfalso;omega)|exact .ask (ic _ hl 2 1 (some .int) none (.inl ⟨rfl,rfl⟩) rfl) λx hx=>j _ hx) (λPT=>?_);refine .ite (λc=>by obtain rfl:=aL c;cases h<;>first|(exfalso;omega)|exact .ask (ic _ hl 2 1 (some .int) none (.inl ⟨rfl,rfl⟩) rfl) λx hx=>j _ hx) (λPU=>?_);refine .ite (λc=>by obtain rfl:=aL c;cases h<;>first|(exfalso;omega)|exact .ask (ic _ hl 2 1 (some .int) none (.inl ⟨rfl,rfl⟩) rfl) λx hx=>j _ hx) (λPV=>?_);refine .ite (λc=>by obtain rfl:=aL c;cases h<;>first|(exfalso;omega)|exact .ask (ic _ hl 2 1 (some .int) none (.inl ⟨rfl,rfl⟩) rfl) λx hx=>j _ hx) (λPW=>?_);refine .ite (λc=>by obtain rfl:=aL c;cases h<;>first|(exfalso;omega)|exact .ask (NC _ _) λx hx=>j _ hx) (λPX=>?_);refine .ite (λc=>by obtain rfl:=aL c;cases h<;>first|(exfalso;omega)|exact .ask (NC _ _) λx hx=>j _ hx) (λPY=>?_);refine .ite (λc=>by obtain rfl:=aL c;cases h<;>first|(exfalso;omega)|exact .ask (aaG _ _) λx hx=>j _ hx) (λPZ=>?_);refine .ite (λc=>by obtain rfl:=aL c;cases h<;>first|(exfalso;omega)|exact .ask (Fb 1 (some .int) rfl) λx hx=>j _ hx) (λP0=>?_);refine .ite (λc=>by obtain rfl:=aL c;cases h<;>grind) (λP1=>?_);refine .ite (λc=>by obtain rfl:=aL c;cases h<;>first|(exfalso;omega)|exact .ask (ic _ hl 1 1 (some .int) (some .int) (.inl ⟨rfl,rfl⟩) rfl) λx hx=>j _ hx) (λP2=>?_);refine .ite (λc=>by obtain rfl:=aL c;cases h<;>first|(exfalso;omega)|exact .ask (ic _ hl 1 1 (some .int) (some .int) (.inl ⟨rfl,rfl⟩) rfl) λx hx=>j _ hx) (λP3=>?_);refine .ite (λc=>by obtain rfl:=aL c;cases h<;>first|(exfalso;omega)|exact .ask (ic _ hl 1 1 (some .int) (some .int) (.inl ⟨rfl,rfl⟩) rfl) λx hx=>j _ hx) (λP4=>?_);refine .ite (λc=>by obtain rfl:=aL c;cases h<;>first|(exfalso;omega)|exact .ask (ic _ hl 1 1 (some .int) (some .int) (.inl ⟨rfl,rfl⟩) rfl) λx hx=>j _ hx) (λP5=>?_);refine .ite (λc=>by obtain rfl:=aL c;cases h<;>first|(exfalso;omega)|exact .ask (ic _ hl 1 1 (some .int) (some .int) (.inl ⟨rfl,rfl⟩) rfl) λx hx=>j _ hx) (λP6=>?_);refine .ite (λc=>by obtain rfl:=aL c;cases h<;>first|(exfalso;omega)|exact .ask (ic _ hl 1 1 (some .int) (some .int) (.inl ⟨rfl,rfl⟩) rfl) λx hx=>j _ hx) (λP7=>?_);refine .ite (λc=>by obtain rfl:=aL c;cases h<;>first|(exfalso;omega)|exact .ask (aaH _ _) λx hx=>j _ hx) (λP8=>?_);refine .ite (λc=>by obtain rfl:=aL c;cases h<;>first|(exfalso;omega)|exact .ask (aaI _ _ (by simp at hl;omega)) λx hx=>j _ hx) (λP9=>?_);refine .ite (λc=>by obtain rfl:=aL c;cases h<;>grind) (λQa=>?_);refine .ite (λc=>by obtain rfl:=aL c;cases h<;>first|(exfalso;omega)|exact .ask (WJ _ hl) λx hx=>j _ hx) (λQb=>?_);refine .ite (λc=>by obtain rfl:=aL c;cases h<;>first|(exfalso;omega)|exact .ask (DY _ _) λx hx=>j _ hx) (λQc=>?_);refine .ite (λc=>by obtain rfl:=aL c;cases h<;>first|(exfalso;omega)|exact .ask (DY _ _) λx hx=>j _ hx) (λQd=>?_);refine .ite (λc=>by obtain rfl:=aL c;cases h<;>first|(exfalso;omega)|exact .ask (DY _ _) λx hx=>j _ hx) (λQe=>?_);refine .ite (λc=>by obtain rfl:=aL c;cases h<;>first|(exfalso;omega)|exact .ask (aaJ _ _) λx hx=>j _ hx) (λQf=>?_);refine .ite (λc=>by obtain rfl:=aL c;cases h<;>first|(exfalso;omega)|exact .ask (aaK _ _) λx hx=>j _ hx) (λQg=>?_);refine .ite (λc=>by obtain rfl:=aL c;cases h<;>first|(exfalso;omega)|exact .ask (WL _ _) λx hx=>j _ hx) (λQh=>?_);refine .ite (λc=>by obtain rfl:=aL c;cases h<;>first|(exfalso;omega)|exact .ask (ND _ _) λx hx=>j _ hx) (λQi=>?_);refine .ite (λc=>by obtain rfl:=aL c;cases h<;>first|(exfalso;omega)|exact .ask (ND _ _) λx hx=>j _ hx) (λQj=>?_);refine .ite (λc=>by obtain rfl:=aL c;cases h<;>first|(exfalso;omega)|exact .ask (LI _ _) λx hx=>j _ hx) (λQk=>?_);refine .ite (λc=>by obtain rfl:=aL c;cases h<;>first|(exfalso;omega)|exact .ask (LI _ _) λx hx=>j _ hx) (λQl=>?_);refine .ite (λc=>by obtain rfl:=aL c;cases h<;>first|(exfalso;omega)|exact .ask (vb _ _) λx hx=>j _ hx) (λQm=>?_);refine .ite (λc=>by obtain rfl:=aL c;cases h<;>first|(exfalso;omega)|exact .ask (vb _ _) λx hx=>j _ hx) (λQn=>?_);refine .ite (λc=>by obtain rfl:=aL c;cases h<;>first|(exfalso;omega)|exact .ask (vb _ _) λx hx=>j _ hx) (λQo=>?_);refine .ite (λc=>by obtain rfl:=aL c;cases h<;>first|(exfalso;omega)|exact .ask (vb _ _) λx hx=>j _ hx) (λQp=>?_);refine .ite (λc=>by obtain rfl:=aL c;cases h<;>first|(exfalso;omega)|exact .ask (vb _ _) λx hx=>j _ hx) (λQq=>?_);refine .ite (λc=>by obtain rfl:=aL c;cases h<;>first|(exfalso;omega)|exact .ask (aaL _) λx hx=>j _ hx) (λQr=>?_);refine .ite (λc=>by obtain rfl:=aL c;cases h<;>first|(exfalso;omega)|exact .ask (WM _) λx hx=>j _ hx) (λQs=>?_);refine .ite (λc=>by obtain rfl:=aL c;cases h<;>first|(exfalso;omega)|exact .ask (LJ _) λx hx=>j _ hx) (λQt=>?_);refine .ite (λc=>by obtain rfl:=aL c;cases h<;>first|(exfalso;omega)|exact .ask (LJ _) λx hx=>j _ hx) (λQu=>?_);refine .ite (λc=>by obtain rfl:=aL c;cases h<;>first|(exfalso;omega)|exact .ask (WN _) λx hx=>j _ hx) (λQv=>?_);refine .ite (λc=>by obtain rfl:=aL c;cases h<;>first|(exfalso;omega)|exact .ask (WO _) λx hx=>j _ hx) (λQw=>?_);refine .ite (λc=>by obtain rfl:=aL c;cases h<;>first|(exfalso;omega)|exact .ask (WQ _) λx hx=>j _ hx) (λQx=>?_);refine .ite (λc=>by obtain rfl:=aL c;cases h<;>first|(exfalso;omega)|exact .ask (WR _ _) λx hx=>j _ hx) (λQy=>?_);refine .ite (λc=>by obtain rfl:=aL c;cases h<;>first|(exfalso;omega)|exact .ask (WS _ _) λx hx=>j _ hx) (λQz=>?_);refine .ite (λc=>by obtain rfl:=aL c;cases h<;>first|(exfalso;omega)|exact .ask (WK _ _) λx hx=>j _ hx) (λQA=>?_);refine .ite (λc=>by obtain rfl:=aL c;cases h<;>first|(exfalso;omega)|exact .ask (aaM _ _) λx hx=>j _ hx) (λQB=>?_);exfalso;replace c0:=aP c0;replace c1:=aP c1;replace c2:=aP c2;replace c3:=aP c3;replace c4:=aP c4;replace c5:=aP c5;replace c6:=aP c6;replace c7:=aP c7;replace c8:=aP c8;replace c9:=aP c9;replace PQ:=aP PQ;replace PS:=aP PS;replace PT:=aP PT;replace PU:=aP PU;replace PV:=aP PV;replace PW:=aP PW;replace PX:=aP PX;replace PY:=aP PY;replace PZ:=aP PZ;replace P0:=aP P0;replace P1:=aP P1;replace P2:=aP P2;replace P3:=aP P3;replace P4:=aP P4;replace P5:=aP P5;replace P6:=aP P6;replace P7:=aP P7;replace P8:=aP P8;replace P9:=aP P9;replace Qa:=aP Qa;replace Qb:=aP Qb;replace Qc:=aP Qc;replace Qd:=aP Qd;replace Qe:=aP Qe;replace Qf:=aP Qf;replace Qg:=aP Qg;replace Qh:=aP Qh;replace Qi:=aP Qi;replace Qj:=aP Qj;replace Qk:=aP Qk;replace Ql:=aP Ql;replace Qm:=aP Qm;replace Qn:=aP Qn;replace Qo:=aP Qo;replace Qp:=aP Qp;replace Qq:=aP Qq;replace Qr:=aP Qr;replace Qs:=aP Qs;replace Qt:=aP Qt;replace Qu:=aP Qu;replace Qv:=aP Qv;replace Qw:=aP Qw;replace Qx:=aP Qx;replace Qy:=aP Qy;replace Qz:=aP Qz;replace QA:=aP QA;replace QB:=aP QB;cases h<;>omega
end
end Go.AI
