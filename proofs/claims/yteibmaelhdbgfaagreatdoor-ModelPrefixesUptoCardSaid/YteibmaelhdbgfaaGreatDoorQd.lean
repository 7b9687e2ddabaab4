/- A part. -/
import Derived.Test.YteibmaelhdbgfaaGreatDoorQc
set_option linter.all false

namespace Go.AI
open Go
section
variable {α β:Type}{A:α->Prop}{B:β->Prop}
def ci(B:β->Prop)(F G:Option β):Prop:=F=G/\∀x,G=some x->B x
abbrev g5(F G:Option β):Prop:=ci (λ_=>True) F G
namespace ci
def none:ci B .none .none:=⟨rfl,λ_ h=>nomatch h⟩
def ret{r:β}(h:B r):ci B (some r) (some r):=⟨rfl,λ_ e=>Option.some.inj e▸h⟩
def jp{F G:Option β}(h:F=G):g5 F G:=⟨h,λ_ _=>trivial⟩
def refl{F:Option β}:g5 F F:=jp rfl
def ite{c:Bool}{x y x' y':Option β}(h:c=true->ci B x x')(h':c=false->ci B y y'):ci B (aa c x y) (aa c x' y'):=by
 cases c
 .exact h' rfl
 .exact h rfl
def ask{F F':Option α}{k k':α->Option β}(h:ci A F F')(hk:∀x,A x->ci B (k x) (k' x)):ci B (Go.AI.ask F k) (Go.AI.ask F' k'):=by obtain⟨rfl,h⟩:=h;cases F with|none=>exact .none|some x=>exact hk x (h x rfl)
def asks{F:Option α}{k k':α->Option β}(hk:∀x,F=some x->ci B (k x) (k' x)):ci B (Go.AI.ask F k) (Go.AI.ask F k'):=.ask ⟨rfl,λ_ h=>h⟩ hk
def ab{l:List α}{i:Int}{k k':α->Option β}(h:0<=i->∀x,l[i.toNat]?=some x->ci B (k x) (k' x)):ci B (Go.AI.ab l i k) (Go.AI.ab l i k'):=by
 unfold Go.AI.ab
 split
 .rename_i c
  split
  .exact h (of_decide_eq_true c) _ (by assumption)
  .exact .none
 .exact .none
def getT{l:List α}{m:Nat}{i:Int}{k k':α->Option β}(hi:i<m)(h:∀x,l[i.toNat]?=some x->ci B (k x) (k' x)):ci B (Go.AI.ab (l.take m) i k) (Go.AI.ab l i k'):=by
 have e:Go.AI.ab (l.take m) i k=Go.AI.ab l i k:=by
  unfold Go.AI.ab
  split
  .rename_i h0;rw[List.getElem?_take,if_pos (by have:=of_decide_eq_true h0;omega)]
  .rfl
 rw[e];exact .ab λ_=>h
def eJ{l:List α}{i:Nat}{k k':α->Option β}(h:∀x,x∈l->ci B (k x) (k' x)):ci B (Go.AI.eJ l i k) (Go.AI.eJ l i k'):=by
 unfold Go.AI.eJ
 split
 .exact h _ (List.mem_of_getElem? (by assumption))
 .exact .none
def fits{n b:Nat}{k k':Option β}(h:ci B k k'):ci B (Go.AI.fits n b k) (Go.AI.fits n b k'):=by
 unfold Go.AI.fits
 split
 .exact h
 .exact .none
end ci
end
def pi{J:Nat->Int->Option Int}{P:Nat->List AV->Option Bool}{f:List AV->Bool}{l:Rows}(hl:l.length<=16)(h0:∀i,J 0 i=none)(h:∀n i,J (n+1) i=aa (decide (i<(l.length:Int))) (ab l i λr=>ask (P n r) λx=>aa x (some i) (J n (be (i+1)))) (some (-1)))(hP:∀n r b,P n r=some b->b=f r):∀n(j:Nat)k,(∀x,x∈l.take j->f x=false)->J n j=some k->k=gr f l:=by
 intro n
 induction n with
 |zero=>intro j k _ e;rw[h0]at e;cases e
 |succ n ih=>
  intro j k hj e
  rw[h]at e
  by_cases c:j<l.length
  .have hr:l[j]?=some l[j]:=by simp
   rw[show decide ((j:Int)<(l.length:Int))=true from decide_eq_true (by omega)]at e
   unfold aa ab at e
   rw[show decide ((0:Int)<=(j:Int))=true from decide_eq_true (by omega)]at e
   simp only[Int.toNat_natCast,hr]at e
   cases hb:P n l[j]with
   |none=>rw[hb]at e;cases e
   |some b=>
    rw[hb]at e
    have:=hP n _ b hb
    cases b with
    |true=>have e2:l.findIdx? f=some j:=List.findIdx?_eq_some_iff_getElem.2 ⟨c,this.symm,λk hk=>by have:=hj l[k] (List.mem_take_iff_getElem.2 ⟨k,by omega,rfl⟩);simpa using this⟩;unfold gr;rw[e2];exact(Option.some.inj e).symm
    |false=>
     have e:J n (be ((j:Int)+1))=some k:=e
     rw[aE (i:=(j:Int)+1) (by omega) (by omega)]at e
     refine ih (j+1) k (λx hx=>?_) e
     rw[fJ hr]at hx
     rcases List.mem_append.1 hx with hx|hx
     .exact hj x hx
     .rw[List.mem_singleton]at hx;rw[hx];exact this.symm
  .rw[show decide ((j:Int)<(l.length:Int))=false from decide_eq_false (by omega)]at e;rw[List.take_of_length_le (by omega)]at hj;unfold gr;rw[List.findIdx?_eq_none_iff.2 hj];exact(Option.some.inj e).symm
def pm{n a s b}(h:T4 n a s=some b):b=ay a.2.1 s:=by cases n with|zero=>cases h|succ n=>rw[ahp]at h;exact(Option.some.inj h).symm
def IR{p:Rows}{s:ByteArray}{j:Nat}{r:List AV}(h:bc p s=j)(hr:p[j]?=some r):ay (gS r 1) s=true:=by
 unfold bc gr at h
 cases e:p.findIdx? λr=>ay (gS r 1) s with
 |none=>rw[e]at h;simp at h
 |some k=>
  rw[e]at h
  obtain⟨h3,h4,_⟩:=List.findIdx?_eq_some_iff_getElem.1 e
  obtain rfl:k=j:=by have h:(k:Int)=j:=h;omega
  rw[List.getElem?_eq_getElem h3]at hr;obtain rfl:=Option.some.inj hr;exact h4
structure kw(p:Rows)(m i:Nat):Prop where
 hn:p.length<=16
 hm:m<=p.length
 hi:i<m
 hh:qo p (i+1)
def d0(m:Nat)(l:Rows):Prop:=∀r,r∈l->gI r 0<m
def d0.app{m:Nat}{l l':Rows}(h:d0 m l)(h':d0 m l'):d0 m (l++l'):=λr hr=>(List.mem_append.1 hr).elim (h r) (h' r)
def d0.ii{m:Nat}{k:Int}(hk:k<m):d0 m [[.sc (.int .i64 k)]]:=λr hr=>by rw[List.mem_singleton]at hr;rw[hr];exact hk
def d0.nil{m:Nat}:d0 m []:=λ_ h=>nomatch h
def ip(m:Nat)(F:Int->Int->Rows->Rows->Option Rows):Prop:=∀a b c d,d0 m c->d0 m d->ci (d0 m) (F a b c d) (F a b c d)
def pp(m:Nat):∀n,ip m (Fi n)/\ip m (uc n)/\ip m (D1 n)/\ip m (uh n)/\ip m (oc n)/\ip m (nJ n):=by
 intro n
 induction n with
 |zero=>and_intros<;>exactλ_ _ _ _ _ _=>.none
 |succ n ih=>
  obtain⟨_,h1,_,h3,h4,h5⟩:=ih
  and_intros<;>intro a b c d h h'
  .rw[OC];exact .ite (λ_=>.ab λ_ _ _=>.eJ λr hr=>.asks λ_ _=>.ite (λ_=>.fits (h4 _ _ _ _ (h.app (.ii (h' r hr))) h')) λ_=>h4 _ _ _ _ h h') λ_=>.ret h
  .rw[DJ];exact .ite (λ_=>.ab λ_ _ _=>.eJ λr hr=>.asks λ_ _=>.ite (λ_=>.fits (h4 _ _ _ _ (h.app (.ii (h' r hr))) h')) λ_=>h4 _ _ _ _ h h') λ_=>.ret h
  .rw[LW];exact .ite (λ_=>.ab λ_ _ _=>.eJ λr hr=>.asks λ_ _=>.ite (λ_=>.fits (h5 _ _ _ _ (h.app (.ii (h' r hr))) h')) λ_=>h5 _ _ _ _ h h') λ_=>.ret h
  .rw[DK];exact .ite (λ_=>.ab λ_ _ _=>.eJ λr hr=>.asks λ_ _=>.ite (λ_=>.fits (h5 _ _ _ _ (h.app (.ii (h' r hr))) h')) λ_=>h5 _ _ _ _ h h') λ_=>.ret h
  .rw[D4];exact h1 _ _ _ _ h h'
  .rw[Dg];exact h3 _ _ _ _ h h'
def pu{m:Nat}{a}(h:d0 m a):∀n,ci (d0 m) (qk n a) (qk n a)|0=>.none|n+1=>by rw[M0];exact(pp m n).1 _ _ _ _ .nil h
def qr{m:Nat}{a}(h:d0 m a):∀n,ci (d0 m) (pU n a) (pU n a)|0=>.none|n+1=>by rw[KM];exact(pp m n).2.2.1 _ _ _ _ .nil h
section
variable {p:Rows}{m i:Nat}(h:kw p m i)
include h
def LE{s:ByteArray}(hs:0<=bc p s/\bc p s<m):∀n(j:Nat),(j:Int)<=bc p s->AJ n (p.take m) s ((p.take m).length:Int) j=AJ n p s (p.length:Int) j:=by
 have hn:=h.hn
 have hm:=h.hm
 intro n
 induction n with
 |zero=>intro _ _;rfl
 |succ n ih=>
  intro j hj
  rw[abM,abM]
  have hl:(p.take m).length=m:=by rw[List.length_take];omega
  rw[show decide ((j:Int)<(p.length:Int))=true from decide_eq_true (by omega),show decide ((j:Int)<((p.take m).length:Int))=true from decide_eq_true (by omega)]
  refine(ci.getT (B:=λ_=>True) (m:=m) (i:=(j:Int)) (by omega) λr hr=>.asks λb hb=>?_).1
  have hr:p[j]?=some r:=by simpa using hr
  have:=pm hb
  subst this
  refine .ite (λ_=>.refl) (λc=>?_)
  rw[aE (i:=(j:Int)+1) (by omega) (by omega)]
  refine .jp (ih (j+1) ?_)
  have:bc p s≠j:=λe=>by have c:ay (gS r 1) s=false:=c;rw[IR e hr]at c;cases c
  omega
def m7{s:ByteArray}{b:Nat}(hb:b<=m)(hs:0<=bc p s/\bc p s<b):∀n,ci (λk=>0<=k/\k<(b:Int)) (oK n (p.take m) s) (oK n p s)
 |0=>.none
 |n+1=>by
  rw[ahE,ahE]
  refine .ask (A:=λk=>0<=k/\k<(b:Int)) ?_ λ_ h=>.ret h
  cases n
  .exact .none
  rename_i n;rw[ahF,ahF];exact⟨LE h ⟨hs.1,by omega⟩ n 0 (by omega),λk hk=>by rw[show k=bc p s from pi (J:=λn i=>AJ n p s (p.length:Int) i) (P:=λn r=>T4 n (eD r 0) s) h.hn (λ_=>rfl) (λn i=>abM n _ _ _ _) (λn r b e=>pm e) n 0 k (by simp) hk];exact hs⟩
def io{k:Nat}(hk:k<=i):∀n,ci (λj=>j<(k:Int)) (ko n (p.take m) (k:Int)) (ko n p (k:Int))
 |0=>.none
 |n+1=>by
  have hi:=h.hi
  rw[ahI,ahI]
  refine .getT (by omega) λr hr=>.ite (λ_=>.ret (by omega)) λc=>.getT (by omega) λr' hr'=>?_
  have hr:p[k]?=some r':=by simpa using hr'
  rw[show p[((k:Int)).toNat]?=some r from by assumption]at hr';obtain rfl:=Option.some.inj hr';exact .ask (m7 h (b:=k) (by omega) (h.hh.rf k r (by omega) hr c) n) λx hx=>.ret hx.2
omit h in
def li(p:Rows)(k:Nat)(e:Rows):Prop:=∀q,q∈e->0<=bc p (gS q 0)/\bc p (gS q 0)<k
def m8:∀n,(∀k:Nat,k<=i->ci (d0 m) (jh n (p.take m) k) (jh n p k))/\(∀(k:Nat)e a b c o,k<=i->li p k e->d0 m o->ci (d0 m) (mM n k e a b (p.take m) c o) (mM n k e a b p c o))/\(∀(k:Nat)e a b c o,k<=i->li p k e->d0 m o->ci (d0 m) (mq n k e a b (p.take m) c o) (mq n k e a b p c o))/\(∀(k:Nat)c o,k<=i->li p k c.2.2.1->d0 m o->ci (d0 m) (PO n k (p.take m) c o) (PO n k p c o))/\(∀(k:Nat)c o,k<=i->li p k c.2.2.1->d0 m o->ci (d0 m) (ub n k (p.take m) c o) (ub n k p c o)):=by
 have hi:=h.hi
 intro n
 induction n with
 |zero=>and_intros<;>intros<;>exact .none
 |succ n ih=>
  obtain⟨h1,h2,h3,h4,h5⟩:=ih
  have f32:∀{k:Nat}{x:Int},k<=i->0<=x->x<k->ci (d0 m) (jh n (p.take m) x) (jh n p x):=λ{k x}hk h0 hx=>by obtain⟨j,rfl⟩:∃j:Nat,x=j:=⟨x.toNat,by omega⟩;exact h1 j (by omega)
  refine⟨λk hk=>?_,λk e a b c o hk he ho=>?_,λk e a b c o hk he ho=>?_,λk c o hk he ho=>?_,λk c o hk he ho=>?_⟩
  .rw[SI,SI]
   refine .getT (by omega) λr hr=>?_
   have hr:p[k]?=some r:=by simpa using hr
   have he:li p k (gD r 2):=h.hh.ex k r (by omega) hr;exact .ite (λ_=>.ask (io h hk n) λx hx=>.ite (λc=>.ask (f32 hk (cO c) hx) λl hl=>h4 k _ l hk he hl) λ_=>h5 k _ [] hk he .nil) λ_=>h5 k _ [] hk he .nil
  .rw[Ap,Ap];exact .ite (λ_=>.ab λ_ r hr=>.ask (m7 h (by omega) (he r (List.mem_of_getElem? hr)) n) λx hx=>.ask (f32 hk hx.1 hx.2) λl hl=>.fits (h2 k e a _ c _ hk he (ho.app hl))) λ_=>.ite (λ_=>.fits (pu (ho.app (.ii (by omega))) n)) λ_=>pu ho n
  .rw[y8,y8];exact .ite (λ_=>.ab λ_ r hr=>.ask (m7 h (by omega) (he r (List.mem_of_getElem? hr)) n) λx hx=>.ask (f32 hk hx.1 hx.2) λl hl=>.fits (h3 k e a _ c _ hk he (ho.app hl))) λ_=>.ite (λ_=>.fits (qr (ho.app (.ii (by omega))) n)) λ_=>qr ho n
  .rw[OQ,OQ];exact h2 k _ _ _ c o hk he ho
  .rw[LS,LS];exact h3 k _ _ _ c o hk he ho
def rt:∀n(k:Nat),k<=i->ci (d0 m) (qZ n (p.take m) k) (qZ n p k)|0,_,_=>.none|n+1,k,hk=>by have hi:=h.hi;rw[Hq,Hq];have b1:d0 m [[.sc (.int .i64 (k:Int))]]:=.ii (by omega);refine .ask (io h hk n) λx hx=>.ite (λc=>?_) λ_=>.ret b1;have c:0<=x:=cO c;obtain⟨j,rfl⟩:∃j:Nat,x=j:=⟨x.toNat,by omega⟩;exact .ask (rt n j (by omega)) λl hl=>.fits (.ret (hl.app b1))
omit h in
def rx{l}(hl:d0 m l):∀n a b c d e f,g5 (AU n a b (p.take m) l c d e f) (AU n a b p l c d e f)|0,_,_,_,_,_,_=>.none|n+1,_,_,_,_,_,_=>by rw[OP,OP];exact .ite (λ_=>.ab λ_ _ _=>.eJ λr hr=>.getT (hl r hr) λ_ _=>.fits (.getT (hl r hr) λ_ _=>.fits (rx hl n ..))) λ_=>.refl
def m6{k:Nat}(hk:k<=i):∀n,g5 (oM n (p.take m) k) (oM n p k)|0=>.none|n+1=>by rw[ah5,ah5];exact .ask ((m8 h n).1 k hk) λl hl=>rx hl n ..
omit h in
def ul{l}(hl:d0 m l):∀n a b c,g5 (ug n a b (p.take m) c l) (ug n a b p c l)|0,_,_,_=>.none|n+1,_,_,_=>by rw[LQ,LQ];exact .ite (λ_=>.ab λ_ _ _=>.eJ λr hr=>.getT (hl r hr) λ_ _=>.asks λ_ _=>ul hl n ..) λ_=>.refl
def M2:∀n,g5 (wB n (p.take m) i) (wB n p i)|0=>.none|n+1=>by rw[ah9,ah9];refine .ask (rt h n i (Nat.le_refl _)) λl hl=>?_;cases n with|zero=>exact .none|succ n=>rw[abx,abx];exact .ite (λ_=>.ab λ_ _ _=>.eJ λr hr=>.getT (hl r hr) λ_ _=>.asks λ_ _=>ul hl n ..) λ_=>.refl
def ut{k:Nat}(hk:k<=i):∀n,g5 (l5 n (p.take m) k) (l5 n p k)|0=>.none|n+1=>by have hi:=h.hi;rw[ahR,ahR];exact .ask (m6 h hk n) λ_ _=>.getT (by omega) λ_ _=>.refl
def Nm:∀n,g5 (Cs n (p.take m) i) (Cs n p i)
 |0=>.none
 |n+1=>by
  have hi:=h.hi
  have r6:∀a b c d e,g5 (A1 n i a (p.take m) b c d e) (A1 n i a p b c d e):=λ_ _ _ _ _=>by cases n with|zero=>exact .none|succ n=>rw[abP,abP];exact .getT (by omega) λ_ _=>.refl
  rw[ahZ,ahZ];exact .ask (m6 h (Nat.le_refl _) n) λ_ _=>.ask (io h (Nat.le_refl _) n) λx hx=>.ite (λ_=>.getT (by omega) λ_ _=>r6 ..) λ_=>r6 ..
def NE:∀n,g5 (wC n (p.take m) i) (wC n p i)|0=>.none|n+1=>by rw[ahq,ahq];exact .ask (m6 h (Nat.le_refl _) n) λ_ _=>.ask (M2 h n) λ_ _=>.refl
def Ok(s:ByteArray):∀n,g5 (BK n (p.take m) i s) (BK n p i s)|0=>.none|n+1=>by have hi:=h.hi;rw[PU,PU];exact .ask (io h (Nat.le_refl _) n) λx hx=>.ite (λ_=>.refl) λ_=>.getT (by omega) λ_ _=>.ite (λ_=>.refl) λ_=>.getT (by omega) λ_ _=>.asks λ_ _=>.ite (λ_=>.refl) λ_=>.getT (by omega) λ_ _=>.ab λ_ _ _=>.ite (λ_=>.refl) λ_=>.getT (by omega) λ_ _=>.refl
def v6:∀n,(∀a b c d e,g5 (AX n i a b c d (p.take m) e) (AX n i a b c d p e))/\(∀a b c d e,g5 (Ex n i a b c d (p.take m) e) (Ex n i a b c d p e))
 |0=>⟨λ_ _ _ _ _=>.none,λ_ _ _ _ _=>.none⟩
 |n+1=>by
  have hi:=h.hi
  have ih:=v6 n
  refine⟨λ_ _ _ _ _=>?_,λ_ _ _ _ _=>?_⟩
  .rw[OV,OV];exact .ite (λ_=>.ab λ_ _ _=>.getT (by omega) λ_ _=>.asks λ_ _=>.ite (λ_=>.fits (ih.2 ..)) λ_=>ih.2 ..) λ_=>.refl
  .rw[MZ,MZ];exact ih.1 ..
def Pi:∀n,g5 (s3 n (p.take m) i) (s3 n p i)
 |0=>.none
 |n+1=>by
  have hi:=h.hi
  rw[SH,SH]
  refine .ask (A:=λ_=>True) ?_ λ_ _=>.refl
  cases n
  .exact .none
  rename_i n;rw[ahy,ahy];exact .ask (io h (Nat.le_refl _) n) λx hx=>.ite (λ_=>.refl) λ_=>.getT (by omega) λ_ _=>(v6 h n).1 ..
end
noncomputable section
section
variable {α β γ:Type}
def dg(f:α->β):Option (aW α Unit)->Option (aW β Unit)|some (.ret a)=>some (.ret (f a))|some (.aN t q u)=>some (.aN t q u)|none=>none
def gc(f:α->β):Option α->Option β|some a=>some (f a)|none=>none
def f4(f:α->β)(x:γ×α):γ×β:=(x.1,f x.2)
def f0{a b c:Type}(f:α->β):a×b×c×α->a×b×c×β:=f4 (f4 (f4 f))
def PP(f:α->β)(x:γ×α):(f4 f x).1=x.1:=rfl
def RF(f:α->β)(x:γ×α):(f4 f x).2=f x.2:=rfl
def wf(f:α->β)(a:γ)(b:α):f4 f (a,b)=(a,f b):=rfl
variable (f:α->β){F:Option γ}{l:List γ}{k:γ->Option (aW α Unit)}{kO:γ->Option α}{v:Option (aW α Unit)}{vO:Option α}
def f5{b:Bool}{y}:dg f (aa b v y)=aa b (dg f v) (dg f y):=by cases b<;>rfl
def gt:dg f (ask F k)=ask F λx=>dg f (k x):=by cases F<;>rfl
def lm{F:Option (aW γ Unit)}:dg f (aw F k)=aw F λx=>dg f (k x):=by cases F with|none=>rfl|some a=>cases a<;>rfl
def g6{i:Int}:dg f (ab l i k)=ab l i λx=>dg f (k x):=by
 unfold ab;split
 .split<;>rfl
 .rfl
def m9{i:Nat}:dg f (eJ l i k)=eJ l i λx=>dg f (k x):=by unfold eJ;split<;>rfl
def nl{n b:Nat}:dg f (fits n b v)=fits n b (dg f v):=by unfold fits;split<;>rfl
def n5{a b:Int}{k:List γ->Option (aW α Unit)}:dg f (ez l a b k)=ez l a b λx=>dg f (k x):=by unfold ez;split<;>rfl
def RK{a b:ByteArray}{k:ByteArray->Option (aW α Unit)}:dg f (i7 a b k)=i7 a b λx=>dg f (k x):=by unfold i7;split<;>rfl
def lw{x:α}:dg f (some (.ret x))=some (.ret (f x)):=rfl
def wl{t q u}:dg f (some (.aN t q u))=some (.aN t q u):=rfl
def m0{k:β->Option (aW γ Unit)}:aw (dg f v) k=aw v λx=>k (f x):=by cases v with|none=>rfl|some a=>cases a<;>rfl
def g8:eP v=v:=by cases v with|none=>rfl|some a=>cases a<;>rfl
def wn{b:Bool}{y:Option α}:gc f (aa b vO y)=aa b (gc f vO) (gc f y):=by cases b<;>rfl
def i0:gc f (ask F kO)=ask F λx=>gc f (kO x):=by cases F<;>rfl
def wp{i:Int}:gc f (ab l i kO)=ab l i λx=>gc f (kO x):=by
 unfold ab;split
 .split<;>rfl
 .rfl
def ws{n b:Nat}:gc f (fits n b vO)=fits n b (gc f vO):=by unfold fits;split<;>rfl
def R1{a b:ByteArray}{k:ByteArray->Option α}:gc f (i7 a b k)=i7 a b λx=>gc f (k x):=by unfold i7;split<;>rfl
def R2{x:α}:gc f (some x)=some (f x):=rfl
def So{k:β->Option γ}:ask (gc f vO) k=ask vO λx=>k (f x):=by cases vO<;>rfl
end
class n8 where
 p:Rows
 m:Nat
 i:Nat
section
variable [X:n8]
open Classical in
def eq(q:Rows)(j:Int):Rows:=if q=X.p/\j=X.i then X.p.take X.m else q
def ap{α:Type}(x:Rows×Int×α):Rows×Int×α:=(eq x.1 x.2.1,x.2)
abbrev bv{α:Type}:Option (aW (Rows×Int×α) Unit)->Option (aW (Rows×Int×α) Unit):=dg ap
def g9{α:Type}(x:Rows×Int×α):(ap x).1=eq x.1 x.2.1:=rfl
def g7{α:Type}(x:Rows×Int×α):(ap x).2=x.2:=rfl
def hV{γ:Type}{f:Rows->Int->γ}(h:f (X.p.take X.m) X.i=f X.p X.i)(q:Rows)(j:Int):f (eq q j) j=f q j:=by
 unfold eq
 split
 .rename_i c;rw[c.1,c.2];exact h
 .rfl
def ST(x:T1):F6 (ap x)=ap (F6 x):=rfl
def TF(x:T9):F6 (ap x)=ap (F6 x):=rfl
def UV{α:Type}(x:ar)(v:α):oD (ap x) v=ap (oD x v):=rfl
def VB{α:Type}(x:ar)(v:α):ahj (ap x) v=ap (ahj x v):=rfl
def At(a b x):∀n,jH n a b (ap x)=bv (jH n a b x)|0=>rfl|n+1=>by simp only[Fk,f5,lw,wl,g7]
def i5(a b c x):∀n,aO n a b c (ap x)=bv (aO n a b c x)|0=>rfl|n+1=>by simp only[SM,At,f5,lw,g8]
omit X in
def AC{n b c x y}(h:jH n b c x=some (.ret y)):(c !=0)=false/\y=x:=by cases n with|zero=>cases h|succ n=>rw[Fk]at h;cases e:c !=0 with|true=>rw[e]at h;cases h|false=>rw[e]at h;cases h;exact⟨rfl,rfl⟩
omit X in
def Wi{n a b c x y}(h:aO n a b c x=some (.ret y)):y=x:=by cases n with|zero=>cases h|succ n=>rw[SM,g8]at h;cases a with|true=>cases h;rfl|false=>exact(AC (n:=n) (b:=b) (c:=c) h).2
omit X in
def WF{n b x y}(h:aO n false b 8 x=some (.ret y)):False:=by cases n with|zero=>cases h|succ n=>rw[SM,g8]at h;exact absurd (AC (n:=n) (b:=b) (c:=8) h).1 (by decide)
omit X in
def BT{β:Type}{n b x}(K K':ar->Option (aW β Unit)):aw (aO n false b 8 x) K=aw (aO n false b 8 x) K':=by cases e:aO n false b 8 x with|none=>rfl|some y=>cases y with|aN=>rfl|ret y=>exact(WF e).elim
omit X in
def WP(n b x a0 a1 a2 a3 a4 a5 a7 a8 a9 a10 a11 a12)(g:ar->ar):(aw (aO n false b 8 x) λy=>Km n a0 a1 a2 a3 a4 a5 (g y) a7 a8 a9 a10 a11 a12)=aw (aO n false b 8 x) λ_=>none:=BT _ _
omit X in
def Yt{β:Type}(f:ar->β)(n b x a0 a1 a2 a3 a4 a5 a7 a8 a9 a10 a11 a12)(g:ar->ar):(aw (aO n false b 8 x) λy=>dg f (Km n a0 a1 a2 a3 a4 a5 (g y) a7 a8 a9 a10 a11 a12))=aw (aO n false b 8 x) λ_=>none:=BT _ _
def gs{β:Type}{n a b c x}{K K':ar->Option (aW β Unit)}{f:β->β}(h:K' (ap x)=dg f (K x)):aw (aO n a b c (ap x)) K'=dg f (aw (aO n a b c x) K):=by rw[i5,m0,lm];cases e:aO n a b c x with|none=>rfl|some y=>cases y with|aN=>rfl|ret y=>obtain rfl:=Wi e;exact h
def abk:∀n,(∀a b c x d e,uI n a b c (ap x) d e=gc (f4 ap) (uI n a b c x d e))/\(∀a b c x d e,uf n a b c (ap x) d e=gc (f4 ap) (uf n a b c x d e)):=by intro n;induction n with|zero=>and_intros<;>intros<;>rfl|succ n ih=>and_intros<;>intros<;>simp only[Nk,LV,ih,wn,i0,wp,ws,R1,R2,g7,wf]
def i9{β:Type}{q:Rows}{j k:Int}{K:List AV->Option β}(h:q=X.p->j=(X.i:Int)->k<X.m):ab (eq q j) k K=ab q k K:=by
 unfold eq
 split
 .rename_i c;rw[c.1];exact(ci.getT (B:=λ_=>True) (h c.1 c.2) λ_ _=>.refl).1
 .rfl
def m3(x:ar)(k:Int):Prop:=x.1=X.p->x.2.1=(X.i:Int)->k<X.m
def Do{x:ar}{k:Int}(h:m3 x k):∀n,(∀a b c d e f g o,qj n a k b c d e f (ap x) g o=gc (f4 ap) (qj n a k b c d e f x g o))/\(∀a b c d e f t g o u,zq n a k b c d e f t (ap x) g o u=gc (f4 ap) (zq n a k b c d e f t x g o u)):=by intro n;induction n with|zero=>and_intros<;>intros<;>rfl|succ n ih=>and_intros<;>intros<;>simp only[M9,Xy,ih,(abk n).1,wn,i0,wp,ws,g9,i9 h]
def Ds{x:ar}{k:Int}(h:m3 x k):∀n a b c d e,uA n k a b c d (ap x) e=bv (uA n k a b c d x e)|0,_,_,_,_,_=>rfl|n+1,a,b,c,d,e=>by have h1:=Ds h n;rw[MR,MR];simp only[f5,g6,gt,g9,i9 h,g8,i5,lw];congr 3;funext r;congr 1;funext r2;congr 1;funext b2;rw[<-i5];exact gs (by simp only[f5,h1,g6,g9,i9 h])
variable (h:kw X.p X.m X.i)
include h
def abs(n)(q:Rows)(j:Int):jh n (eq q j) j=jh n q j:=hV (f:=jh n) ((m8 h n).1 _ (Nat.le_refl _)).1 q j
def acc(n)(q:Rows)(j:Int):s3 n (eq q j) j=s3 n q j:=hV (f:=s3 n) (Pi h n).1 q j
def acl(n)(q:Rows)(j:Int):oM n (eq q j) j=oM n q j:=hV (f:=oM n) (m6 h (Nat.le_refl _) n).1 q j
def adc(n)(q:Rows)(j:Int):l5 n (eq q j) j=l5 n q j:=hV (f:=l5 n) (ut h (Nat.le_refl _) n).1 q j
def aeq(n)(q:Rows)(j:Int):Cs n (eq q j) j=Cs n q j:=hV (f:=Cs n) (Nm h n).1 q j
def aid(n)(q:Rows)(j:Int):wC n (eq q j) j=wC n q j:=hV (f:=wC n) (NE h n).1 q j
def aig(n)(q:Rows)(j:Int)(s):BK n (eq q j) j s=BK n q j s:=hV (f:=λq j=>BK n q j s) (Ok h s n).1 q j
def Eq{β:Type}(q:Rows)(j:Int)(K:Rows->Option β):ez (eq q j) 0 j K=ez q 0 j K:=by refine hV (f:=λq j=>ez q 0 j K) ?_ q j;have:=h.hi;have:=h.hm;unfold ez;rw[List.length_take,show decide ((0:Int)<=0/\(0:Int)<=(X.i:Int)/\(X.i:Int)<=(min X.m X.p.length:Nat))=true from decide_eq_true (by omega),show decide ((0:Int)<=0/\(0:Int)<=(X.i:Int)/\(X.i:Int)<=(X.p.length:Nat))=true from decide_eq_true (by omega)];simp only[Int.toNat_zero,List.drop_zero,Nat.sub_zero,Int.toNat_natCast,List.take_take];rw[Nat.min_eq_left (by omega)]
def m4{β:Type}(n)(q:Rows)(j:Int){K K':Int->Option β}(hk:∀k,(q=X.p->j=(X.i:Int)->k<(X.i:Int))->K k=K' k):ask (ko n (eq q j) j) K=ask (ko n q j) K':=by rw[hV (f:=ko n) (io h (Nat.le_refl _) n).1 q j];cases e:ko n q j with|none=>rfl|some k=>exact hk k λh1 h2=>by rw[h1,h2]at e;exact(io h (Nat.le_refl _) n).2 k e
def EQ{n}{q:Rows}{j k:Int}(hk:q=X.p->j=(X.i:Int)->k<(X.i:Int)):l5 n (eq q j) k=l5 n q k:=by
 unfold eq
 split
 .rename_i c
  rw[c.1]
  by_cases h0:0<=k
  .obtain⟨l,rfl⟩:∃l:Nat,k=l:=⟨k.toNat,by omega⟩;exact(ut h (by have:=hk c.1 c.2;omega) n).1
  .have neg:∀l:Rows,l5 n l k=none:=λl=>by
    have g:∀{β:Type}(K:List AV->Option β),ab l k K=none:=λK=>by unfold ab;rw[show decide (0<=k)=false from decide_eq_false h0]
    cases n with|zero=>rfl|succ n=>rw[ahR];simp only[g];cases oM n l k<;>rfl
   rw[neg,neg]
 .rfl
def aiS(a x):∀n,Gf n a (ap x)=gc (f4 ap) (Gf n a x)
 |0=>rfl
 |n+1=>by
  have hi:=h.hi
  rw[aeF,aeF,i0]
  refine m4 h n _ _ λk hk=>?_
  have hk':m3 x k:=λh1 h2=>by have:=hk h1 h2;omega
  simp only[g9,g7,EQ h hk,i0,Do hk' n]
def aiT(a b x):∀n,EE n a b (ap x)=gc (f4 ap) (EE n a b x)
 |0=>rfl
 |n+1=>by
  have hi:=h.hi
  rw[Y1,Y1,i0]
  refine m4 h n _ _ λk hk=>?_
  have hk':m3 x k:=λh1 h2=>by have:=hk h1 h2;omega
  simp only[g9,g7,EQ h hk,i0,Do hk' n]
def aiU(a x):∀n,Gk n a (ap x)=bv (Gk n a x)
 |0=>rfl
 |n+1=>by
  have hi:=h.hi
  rw[ae5,ae5]
  unfold bv
  rw[gt]
  refine m4 h n _ _ λk hk=>?_
  have hk':m3 x k:=λh1 h2=>by have:=hk h1 h2;omega
  have r3:zQ n k (ap x) a=bv (zQ n k x a):=by cases n with|zero=>rfl|succ n=>rw[YX,YX];unfold bv;rw[gt];congr 1;funext b;exact gs (Ds hk' n ..)
  rw[f5]
  congr 1
  .exact gs r3
  .exact gs r3
def aiV{β:Type}(n)(q:Rows)(j:Int){K:Int->List AV->Option β}:(ask (ko n (eq q j) j) λk=>ab (eq q j) k (K k))=ask (ko n q j) λk=>ab q k (K k):=m4 h n q j λk hk=>i9 λh1 h2=>by have:=hk h1 h2;have:=h.hi;omega
def aiW{β:Type}(n)(q:Rows)(j:Int){c:Int->Bool}{K:Int->List AV->Option β}{K':Int->Option β}:(ask (ko n (eq q j) j) λk=>aa (c k) (ab (eq q j) k (K k)) (K' k))=ask (ko n q j) λk=>aa (c k) (ab q k (K k)) (K' k):=m4 h n q j λk hk=>by rw[i9 λh1 h2=>by have:=hk h1 h2;have:=h.hi;omega]
set_option maxHeartbeats 4000000 in
def aiX:∀n,(∀a,H7 n (ap a)=bv (H7 n a))/\(∀a,H8 n (ap a)=bv (H8 n a))/\(∀a,H9 n (ap a)=bv (H9 n a))/\(∀a,Ia n (ap a)=bv (Ia n a))/\(∀a b c,AH n a b (ap c)=bv (AH n a b c))/\(∀a b c d e f g i j,AN n a b c (ap d) e f g i j=bv (AN n a b c d e f g i j))/\(∀a b c d e f,AO n a b c d (ap e) f=bv (AO n a b c d e f))/\(∀a b c,AP n a (ap b) c=bv (AP n a b c))/\(∀a b c d,vi n a b c (ap d)=bv (vi n a b c d))/\(∀a b c d e f,Ga n a b c d (ap e) f=bv (Ga n a b c d e f))/\(∀a b c d e,sJ n a b c d (ap e)=bv (sJ n a b c d e))/\(∀a b c d e,AR n a b c (ap d) e=bv (AR n a b c d e))/\(∀a b,Ic n a (ap b)=bv (Ic n a b))/\(∀a b c d e f g i j k l,Eo n a b c (ap d) e f g i j k l=bv (Eo n a b c d e f g i j k l))/\(∀a b c d e f g i j k,Ep n a b c (ap d) e f g i j k=bv (Ep n a b c d e f g i j k))/\(∀a b c d e f g i j,vk n a b c (ap d) e f g i j=bv (vk n a b c d e f g i j))/\(∀a b c d e f g i,Fg n a b c d e (ap f) g i=bv (Fg n a b c d e f g i))/\(∀a b c d e f g i,sd n a b c d e f (ap g) i=bv (sd n a b c d e f g i))/\(∀a b c d e f g i j,oa n a b c d e f (ap g) i j=bv (oa n a b c d e f g i j))/\(∀a b,Gj n a (ap b)=bv (Gj n a b))/\(∀a b,Gl n a (ap b)=dg (f0 ap) (Gl n a b))/\(∀a b c d e f g,AW n a b c (ap d) e f g=bv (AW n a b c d e f g))/\(∀a b c,lM n a (ap b) c=bv (lM n a b c))/\(∀a b,sK n a (ap b)=bv (sK n a b))/\(∀a b c d,Gp n a b c (ap d)=bv (Gp n a b c d))/\(∀a b c,zN n (ap a) b c=bv (zN n a b c))/\(∀a b c d e f g i j k l o q,zO n a b c d e f g i j k (ap l) o q=bv (zO n a b c d e f g i j k l o q))/\(∀a b c d e f g,uy n a b c d e (ap f) g=bv (uy n a b c d e f g))/\(∀a b c d e f g i j,ky n a b c d e f (ap g) i j=bv (ky n a b c d e f g i j))/\(∀a b c d e f g i j k l o,zo n a b c d e f (ap g) i j k l o=bv (zo n a b c d e f g i j k l o))/\(∀a b c d e f g i j k l,yF n a b c d e f (ap g) i j k l=bv (yF n a b c d e f g i j k l))/\(∀a b c d e f g i j k l,kD n a b c d e f g (ap i) j k l=bv (kD n a b c d e f g i j k l))/\(∀a b c d e f g i j k l,rE n a b c d e f g (ap i) j k l=bv (rE n a b c d e f g i j k l))/\(∀a b c d e f g,zP n a b c (ap d) e f g=bv (zP n a b c d e f g))/\(∀a b c d e f g i j,zR n a b c (ap d) e f g i j=dg (f0 ap) (zR n a b c d e f g i j))/\(∀a b,Gu n a (ap b)=bv (Gu n a b))/\(∀a b c d e f g i,Ew n a b c d e (ap f) g i=bv (Ew n a b c d e f g i))/\(∀a b c d e f g i j k l,Ey n a b c d e (ap f) g i j k l=bv (Ey n a b c d e f g i j k l))/\(∀a b c d e f g,zT n a b (ap c) d e f g=bv (zT n a b c d e f g))/\(∀a b c d e f g i j k l o q,D0 n a b c d e f g i j k (ap l) o q=bv (D0 n a b c d e f g i j k l o q))/\(∀a b c,GA n a b (ap c)=dg (f4 (f0 (f0 (f0 (f0 (f0 ap)))))) (GA n a b c))/\(∀a b c d e f g i j k l o,Dd n a b c d e f (ap g) i j k l o=bv (Dd n a b c d e f g i j k l o))/\(∀a b c d e f g i j k l,De n a b c d e f (ap g) i j k l=bv (De n a b c d e f g i j k l))/\(∀a b c d e f g i,ED n a b c (ap d) e f g i=bv (ED n a b c d e f g i))/\(∀a b c d e,sM n a b c d (ap e)=dg (f4 (f4 ap)) (sM n a b c d e))/\(∀a b c d e f g,zV n a b c (ap d) e f g=bv (zV n a b c d e f g))/\(∀a b c d e f g i j,rF n a b c d e f (ap g) i j=bv (rF n a b c d e f g i j))/\(∀a b c d e f g i j k l,rG n a b c d e (ap f) g i j k l=bv (rG n a b c d e f g i j k l))/\(∀a b c d e f g i j k l o,zr n a b c d e (ap f) g i j k l o=bv (zr n a b c d e f g i j k l o))/\(∀a b c d e f g i j k l o q,ud n a b c d e f (ap g) i j k l o q=bv (ud n a b c d e f g i j k l o q))/\(∀a b c d e f g i,zZ n a b c d (ap e) f g i=dg (f4 (f0 (f0 (f0 (f0 (f0 ap)))))) (zZ n a b c d e f g i))/\(∀a b c d e f g i,tF n a b c (ap d) e f g i=bv (tF n a b c d e f g i))/\(∀a b c d e f g i j k l o q r,yX n a b c d e f g i j k (ap l) o q r=bv (yX n a b c d e f g i j k l o q r))/\(∀a b c d e f g i,tG n a b c d e (ap f) g i=bv (tG n a b c d e f g i))/\(∀a b c d e f g i j k l o q,pP n a b c d e f (ap g) i j k l o q=bv (pP n a b c d e f g i j k l o q))/\(∀a b c d e f g i j k l o q r,Df n a b c d e f g i j k (ap l) o q r=bv (Df n a b c d e f g i j k l o q r))/\(∀a b c d,GW n a b c (ap d)=dg (f4 (f0 (f0 (f0 ap)))) (GW n a b c d))/\(∀a b c d e f g i j k l o,Ko n a b c d e (ap f) g i j k l o=bv (Ko n a b c d e f g i j k l o))/\(∀a b c d e f g i j k l o,Kp n a b c d e (ap f) g i j k l o=bv (Kp n a b c d e f g i j k l o))/\(∀a b c d e f g i j k,Aj n a b c d e f (ap g) i j k=dg (f4 (f0 (f0 (f0 ap)))) (Aj n a b c d e f g i j k))/\(∀a b c d e f g i j k,Ao n a b c d e f (ap g) i j k=dg (f4 (f0 (f0 (f0 ap)))) (Ao n a b c d e f g i j k))/\(∀a b c d e f g i j k,D2 n a b c d e f (ap g) i j k=dg (f4 (f0 (f0 (f0 ap)))) (D2 n a b c d e f g i j k)):=by intro n;induction n with|zero=>and_intros<;>intros<;>rfl|succ n ih=>and_intros<;>intros<;>simp only[bv,f0,ah4,aho,ahx,ahH,ON,OE,OL,abL,OU,adw,adS,OO,ahX,Zy,ZL,OB,abN,Nw,MQ,aeG,ac8,OH,abG,aeH,adW,ZM,Nh,Ns,KC,LR,JM,Ny,Wz,Nz,Na,aei,Zz,YY,Y9,LU,adh,VZ,V2,ZA,ae9,MS,KD,KI,XB,XC,MV,KF,KQ,Ks,V3,JN,afk,VV,VX,Nf,M7,LP,ih,i5,At,aiU h,aiS h,aiT h,f5,gt,lm,g6,m9,nl,n5,RK,lw,wl,m0,So,g8,PP,RF,wf,g9,g7,ST,TF,UV,VB,vE,qX,dQ,qY,F8,acc h,acl h,adc h,aeq h,aid h,aig h,Eq h,aiV h,aiW h,WP,Yt]<;>rfl
end
end
section
open BD(cA)
section
variable {p:Rows}{i:Nat}{r:List AV}{s l g:Env}(hs:Sur p i)(hr:p[i]?=some r)(hd:Hd p i r)(hp:∀(k:Nat)q,k<i->p[k]?=some q->Ps p k q)(eC:bd s)(eR:bd l)(gG:bd g)
include hs hr hd hp
theorem JP{x:ByteArray×Rows×Int×Rows×Rows×Rows×Rows×Bool}(hx:sS p i r x)(h:x.2.2.2.2.2.2.2=true):
 ∃(k:Nat)(q:List AV),bR p r=k/\k<i/\p[k]?=some q/\(bj (gD q 7)).Nodup/\x.2.2.2.1.length<=16777216/\(bj x.2.2.2.1).Nodup/\(∀y,y∈x.2.2.2.1->ji (gS y 0))/\∀v,Ev (λn=>l5 n p (k:Int)) v->PT v x.2.2.2.1:=by
 obtain⟨k,q,h1,h2,h3,h4,h5⟩:=hx.2 h
 have hq:=hp k q h2 h3
 refine⟨k,q,h1,h2,h3,hq.vd h4,?_⟩
 rcases h5 with h5|⟨e,he,h5⟩
 .rw[h5];exact⟨by simp,by simp,by simp,λ_ _=>.nil⟩
 .rw[h5];have:=hq.pt h4 e he;exact⟨by have:=(hq.ev e he).1;omega,this.1,this.2.1,this.2.2⟩
include eC
theorem agC:T (λn=>Ia n (aH p i r s l g)) (AQ i λx=>x=aH p i r s l g):=by
 have k:=dG hs.bp (List.mem_of_getElem? hr)
 have D:=ai k 12
 have hv:=sE hs hr
 refine .step (λn=>ahH n _) (.ask (Qc (gD r 11) (gD r 12) (ai k 11) D) λ_ _=>.bw (by omega) λ_=>.ask (Q':=λx=>sS p i r x/\(x.2.2.2.2.2.2.2=true->x.2.2.2.1=[])) ?_ λx hx=>?_)
 .have hlt:=lI hs.hh (by omega) hr
  have hi:=hs.hi
  refine .step (λn=>PU n _ _ _) (.cR (iY p i r hs.bp hr) (.ite (λ_=>.ret ⟨⟨⟨dz,cK,trivial,cK,cK,cK,cK,trivial⟩,λe=>by cases e⟩,λe=>by cases e⟩) λc=>?_))
  have c:=eU c
  obtain⟨m,hm⟩:∃m:Nat,bR p r=m:=⟨(bR p r).toNat,by omega⟩
  have e:ay (gS r 3) (bs [])=false:=by cases e:ay (gS r 3) (bs [])with|false=>rfl|true=>unfold bR at c;grind
  have hf:bc p (gS r 3)=m:=by rw[<-hm];unfold bR;grind
  rw[hm]
  refine .ab (by omega) (by grind) λq hq=>.pos (gh.2 rfl) ?_
  have hq:p[m]?=some q:=by grind
  have E:=an hs.bp hq;exact .ret ⟨⟨⟨dz,cK,trivial,cK,cK,ai E 11,ai E 12,trivial⟩,λ_=>⟨m,q,hm,by omega,hq,(hd.rf e).2.2 q (by grind),.inl rfl⟩⟩,λ_=>rfl⟩
 .have o:=hx.1.1
  refine .aw (acb hs hr eC (w:=gD r 11) (ai k 11) (qX x) ⟨o.1,o.2.1,trivial,o.2.2.2.1,o.2.2.2.2.1,o.2.2.2.2.2.1,o.2.2.2.2.2.2.1⟩ x.2.2.2.2.2.2.2 λhb=>?_) λy hy=>?_
  .obtain⟨m,q,h1,h2,h3,h4,_⟩:=JP hs hr hd hp hx.1 hb;exact⟨m,q,h1,h2,h3,h4,hx.2 hb⟩
  .subst hy
   refine .aw (Ph hs hr (acts:=gD r 12) D (env:=s) eC false) λz hz=>?_
   subst hz
   have F:=bq hv
   refine T.loop (σ:=Unit) (L:=λj _ n=>AR n (gD r 7) ((gD r 7).length:Int) j (aH p i r s l g) (ct r)) (gD r 7).length (λ_ _=>True) ?_ ?_ () trivial
   .exactλ_ _=>.step (λn=>OO n _ _ _ _ _) (.neg (by simp) (.ok rfl))
   .intro j _ hj _ I;refine .step (λn=>OO n _ _ _ _ _) (.pos (by simp;omega) (.ab (by omega) (by omega) λd hd=>?_));have kd:=an hv hd;refine .ask (aac (gD r 12) _ _ _ _ D (ak kd 0) (ak kd 2) (ai kd 3)) λ_ _=>.bw (by omega) λ_=>?_;rw[aE (i:=(j:Int)+1) (by omega) (by omega)];simp_all
omit eC
include eR gG
def B5(l:Env)(e:List AV):Prop:=(bj (gD e 3)).Nodup/\(∀x,x∈gD e 3->ji (gS x 0))/\PT l (gD e 3)
theorem agD{j:Nat}{e:List AV}(hj:(gD r 13)[j]?=some e):T (λn=>Ic n (j:Int) (aH p i r s l g)) (AQ i λx=>x=aH p i r s l g/\B5 l e):=by
 have hb:=Hx hs hr
 have V:j<(gD r 13).length:=(List.getElem?_eq_some_iff.1 hj).1
 have k:=an hb hj
 have K:=B4 k
 have hl:=hd.ev e (List.mem_of_getElem? hj)
 have no:∀{Q:ar->Prop}{J:Nat->ar->Option (aW ar Unit)},T (λn=>Go.AI.aw (aO n false (gS e 0) 1 (aH p i r s l g)) λx=>J n x) (AQ i Q):=.bw (by omega) λc=>by cases c
 refine .step (λn=>ahX n _ _) (.ab (by omega) (by grind) λe' D=>?_)
 have D:(gD r 13)[j]?=some e':=by grind
 rw[hj]at D
 obtain rfl:=Option.some.inj D
 refine .ask (sD _ (ak k 0)) λ_ _=>.ite (λ_=>.ite (λU=>.ite (λ_=>.ite (λ_=>.ite (λ_=>.ite (λ_=>.ask (af5 (gD e 4) (ai k 4)) λ_ _=>.ite (λ_=>.ask (Qc (gD e 5) (gD e 6) (ai k 5) (ai k 6)) λ_ _=>.ite (λ_=>.ask (ach (gD e 3) (ai k 3)) λb S=>.bw (by omega) λc=>?_) (λ_=>no)) (λ_=>no)) (λ_=>no)) (λ_=>no)) (λ_=>no)) (λ_=>no)) (λ_=>no)) (λ_=>no)
 have O:=S (by grind)
 refine .step (λn=>abG n _ _ _) (.aw (acj hs hr hd hj) λx hx=>?_)
 obtain⟨rfl,X,R⟩:=hx
 refine .aw (ack hs hr hd K) λx hx=>?_
 obtain⟨rfl,E⟩:=hx
 refine .aw (acm hs hr hd (iK e) K (by grind) eR) λx hx=>?_
 obtain⟨v,ts,rfl,hv,M,N,F⟩:=hx
 have hok:B5 l e:=⟨R,O,F⟩
 refine T.loop (σ:=Unit) (L:=λm _ n=>AW n (gD e 4) ((gD e 4).length:Int) m (aH p i r s l g) (iK e) v ts) (gD e 4).length (λ_ _=>True) ?_ ?_ () trivial
 .intro _ _
  refine .step (λn=>OH n _ _ _ _ _ _ _) (.neg (by simp) (.aw (acn hs hr hd K E) λx hx=>?_))
  subst hx
  refine .ask (ab8 hs hr hd (gS e 0) (ak k 0) λ_ n f h1 h2 m q h3 h4 y hy=>?_) λx hx=>?_
  .obtain rfl:n=j:=by omega
   rw[hj]at h2;obtain rfl:=Option.some.inj h2;exact E.2 m q h3 h4 y hy
  .have o:=hx.1;refine .aw (XN hs hr gG (w:=gD e 5) (ai k 5) (qX x) ⟨o.1,o.2.1,trivial,o.2.2.2.1,o.2.2.2.2.1,o.2.2.2.2.2.1,o.2.2.2.2.2.2.1⟩ x.2.2.2.2.2.2.2 (iK e) K M N eR (ai (dG (ai (dG hs.hb (List.mem_of_getElem? hr)) 13) (List.mem_of_getElem? hj)) 3) F λhb=>JP hs hr hd hp hx hb) λy hy=>?_;subst hy;have act:∀b,T (λn=>Go.AI.eP (sJ n (gS e 0) (gD e 6) v b (aH p i r s l g))) (AQ i λx=>x=aH p i r s l g/\B5 l e):=λb=>.eP ((Ph hs hr (acts:=gD e 6) (ai k 6) hv b).mono λz hz=>by grind);exact .ite (λ_=>act _) (λ_=>act _)
 .intro m _ hm _ Y;refine .step (λn=>OH n _ _ _ _ _ _ _) (.pos (by simp;omega) (.ab (by omega) (by omega) λq hq=>?_));have I:=an (ai k 4) hq;refine .ask (S2 v _ hv ⟨trivial,ak I 2,trivial,trivial,ak I 5,ai I 6,ai I 7⟩) λ_ _=>.fail λ_=>?_;rw[aE (i:=(m:Int)+1) (by omega) (by omega)];simp_all
end
theorem agE{p:Rows}{i:Nat}{r:List AV}{s l g:Env}(hb:cA 16777216 p)(hn:p.length<=16)(hr:p[i]?=some r)(hp:∀(k:Nat)q,k<i->p[k]?=some q->Ps p k q):
 T (λn=>H3 n (aH p i r s l g)) (AQ i λ_=>Ps p i r):=by
 have z:∀(k:Nat)q,k<i->p[k]?=some q->Hd p k q:=λk q h1 h2=>(hp k q h1 h2).toHd
 refine .step (λn=>ah3 n _) (.aw (agx hb hn hr z) λx hx=>?_)
 obtain⟨rfl,hd⟩:=hx
 have hs:=vp hb hn hr z hd
 refine .aw (agy hb hn hr z hd) λx hx=>?_
 obtain⟨s,l,g,rfl,eC,eR,gG,el,_,hv⟩:=hx
 refine .aw (agA hs hr eC gG) λx hx=>?_
 subst hx
 refine .ite (λc=>.ok ⟨hd,hv,λe=>?_⟩) (λc=>.aw (agB hs hr eR) λx hx=>?_)
 .grind
 subst hx
 refine .aw (agC hs hr hd hp eC) λx hx=>?_
 subst hx
 have o:=Hx hs hr
 refine T.loop (σ:=Unit) (L:=λj _ n=>AH n ((gD r 13).length:Int) j (aH p i r s l g)) (gD r 13).length (λj _=>∀e,e∈(gD r 13).take j->B5 l e) ?_ ?_ () (by simp)
 .intro _ h;rw[List.take_length]at h;have hok:Ps p i r:=⟨hd,hv,λ_ e he=>⟨(h e he).1,(h e he).2.1,λv ev=>by rw[ev.HU el];exact(h e he).2.2⟩⟩;exact .step (λn=>ON n _ _ _) (.neg (by simp) (.ask (aik (gD r 13) o) λ_ _=>.ow (by omega) λ_=>hok))
 .intro j _ hj h E
  have D:(gD r 13)[j]?=some (gD r 13)[j]:=by simp[hj]
  have hl:=bq o;refine .step (λn=>ON n _ _ _) (.pos (by simp;omega) (.aw (agD hs hr hd hp eR gG D) λx hx=>?_));obtain⟨rfl,hok⟩:=hx;rw[aE (i:=(j:Int)+1) (by omega) (by omega)];refine E () λe he=>?_;rw[fJ D]at he;grind
end
section
open BD (cA)
section
section
variable [X:n8]
section
variable (h:kw X.p X.m X.i)
include h
theorem Fd:∀n a b x t l q,z6 n a b (ap x) t l q=bv (z6 n a b x t l q)|0,_,_,_,_,_,_=>rfl|n+1,_,_,_,_,_,_=>by simp only[bv,Nl,Fd n,i5,f5,g6,m9,gt,lm,m0,g8,g7]
theorem FS{x l}(hl:x.1=X.p->x.2.1=(X.i:Int)->d0 X.m l):∀n a b t,uK n a b (ap x) t l=bv (uK n a b x t l)
 |0,_,_,_=>rfl
 |n+1,a,b,t=>by
  have h1:=FS hl n
  rw[MT,MT]
  unfold bv at h1⊢
  rw[f5]
  congr 1
  .rw[g6];congr 1;funext _;rw[m9];refine(ci.eJ (B:=λ_=>True) λr hr=>?_).1;simp only[f5,g6,gt,nl,h1,g9,g7,i9 λe1 e2=>hl e1 e2 r hr];exact .refl
  .simp only[Fd h,i5,f5,gt,lm,m0,n5,nl,g8,g9,g7,Eq h]
theorem aiY(x):∀n,Gx n (ap x)=bv (Gx n x)|0=>rfl|n+1=>by rw[aeJ,aeJ];unfold bv;rw[gt,g9,g7,abs h];cases e:jh n x.1 x.2.1 with|none=>rfl|some l=>exact FS h (λh1 h2=>by rw[h1,h2]at e;exact((m8 h n).1 X.i (Nat.le_refl _)).2 l e) n ..
end
theorem GE{n s l k}(hl:l.length<=16)(h:qL n s l=some k):k=bc l s:=by
 cases n with
 |zero=>cases h
 |succ n=>
  rw[ac5]at h
  cases n with
  |zero=>cases h
  |succ n=>
   rw[abw]at h
   unfold ask at h
   split at h
   .rename_i b hb;obtain rfl:=Option.some.inj h;refine pi (J:=λn i=>zp n l s (l.length:Int) i) (P:=λn r=>Sm n (eD r 0) s) hl (λ_=>rfl) (λn i=>XA n _ _ _ _) (λn r b e=>?_) n 0 _ (by simp) hb;cases n with|zero=>cases e|succ n=>rw[afa]at e;exact(Option.some.inj e).symm
   .cases h
section
variable {r:List AV}{s l g:Env}(hn:X.p.length<=16)(hm:X.m<=X.p.length)(hi:X.i<X.m)(hr:X.p[X.i]?=some r)(hh:qo X.p X.i)
abbrev f1(r:List AV)(s l g:Env):ar:=aH X.p X.i r s l g
include hn hm hi hr hh
theorem GT(n)(h3:ay (gS r 3) (bs [])=false->0<=bc (X.p.take X.i) (gS r 3))(h2:∀q,q∈gD r 2->0<=bc (X.p.take X.i) (gS q 0)):zS n (ap (f1 r s l g)) (ct r)=bv (zS n (f1 r s l g) (ct r)):=by
 have up:∀{s:ByteArray},0<=bc (X.p.take X.i) s->0<=bc X.p s/\bc X.p s<X.i:=λhs=>by have:=KW (p:=X.p) (i:=X.i) (by omega) hs;omega
 have h:kw X.p X.m X.i:=⟨hn,hm,hi,⟨λj q hj hq e=>by
  by_cases c:j<X.i
  .exact hh.rf j q c hq e
  .obtain rfl:j=X.i:=by omega
   rw[hr]at hq;obtain rfl:=Option.some.inj hq;exact up (h3 e),λj q hj hq x hx=>by
  by_cases c:j<X.i
  .exact hh.ex j q c hq x hx
  .obtain rfl:j=X.i:=by omega
   rw[hr]at hq;obtain rfl:=Option.some.inj hq;exact up (h2 x hx)⟩⟩;cases n with|zero=>rfl|succ n=>rw[ZO,ZO];unfold bv;rw[gt];congr 1;funext b;exact gs (by rw[g8,g8];exact aiY h _ n)
theorem aiZ(hl:(gD r 2).length<=4611686018427387904):∀n(j:Nat),(∀q,q∈(gD r 2).take j->0<=bc (X.p.take X.i) (gS q 0))->sA n (gD r 2) ((gD r 2).length:Int) j (ap (f1 r s l g)) (ct r) (X.p.take X.i)=bv (sA n (gD r 2) ((gD r 2).length:Int) j (f1 r s l g) (ct r) (X.p.take X.i)):=by
 have hlt:(X.p.take X.i).length<=16:=by rw[List.length_take];omega
 intro n
 induction n with
 |zero=>exactλ_ _=>rfl
 |succ n ih=>
  intro j h2
  rw[OI,OI]
  unfold bv at ih⊢
  rw[f5]
  refine(ci.ite (B:=λ_=>True) (λc=>?_) (λc=>?_)).1
  .have c:(j:Int)<((gD r 2).length:Int):=of_decide_eq_true c
   rw[g6]
   refine .ab λ_ q hq=>?_
   have hq:(gD r 2)[j]?=some q:=by simpa using hq
   rw[gt]
   refine .asks λk hk=>?_
   rw[g6]
   refine .ab λh0 x _=>.jp (gs ?_)
   rw[aE (i:=(j:Int)+1) (by omega) (by omega)]
   refine ih (j+1) (λy hy=>?_)
   rw[fJ hq]at hy
   rcases List.mem_append.1 hy with hy|hy
   .exact h2 y hy
   .rw[List.mem_singleton]at hy;rw[hy,<-GE hlt hk];exact h0
  .have c:¬(j:Int)<((gD r 2).length:Int):=of_decide_eq_false c
   rw[List.take_of_length_le (by omega)]at h2
   rw[f5]
   refine .ite (λc=>.jp (gs (GT hn hm hi hr hh n (λe=>?_) h2))) (λc=>?_)
   .have c:ay (gS r 3) (bs [])=true:=c;rw[c]at e;cases e
   .rw[gt];refine .asks λk hk=>?_;rw[g6];exact .ab λh0 x _=>.jp (gs (GT hn hm hi hr hh n (λ_=>by rw[<-GE hlt hk];exact h0) h2))
variable (hl:(gD r 2).length<=4611686018427387904)
include hl
theorem H1:∀n j,vj n (gD r 2) ((gD r 2).length:Int) j (ap (f1 r s l g)) (ct r) (X.p.take X.i)=bv (vj n (gD r 2) ((gD r 2).length:Int) j (f1 r s l g) (ct r) (X.p.take X.i))
 |0,_=>rfl
 |n+1,j=>by
  have h:=aiZ (s:=s) (l:=l) (g:=g) hn hm hi hr hh hl n 0 (by simp)
  rw[OG,OG]
  unfold bv
  rw[f5]
  congr 1
  .rw[g6];congr 1;funext q;rw[gt];congr 1;funext b;exact gs (H1 n _)
  .rw[f5]
   congr 1
   .exact gs h
   .rw[gt];congr 1;funext b;exact gs h
theorem n9:∀n a b j,vg n a b j (ap (f1 r s l g)) (ct r)=bv (vg n a b j (f1 r s l g) (ct r))
 |0,_,_,_=>rfl
 |n+1,a,b,j=>by
  have sub:∀{β:Type}{q:Rows}(K:Rows->Option β),X.i<=q.length->ez q 0 (X.i:Int) K=K (q.take X.i):=λK hq=>by unfold ez;rw[show decide ((0:Int)<=0/\(0:Int)<=(X.i:Int)/\(X.i:Int)<=((_:Rows).length:Int))=true from decide_eq_true (by omega)];simp
  rw[OA,OA]
  unfold bv
  rw[f5]
  congr 1
  .rw[g6]
   congr 1
   funext q
   rw[f5]
   congr 1
   .exact gs (n9 n ..)
   .exact gs (n9 n ..)
  .rw[show(ap (f1 r s l g)).1=X.p.take X.m from if_pos ⟨rfl,rfl⟩,g7,n5];show ez (X.p.take X.m) 0 (X.i:Int) _=ez X.p 0 (X.i:Int) _;rw[sub _ (by rw[List.length_take];omega),sub _ (by omega),List.take_take,Nat.min_eq_left (by omega),gt];congr 1;funext b;exact gs (H1 hn hm hi hr hh hl n 0)
theorem Id(b):∀n,AM n b (ap (f1 r s l g)) (ct r)=bv (AM n b (f1 r s l g) (ct r))
 |0=>rfl
 |n+1=>by
  have h8:∀n,vh n (ap (f1 r s l g)) (ct r)=bv (vh n (f1 r s l g) (ct r)):=λn=>by cases n with|zero=>rfl|succ n=>rw[abz,abz];exact n9 hn hm hi hr hh hl n _ _ _
  have h7:sx n (ap (f1 r s l g)) (ct r)=bv (sx n (f1 r s l g) (ct r)):=by cases n with|zero=>rfl|succ n=>have q:∀{b c e},aw (aO n b c e (ap (f1 r s l g))) (λx=>vh n x (ct r))=bv (aw (aO n b c e (f1 r s l g)) λx=>vh n x (ct r)):=gs (h8 n);simp only[bv,abF,f5,q]
  have q:∀{b c e},aw (aO n b c e (ap (f1 r s l g))) (λx=>sx n x (ct r))=bv (aw (aO n b c e (f1 r s l g)) λx=>sx n x (ct r)):=gs h7;rw[abK,abK];unfold bv;rw[gt];congr 1;funext b;exact gs (by simp only[f5,q])
theorem ai0:∀n,H6 n (ap (f1 r s l g))=bv (H6 n (f1 r s l g))
 |0=>rfl
 |n+1=>by
  rw[ahW,ahW]
  unfold bv
  rw[f5]
  congr 1
  .exact gs (Id hn hm hi hr hh hl _ n)
  .exact gs (Id hn hm hi hr hh hl _ n)
end
end
theorem ai1{p:Rows}{m i:Nat}{r:List AV}{s l g:Env}{v:aW ar Unit}(hb:cA 16777216 p)(hn:p.length<=16)(hm:m<=p.length)(hi:i<m)(hr:p[i]?=some r)(hp:∀(k:Nat)q,k<i->p[k]?=some q->Ps p k q)(hv:Ev (λn=>H3 n (aH p i r s l g)) v):∃N,∀n,N<=n->H3 n (aH (p.take m) i r s l g)=dg (ap (X:=⟨p,m,i⟩)) (some v):=by
 let X:n8:=⟨p,m,i⟩
 have hp':∀(k:Nat)q,k<i->p[k]?=some q->Hd p k q:=λk q h1 h2=>(hp k q h1 h2).toHd
 obtain⟨w,⟨a,ha⟩,hq⟩:=agx (s:=s) (l:=l) (g:=g) hb hn hr hp'
 obtain⟨b,hb'⟩:=hv
 have hl:(gD r 2).length<=4611686018427387904:=by have:=(ai (an hb hr) 2).1;omega
 have eX:aH (p.take m) i r s l g=ap (f1 r s l g):=by unfold ap eq;rw[if_pos ⟨rfl,rfl⟩];rfl
 refine⟨max a b+1,λn hN=>?_⟩;obtain⟨n,rfl⟩:∃k,n=k+1:=⟨n-1,by omega⟩;have e1:=ha n (by omega);have e2:=hb' (n+1) (by omega);simp only at e1 e2;rw[eX,<-e2,ah3,ah3,ai0 (X:=X) hn hm hi hr (Pd hb hn hr hp') hl n,show H6 n (f1 r s l g)=some w from e1,e1];cases w with|aN t q u=>rfl|ret y=>obtain⟨rfl,hd⟩:=hq;have h:kw X.p X.m X.i:=⟨hn,hm,hi,aaB hb hr hp' (λe=>let h:=hd.rf e;⟨h.1,h.2.1⟩) λq hq=>let h:=hd.ex q hq;⟨h.1,h.2.1⟩⟩;show aw (H7 n (ap (f1 r s l g))) _=dg ap (aw (H7 n (f1 r s l g)) _);have z:=aiX h n;simp only[z,f5,lm,m0,lw,g7]
end
end
section
open BD (cA)
section
abbrev f3:mX:=(0,0,bs [])
section
variable {p:Rows}(hb:cA 16777216 p)(hn:p.length<=16)
include hb hn
theorem ai2:∀d j:Nat,j+d=p.length->(∀(k:Nat)q,k<j->p[k]?=some q->Ps p k q)->(∀m,j<=m->m<=p.length->Ev (λn=>vF n (p.take m) ((p.take m).length:Int) j f3 (p.take m)) f3)\/∃(c:Nat)(q:List AV),j<=c/\c<p.length/\gI q 0≠0/\gI q 1=c/\(∀m,j<=m->m<=c->Ev (λn=>vF n (p.take m) ((p.take m).length:Int) j f3 (p.take m)) f3)/\∀m,c<m->m<=p.length->Ev (λn=>vF n (p.take m) ((p.take m).length:Int) j f3 (p.take m)) (Sj q 0):=by
 have hl:∀m,m<=p.length->(p.take m).length=m:=λm hm=>by rw[List.length_take];omega
 have done:∀j,j<=p.length->Ev (λn=>vF n (p.take j) ((p.take j).length:Int) j f3 (p.take j)) f3:=λj hj=>.step (λn=>PS n _ _ _ _ _) (.neg (by rw[hl j hj];simp) (.ask (.step (λn=>aby n _) (.ret _)) (.ret _)))
 intro d
 induction d with
 |zero=>
  intro j hj hp;exact .inl λm h1 h2=>by
   obtain rfl:m=j:=by omega
   exact done m h2
 |succ d ih=>
  intro j hj hp
  have hjl:j<p.length:=by omega
  have hr:p[j]?=some p[j]:=by simp[hjl]
  obtain⟨v,hv,hq⟩:=agE (s:=([],[])) (l:=([],[])) (g:=([],[])) hb hn hr hp
  have rd:∀m,j<m->m<=p.length->∀f:mX,(∀k:Nat->ar->Option mX,(∀n y,k n y=vF n (p.take m) ((p.take m).length:Int) ((j+1:Nat):Int) f3 (p.take m))->Ev (λn=>FK (dg (ap (X:=⟨p,m,j⟩)) (some v)) (k n) λt q _=>aa (Nat.beq t 29) (ask (H4 n f3 q) λx6=>aa x6.1 (some x6.2) none) none) f)->Ev (λn=>vF n (p.take m) ((p.take m).length:Int) j f3 (p.take m)) f:=by intro m h1 h2 f hf;obtain⟨N,hN⟩:=ai1 (s:=([],[])) (l:=([],[])) (g:=([],[])) hb hn h2 h1 hr hp hv;refine .step (λn=>PS n _ _ _ _ _) (.pos (by rw[hl m h2];simp;omega) (.ab (x:=p[j]) rfl (by rw[List.getElem?_take,if_pos h1];exact hr) ?_));rw[aE (i:=(j:Int)+1) (by omega) (by omega)];obtain⟨M,hM⟩:=hf (λn _=>vF n (p.take m) ((p.take m).length:Int) ((j+1:Nat):Int) f3 (p.take m)) λ_ _=>rfl;refine⟨max N M,λn hn=>?_⟩;have:=hM n (by omega);simp only at this;rw[<-this];have:=hN n (by omega);show FK (H3 n (aH (p.take m) j p[j] ([],[]) ([],[]) ([],[]))) _ _=_;rw[this];rfl
  cases v with
  |ret y=>
   have nx:∀m,j+1<=m->m<=p.length->∀f,Ev (λn=>vF n (p.take m) ((p.take m).length:Int) ((j+1:Nat):Int) f3 (p.take m)) f->Ev (λn=>vF n (p.take m) ((p.take m).length:Int) j f3 (p.take m)) f:=λm h1 h2 f hf=>rd m (by omega) h2 f λk hk=>by obtain⟨M,hM⟩:=hf;exact⟨M,λn hn=>(hk n _).trans (hM n hn)⟩
   have hp2:∀(k:Nat)q,k<j+1->p[k]?=some q->Ps p k q:=λk q hk hq'=>by
    rcases Nat.lt_or_ge k j with h1|h1
    .exact hp k q h1 hq'
    .obtain rfl:k=j:=by omega
     rw[hr]at hq';obtain rfl:=Option.some.inj hq';exact hq
   rcases ih (j+1) (by omega) hp2 with h|⟨c,q,h1,h2,h3,h4,h5,h6⟩
   .refine .inl λm h1 h2=>?_
    rcases Nat.lt_or_ge j m with h3|h3
    .exact nx m h3 h2 _ (h m h3 h2)
    .obtain rfl:m=j:=by omega
     exact done m h2
   .refine .inr ⟨c,q,by omega,h2,h3,h4,λm h7 h8=>?_,λm h7 h8=>nx m (by omega) h8 _ (h6 m h7 h8)⟩
    rcases Nat.lt_or_ge j m with h9|h9
    .exact nx m h9 (by omega) _ (h5 m h9 h8)
    .obtain rfl:m=j:=by omega
     exact done m (by omega)
  |aN t q u=>
   obtain⟨rfl,h0,h1⟩:=hq
   refine .inr ⟨j,q,Nat.le_refl _,hjl,h0,h1,λm h2 h3=>?_,λm h2 h3=>rd m h2 h3 _ λk _=>?_⟩
   .obtain rfl:m=j:=by omega
    exact done m (by omega)
   .have:Ev (λn=>aa (Nat.beq 29 29) (ask (H4 n f3 q) λx6=>aa x6.1 (some x6.2) none) none) (Sj q 0):=.pos rfl (.ask (a:=(true,Sj q 0)) (.step (λn=>ahm n f3 q) (.ret (true,Sj q 0))) (.pos rfl (.ret _)));exact this
theorem ol{m:Nat}(hm:m<=p.length){f:mX}(h:Ev (λn=>vF n (p.take m) ((p.take m).length:Int) 0 f3 (p.take m)) f):Ev (λn=>F9 n (p.take m)) f:=.step (λn=>eF9 n _) (.neg (decide_eq_false (by rw[List.length_take];omega)) h)
end
theorem lawPrefixes(p:Rows)(k:Int)(hb:cA 16777216 p):Ev (λn=>bi n p k) true:=by
 have hbp:=iF hb
 have yes:∀{G:Nat->Option Bool},T (λn=>aa true (some true) (G n)) λb=>b=true:=.pos rfl (.ret rfl)
 refine T.ev (.step (λn=>ce n _ _) (.ask (Uc p hbp) λ_ _=>.ite (λ_=>yes) (λ_=>.ite (λ_=>yes) (λc1=>?_))))
 have c1:¬(p.length:Int)>16:=eU c1
 have hn:p.length<=16:=by omega
 have e0:(f3.1==0&&(f3.2.1==0&&ay f3.2.2 (bs [])))=true:=by rw[show ay f3.2.2 (bs [])=true from gh.2 rfl];rfl
 have eq:∀{m:Int},(p.drop (0:Int).toNat).take (m.toNat-(0:Int).toNat)=p.take m.toNat:=by simp
 have all:p.take p.length=p:=List.take_length
 rcases ai2 hb hn p.length 0 (by omega) (λk q h=>by omega)with h|⟨c,q,_,hc,h0,h1,h2,h3⟩
 .have h:=λm hm=>ol hb hn hm (h m (Nat.zero_le _) hm);refine .cR (x:=f3) (all▸h p.length (Nat.le_refl _)) (.neg rfl (.ite (λ_=>yes) (λc2=>.ite (λ_=>yes) (λc3=>?_))));have c2:=eU c2;have c3:=eU c3;refine .ez (by omega) ?_;rw[eq];exact .fits (by simp;omega) (.cR (x:=f3) (h k.toNat (by omega)) (.pos e0 yes))
 .have h2:=λm hm=>ol hb hn (by omega) (h2 m (Nat.zero_le _) hm);have h3:=λm hm hm'=>ol hb hn hm' (h3 m hm hm');refine .cR (x:=Sj q 0) (all▸h3 p.length hc (Nat.le_refl _)) (.pos (by simpa[Sj,bne_iff_ne]using h0) ?_);have ec:(Sj q 0).2.1=(c:Int):=h1;rw[ec,aE (i:=(c:Int)+1) (by omega) (by omega)];refine .neg (decide_eq_false (by omega)) (.neg (decide_eq_false (by omega)) (.ez (by omega) (.fits (by simp;omega) (.ez (by omega) (.fits (by simp;omega) ?_)))));rw[eq,eq];refine .cR (x:=f3) (h2 _ (by omega)) (.pos e0 (.cR (x:=Sj q 0) (h3 _ (by omega) (by omega)) (.pos ?_ yes)));rw[ec];simp[gh.2 rfl]
end
end
end Go.AI
