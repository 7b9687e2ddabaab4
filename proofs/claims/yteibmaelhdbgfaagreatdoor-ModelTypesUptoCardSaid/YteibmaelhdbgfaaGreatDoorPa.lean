/- A part of the proof. -/
import Derived.Test.YteibmaelhdbgfaaGreatDoorGa
import Derived.Test.YteibmaelhdbgfaaGreatDoorGb
import Derived.Test.YteibmaelhdbgfaaGreatDoorGc
set_option linter.all false

namespace Go.AI
open Go
def Ev{α:Type}(F:Nat->Option α)(r:α):Prop:=∃c,∀n,c<=n->F n=some r
section
variable {α β:Type}{r:β}
def Ev.ret(r:β):Ev (λ_=>some r) r:=⟨0,λ_ _=>rfl⟩
def Ev.step{F G:Nat->Option β}(h:∀n,F (n+1)=G n)(c:Ev G r):Ev F r:=by obtain⟨m,hm⟩:=c;refine⟨m+1,λn hn=>?_⟩;obtain⟨k,rfl⟩:∃k,n=k+1:=⟨n-1,by omega⟩;grind
def Ev.const{F:Nat->Option β}(m:Nat)(h:∀n,F (n+m)=some r):Ev F r:=by refine⟨m,λn hn=>?_⟩;obtain⟨k,rfl⟩:∃k,n=k+m:=⟨n-m,by omega⟩;exact h k
def Ev.HU{F:Nat->Option β}{a b:β}(h:Ev F a)(h':Ev F b):a=b:=by obtain⟨m,hm⟩:=h;obtain⟨k,hk⟩:=h';have:=hm (max m k) (Nat.le_max_left _ _);grind
def Ev.ask{F:Nat->Option α}{k:Nat->α->Option β}{a:α}(h:Ev F a)(hk:Ev (λn=>k n a) r):Ev (λn=>ask (F n) (k n)) r:=by obtain⟨m,hm⟩:=h;obtain⟨l,hl⟩:=hk;refine⟨max m l,λn hn=>?_⟩;show(match F n with|some a=>k n a|none=>none)=_;grind
def Ev.ite{b:Bool}{x y:Nat->Option β}(h1:b=true->Ev x r)(h2:b=false->Ev y r):Ev (λn=>aa b (x n) (y n)) r:=by
 cases b
 .exact h2 rfl
 .exact h1 rfl
def Ev.pos{b:Bool}{x y:Nat->Option β}(h:b=true)(h1:Ev x r):Ev (λn=>aa b (x n) (y n)) r:=by subst h;exact h1
def Ev.neg{b:Bool}{x y:Nat->Option β}(h:b=false)(h1:Ev y r):Ev (λn=>aa b (x n) (y n)) r:=by subst h;exact h1
def Ev.ab{l:List α}{i:Int}{m:Nat}{x:α}{k:Nat->α->Option β}(hi:i=(m:Int))(h:l[m]?=some x)(hk:Ev (λn=>k n x) r):Ev (λn=>ab l i (k n)) r:=by subst hi;obtain⟨c,h0⟩:=hk;refine⟨c,λn hn=>?_⟩;unfold Go.AI.ab;grind
def Ev.i6{s:ByteArray}{i:Int}{m:Nat}{x:UInt8}{k:Nat->Int->Option β}(hi:i=(m:Int))(h:s.data.toList[m]?=some x)(hk:Ev (λn=>k n (x.toNat:Int)) r):Ev (λn=>i6 s i (k n)) r:=by
 subst hi
 obtain⟨o,h0⟩:=hk
 refine⟨o,λn hn=>?_⟩
 unfold Go.AI.i6
 have hs:s[m]?=some x:=by
  have hlt:m<s.data.toList.length:=by grind
  have c:m<s.size:=by simp_all
  rw[List.getElem?_eq_getElem hlt]at h;rw[getElem?_pos s m c];exact h
 grind
def Ev.fits{m b:Nat}{x:Nat->Option β}(h:m*b<=140737488355328)(hx:Ev x r):Ev (λn=>fits m b (x n)) r:=by unfold Go.AI.fits;simp_all
def Ev.i7{a b:ByteArray}{k:Nat->ByteArray->Option β}(h:a.size+b.size<=9223372036854775807)(hx:Ev (λn=>k n (a++b)) r):Ev (λn=>i7 a b (k n)) r:=by unfold Go.AI.i7;rw[iQ (p:=((a.size+b.size:Nat):Int)>IntKind.i64.max) (by show¬_>(9223372036854775807:Int);omega)];exact hx
def Ev.jE{s:ByteArray}{c hi:Int}{k:Nat->ByteArray->Option β}(h:0<=c/\c<=hi/\hi<=s.size)(hx:Ev (λn=>k n (s.extract c.toNat hi.toNat)) r):Ev (λn=>jE s c hi (k n)) r:=by unfold Go.AI.jE;grind
def Ev.ez{l:List α}{c hi:Int}{k:Nat->List α->Option β}(h:0<=c/\c<=hi/\hi<=l.length)(hx:Ev (λn=>k n ((l.drop c.toNat).take (hi.toNat-c.toNat))) r):Ev (λn=>ez l c hi (k n)) r:=by unfold Go.AI.ez;grind
def Ev.head{s:ByteArray}{m:Int}{k:Nat->ByteArray->Option β}(h:0<m/\m<=s.size/\m<=9223372036854775807)(hx:Ev (λn=>k n (s.extract 0 m.toNat)) r):Ev (λn=>head s m (k n)) r:=by unfold Go.AI.head;grind
end
def gh{a b:ByteArray}:ay a b=true↔a=b:=by
 unfold ay
 rw[beq_iff_eq]
 constructor
 .intro h;exact ByteArray.ext (Array.ext' (by rw[<-Jg,<-Jg];exact h))
 grind
def T{α:Type}(F:Nat->Option α)(Q:α->Prop):Prop:=∃r,Ev F r/\Q r
section
variable {α β γ:Type}{Q:β->Prop}
def T.ret{r:β}(h:Q r):T (λ_=>some r) Q:=⟨r,.ret r,h⟩
def T.of{F:Nat->Option β}{r:β}(h:Ev F r)(hq:Q r):T F Q:=⟨r,h,hq⟩
def T.mono{F:Nat->Option β}{Q':β->Prop}(h:T F Q)(hq:∀r,Q r->Q' r):T F Q':=let⟨r,a,b⟩:=h;⟨r,a,hq r b⟩
def T.ev{F:Nat->Option β}{r:β}(h:T F λx=>x=r):Ev F r:=let⟨_,a,b⟩:=h;b▸a
def T.step{F G:Nat->Option β}(h:∀n,F (n+1)=G n)(c:T G Q):T F Q:=let⟨r,a,b⟩:=c;⟨r,.step h a,b⟩
def T.ask{F:Nat->Option α}{k:Nat->α->Option β}{Q':α->Prop}(h:T F Q')(hk:∀x,Q' x->T (λn=>k n x) Q):T (λn=>ask (F n) (k n)) Q:=by obtain⟨x,a,b⟩:=h;obtain⟨r,c,d⟩:=hk x b;exact⟨r,.ask a c,d⟩
def T.cR{F:Nat->Option α}{k:Nat->α->Option β}{x:α}(h:Ev F x)(hk:T (λn=>k n x) Q):T (λn=>Go.AI.ask (F n) (k n)) Q:=by obtain⟨r,c,d⟩:=hk;exact⟨r,.ask h c,d⟩
def T.ite{b:Bool}{x y:Nat->Option β}(h1:b=true->T x Q)(h2:b=false->T y Q):T (λn=>aa b (x n) (y n)) Q:=by
 cases b
 .exact h2 rfl
 .exact h1 rfl
def T.pos{b:Bool}{x y:Nat->Option β}(h:b=true)(h1:T x Q):T (λn=>aa b (x n) (y n)) Q:=by subst h;exact h1
def T.neg{b:Bool}{x y:Nat->Option β}(h:b=false)(h1:T y Q):T (λn=>aa b (x n) (y n)) Q:=by subst h;exact h1
def T.ab{l:List α}{i:Int}{k:Nat->α->Option β}(h0:0<=i)(hi:i<l.length)(hk:∀x,l[i.toNat]?=some x->T (λn=>k n x) Q):T (λn=>ab l i (k n)) Q:=by
 obtain⟨m,rfl⟩:∃m:Nat,i=m:=⟨i.toNat,by omega⟩
 have hm:m<l.length:=by omega
 obtain⟨r,a,b⟩:=hk l[m] (by simp[hm]);exact⟨r,.ab rfl (by simp[hm]) a,b⟩
def T.eJ{l:List α}{i:Nat}{k:Nat->α->Option β}(hi:i<l.length)(hk:∀x,l[i]?=some x->T (λn=>k n x) Q):T (λn=>eJ l i (k n)) Q:=by obtain⟨r,⟨m,a⟩,b⟩:=hk l[i] (by simp[hi]);refine⟨r,⟨m,λn hn=>?_⟩,b⟩;unfold Go.AI.eJ;grind
def T.fits{m b:Nat}{x:Nat->Option β}(h:m*b<=140737488355328)(hx:T x Q):T (λn=>fits m b (x n)) Q:=let⟨r,a,c⟩:=hx;⟨r,.fits h a,c⟩
def T.i7{a b:ByteArray}{k:Nat->ByteArray->Option β}(h:a.size+b.size<=9223372036854775807)(hx:T (λn=>k n (a++b)) Q):T (λn=>i7 a b (k n)) Q:=let⟨r,c,d⟩:=hx;⟨r,.i7 h c,d⟩
def T.ez{l:List α}{o hi:Int}{k:Nat->List α->Option β}(h:0<=o/\o<=hi/\hi<=l.length)(hx:T (λn=>k n ((l.drop o.toNat).take (hi.toNat-o.toNat))) Q):T (λn=>ez l o hi (k n)) Q:=let⟨r,c,d⟩:=hx;⟨r,.ez h c,d⟩
def T.jE{s:ByteArray}{o hi:Int}{k:Nat->ByteArray->Option β}(h:0<=o/\o<=hi/\hi<=s.size)(hx:T (λn=>k n (s.extract o.toNat hi.toNat)) Q):T (λn=>jE s o hi (k n)) Q:=let⟨r,c,d⟩:=hx;⟨r,.jE h c,d⟩
def T.emp{l:List α}{x y:Nat->Option β}(h1:l=[]->T x Q)(h2:l≠[]->T y Q):T (λn=>emp l (x n) (y n)) Q:=by
 cases l
 .exact h1 rfl
 .exact h2 (by simp)
def T.mA{l:List α}{k:Nat->α->List α->Option β}(h:l≠[])(hk:∀x xs,l=x::xs->T (λn=>k n x xs) Q):T (λn=>mA l (k n)) Q:=by cases l with|nil=>grind|cons x xs=>exact hk x xs rfl
def T.jx{rows:List (List AV)}{s:ByteArray}{k:Nat->List AV->Option β}{y:Nat->Option β}(h1:∀r,mP rows s=some r->T (λn=>k n (r.drop 1)) Q)(h2:mP rows s=none->T y Q):T (λn=>jx rows s (k n) (y n)) Q:=by unfold Go.AI.jx;cases e:mP rows s with|none=>exact h2 e|some r=>exact h1 r e
def T.both{x y:Nat->Option β}{r:β}(h1:Ev x r)(h2:Ev y r)(hq:Q r):T (λn=>both (x n) (y n)) Q:=by
 obtain⟨a,ha⟩:=h1
 obtain⟨b,hb⟩:=h2
 refine⟨r,⟨max a b,λn hn=>?_⟩,hq⟩
 have e1:=ha n (Nat.le_trans (Nat.le_max_left ..) hn)
 have e2:=hb n (Nat.le_trans (Nat.le_max_right ..) hn)
 have e3:x n=y n:=by grind
 show Go.AI.both (x n) (y n)=_;unfold Go.AI.both;grind
def AQ(j:Int)(Q:α->Prop):aW α Unit->Prop|.ret a=>Q a|.aN t q _=>t=29/\gI q 0≠0/\gI q 1=j
def T.aw{j:Int}{F:Nat->Option (aW α Unit)}{k:Nat->α->Option (aW β Unit)}{Q':α->Prop}(h:T F (AQ j Q'))(hk:∀x,Q' x->T (λn=>k n x) (AQ j Q)):T (λn=>aw (F n) (k n)) (AQ j Q):=by obtain⟨x,a,b⟩:=h;cases x with|ret x=>obtain⟨r,c,d⟩:=hk x b;exact⟨r,.ask a c,d⟩|aN t q u=>exact⟨.aN t q (),.ask a (.ret _),b⟩
def T.eP{j:Int}{F:Nat->Option (aW β Unit)}(h:T F (AQ j Q)):T (λn=>eP (F n)) (AQ j Q):=T.aw h λ_ hx=>.ret hx
def T.ok{j:Int}{r:β}(h:Q r):T (λ_=>some (aW.ret r:aW β Unit)) (AQ j Q):=.ret h
def T.bad{j:Int}{q:List AV}{u:Unit}(h:gI q 0≠0)(o:gI q 1=j):T (λ_=>some (aW.aN 29 q u:aW β Unit)) (AQ j Q):=.ret ⟨rfl,h,o⟩
def T.mV{F:Nat->Option α}{k:Nat->α->Option β}{Q':α->Prop}(h:T F Q')(hk:∀x,Ev F x->Q' x->T (λn=>k n x) Q):T (λn=>Go.AI.ask (F n) (k n)) Q:=by obtain⟨x,a,b⟩:=h;obtain⟨r,c,d⟩:=hk x a b;exact⟨r,.ask a c,d⟩
def aE{i:Int}(h0:-9223372036854775808<=i)(h:i<=9223372036854775807):be i=i:=Go.IntWalk.i64_in i ⟨h0,h⟩
def T.loop{σ:Type}{L:Int->σ->Nat->Option β}(m:Nat)(c:Nat->σ->Prop)(o:∀s,c m s->T (L m s) Q)
 (eO:∀i s,i<m->c i s->(∀s',c (i+1) s'->T (L ((i:Int)+1) s') Q)->T (L i s) Q):∀s,c 0 s->T (L 0 s) Q:=by
 have key:∀d i s,i+d=m->c i s->T (L (i:Int) s) Q:=by intro d;induction d with|zero=>grind|succ d z=>grind
 exactλs h=>key m 0 s (by omega) h
def gr(p:α->Bool)(l:List α):Int:=match l.findIdx? p with|some i=>i|none=>-1
def rD{p:α->Bool}{l:List α}:gr p l>=0↔l.any p=true:=by unfold gr;grind
def nI{J:Nat->Int->Option Int}{l:List α}{P:Nat->α->Option Bool}{p:α->Bool}(hl:l.length<=4611686018427387904)
 (h:∀n i,J (n+1) i=aa (decide (i<(l.length:Int))) (ab l i λr=>ask (P n r) λx=>aa x (some i) (J n (be (i+1)))) (some (-1)))
 (hp:∀r,r∈l->Ev (λn=>P n r) (p r)):Ev (λn=>J n 0) (gr p l):=by
 have key:∀d i,i+d=l.length->Ev (λn=>J n (i:Int)) (match(l.drop i).findIdx? p with|some k=>((i+k:Nat):Int)|none=>-1):=by
  intro d
  induction d with
  |zero=>intro i e;refine .step (λn=>h n _) (.neg (by simp;omega) ?_);rw[List.drop_eq_nil_of_le (by omega)];exact .ret _
  |succ d c=>
   intro i e
   have hi:i<l.length:=by omega
   refine .step (λn=>h n _) (.pos (by simp;omega) (.ab rfl (List.getElem?_eq_getElem hi) (.ask (hp _ (List.getElem_mem hi)) ?_)))
   rw[List.drop_eq_getElem_cons hi,List.findIdx?_cons]
   refine .ite (λhb=>?_) (λhb=>?_)
   .rw[hb];exact .ret _
   .rw[hb,aE (by omega) (by omega)];grind
 have:=key l.length 0 (by omega);unfold gr;grind
def Kl{J:Nat->Int->Option Int}{l:List α}{p:α->Bool}(hl:l.length<=4611686018427387904)(h:∀n i,J (n+1) i=aa (decide (i<(l.length:Int))) (ab l i λr=>aa (p r) (some i) (J n (be (i+1)))) (some (-1))):Ev (λn=>J n 0) (gr p l):=nI (P:=λ_ r=>some (p r)) hl h λ_ _=>.ret _
def mW(p:α->γ->Bool):List α->List γ->Bool|x::xs,y::ys=>p x y&&mW p xs ys|_,_=>true
def YK{J:Nat->Int->Option Bool}{l:List α}{m:List γ}{P:Nat->α->γ->Option Bool}{p:α->γ->Bool}(hl:l.length<=4611686018427387904)(hm:l.length=m.length)
 (h:∀n i,J (n+1) i=aa (decide (i<(l.length:Int))) (ab l i λr=>ab m i λq=>ask (P n r q) λx=>aa (!x) (some false) (J n (be (i+1)))) (some true))
 (hp:∀r q,r∈l->q∈m->Ev (λn=>P n r q) (p r q)):Ev (λn=>J n 0) (mW p l m):=by
 have key:∀d i,i+d=l.length->Ev (λn=>J n (i:Int)) (mW p (l.drop i) (m.drop i)):=by
  intro d
  induction d with
  |zero=>intro i e;refine .step (λn=>h n _) (.neg (by simp;omega) ?_);rw[List.drop_eq_nil_of_le (by omega)];exact .ret _
  |succ d o=>
   intro i e
   have hi:i<l.length:=by omega
   have c:i<m.length:=by omega
   refine .step (λn=>h n _) (.pos (by simp;omega) (.ab rfl (List.getElem?_eq_getElem hi) (.ab rfl (List.getElem?_eq_getElem c) (.ask (hp _ _ (List.getElem_mem hi) (List.getElem_mem c)) ?_))))
   rw[List.drop_eq_getElem_cons hi,List.drop_eq_getElem_cons c]
   simp only[mW]
   refine .ite (λhb=>?_) (λhb=>?_)
   .rw[Bool.not_eq_true']at hb;rw[hb];exact .ret _
   .rw[Bool.not_eq_false']at hb;rw[hb,aE (by omega) (by omega)];grind
 have:=key l.length 0 (by omega);grind
def LL{J:Nat->Int->Option Bool}{l:List α}{m:List γ}{p:α->γ->Bool}(hl:l.length<=4611686018427387904)(hm:l.length=m.length)(h:∀n i,J (n+1) i=aa (decide (i<(l.length:Int))) (ab l i λr=>ab m i λq=>aa (!p r q) (some false) (J n (be (i+1)))) (some true)):Ev (λn=>J n 0) (mW p l m):=YK (P:=λ_ r q=>some (p r q)) hl hm h λ_ _ _ _=>.ret _
end
section
mutual
def eW(N:Nat):AV->Prop|.sc (.string s)=>s.size<=N|.aQ rows _=>rows.length<=N/\cb N rows|_=>True
def eS(N:Nat):List AV->Prop|[]=>True|c::r=>eW N c/\eS N r
def cb(N:Nat):List (List AV)->Prop|[]=>True|r::rs=>eS N r/\cb N rs
end
class BD(α:Type)where cA:Nat->α->Prop
open BD(cA)
instance :BD Int:=⟨λ_ _=>True⟩
instance :BD Bool:=⟨λ_ _=>True⟩
instance :BD ByteArray:=⟨λN s=>s.size<=N⟩
instance :BD (List (List AV)):=⟨λN l=>l.length<=N/\cb N l⟩
instance :BD (List AV):=⟨λN r=>eS N r⟩
instance {α β:Type}[BD α][BD β]:BD (α×β):=⟨λN x=>cA N x.1/\cA N x.2⟩
abbrev bd{α:Type}[BD α](x:α):Prop:=cA 1099511627776 x
section
variable {N:Nat}
theorem qi{r:List AV}:∀{rows:Rows},cb N rows->r∈rows->eS N r
 |x::xs,h,hm=>by
  rw[cb]at h
  rcases List.mem_cons.1 hm with rfl|hm
  .exact h.1
  .exact qi h.2 hm
theorem lL:∀{rows:Rows},(∀r,r∈rows->eS N r)->cb N rows|[],_=>trivial|x::xs,h=>by rw[cb];exact⟨h x (by simp),lL λr hr=>h r (by simp[hr])⟩
theorem DZ:∀{r:List AV}{j:Nat}{c:AV},eS N r->r[j]?=some c->eW N c|[],j,c,_,h=>by simp at h|x::xs,0,c,h,e=>by simp at e;subst e;rw[eS]at h;exact h.1|x::xs,j+1,c,h,e=>by rw[eS]at h;exact DZ (r:=xs) (j:=j) h.2 (by grind)
theorem dt{l m:Rows}(h:cb N l)(h':cb N m):cb N (l++m):=lL λr hr=>(List.mem_append.1 hr).elim (qi h) (qi h')
variable {α β:Type}[BD α][BD β]
theorem dc(x:α×β)(h:cA N x):cA N x.1:=h.1
theorem aB(x:α×β)(h:cA N x):cA N x.2:=h.2
theorem an{l:Rows}{i:Nat}{r:List AV}(h:cA N l)(hr:l[i]?=some r):cA N r:=qi h.2 (List.mem_of_getElem? hr)
theorem dG{l:Rows}{r:List AV}(h:cA N l)(hr:r∈l):cA N r:=qi h.2 hr
theorem ai{r:List AV}(h:cA N r)(j:Nat):cA N (gD r j):=by
 unfold gD
 split
 .rename_i l z e;have:=DZ h e;rw[eW]at this;exact this
 .exact⟨Nat.zero_le _,trivial⟩
theorem ak{r:List AV}(h:cA N r)(j:Nat):cA N (gS r j):=by
 unfold gS
 split
 .rename_i s e;have:=DZ h e;rw[eW]at this;exact this
 .exact Nat.zero_le _
theorem cK:cA N ([]:Rows):=⟨Nat.zero_le _,trivial⟩
theorem de(i:Int):cA N i:=trivial
theorem bM(b:Bool):cA N b:=trivial
theorem wk{l:Rows}{a b:Nat}(h:cA N l):cA N ((l.drop a).take b):=⟨Nat.le_trans (by simp;omega) h.1,lL λr hr=>qi h.2 (List.mem_of_mem_drop (List.mem_of_mem_take hr))⟩
theorem HV{l m:Rows}(h:cA N l)(h':cA N m)(hl:l.length+m.length<=N):cA N (l++m):=⟨by grind,dt h.2 h'.2⟩
theorem bdO{r:List AV}(h:cA N r)(c:1<=N):cA N [r]:=⟨c,h,trivial⟩
end
theorem dz{l:List UInt8}(h:l.length<=1000:=by decide):bd (bs l):=by show(bs l).size<=_;have:(bs l).size=l.length:=rfl;omega
theorem bq{l:Rows}(h:bd l):l.length<=1099511627776:=h.1
theorem wm{s:ByteArray}(h:bd s):s.size<=1099511627776:=h
section
variable {N:Nat}
theorem ed:eS N []:=trivial
theorem bm{c:AV}{r:List AV}(h:eW N c)(h':eS N r):eS N (c::r):=by rw[eS];grind
theorem ki{k:IntKind}{i:Int}:eW N (.sc (.int k i)):=by unfold eW;trivial
theorem HW{b:Bool}:eW N (.sc (.bool b)):=by unfold eW;trivial
theorem dv{s:ByteArray}(h:cA N s):eW N (.sc (.string s)):=by rw[eW];exact h
theorem ef{l:Rows}{z:Nat}(h:cA N l):eW N (.aQ l z):=by rw[eW];exact h
theorem eg:cb N []:=trivial
theorem dL{r:List AV}{rs:Rows}(h:eS N r)(h':cb N rs):cb N (r::rs):=by rw[cb];grind
end
mutual
theorem Xu{a b:Nat}(h:a<=b):∀{x:AV},eW a x->eW b x
 |.aQ rows _,hx=>by rw[eW]at hx⊢;exact⟨Nat.le_trans hx.1 h,yE h hx.2⟩
 |.sc (.string s),hx=>by rw[eW]at hx⊢;grind
 |x,hx=>by
  unfold eW
  split
  .rename_i s;rw[eW]at hx;grind
  .rename_i rows z;rw[eW]at hx;exact⟨Nat.le_trans hx.1 h,yE h hx.2⟩
  .trivial
theorem LM{a b:Nat}(h:a<=b):∀{r:List AV},eS a r->eS b r|[],_=>trivial|c::r,hr=>by rw[eS]at hr⊢;exact⟨Xu h hr.1,LM h hr.2⟩theorem yE{a b:Nat}(h:a<=b):∀{rs:List (List AV)},cb a rs->cb b rs|[],_=>trivial|r::rs,hr=>by rw[cb]at hr⊢;exact⟨LM h hr.1,yE h hr.2⟩end
theorem T.dx{σ β:Type}{Q:β->Prop}{L:Int->σ->Nat->Option β}(m:Nat)(c:σ->Prop)(z:∀s,c s->T (L m s) Q)
 (eO:∀(i:Nat)s,i<m->c s->(∀s',c s'->T (L ((i:Int)+1) s') Q)->T (L i s) Q)(o:Int)(h0:0<=o)(h1:o<=m)(s:σ)(h:c s):T (L o s) Q:=by
 obtain⟨k,rfl⟩:∃k:Nat,o=k:=⟨o.toNat,by omega⟩
 have key:∀d i s,i+d=m->c s->T (L (i:Int) s) Q:=by intro d;induction d with|zero=>grind|succ d D=>intro i s e h;refine eO i s (by omega) h λs' h'=>?_;have:=D (i+1) s' (by omega) h';grind
 exact key (m-k) k s (by omega) h
end
def P3{β:Type}{Q:β->Prop}{s:ByteArray}{i:Int}{k:Nat->Int->Option β}(h0:0<=i)(hi:i<s.size)(hk:∀b,T (λn=>k n b) Q):T (λn=>i6 s i (k n)) Q:=by
 obtain⟨m,rfl⟩:∃m:Nat,i=m:=⟨i.toNat,by omega⟩
 have hm:m<s.data.toList.length:=by simp_all
 obtain⟨r,a,b⟩:=hk (s.data.toList[m].toNat:Int);exact⟨r,.i6 rfl (List.getElem?_eq_getElem hm) a,b⟩
def ib{a b:Int}(h:(a !=b)=false):a=b:=by grind
def Hr{a b:Int}(h:(a !=b)=true):¬a=b:=by grind
def bA{a b:Int}(h:(a==b)=false):¬a=b:=by grind
def fO{a b:Int}(h:(a==b)=true):a=b:=by grind
def qR{a:Bool}(h:(!a)=true):a=false:=by grind
def iD{a:Bool}(h:(!a)=false):a=true:=by grind
def cO{p:Prop}[Decidable p](h:decide p=true):p:=iR h
def eU{p:Prop}[Decidable p](h:decide p=false):¬p:=of_decide_eq_false h
def afv(a0 o)(h0:bd a0)(h1:bd o):T (λn=>Hb n a0 o) λb=>b=true->o.size<=a0.size:=by have D:=wm h0;have z:=wm h1;refine .step (λn=>afp n) ?_;refine .ite (λc=>?_) (λc=>.ret (by simp));have c:(a0.size:Int)>=o.size:=iR c;rw[aE (by omega) (by omega)];exact .jE ⟨by omega,by omega,by omega⟩ (.ret λ_=>by omega)
def afw(a0 o)(h0:bd a0)(h1:bd o):T (λn=>GY n a0 o) bd:=by have D:=wm h0;have z:=wm h1;refine .step (λn=>aeW n) ?_;refine .ask (afv _ _ h0 h1) λx hx=>.ite (λc=>?_) (λc=>.ret h0);have:=hx c;rw[aE (by omega) (by omega)];refine .jE ⟨by omega,by omega,by omega⟩ (.ret ?_);have h0:a0.size<=1099511627776:=h0;show(a0.extract _ _).size<=1099511627776;simp only[ByteArray.size_extract];omega
def ZY(a0 c)(h0:bd a0)(hl:a0.length=c.length):T (λn=>Ai n a0 c (a0.length:Int) 0) λb=>b=mW (λr q=>ay (gS r 0) (gS q 0)) a0 c:=.of (LL (by have:=bq h0;omega) hl (λn i=>Y5 n)) rfl
def afx(a0 o)(h0:bd a0)(h1:bd o):T (λn=>GV n a0 o) bd:=by
 refine .step (λn=>ad4 n) (.ite (λc=>.ret trivial) (λc=>?_))
 have c:(a0.length:Int)=o.length:=by grind
 have c:a0.length=o.length:=by omega
 exact(ZY a0 o h0 c).mono λ_ _=>trivial
def Jq{s:ByteArray}(h:ay s (bs [])=false):0<s.size:=by
 rcases Nat.eq_zero_or_pos s.size with e|e
 .exfalso;have:s=bs []:=ByteArray.ext (Array.ext' (by simp_all));rw[this]at h;unfold ay at h;simp at h
 .exact e
def uX{a0:Rows}{b:Nat}(hb:b<=300)(h0:a0.length*300<=140737488355328):T (λ_=>emp a0 (both (some ([]:Rows)) (fits (([]:List (List AV)).length+a0.length) b (some ([]++a0)))) (fits (([]:List (List AV)).length+a0.length) b (some ([]++a0)))) λr=>r=a0:=by
 have h1:(([]:Rows).length+a0.length)*b<=140737488355328:=by rw[List.length_nil,Nat.zero_add];exact Nat.le_trans (Nat.mul_le_mul_left _ hb) h0
 refine .emp (λe=>?_) (λ_=>.fits h1 (.ret rfl));subst e;exact .both (.ret _) (.fits h1 (.ret _)) rfl
def SP(a0):T (λn=>wA n a0) bd:=by refine .step (λn=>SJ n) ?_;refine .ite (λ_=>.ite (λ_=>.ret trivial) (λ_=>.ite (λ_=>.ret trivial) (λ_=>.ret trivial))) (λ_=>.ite (λ_=>.ret trivial) (λ_=>.ret trivial))
def afy(a0):T (λn=>Gw n a0) bd:=.step (λn=>PW n) (.ite (λ_=>.ret trivial) (λ_=>.ret trivial))
def aic(a0):T (λn=>Cr n a0) bd:=.step (λn=>SO n) (.ask (SP _) λ_ _=>.ite (λ_=>.ret trivial) (λ_=>.ask (afy _) λ_ _=>.ite (λ_=>.ret trivial) (λ_=>.ret trivial)))
def SQ(a0)(h0:bd a0):T (λn=>Ig n a0) bd:=by
 refine .step (λn=>ahY n) ?_
 repeat(refine .ite (λ_=>.ite (λ_=>.ret trivial) (λ_=>.ret trivial)) (λ_=>?_))
 exact .ite (λ_=>.ret trivial) (λ_=>.ret trivial)
def abS(a0)(h0:bd a0):T (λn=>sy n a0 (a0.size:Int) 0) bd:=by
 have hl:=wm h0
 refine T.loop (σ:=Unit) (L:=λi _ n=>sy n a0 (a0.size:Int) i) a0.size (λ_ _=>True) ?_ ?_ () trivial
 .exactλ_ _=>.step (λn=>Aq n) (.neg (by simp) (.ret trivial))
 .intro i _ hi _ c;refine .step (λn=>Aq n) (.pos (by simp;omega) (P3 (by omega) (by omega) λb=>.ask (aic _) λx _=>.ite (λ_=>.ret trivial) (λ_=>?_)));rw[aE (by omega) (by omega)];simp_all
def lW(a0)(h0:bd a0):T (λn=>ga n a0) bd:=by refine .step (λn=>SN n) (.ite (λ_=>.ret trivial) (λc=>.ite (λ_=>.ret trivial) (λ_=>?_)));have c:=Jq c;refine P3 (by omega) (by omega) λb=>.ask (SP _) λ_ _=>.ite (λ_=>.ret trivial) (λ_=>.ask (SQ _ h0) λ_ _=>.ite (λ_=>.ret trivial) (λ_=>abS _ h0))
def Hs(a0 c)(h0:bd a0)(h1:bd c):T (λn=>wE n a0 c) bd:=.step (λn=>ahu n) (.ask (afw _ _ h0 h1) λ_ h=>.ret h)
def afz(a0)(h0:bd a0):T (λn=>GG n a0) bd:=.step (λn=>aem n) (.ask (Hs _ _ h0 dz) λ_ h=>.ask (lW _ h) λ_ _=>.ret trivial)
theorem O0{r:List AV}:∀{rows:Rows},r∈rows->wtR r<wtRs rows
 |[],h=>by cases h
 |x::xs,h=>by
  rw[wtRs]
  rcases List.mem_cons.1 h with rfl|h
  .omega
  .have:=O0 h;omega
theorem NC:∀{r:List AV}{j:Nat}{c:AV},r[j]?=some c->wtA c<=wtR r|[],j,c,h=>by simp at h|x::xs,0,c,h=>by simp at h;subst h;rw[wtR];omega|x::xs,j+1,c,h=>by have:=NC (r:=xs) (j:=j) (by simpa using h);rw[wtR];omega
theorem afA(r:List AV)(j:Nat):wtRs (gD r j)<=wtR r:=by
 unfold gD
 split
 .rename_i l o h;have:=NC h;rw[wtA]at this;omega
 .exact Nat.zero_le _
theorem oh{l:Rows}{i:Nat}{r:List AV}(h:l[i]?=some r)(j:Nat):wtRs (gD r j)<wtRs l:=Nat.lt_of_le_of_lt (afA r j) (O0 (List.mem_of_getElem? h))
theorem T.lst{σ β:Type}{Q:β->Prop}{l:Rows}{L:Int->σ->Nat->Option β}{B:Nat->Int->σ->List AV->Option β}{E:Nat->σ->Option β}(hl:l.length<=4611686018427387904)(eq:∀n i s,L i s (n+1)=aa (decide (i<(l.length:Int))) (Go.AI.ab l i λr=>B n i s r) (E n s))(o:Nat->σ->Prop)(z:∀s,o l.length s->T (λn=>E n s) Q)(eO:∀(j:Nat)s,j<l.length->o j s->(∀s',o (j+1) s'->T (L (be ((j:Int)+1)) s') Q)->∀r,l[j]?=some r->T (λn=>B n j s r) Q)(s:σ)(h:o 0 s):T (L 0 s) Q:=by refine T.loop l.length o (λs h=>.step (λn=>eq n _ _) (.neg (by simp) (z s h))) (λj s hj h A=>.step (λn=>eq n _ _) (.pos (by simp;omega) (.ab (by omega) (by omega) λr hr=>eO j s hj h (λs' h'=>?_) r (by simpa using hr)))) s h;rw[aE (by omega) (by omega)];exact A s' h'
theorem T5{J:Nat->Int->Option Bool}{l m:Rows}{P:Nat->List AV->List AV->Option Bool}(hl:l.length<=1099511627776)(hm:l.length=m.length)(h:∀n i,J (n+1) i=aa (decide (i<(l.length:Int))) (ab l i λr=>ab m i λq=>ask (P n r q) λx=>aa (!x) (some false) (J n (be (i+1)))) (some true))(hp:∀(i:Nat)(r q:List AV),l[i]?=some r->m[i]?=some q->T (λn=>P n r q) bd):T (λn=>J n 0) bd:=by
 refine T.dx (σ:=Unit) (L:=λi _ n=>J n i) l.length (λ_=>True) ?_ ?_ 0 (by omega) (by omega) () trivial
 .exactλ_ _=>.step (λn=>h n _) (.neg (by simp) (.ret trivial))
 .intro i _ hi _ o;refine .step (λn=>h n _) (.pos (by simp;omega) (.ab (by omega) (by omega) λr hr=>.ab (by omega) (by omega) λq hq=>.ask (hp _ r q hr hq) λx _=>.ite (λ_=>.ret trivial) (λ_=>?_)));rw[aE (i:=(i:Int)+1) (by omega) (by omega)];exact o () trivial
theorem O1:∀(W:Nat)(a0 o:Int×ByteArray×Rows),wtRs a0.2.2<W->bd a0->bd o->T (λn=>jI n a0 o) bd|0,_,_,h,_,_=>absurd h (Nat.not_lt_zero _)|W+1,a0,o,h,h0,h1=>by refine .step (λn=>aek n) (.ite (λ_=>.ite (λ_=>.ask (Q':=bd) ?_ λ_ _=>.ret trivial) (λ_=>.ret trivial)) (λ_=>.ret trivial));refine .step (λn=>aeo n) (.ite (λ_=>.ret trivial) (λc=>?_));have c:=ib c;have hl:=bq (aB a0.2 (aB a0 h0));have:=T5 (J:=λn i=>Aa n o.2.2 a0.2.2 (a0.2.2.length:Int) i) hl (by omega) (λn i=>Zi n) λi r q hr hq=>O1 W (aK r 0) (aK q 0) (Nat.lt_of_lt_of_le (oh hr 2) (Nat.le_of_lt_succ h)) ⟨trivial,ak (an (aB a0.2 (aB a0 h0)) hr) 1,ai (an (aB a0.2 (aB a0 h0)) hr) 2⟩ ⟨trivial,ak (an (aB o.2 (aB o h1)) hq) 1,ai (an (aB o.2 (aB o h1)) hq) 2⟩;exact this
theorem P4(a0 o)(h0:bd a0)(h1:bd o):T (λn=>jI n a0 o) bd:=O1 _ a0 o (Nat.lt_succ_self _) h0 h1
theorem O2:∀(W:Nat)(a0 o:Int×ByteArray×Rows),wtRs a0.2.2<W->bd a0->bd o->T (λn=>sO n a0 o) bd|0,_,_,h,_,_=>absurd h (Nat.not_lt_zero _)|W+1,a0,o,h,h0,h1=>by refine .step (λn=>adu n) (.ite (λ_=>.ite (λ_=>.ask (Q':=bd) ?_ λ_ _=>.ret trivial) (λ_=>.ret trivial)) (λ_=>.ret trivial));refine .step (λn=>ZK n) (.ite (λ_=>.ret trivial) (λc=>?_));have c:=ib c;have hl:=bq (aB a0.2 (aB a0 h0));have:=T5 (J:=λn i=>y7 n o.2.2 a0.2.2 (a0.2.2.length:Int) i) hl (by omega) (λn i=>WJ n) λi r q hr hq=>O2 W (aK r 0) (aK q 0) (Nat.lt_of_lt_of_le (oh hr 2) (Nat.le_of_lt_succ h)) ⟨trivial,ak (an (aB a0.2 (aB a0 h0)) hr) 1,ai (an (aB a0.2 (aB a0 h0)) hr) 2⟩ ⟨trivial,ak (an (aB o.2 (aB o h1)) hq) 1,ai (an (aB o.2 (aB o h1)) hq) 2⟩;exact this
theorem P5(a0 o)(h0:bd a0)(h1:bd o):T (λn=>sO n a0 o) bd:=O2 _ a0 o (Nat.lt_succ_self _) h0 h1
theorem P6:∀(W:Nat)(a0:Int×ByteArray×Rows)(z:Int),wtRs a0.2.2<W->bd a0->T (λn=>wF n a0 z) bd
 |0,_,_,h,_=>absurd h (Nat.not_lt_zero _)
 |W+1,a0,z,h,h0=>by
  have o:=aB a0.2 (aB a0 h0)
  have hl:=bq o
  refine .step (λn=>ahC n) (.ite (λ_=>.ret trivial) (λ_=>.ask (Q':=bd) ?_ λ_ _=>.ret trivial))
  refine .step (λn=>ZT n) (.ask (Q':=bd) ?_ λ_ _=>.ret ⟨trivial,trivial⟩)
  refine .step (λn=>YT n) ?_
  refine T.dx (σ:=Int) (L:=λi s n=>yZ n a0.2.2 (a0.2.2.length:Int) i s) a0.2.2.length (λ_=>True) ?_ ?_ 0 (by omega) (by omega) z trivial
  .exactλs _=>.step (λn=>KH n) (.neg (by simp) (.ret ⟨trivial,trivial⟩))
  .intro i s hi _ A
   refine .step (λn=>KH n) (.pos (by simp;omega) (.ab (by omega) (by omega) λr hr=>.ask (Q':=bd) ?_ λx _=>.ite (λ_=>.ret ⟨trivial,trivial⟩) (λ_=>?_)))
   .exact .step (λn=>adQ n) (.ask (P6 W (aK r 0) s (Nat.lt_of_lt_of_le (oh hr 2) (Nat.le_of_lt_succ h)) ⟨trivial,ak (an o hr) 1,ai (an o hr) 2⟩) λ_ _=>.ret ⟨trivial,trivial⟩)
   .rw[aE (i:=(i:Int)+1) (by omega) (by omega)];exact A _ trivial
theorem SR(a0 o)(h0:bd a0):T (λn=>wF n a0 o) bd:=P6 _ a0 o (Nat.lt_succ_self _) h0
inductive ajf:Rows->Prop|nil:ajf []|cons{k:Int}{s:ByteArray}{ks rs:Rows}:ajf ks->ajf rs->ajf (cy (k,s,ks)::rs)
theorem ajf.get{l:Rows}(h:ajf l):∀{i:Nat}{r:List AV},l[i]?=some r->r=cy (aK r 0)/\ajf (gD r 2):=by induction h with|nil=>intro i r hr;simp at hr|cons h _ _ o=>intro i r hr;cases i with|zero=>cases hr;exact⟨rfl,h⟩|succ i=>exact o hr
def T7(a r:Int×ByteArray×Rows):Prop:=bd r/\r.1=a.1/\r.2.2.length=a.2.2.length/\(ajf a.2.2->r=a)
theorem P7:∀(W:Nat)(a0:Int×ByteArray×Rows),wtRs a0.2.2<W->bd a0->T (λn=>oN n a0) (T7 a0)
 |0,_,h,_=>absurd h (Nat.not_lt_zero _)
 |W+1,a0,h,h0=>by
  have o:=aB a0.2 (aB a0 h0)
  have hl:=bq o
  refine .step (λn=>ahr n) ?_
  refine T.lst (σ:=Rows) (L:=λi s n=>A3 n a0.2.2 (a0.2.2.length:Int) i (0,bs []) (a0.1,a0.2.1) [] s) (by omega) (λn _ _=>OM n) (λi s=>s.length=i/\cb 1099511627776 s/\(ajf a0.2.2->s=a0.2.2.take i)) ?_ ?_ [] ⟨rfl,trivial,λ_=>rfl⟩
  .exactλs hs=>(.ret ⟨⟨trivial,dc a0.2 (aB a0 h0),(by have:=hs.1;show s.length<=_;omega),hs.2.1⟩,rfl,hs.1,λhc=>by have e:=hs.2.2 hc;rw[List.take_length]at e;rw[e];rfl⟩)
  .intro i s hi hs z;refineλr hr=>.ask (P7 W (aK r 0) (Nat.lt_of_lt_of_le (oh hr 2) (Nat.le_of_lt_succ h)) ⟨trivial,ak (an o hr) 1,ai (an o hr) 2⟩) λx hx=>.fits (by simp;omega) ?_;have he:=hx.2.2.2;have hx:=hx.1;exact z _ ⟨by simp;exact hs.1,dt hs.2.1 (dL (bm ki (bm (dv (dc x.2 (aB x hx))) (bm (ef (aB x.2 (aB x hx))) ed))) eg),λhc=>by have k:=hc.get hr;rw[List.take_add_one,hr,hs.2.2 hc,he k.2,<-k.1];rfl⟩
theorem SS(a0)(h0:bd a0):T (λn=>oN n a0) (T7 a0):=P7 _ a0 (Nat.lt_succ_self _) h0
theorem SU(a0)(h0:bd a0):T (λn=>oN n a0) bd:=(SS a0 h0).mono λ_ h=>h.1
inductive iE:Int->Rows->Prop|mk{k:Int}{ks:Rows}:((k=1\/k=2\/k=3)/\ks.length=0\/k=4/\ks.length=2\/k=5/\ks.length=1)->(∀r,r∈ks->iE (gI r 0) (gD r 2))->iE k ks
inductive fD:Rows->Nat->Prop|nil:fD [] 0|cons{r:List AV}{rs:Rows}{a b:Nat}:fD (gD r 2) a->fD rs b->fD (r::rs) (a+b+1)
def fD.app{r:List AV}{a:Nat}(h:fD (gD r 2) a):∀{l:Rows}{b:Nat},fD l b->fD (l++[r]) (b+a+1)|_,_,.nil=>by have:=fD.cons h .nil;grind|_,_,.cons (a:=x) (b:=y) h1 h2=>by have:=fD.cons h1 (fD.app h h2);grind
def abT(a0:Int)(o:Int×Int×Int)(h:0<=o.1)(h':o.1<=1000000):T (λn=>BN n a0 o) λr=>r.2.1=o.1+1/\r.2.2=o.2/\(r.1=true->o.1+1<=o.2.1/\a0<=o.2.2):=by have hw:be (o.1+1)=o.1+1:=aE (by omega) (by omega);refine .step (λn=>P1 n) ?_;rw[hw];exact .ite (λc=>.ret ⟨rfl,rfl,λe=>⟨cO c,iR e⟩⟩) (λ_=>.ret ⟨rfl,rfl,λe=>by cases e⟩)
def VQ(a0:Int×ByteArray×Rows)(o:Int×Int×Int)(m:Int×Int×Int):Prop:=iE a0.1 a0.2.2/\m.2=o.2/\∃c,fD a0.2.2 c/\m.1=o.1+1+c/\m.1<=16
def O3:∀(W:Nat)(a0:Int×ByteArray×Rows)(E:Int)(O:Bool)(o:Int×Int×Int),wtRs a0.2.2<W->bd a0->0<=o.1->o.1<=16->o.2.1=16->T (λn=>BQ n a0 E O o) λr=>r.1=true->VQ a0 o r.2
 |0,_,_,_,_,h,_,_,_,_=>absurd h (Nat.not_lt_zero _)
 |W+1,a0,E,O,o,h,h0,hp,hq,hm=>by
  have D:=aB a0.2 (aB a0 h0)
  have hl:=bq D
  refine .step (λn=>adC n) (.ask (abT E o hp (by omega)) λx hx=>.ite (λ_=>.ret λe=>by cases e) (λM=>?_))
  obtain⟨Z,I,z⟩:=hx
  have z:=z (iD M)
  rw[hm]at z
  let Q(m:Int×Int×Int):Prop:=(∀r,r∈a0.2.2->iE (gI r 0) (gD r 2))/\m.2=o.2/\∃c,fD a0.2.2 c/\m.1=o.1+1+c/\m.1<=16
  have kids:T (λn=>vK n a0.2.2 E x.2) λr=>r.1=false->Q r.2.2:=by
   refine .step (λn=>afe n) (.ask (Q':=λr=>r.1<0->Q r.2.2) ?_ λy hy=>.ret λe=>hy (by grind))
   refine .step (λn=>aev n) ?_
   refine T.loop (σ:=Int×Int×Int×Int) (L:=λi s n=>Am n a0.2.2 (a0.2.2.length:Int) i s.1 s.2) a0.2.2.length (λi s=>(∀r,r∈a0.2.2.take i->iE (gI r 0) (gD r 2))/\s.2.2=o.2/\∃c,fD (a0.2.2.take i) c/\s.2.1=o.1+1+c/\s.2.1<=16) ?_ ?_ (E,x.2) ⟨by simp,I,0,by simpa using fD.nil,by grind,by grind⟩
   .exactλs hs=>.step (λn=>Ng n) (.neg (by simp) (.ret λ_=>by grind))
   .intro i s hi hs Y
    obtain⟨T8,F,M,K,hs4,J⟩:=hs
    refine .step (λn=>Ng n) (.pos (by simp;omega) (.ab (by omega) (by omega) λr hr=>.ask (Q':=λy=>y.1=false->VQ (aK r 0) s.2 y.2.2) ?_ λy hy=>.ite (λ_=>.ret λe=>absurd e (by grind)) (λc=>?_)))
    .exact .step (λn=>ae2 n) (.ask (O3 W (aK r 0) _ true s.2 (Nat.lt_of_lt_of_le (oh hr 2) (Nat.le_of_lt_succ h)) ⟨trivial,ak (an D hr) 1,ai (an D hr) 2⟩ (by omega) J (by rw[F,hm])) λy hy=>.ret λe=>hy (iD e))
    .rw[aE (i:=(i:Int)+1) (by omega) (by omega)]
     obtain⟨v1,U,c1,S,v4,R⟩:=hy c
     have hr:a0.2.2[i]?=some r:=by grind
     refine Y (y.2.1,y.2.2) ⟨λq hq=>?_,by rw[U,F],M+c1+1,?_,by grind,R⟩
     .rw[List.take_add_one,hr]at hq
      rcases List.mem_append.1 hq with hq|hq
      .grind
      .obtain rfl:q=r:=by grind
       exact v1
     .rw[List.take_add_one,hr];exact fD.app S K
  have fin:∀(m:Int),((m=(a0.2.2.length:Int))->(∀r,r∈a0.2.2->iE (gI r 0) (gD r 2))->iE a0.1 a0.2.2)->T (λn=>qa n m x.2 a0 E) λr=>r.1=true->VQ a0 o r.2:=by
   intro m hm
   refine .step (λn=>Xv n) (.ite (λ_=>.ret λe=>by cases e) (λc=>?_))
   have c:=ib c
   have go:T (λn=>ask (vK n a0.2.2 E x.2) λN=>some (!N.1,N.2.2)) λr=>r.1=true->VQ a0 o r.2:=.ask kids λy hy=>.ret λe=>by obtain⟨X,V⟩:=hy (qR e);exact⟨hm c.symm X,V⟩
   exact .ite (λ_=>.ite (λ_=>.ret λe=>by cases e) (λ_=>go)) (λ_=>go)
  refine .ite (λc=>fin _ λe h=>.mk (.inl ⟨.inl (fO c),by omega⟩) h) (λ_=>?_);refine .ite (λc=>.ite (λ_=>.ret λe=>by cases e) (λ_=>fin _ λe h=>.mk (.inl ⟨.inr (.inl (fO c)),by omega⟩) h)) (λ_=>?_);refine .ite (λc=>.ask (lW _ (dc a0.2 (aB a0 h0))) λ_ _=>.ite (λ_=>.ret λe=>by cases e) (λ_=>fin _ λe h=>.mk (.inl ⟨.inr (.inr (fO c)),by omega⟩) h)) (λ_=>?_);refine .ite (λc=>fin _ λe h=>.mk (.inr (.inl ⟨fO c,by omega⟩)) h) (λ_=>?_);exact .ite (λc=>fin _ λe h=>.mk (.inr (.inr ⟨fO c,by omega⟩)) h) (λ_=>.ret λe=>by cases e)
def vm(a0)(h0:bd a0):T (λn=>lq n a0) λb=>b=true->iE a0.1 a0.2.2/\∃c,fD a0.2.2 c/\c<=15:=.step (λn=>ahA n) (.ask (O3 _ a0 1 false (0,16,6) (Nat.lt_succ_self _) h0 (by simp) (by simp) rfl) λx hx=>.ret λe=>by obtain⟨E,_,c,D,z,o⟩:=hx e;grind)
def B0(a0)(h0:bd a0):T (λn=>lq n a0) bd:=(vm a0 h0).mono λ_ _=>trivial
abbrev fl:=Int×ByteArray×Int×Int×ByteArray×Rows×Rows
def nr(op:Int):Prop:=op=1\/op=2\/op=19\/op=20\/op=29
def nt(op:Int):Prop:=op=3\/op=21\/(46<=op/\op<=52)
def wJ(op k:Int):Prop:=(k=0/\nr op)\/(k=1/\nt op)\/(k=-1/\op=28)\/(k=2/\1<=op/\op<=56/\¬nr op/\¬nt op/\op≠28)
def sP(op:Int)(l:Nat):Prop:=(l=0/\nr op)\/(l=1/\nt op)\/(1<=l/\op=28)\/(l=2/\1<=op/\op<=56/\¬nr op/\¬nt op/\op≠28)
def ov(a:fl):Prop:=a.1=29->iE a.2.2.2.1 a.2.2.2.2.2.1
inductive fC:Nat->fl->Prop|mk{d:Nat}{t:fl}:sP t.1 t.2.2.2.2.2.2.length->ov t->(∀r,r∈t.2.2.2.2.2.2->fC d (cN r 0))->fC (d+1) t
def abU(op):T (λn=>GF n op) λr=>r.2=true->wJ op r.1:=by
 have I:¬nr op->¬nt op->T (λn=>qb n op) λr=>r.2=true->wJ op r.1:=λha hb=>.step (λn=>Xz n) (.ite (λc=>.ret λ_=>.inr (.inr (.inl ⟨rfl,fO c⟩))) (λc=>.ite (λF=>.ite (λE=>.ret λ_=>.inr (.inr (.inr ⟨rfl,cO F,cO E,ha,hb,bA c⟩))) (λ_=>.ret λe=>by cases e)) (λ_=>.ret λe=>by cases e)))
 have one:nt op->T (λn=>(some (1,true):Option (Int×Bool))) λr=>r.2=true->wJ op r.1:=λh=>.ret λ_=>.inr (.inl ⟨rfl,h⟩)
 have o:nr op->T (λn=>(some (0,true):Option (Int×Bool))) λr=>r.2=true->wJ op r.1:=λh=>.ret λ_=>.inl ⟨rfl,h⟩
 have K:¬nr op->T (λn=>qm n op) λr=>r.2=true->wJ op r.1:=λha=>by
  refine .step (λn=>Zq n) (.ite (λc=>.pos c (one (.inl (fO c)))) (λF=>.ite (λc=>.pos c (one (.inr (.inl (fO c))))) (λE=>?_)))
  have F:=bA F
  have E:=bA E
  refine .ite (λD=>.ite (λJ=>.pos J (one (.inr (.inr ⟨cO D,by grind⟩)))) (λJ=>.ite (λz=>one (.inr (.inr ⟨cO D,by grind⟩))) (λz=>I ha ?_))) (λD=>.ite (λz=>one (.inr (.inr ⟨by grind,by grind⟩))) (λz=>I ha ?_))
  .have:=eU J;have:=bA z;unfold nt;omega
  .have:=eU D;have:=bA z;unfold nt;omega
 refine .step (λn=>adY n) (.ite (λc=>.pos c (o (.inl (fO c)))) (λF=>.ite (λc=>.pos c (o (.inr (.inl (fO c))))) (λE=>.ite (λc=>.pos c (o (.inr (.inr (.inl (fO c)))))) (λD=>.ite (λc=>.pos c (o (.inr (.inr (.inr (.inl (fO c))))))) (λJ=>.ite (λc=>o (.inr (.inr (.inr (.inr (fO c)))))) (λz=>K ?_))))));have:=bA F;have:=bA E;have:=bA D;have:=bA J;have:=bA z;unfold nr;omega
def Ba(op):T (λn=>sN n op) bd:=.step (λn=>adi n) (.ite (λ_=>.ret trivial) (λ_=>.ite (λ_=>.ret trivial) (λ_=>.ite (λ_=>.ret trivial) (λ_=>.ret trivial))))
def afB(a0):T (λn=>GH n a0) bd:=.step (λn=>aeL n) (.ite (λ_=>.ite (λ_=>.ret trivial) (λ_=>.ret trivial)) (λ_=>.ret trivial))
section
variable (a:fl)(h:bd a)
include h
def tp(b:Bool):T (λn=>p9 n b a) λx=>x=true->ov a:=by
 have h3:bd a.2.2.2:=aB _ (aB _ (aB a h))
 have h4:bd a.2.2.2.2:=aB _ h3
 have h5:bd a.2.2.2.2.2:=aB _ h4
 refine .step (λn=>XD n) (.ite (λc=>?_) (λc=>?_))
 .refine .ite (λ_=>.ite (λ_=>.ask (vm (af a.2.2.2) ⟨trivial,dc a.2.2.2.2 h4,dc a.2.2.2.2.2 h5⟩) λx hx=>.ret λe _=>(hx e).1) (λ_=>.ret λe=>by cases e)) (λ_=>.ret λe=>by cases e)
 .have c:=bA c;exact .ite (λ_=>.ask (afB _) λ_ _=>.ret λ_ e=>absurd e c) (λ_=>.ret λe=>by cases e)
def Dh(b:Bool):T (λn=>ue n b a) λx=>x=true->ov a:=.step (λn=>Xw n) (.ite (λ_=>.ite (λ_=>.ite (λ_=>tp a h _) (λ_=>tp a h _)) (λ_=>tp a h _)) (λ_=>.ite (λ_=>tp a h _) (λ_=>tp a h _)))
def LY:T (λn=>se n a) λx=>x=true->ov a:=.step (λn=>Zd n) (.ite (λ_=>.ask (afz _ (dc _ (aB _ h))) λ_ _=>Dh a h _) (λ_=>.ask (Ba _) λ_ _=>.ite (λ_=>.ask (lW _ (dc _ (aB _ h))) λ_ _=>Dh a h _) (λ_=>Dh a h _)))
def abV:T (λn=>Gz n a) λx=>x=true->sP a.1 a.2.2.2.2.2.2.length/\ov a:=by
 refine .step (λn=>adg n) (.ask (abU _) λk hk=>.ite (λc=>.pos c (.ret λe=>by cases e)) (λc=>?_))
 have hk:=hk (iD c)
 have r5:(k.1=-1->1<=a.2.2.2.2.2.2.length)->T (λn=>zX n k.1 a) λx=>x=true->sP a.1 a.2.2.2.2.2.2.length/\ov a:=λh1=>by
  refine .step (λn=>Zn n) (.ite (λc=>.ite (λ_=>.ret λe=>by cases e) (λo=>?_)) (λc=>?_))
  .have c:=Hr c
   have o:=ib o
   refine(LY a h).mono λx hx e=>⟨?_,hx e⟩
   rcases hk with⟨e1,e2⟩|⟨e1,e2⟩|⟨e1,e2⟩|⟨e1,e2⟩
   .exact .inl ⟨by omega,e2⟩
   .exact .inr (.inl ⟨by omega,e2⟩)
   .grind
   .exact .inr (.inr (.inr ⟨by omega,e2⟩))
  .have c:=ib c
   refine(LY a h).mono λx hx e=>⟨?_,hx e⟩
   have:=h1 c
   rcases hk with⟨e1,e2⟩|⟨e1,e2⟩|⟨e1,e2⟩|⟨e1,e2⟩
   .omega
   .omega
   .exact .inr (.inr (.inl ⟨this,e2⟩))
   .omega
 refine .ite (λz=>.ite (λo=>.pos o (.ret λe=>by cases e)) (λo=>r5 λ_=>?_)) (λz=>r5 λe=>absurd e (bA z));grind
end
def O4:∀(W:Nat)(a0:fl)(k:Nat)(x:Int×Int×Int),wtRs a0.2.2.2.2.2.2<W->bd a0->1<=k->k<=65->x.2.2=64->T (λn=>BL n a0 (k:Int) x) λr=>r.2.2.2=64/\(r.1=true->fC (65-k) a0)
 |0,_,_,_,h,_,_,_,_=>absurd h (Nat.not_lt_zero _)
 |W+1,a0,k,x,h,h0,K,hk,hx=>by
  have o:=aB _ (aB _ (aB _ (aB _ (aB _ (aB a0 h0)))))
  have hl:=bq o
  refine .step (λn=>adb n) (.ask (Q':=λr=>r.2.2.2=64/\(r.1=true->k<=64)) ?_ λy hy=>.ite (λ_=>.ret ⟨hy.1,λe=>by cases e⟩) (λc=>?_))
  .refine .step (λn=>P1 n) (.ite (λ_=>.ret ⟨hx,λe=>?_⟩) (λ_=>.ret ⟨hx,λe=>by cases e⟩));grind
  have E:=hy.2 (iD c)
  refine .ask (abV a0 h0) λf hf=>.ite (λ_=>.ret ⟨hy.1,λe=>by cases e⟩) (λc=>?_)
  have hf:=hf (iD c)
  refine .ask (Q':=λr=>r.2.2.2.2=64/\(r.1=false->∀r,r∈a0.2.2.2.2.2.2->fC (64-k) (cN r 0))) ?_ λz hz=>.ret ⟨hz.1,λe=>by rw[show 65-k=(64-k)+1 by omega];exact .mk hf.1 hf.2 (hz.2 (qR e))⟩
  refine .step (λn=>adB n) (.ask (Q':=λr=>r.2.2.2.2=64/\(r.1<0->∀r,r∈a0.2.2.2.2.2.2->fC (64-k) (cN r 0))) ?_ λy hy=>.ret ⟨hy.1,λe=>hy.2 (by grind)⟩)
  refine .step (λn=>aeM n) ?_
  refine T.loop (σ:=Int×Int×Int×Int) (L:=λi s n=>z7 n a0.2.2.2.2.2.2 (a0.2.2.2.2.2.2.length:Int) i s.1 s.2) a0.2.2.2.2.2.2.length (λi s=>s.1=(k:Int)/\s.2.2.2=64/\∀r,r∈a0.2.2.2.2.2.2.take i->fC (64-k) (cN r 0)) ?_ ?_ ((k:Int),y.2) ⟨rfl,hy.1,by simp⟩
  .exactλs hs=>.step (λn=>Nu n) (.neg (by simp) (.ret ⟨hs.2.1,λ_=>by grind⟩))
  .intro i s hi hs I
   obtain⟨M,F⟩:=s
   obtain⟨rfl,D,J⟩:=hs
   refine .step (λn=>Nu n) (.pos (by simp;omega) (.ab (by omega) (by omega) λr hr=>.ask (Q':=λy=>y.2.1=(k:Int)/\y.2.2.2.2=64/\(y.1=false->fC (64-k) (cN r 0))) ?_ λy hy=>.ite (λ_=>.ret ⟨hy.2.1,λe=>absurd e (by grind)⟩) (λc=>?_)))
   .refine .step (λn=>afl n) ?_;rw[aE (i:=(k:Int)+1) (by omega) (by omega)];refine .ask (O4 W (cN r 0) (k+1) F (Nat.lt_of_lt_of_le (oh hr 6) (Nat.le_of_lt_succ h)) ⟨trivial,ak (an o hr) 1,trivial,trivial,ak (an o hr) 4,ai (an o hr) 5,ai (an o hr) 6⟩ (by omega) (by omega) D) λy hy=>.ret ⟨rfl,hy.1,λe=>?_⟩;grind
   .rw[aE (i:=(i:Int)+1) (by omega) (by omega)]
    refine I (y.2.1,y.2.2) ⟨hy.1,hy.2.1,λq hq=>?_⟩
    have hr:a0.2.2.2.2.2.2[i]?=some r:=by simpa using hr
    rw[List.take_add_one,hr]at hq;grind
def sB(a0:fl)(h0:bd a0):T (λn=>kl n a0) λb=>b=true->fC 64 a0:=.step (λn=>ahz n) (.ask (O4 _ a0 1 (0,2000,64) (Nat.lt_succ_self _) h0 (by omega) (by omega) rfl) λx hx=>.ret hx.2)
def Ht(a0:fl)(h0:bd a0):T (λn=>kl n a0) bd:=(sB a0 h0).mono λ_ _=>trivial
abbrev fv:=Int×ByteArray×Rows
inductive pE:Int->Rows->Prop|mk{k:Int}{ks:Rows}:(k=4->2<=ks.length)->(k=5->ks.length=1)->ks.length<=2->(∀r,r∈ks->pE (gI r 0) (gD r 2))->pE k ks
theorem iE.s{k:Int}{ks:Rows}(h:iE k ks):pE k ks:=by induction h with|mk h1 _ o=>exact .mk (by omega) (by omega) (by omega) o
def ty(x:fv):Prop:=bd x/\pE x.1 x.2.2
def cG(l:Rows):Prop:=bd l/\∀r,r∈l->pE (gI r 0) (gD r 2)
theorem pE.k{k:Int}{ks:Rows}(h:pE k ks):(k=4->2<=ks.length)/\(k=5->ks.length=1)/\ks.length<=2/\∀r,r∈ks->pE (gI r 0) (gD r 2):=by cases h with|mk a b c d=>exact⟨a,b,c,d⟩
theorem Cy{x:fv}(h:ty x):cG x.2.2:=⟨aB x.2 (aB x h.1),h.2.k.2.2.2⟩
theorem cL{l:Rows}{i:Nat}{r:List AV}(h:cG l)(hr:l[i]?=some r):ty (aK r 0):=⟨⟨trivial,ak (an h.1 hr) 1,ai (an h.1 hr) 2⟩,h.2 r (List.mem_of_getElem? hr)⟩
theorem Ua{x:fv}(h:ty x)(e:x.1=5):x.2.2.length=1:=h.2.k.2.1 e
theorem alb{x:fv}(h:ty x)(e:x.1=4):2<=x.2.2.length:=h.2.k.1 e
theorem ra(k:Int){s:ByteArray}(hs:bd s)(h:k≠4/\k≠5):ty (k,s,[]):=⟨⟨trivial,hs,cK⟩,.mk (λe=>absurd e h.1) (λe=>absurd e h.2) (by simp) (by simp)⟩
theorem qS{x:fv}(h:bd x):eS 1099511627776 (cy x):=bm ki (bm (dv (dc x.2 (aB x h))) (bm (ef (aB x.2 (aB x h))) ed))
theorem Hu{x:fv}(h:ty x):ty (5,bs [],[cy x]):=⟨⟨trivial,dz,by simp,dL (qS h.1) eg⟩,.mk (by omega) (by simp) (by simp) (by intro r hr;obtain rfl:=List.mem_singleton.1 hr;exact h.2)⟩
theorem tyP{x y:fv}(h:ty x)(h':ty y):ty (4,bs [],[cy x,cy y]):=
 ⟨⟨trivial,dz,by simp,dL (qS h.1) (dL (qS h'.1) eg)⟩,.mk (by simp) (by omega) (by simp) (by
   intro r hr
   rcases List.mem_cons.1 hr with rfl|hr
   .exact h.2
   .obtain rfl:=List.mem_singleton.1 hr;exact h'.2)⟩
def c7(x:Int×ByteArray×Rows×Bool):Prop:=ty (x.1,x.2.1,x.2.2.1)
def tyI(x:Int×ByteArray×Rows×Int):Prop:=ty (x.1,x.2.1,x.2.2.1)
theorem dY:ty (0,bs [],[]):=ra 0 dz (by omega)
theorem P8(a0):T (λn=>BR n a0) bd:=.step (λn=>aer n) (.ite (λ_=>.ret trivial) (λ_=>.ite (λ_=>.ret trivial) (λ_=>.ite (λ_=>.ret trivial) (λ_=>.ret trivial))))
theorem iy(a0)(h0:ty a0):T (λn=>gX n a0) c7:=by refine .step (λn=>aeQ n) (.ite (λ_=>.ret dY) (λc=>?_));have c:=ib c;have:=Ua h0 c;exact .ab (by omega) (by omega) λr hr=>.ret (cL (Cy h0) hr)
theorem Fl:T (λn=>vV n) ty:=.step (λn=>adM n) (.ret (ra 2 dz (by omega)))
theorem P9:T (λn=>BW n) ty:=.step (λn=>afr n) (.ret (ra 1 dz (by omega)))
theorem Qa(a0 o)(h0:ty a0)(h1:ty o):T (λn=>BU n a0 o) ty:=.step (λn=>aew n) (.ret (tyP h0 h1))
theorem mr(a0)(h0:ty a0):T (λn=>jv n a0) ty:=.step (λn=>Zr n) (.ret (Hu h0))
theorem vn(a0 o)(h0:ty a0)(h1:ty o):T (λn=>qP n a0 o) ty:=.step (λn=>afm n) (.ask (Qa _ _ h0 h1) λx hx=>.ask (mr _ hx) λy hy=>.ret hy)
theorem afC(a0 o)(h0:ty a0)(h1:ty o):T (λn=>G2 n a0 o) ty:=.step (λn=>aeY n) (.ask (vn _ _ h0 h1) λx hx=>.ask (mr _ hx) λy hy=>.ret hy)
def tyQ(x:Int×ByteArray×Rows×Int×ByteArray×Rows×Bool):Prop:=ty (x.1,x.2.1,x.2.2.1)/\ty (x.2.2.2.1,x.2.2.2.2.1,x.2.2.2.2.2.1)
theorem lN(a0)(h0:ty a0):T (λn=>j7 n a0) tyQ:=by refine .step (λn=>adp n) (.ask (iy _ h0) λx hx=>.ite (λ_=>.ret ⟨dY,dY⟩) (λ_=>.ite (λ_=>.ret ⟨dY,dY⟩) (λc=>?_)));have:=alb hx (ib c);have this:2<=x.2.2.1.length:=this;exact .ab (by omega) (by omega) λr hr=>.ab (by omega) (by omega) λq hq=>.ret ⟨cL (Cy hx) hr,cL (Cy hx) hq⟩
theorem qz(a0 o)(h0:ty a0)(h1:ty o):T (λn=>jI n a0 o) bd:=P4 _ _ h0.1 h1.1
theorem WK(a0 o)(h0:cG a0)(h3:cG o)(p:1<=o.length):T (λn=>tQ n a0 (a0.length:Int) 0 o) λr=>r.2=o:=by
 have hl:=bq h0.1
 refine T.dx (σ:=Unit) (L:=λi _ n=>tQ n a0 (a0.length:Int) i o) a0.length (λ_=>True) ?_ ?_ 0 (by omega) (by omega) () trivial
 .exactλ_ _=>.step (λn=>Kv n) (.neg (by simp) (.ret rfl))
 .intro i _ hi _ z
  refine .step (λn=>Kv n) (.pos (by simp;omega) (.ab (by omega) (by omega) λr hr=>.ask (Q':=λy=>y.2=o) ?_ λy hy=>.ite (λ_=>.ret hy) (λ_=>?_)))
  .exact .step (λn=>ae3 n) (.ab (by omega) (by omega) λq hq=>.ask (qz _ _ (cL h0 hr) (cL h3 hq)) λ_ _=>.ret rfl)
  .rw[aE (i:=(i:Int)+1) (by omega) (by omega),hy];exact z () trivial
def T.shift{β:Type}{Q:β->Prop}{F:Nat->Option β}(h:T F Q):T (λn=>F (n+1)) Q:=by obtain⟨r,⟨m,a⟩,b⟩:=h;exact⟨r,⟨m,λn hn=>a (n+1) (by omega)⟩,b⟩
def T.step2{β:Type}{Q:β->Prop}{F G:Nat->Option β}(h:∀n,F (n+1+1)=G n)(c:T G Q):T F Q:=by obtain⟨r,⟨m,a⟩,b⟩:=c;refine⟨r,⟨m+2,λn hn=>?_⟩,b⟩;obtain⟨k,rfl⟩:∃k,n=k+1+1:=⟨n-2,by omega⟩;grind
def abW{a b:ByteArray}(h:(a==b)=true):a=b:=by have h':(a.data==b.data)=true:=h;have:=eq_of_beq h';cases a;simp_all
def XE(a:ByteArray):(a==a)=true:=by show(a.data==a.data)=true;simp
structure jc(m:Rows)(c:Nat):Prop where
 nd:(m.map λr=>gS r 0).Nodup
 sz:∀r,r∈m->(gS r 0).size<=1099511627776
 ln:m.length<=c
def Ub(s:ByteArray)(v:List AV):gS (.sc (.string s)::v) 0=s:=rfl
def KS(s:ByteArray)(v:List AV):∀m:Rows,(∀k,k∈((bG m s v).map λr=>gS r 0)↔k=s\/k∈(m.map λr=>gS r 0))/\((m.map λr=>gS r 0).Nodup->((bG m s v).map λr=>gS r 0).Nodup)/\(bG m s v).length<=m.length+1
 |[]=>⟨λk=>by simp[bG,Ub],λ_=>by simp[bG],by simp[bG]⟩
 |r::rs=>by
  obtain⟨h1,h2,h3⟩:=KS s v rs
  unfold bG
  cases e:s==gS r 0 with
  |true=>have e:=abW e;simp only[List.map_cons,Ub,List.mem_cons,lC,List.nodup_cons];grind
  |false=>
   have e:¬s=gS r 0:=by intro q;rw[q,XE]at e;cases e
   grind
def jc.put{m:Rows}{c:Nat}(h:jc m c){s:ByteArray}(hs:bd s)(v:List AV):jc (bG m s v) (c+1):=by
 obtain⟨h1,h2,h3⟩:=KS s v m
 refine⟨h2 h.nd,λr hr=>?_,by have:=h.ln;omega⟩
 rcases(h1 (gS r 0)).1 (List.mem_map_of_mem hr)with e|e
 .rw[e];exact hs
 .obtain⟨q,hq,e⟩:=List.mem_map.1 e;rw[<-e];exact h.sz q hq
def jc.le{m:Rows}{c d:Nat}(h:jc m c)(hd:c<=d):jc m d:=⟨h.nd,h.sz,Nat.le_trans h.ln hd⟩
def jc.nil:jc [] 0:=⟨by simp,by simp,by simp⟩
def EU:∀(W:Nat)(a0:fv)(J:Rows)(k c:Nat),wtRs a0.2.2<W->ty a0->fD a0.2.2 k->jc J c->T (λn=>jJ n a0 J) λr=>jc r (c+k+1)
 |0,_,_,_,_,h,_,_,_=>absurd h (Nat.not_lt_zero _)
 |W+1,a0,J,k,c,h,h0,hk,h1=>by
  have E:=Cy h0
  have M:=h0.2.k.2.2.1
  have kids:∀(b:Rows),jc b (c+1)->T (λn=>aa (decide ((0:Int)<(a0.2.2.length:Int))) (ab a0.2.2 0 λr1=>(ask (jJ n (aK r1 0) b) λF=>(aa (decide ((1:Int)<(a0.2.2.length:Int))) (ab a0.2.2 1 λr3=>(ask (jJ n (aK r3 0) F) λI=>(aa (decide ((2:Int)<(a0.2.2.length:Int))) (ab a0.2.2 2 λr5=>(ask (jJ n (aK r5 0) I) λU=>none)) (some I)))) (some F)))) (some b)) λr=>jc r (c+k+1):=by
   intro b hb
   refine .ite (λL=>?_) (λ_=>.ret (hb.le (by omega)))
   have L:=cO L
   refine .ab (by omega) (by omega) λr1 D=>?_
   have R:∃x y rest,fD (gD r1 2) x/\a0.2.2=r1::rest/\fD rest y/\k=x+y+1:=by generalize a0.2.2=l at hk D;cases hk with|nil=>simp at D|@cons r rs a b ha hb=>grind
   obtain⟨x,y,rest,Q,ge,O,rfl⟩:=R
   refine .ask (EU W (aK r1 0) b x (c+1) (Nat.lt_of_lt_of_le (oh D 2) (Nat.le_of_lt_succ h)) (cL E D) Q hb) λF h2=>?_
   refine .ite (λK=>?_) (λ_=>.ret (h2.le (by omega)))
   have K:=cO K
   refine .ab (by omega) (by omega) λr3 o=>?_
   have g2:∃z w,fD (gD r3 2) z/\y=z+w+1:=by
    have o:rest[0]?=some r3:=by grind
    cases O with|nil=>simp at o|@cons r rs a b ha hb=>grind
   obtain⟨z,w,N,rfl⟩:=g2;refine .ask (EU W (aK r3 0) F z (c+1+x+1) (Nat.lt_of_lt_of_le (oh o 2) (Nat.le_of_lt_succ h)) (cL E o) N h2) λI h4=>?_;exact .ite (λS=>absurd (cO S) (by omega)) (λ_=>.ret (h4.le (by omega)))
  refine .step (λn=>ael n) (.ite (λ_=>?_) (λ_=>?_))
  .exact kids _ (h1.put (dc a0.2 (aB a0 h0.1)) _)
  .exact kids _ (h1.le (by omega))
def KT:∀{x y:List UInt8},jA x y=true->x=y
 |[],[],_=>rfl
 |[],_::_,h=>by simp[jA]at h
 |_::_,[],h=>by simp[jA]at h
 |a::p,b::q,h=>by
  unfold jA at h
  split at h
  .rename_i e;have e:=UInt8.toNat_inj.1 (Nat.eq_of_beq_eq_true e);rw[e,KT h]
  .cases h
def KU{x:List UInt8}:∀{l:List (List UInt8)},qI x l=true->x∈l
 |[],h=>by cases h
 |y::ys,h=>by
  unfold qI at h
  split at h
  .rename_i e;rw[KT e];grind
  .exact List.mem_cons_of_mem _ (KU h)
def KV:∀{l:List (List UInt8)},l.Nodup->qh l=true|[],_=>rfl|x::xs,h=>by unfold qh;rw[List.nodup_cons]at h;cases e:qI x xs with|true=>exact absurd (KU e) h.1|false=>exact KV h.2
def jc.sort{m:Rows}{c:Nat}(h:jc m c)(hc:c<=1000):sa m=true/\bd (mL m)/\(mL m).length<=c:=by
 have hk:hZ m=(m.map λr=>gS r 0).map λs=>s.data.toList:=by unfold hZ;rw[List.map_map];rfl
 have hn:(hZ m).Nodup:=by rw[hk];exact List.Pairwise.map _ (λa b o e=>o (ByteArray.ext (Array.ext' e))) h.nd
 have hs:∀k,k∈hZ m->k.length<=1099511627776:=λk hk=>by obtain⟨r,hr,rfl⟩:=List.mem_map.1 hk;exact h.sz r hr
 have hl:(j1 (hZ m)).length=m.length:=by rw[(ru _).length_eq];unfold hZ;simp
 refine⟨?_,⟨?_,lL λr hr=>?_⟩,?_⟩
 .unfold sa;rw[KV hn];have h1:((hZ m).all λk=>Nat.ble k.length 9223372036854775807)=true:=List.all_eq_true.2 λk hk=>Nat.ble_eq_true_of_le (Nat.le_trans (hs k hk) (by omega));have h2:Nat.ble (m.length*16) 140737488355328=true:=Nat.ble_eq_true_of_le (Nat.le_trans (Nat.mul_le_mul_right 16 h.ln) (by omega));grind
 .unfold mL;rw[List.length_map,hl];have:=h.ln;omega
 .unfold mL at hr;obtain⟨l,hl,rfl⟩:=List.mem_map.1 hr;exact bm (dv (hs l ((ru _).mem_iff.1 hl))) ed
 .unfold mL;rw[List.length_map,hl];exact h.ln
def Qb(a0:fv)(h0:bd a0):T (λn=>s4 n a0) λr=>bd r/\r.length<=16:=by refine .step2 (λn=>ahS n) (.ask (T.shift (F:=λn=>lq n a0) (vm a0 h0)) λx hx=>.ite (λ_=>.ret ⟨cK,by simp⟩) (λc=>?_));obtain⟨E,k,D,J⟩:=hx (iD c);refine .ask (T.shift (F:=λn=>jJ n a0 []) (EU _ a0 [] k 0 (Nat.lt_succ_self _) ⟨h0,E.s⟩ D .nil)) λm hm=>?_;obtain⟨z,o,I⟩:=hm.sort (by omega);exact .pos z (.ret ⟨o,by omega⟩)
def SW(a0:fv)(h0:bd a0):T (λn=>s4 n a0) bd:=(Qb a0 h0).mono λ_ h=>h.1
def O5(a0:ByteArray)(c:Rows×Rows)(o:Rows):T (λn=>BX n a0 c o) λr=>r.2=(c.1,c.2,o):=.step (λn=>aeB n) (.jx (λ_ _=>.ret rfl) (λ_=>.ret rfl))
def V5(a0:Rows)(h0:bd a0)(m:Rows×Rows)(p:Rows)(c:Int)(z:0<=c)(o:c<=(a0.length:Int)):T (λn=>tP n a0 (a0.length:Int) c m p) λr=>r.2=(m.1,m.2,p):=by
 have hl:=bq h0
 refine T.dx (σ:=(Rows×Rows)×Rows) (L:=λi s n=>tP n a0 (a0.length:Int) i s.1 s.2) a0.length (λs=>s=(m,p)) ?_ ?_ c z o (m,p) rfl
 .rintro s rfl;exact .step (λn=>KN n) (.neg (by simp) (.ret rfl))
 .rintro i s hi rfl D;refine .step (λn=>KN n) (.pos (by simp;omega) (.ab (by omega) (by omega) λr hr=>.ask (O5 _ _ _) λx hx=>.ite (λ_=>.ret hx) (λ_=>?_)));rw[aE (i:=(i:Int)+1) (by omega) (by omega),hx];grind
def abX(a0:fv)(h0:bd a0)(m:Rows×Rows)(p:Rows):T (λn=>vN n a0 m p) λr=>r.2=(m.1,m.2,p):=by refine .step (λn=>ad1 n) (.ask (Qb a0 h0) λl hl=>.ask (Q':=λr=>r.2=(m.1,m.2,p)) ?_ λx hx=>.ret hx);refine .step (λn=>abQ n) (.ask (Q':=λr=>r.2=(m.1,m.2,p)) ?_ λx hx=>.ret hx);refine .step (λn=>Zk n) ?_;have h1:=bq hl.1;refine .step (λn=>WE n) (.ite (λc=>?_) (λ_=>.ret rfl));have c:=cO c;refine .ab (by omega) (by omega) λr hr=>.ask (O5 _ _ _) λx hx=>.ite (λ_=>.ret hx) (λ_=>?_);rw[aE (i:=(0:Int)+1) (by omega) (by omega),hx];exact V5 l hl.1 m p _ (by omega) (by omega)
def T.bw{β:Type}{Q:β->Prop}{b:Bool}{cl:ByteArray}{e:Int}{s:ar}{k:Nat->ar->Option (aW β Unit)}(he:e≠0)(hk:b=true->T (λn=>k n s) (AQ s.2.1 Q)):T (λn=>Go.AI.aw (aO n b cl e s) (k n)) (AQ s.2.1 Q):=by cases b with|true=>exact .aw (Q':=λx=>x=s) (.step (λn=>SM n) (.neg rfl (.ok rfl))) λx hx=>hx▸hk rfl|false=>exact .aw (Q':=λ_=>False) (.step (λn=>SM n) (.pos rfl (.eP (.step (λn=>Fk n) (.pos (by grind) (.bad he rfl)))))) λ_ h=>h.elim
def T.ow{Q:ar->Prop}{b:Bool}{cl:ByteArray}{e:Int}{s:ar}(he:e≠0)(hk:b=true->Q s):T (λn=>Go.AI.eP (aO n b cl e s)) (AQ s.2.1 Q):=.bw he λh=>.ok (hk h)
def T.fail{β:Type}{Q:β->Prop}{cl:ByteArray}{e:Int}{s:ar}{k:Nat->ar->Option (aW β Unit)}(hk:e=0->T (λn=>k n s) (AQ s.2.1 Q)):T (λn=>Go.AI.aw (jH n cl e s) (k n)) (AQ s.2.1 Q):=by
 by_cases h:e=0
 .exact .aw (Q':=λx=>x=s) (.step (λn=>Fk n) (.neg (by grind) (.ok rfl))) λx hx=>hx▸hk h
 .exact .aw (Q':=λ_=>False) (.step (λn=>Fk n) (.pos (by grind) (.bad h rfl))) λ_ h=>h.elim
def Ar(a0:Rows)(h:a0.length<=274877906944):T (λn=>sL n a0) λr=>r=a0:=.step (λn=>ady n) (uX (by omega) (by omega))
def uY(a0:Rows)(h:a0.length<=274877906944):T (λn=>mZ n a0) λr=>r=a0:=.step (λn=>ads n) (uX (by omega) (by omega))
def abY(a0:Rows)(h:a0.length<=274877906944):T (λn=>Gb n a0) λr=>r=a0:=.step (λn=>adT n) (uX (by omega) (by omega))
def O6(a0:Rows)(h:a0.length<=274877906944):T (λn=>BH n a0) λr=>r=a0:=.step (λn=>aeE n) (uX (by omega) (by omega))
def afD(a0:Rows)(h:a0.length<=274877906944):T (λn=>Ij n a0) λr=>r=a0:=.step (λn=>aia n) (uX (by omega) (by omega))
end Go.AI
