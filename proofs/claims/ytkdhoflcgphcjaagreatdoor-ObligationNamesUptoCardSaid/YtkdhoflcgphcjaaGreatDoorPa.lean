/- A part of the proof. -/
import Derived.Test.YtkdhoflcgphcjaaGreatDoorGa
import Derived.Test.YtkdhoflcgphcjaaGreatDoorGb
import Derived.Test.YtkdhoflcgphcjaaGreatDoorGc
set_option linter.all false

namespace Go.AI
open Go
def Ev{α:Type}(F:Nat->Option α)(r:α):Prop:=∃c,∀n,c<=n->F n=some r
section
variable {α β:Type}{r:β}
theorem Ev.ret(r:β):Ev (λ_=>some r) r:=⟨0,λ_ _=>rfl⟩
theorem Ev.step{F G:Nat->Option β}(h:∀n,F (n+1)=G n)(c:Ev G r):Ev F r:=by obtain⟨m,hm⟩:=c;refine⟨m+1,λn hn=>?_⟩;obtain⟨k,rfl⟩:∃k,n=k+1:=⟨n-1,by omega⟩;grind
theorem Ev.const{F:Nat->Option β}(m:Nat)(h:∀n,F (n+m)=some r):Ev F r:=by refine⟨m,λn hn=>?_⟩;obtain⟨k,rfl⟩:∃k,n=k+m:=⟨n-m,by omega⟩;exact h k
theorem Ev.G0{F:Nat->Option β}{a b:β}(h:Ev F a)(h':Ev F b):a=b:=by obtain⟨m,hm⟩:=h;obtain⟨k,hk⟩:=h';have:=hm (max m k) (Nat.le_max_left _ _);grind
theorem Ev.ask{F:Nat->Option α}{k:Nat->α->Option β}{a:α}(h:Ev F a)(hk:Ev (λn=>k n a) r):Ev (λn=>ask (F n) (k n)) r:=by obtain⟨m,hm⟩:=h;obtain⟨l,hl⟩:=hk;refine⟨max m l,λn hn=>?_⟩;show(match F n with|some a=>k n a|none=>none)=_;grind
theorem Ev.ite{b:Bool}{x y:Nat->Option β}(h1:b=true->Ev x r)(h2:b=false->Ev y r):Ev (λn=>aa b (x n) (y n)) r:=by
 cases b
 .exact h2 rfl
 .exact h1 rfl
theorem Ev.pos{b:Bool}{x y:Nat->Option β}(h:b=true)(h1:Ev x r):Ev (λn=>aa b (x n) (y n)) r:=by subst h;exact h1
theorem Ev.neg{b:Bool}{x y:Nat->Option β}(h:b=false)(h1:Ev y r):Ev (λn=>aa b (x n) (y n)) r:=by subst h;exact h1
theorem Ev.ab{l:List α}{i:Int}{m:Nat}{x:α}{k:Nat->α->Option β}(hi:i=(m:Int))(h:l[m]?=some x)(hk:Ev (λn=>k n x) r):Ev (λn=>ab l i (k n)) r:=by simp_all[b9,Int.toNat_natCast,h0,refine,Go.AI.ab]
theorem Ev.ig{s:ByteArray}{i:Int}{m:Nat}{x:UInt8}{k:Nat->Int->Option β}(hi:i=(m:Int))(h:s.data.toList[m]?=some x)(hk:Ev (λn=>k n (x.toNat:Int)) r):Ev (λn=>ig s i (k n)) r:=by
 subst hi
 obtain⟨o,h0⟩:=hk
 refine⟨o,λn hn=>?_⟩
 unfold Go.AI.ig
 have hs:s[m]?=some x:=by
  have j:m<s.data.toList.length:=by
   rcases Nat.lt_or_ge m s.data.toList.length with a|a
   .exact a
   .grind
  have c:m<s.size:=by simpa using j
  rw[List.getElem?_eq_getElem j]at h;rw[getElem?_pos s m c];exact h
 grind
theorem Ev.fits{m b:Nat}{x:Nat->Option β}(h:m*b<=140737488355328)(hx:Ev x r):Ev (λn=>fits m b (x n)) r:=by unfold Go.AI.fits;simp_all
theorem Ev.o5{a b:ByteArray}{k:Nat->ByteArray->Option β}(h:a.size+b.size<=9223372036854775807)(hx:Ev (λn=>k n (a++b)) r):Ev (λn=>o5 a b (k n)) r:=by unfold Go.AI.o5;rw[fy (p:=((a.size+b.size:Nat):Int)>IntKind.i64.max) (by show¬_>(9223372036854775807:Int);omega)];exact hx
theorem Ev.fH{s:ByteArray}{c hi:Int}{k:Nat->ByteArray->Option β}(h:0<=c/\c<=hi/\hi<=s.size)(hx:Ev (λn=>k n (s.extract c.toNat hi.toNat)) r):Ev (λn=>fH s c hi (k n)) r:=by grind[b9,Go.AI.fH]
theorem Ev.jV{l:List α}{c hi:Int}{k:Nat->List α->Option β}(h:0<=c/\c<=hi/\hi<=l.length)(hx:Ev (λn=>k n ((l.drop c.toNat).take (hi.toNat-c.toNat))) r):Ev (λn=>jV l c hi (k n)) r:=by grind[b9,Go.AI.jV]
theorem Ev.head{s:ByteArray}{m:Int}{k:Nat->ByteArray->Option β}(h:0<m/\m<=s.size/\m<=9223372036854775807)(hx:Ev (λn=>k n (s.extract 0 m.toNat)) r):Ev (λn=>head s m (k n)) r:=by grind[b9,Go.AI.head]
end
theorem iE{a b:ByteArray}:ax a b=true↔a=b:=by unfold ax;rw[beq_iff_eq];grind[ByteArray.ext,Array.ext',Cj]
def T{α:Type}(F:Nat->Option α)(Q:α->Prop):Prop:=∃r,Ev F r/\Q r
section
variable {α β γ:Type}{Q:β->Prop}
theorem T.ret{r:β}(h:Q r):T (λ_=>some r) Q:=⟨r,.ret r,h⟩
theorem T.of{F:Nat->Option β}{r:β}(h:Ev F r)(hq:Q r):T F Q:=⟨r,h,hq⟩
theorem T.mono{F:Nat->Option β}{Q':β->Prop}(h:T F Q)(hq:∀r,Q r->Q' r):T F Q':=let⟨r,a,b⟩:=h;⟨r,a,hq r b⟩
theorem T.ev{F:Nat->Option β}{r:β}(h:T F λx=>x=r):Ev F r:=let⟨_,a,b⟩:=h;b▸a
theorem T.step{F G:Nat->Option β}(h:∀n,F (n+1)=G n)(c:T G Q):T F Q:=let⟨r,a,b⟩:=c;⟨r,.step h a,b⟩
theorem T.ask{F:Nat->Option α}{k:Nat->α->Option β}{Q':α->Prop}(h:T F Q')(hk:∀x,Q' x->T (λn=>k n x) Q):T (λn=>ask (F n) (k n)) Q:=by obtain⟨x,a,b⟩:=h;obtain⟨r,c,d⟩:=hk x b;exact⟨r,.ask a c,d⟩
theorem T.AN{F:Nat->Option α}{k:Nat->α->Option β}{x:α}(h:Ev F x)(hk:T (λn=>k n x) Q):T (λn=>Go.AI.ask (F n) (k n)) Q:=by obtain⟨r,c,d⟩:=hk;exact⟨r,.ask h c,d⟩
theorem T.ite{b:Bool}{x y:Nat->Option β}(h1:b=true->T x Q)(h2:b=false->T y Q):T (λn=>aa b (x n) (y n)) Q:=by
 cases b
 .exact h2 rfl
 .exact h1 rfl
theorem T.pos{b:Bool}{x y:Nat->Option β}(h:b=true)(h1:T x Q):T (λn=>aa b (x n) (y n)) Q:=by subst h;exact h1
theorem T.neg{b:Bool}{x y:Nat->Option β}(h:b=false)(h1:T y Q):T (λn=>aa b (x n) (y n)) Q:=by subst h;exact h1
theorem T.ab{l:List α}{i:Int}{k:Nat->α->Option β}(h0:0<=i)(hi:i<l.length)(hk:∀x,l[i.toNat]?=some x->T (λn=>k n x) Q):T (λn=>ab l i (k n)) Q:=by
 obtain⟨m,rfl⟩:∃m:Nat,i=m:=⟨i.toNat,by omega⟩
 have hm:m<l.length:=by omega
 obtain⟨r,a,b⟩:=hk l[m] (by simp[hm]);exact⟨r,.ab rfl (by simp[hm]) a,b⟩
theorem T.jU{l:List α}{i:Nat}{k:Nat->α->Option β}(hi:i<l.length)(hk:∀x,l[i]?=some x->T (λn=>k n x) Q):T (λn=>jU l i (k n)) Q:=by simp_all[List.getElem?_eq_getElem,refine,Go.AI.jU]
theorem T.fits{m b:Nat}{x:Nat->Option β}(h:m*b<=140737488355328)(hx:T x Q):T (λn=>fits m b (x n)) Q:=let⟨r,a,c⟩:=hx;⟨r,.fits h a,c⟩
theorem T.o5{a b:ByteArray}{k:Nat->ByteArray->Option β}(h:a.size+b.size<=9223372036854775807)(hx:T (λn=>k n (a++b)) Q):T (λn=>o5 a b (k n)) Q:=let⟨r,c,d⟩:=hx;⟨r,.o5 h c,d⟩
theorem T.jV{l:List α}{i hi:Int}{k:Nat->List α->Option β}(h:0<=i/\i<=hi/\hi<=l.length)(hx:T (λn=>k n ((l.drop i.toNat).take (hi.toNat-i.toNat))) Q):T (λn=>jV l i hi (k n)) Q:=let⟨r,c,d⟩:=hx;⟨r,.jV h c,d⟩
theorem T.fH{s:ByteArray}{i hi:Int}{k:Nat->ByteArray->Option β}(h:0<=i/\i<=hi/\hi<=s.size)(hx:T (λn=>k n (s.extract i.toNat hi.toNat)) Q):T (λn=>fH s i hi (k n)) Q:=let⟨r,c,d⟩:=hx;⟨r,.fH h c,d⟩
theorem T.emp{l:List α}{x y:Nat->Option β}(h1:l=[]->T x Q)(h2:l≠[]->T y Q):T (λn=>emp l (x n) (y n)) Q:=by
 cases l
 .exact h1 rfl
 .exact h2 (by simp)
theorem T.mV{l:List α}{k:Nat->α->List α->Option β}(h:l≠[])(hk:∀x xs,l=x::xs->T (λn=>k n x xs) Q):T (λn=>mV l (k n)) Q:=by cases l with|nil=>grind|cons x xs=>exact hk x xs rfl
theorem T.et{rows:List (List AV)}{s:ByteArray}{k:Nat->List AV->Option β}{y:Nat->Option β}(h1:∀r,dy rows s=some r->T (λn=>k n (r.drop 1)) Q)(h2:dy rows s=none->T y Q):T (λn=>et rows s (k n) (y n)) Q:=by unfold Go.AI.et;cases e:dy rows s with|none=>exact h2 e|some r=>exact h1 r e
theorem T.both{x y:Nat->Option β}{r:β}(h1:Ev x r)(h2:Ev y r)(hq:Q r):T (λn=>both (x n) (y n)) Q:=by obtain⟨a,ha⟩:=h1;obtain⟨b,hb⟩:=h2;refine⟨r,⟨max a b,λn hn=>?_⟩,hq⟩;have e1:=ha n (Nat.le_trans (Nat.le_max_left ..) hn);have e2:=hb n (Nat.le_trans (Nat.le_max_right ..) hn);simp_all[if_true,Go.AI.both]
def AQ(j:Int)(Q:α->Prop):rZ α Unit->Prop|.ret a=>Q a|.aE t q _=>t=29/\gI q 0≠0/\gI q 1=j
theorem T.ok{j:Int}{r:β}(h:Q r):T (λ_=>some (rZ.ret r:rZ β Unit)) (AQ j Q):=.ret h
theorem T.bad{j:Int}{q:List AV}{u:Unit}(h:gI q 0≠0)(h1:gI q 1=j):T (λ_=>some (rZ.aE 29 q u:rZ β Unit)) (AQ j Q):=.ret ⟨rfl,h,h1⟩
theorem bA{i:Int}(h0:-9223372036854775808<=i)(h:i<=9223372036854775807):IntKind.i64.wrap i=i:=Go.IntWalk.i64_in i ⟨h0,h⟩
theorem T.loop{σ:Type}{L:Int->σ->Nat->Option β}(m:Nat)(inv:Nat->σ->Prop)(c:∀s,inv m s->T (L m s) Q)
 (dY:∀i s,i<m->inv i s->(∀s',inv (i+1) s'->T (L ((i:Int)+1) s') Q)->T (L i s) Q):∀s,inv 0 s->T (L 0 s) Q:=by
 have key:∀d i s,i+d=m->inv i s->T (L (i:Int) s) Q:=by intro d;induction d with|zero=>grind|succ d ih=>grind
 exactλs h=>key m 0 s (by omega) h
def ik(p:α->Bool)(l:List α):Int:=match l.findIdx? p with|some i=>i|none=>-1
theorem Tj{p:α->Bool}{l:List α}:ik p l>=0↔l.any p=true:=by unfold ik;grind
theorem JO{J:Nat->Int->Option Int}{l:List α}{P:Nat->α->Option Bool}{p:α->Bool}(hl:l.length<=4611686018427387904)
 (h:∀n i,J (n+1) i=aa (decide (i<(l.length:Int))) (ab l i λr=>ask (P n r) λx=>aa x (some i) (J n (IntKind.i64.wrap (i+1)))) (some (-1)))
 (hp:∀r,r∈l->Ev (λn=>P n r) (p r)):Ev (λn=>J n 0) (ik p l):=by
 have key:∀d i,i+d=l.length->Ev (λn=>J n (i:Int)) (match(l.drop i).findIdx? p with|some k=>((i+k:Nat):Int)|none=>-1):=by
  intro d
  induction d with
  |zero=>intro i e;refine .step (λn=>h n _) (.neg (by simp;omega) ?_);rw[List.drop_eq_nil_of_le (by omega)];exact .ret _
  |succ d ih=>
   intro i e
   have hi:i<l.length:=by omega
   refine .step (λn=>h n _) (.pos (by simp;omega) (.ab rfl (List.getElem?_eq_getElem hi) (.ask (hp _ (List.getElem_mem hi)) ?_)))
   rw[List.drop_eq_getElem_cons hi,List.findIdx?_cons]
   refine .ite (λhb=>?_) (λhb=>?_)
   .rw[hb];exact .ret _
   .rw[hb,bA (by omega) (by omega)];grind
 have:=key l.length 0 (by omega);unfold ik;grind
theorem CO{J:Nat->Int->Option Int}{l:List α}{p:α->Bool}(hl:l.length<=4611686018427387904)(h:∀n i,J (n+1) i=aa (decide (i<(l.length:Int))) (ab l i λr=>aa (p r) (some i) (J n (IntKind.i64.wrap (i+1)))) (some (-1))):Ev (λn=>J n 0) (ik p l):=JO (P:=λ_ r=>some (p r)) hl h λ_ _=>.ret _
def tM(p:α->γ->Bool):List α->List γ->Bool|x::xs,y::ys=>p x y&&tM p xs ys|_,_=>true
theorem U1{J:Nat->Int->Option Bool}{l:List α}{m:List γ}{P:Nat->α->γ->Option Bool}{p:α->γ->Bool}(hl:l.length<=4611686018427387904)(hm:l.length=m.length)
 (h:∀n i,J (n+1) i=aa (decide (i<(l.length:Int))) (ab l i λr=>ab m i λq=>ask (P n r q) λx=>aa (!x) (some false) (J n (IntKind.i64.wrap (i+1)))) (some true))
 (hp:∀r q,r∈l->q∈m->Ev (λn=>P n r q) (p r q)):Ev (λn=>J n 0) (tM p l m):=by
 have key:∀d i,i+d=l.length->Ev (λn=>J n (i:Int)) (tM p (l.drop i) (m.drop i)):=by
  intro d
  induction d with
  |zero=>intro i e;refine .step (λn=>h n _) (.neg (by simp;omega) ?_);rw[List.drop_eq_nil_of_le (by omega)];exact .ret _
  |succ d ih=>
   intro i e
   have hi:i<l.length:=by omega
   have c:i<m.length:=by omega
   refine .step (λn=>h n _) (.pos (by simp;omega) (.ab rfl (List.getElem?_eq_getElem hi) (.ab rfl (List.getElem?_eq_getElem c) (.ask (hp _ _ (List.getElem_mem hi) (List.getElem_mem c)) ?_))))
   rw[List.drop_eq_getElem_cons hi,List.drop_eq_getElem_cons c]
   simp only[tM]
   refine .ite (λhb=>?_) (λhb=>?_)
   .rw[Bool.not_eq_true']at hb;rw[hb];exact .ret _
   grind[Bool.not_eq_false',bA]
 have:=key l.length 0 (by omega);grind
theorem Dg{J:Nat->Int->Option Bool}{l:List α}{m:List γ}{p:α->γ->Bool}(hl:l.length<=4611686018427387904)(hm:l.length=m.length)(h:∀n i,J (n+1) i=aa (decide (i<(l.length:Int))) (ab l i λr=>ab m i λq=>aa (!p r q) (some false) (J n (IntKind.i64.wrap (i+1)))) (some true)):Ev (λn=>J n 0) (tM p l m):=U1 (P:=λ_ r q=>some (p r q)) hl hm h λ_ _ _ _=>.ret _
end
section
mutual
def iu(N:Nat):AV->Prop|.sc (.string s)=>s.size<=N|.aI rows _=>rows.length<=N/\eF N rows|_=>True
def gQ(N:Nat):List AV->Prop|[]=>True|c::r=>iu N c/\gQ N r
def eF(N:Nat):List (List AV)->Prop|[]=>True|r::rs=>gQ N r/\eF N rs
end
class BD(α:Type)where bdn:Nat->α->Prop
open BD (bdn)
instance :BD Int:=⟨λ_ _=>True⟩
instance :BD ByteArray:=⟨λN s=>s.size<=N⟩
instance :BD (List (List AV)):=⟨λN l=>l.length<=N/\eF N l⟩
instance :BD (List AV):=⟨λN r=>gQ N r⟩
instance {α β:Type}[BD α][BD β]:BD (α×β):=⟨λN x=>bdn N x.1/\bdn N x.2⟩
abbrev bd{α:Type}[BD α](x:α):Prop:=bdn 1099511627776 x
section
variable {N:Nat}
theorem vg{r:List AV}:∀{rows:Rows},eF N rows->r∈rows->gQ N r
 |x::xs,h,hm=>by
  rw[eF]at h
  rcases List.mem_cons.1 hm with rfl|hm
  .exact h.1
  .exact vg h.2 hm
theorem ES:∀{rows:Rows},(∀r,r∈rows->gQ N r)->eF N rows|[],_=>trivial|x::xs,h=>by simp_all[ES,eF]
theorem DG:∀{r:List AV}{j:Nat}{c:AV},gQ N r->r[j]?=some c->iu N c|[],j,c,_,h=>by simp at h|x::xs,0,c,h,e=>by simp at e;subst e;rw[gQ]at h;exact h.1|x::xs,j+1,c,h,e=>by rw[gQ]at h;exact DG (r:=xs) (j:=j) h.2 (by simpa using e)
theorem vh{l m:Rows}(h:eF N l)(h':eF N m):eF N (l++m):=ES λr hr=>(List.mem_append.1 hr).elim (vg h) (vg h')
variable {α β:Type}[BD α][BD β]
theorem gp(x:α×β)(h:bdn N x):bdn N x.1:=h.1
theorem cq(x:α×β)(h:bdn N x):bdn N x.2:=h.2
theorem fM{l:Rows}{i:Nat}{r:List AV}(h:bdn N l)(hr:l[i]?=some r):bdn N r:=vg h.2 (List.mem_of_getElem? hr)
theorem ju{l:Rows}{r:List AV}(h:bdn N l)(hr:r∈l):bdn N r:=vg h.2 hr
theorem fN{r:List AV}(h:bdn N r)(j:Nat):bdn N (gD r j):=by
 unfold gD
 split
 .rename_i l z e;have:=DG h e;rw[iu]at this;exact this
 .exact⟨Nat.zero_le _,trivial⟩
theorem eV{r:List AV}(h:bdn N r)(j:Nat):bdn N (gS r j):=by
 unfold gS
 split
 .rename_i s e;have:=DG h e;rw[iu]at this;exact this
 .exact Nat.zero_le _
theorem BL:bdn N ([]:Rows):=⟨Nat.zero_le _,trivial⟩
end
theorem BM{l:List UInt8}(h:l.length<=1000:=by decide):bd (bs l):=by show(bs l).size<=_;have:(bs l).size=l.length:=rfl;omega
theorem jv{l:Rows}(h:bd l):l.length<=1099511627776:=h.1
theorem Po{s:ByteArray}(h:bd s):s.size<=1099511627776:=h
section
variable {N:Nat}
theorem w4:gQ N []:=trivial
theorem sa{c:AV}{r:List AV}(h:iu N c)(h':gQ N r):gQ N (c::r):=by rw[gQ];grind
theorem haI{k:IntKind}{i:Int}:iu N (.sc (.int k i)):=by unfold iu;trivial
theorem w5{s:ByteArray}(h:bdn N s):iu N (.sc (.string s)):=by rw[iu];exact h
theorem haD{l:Rows}{z:Nat}(h:bdn N l):iu N (.aI l z):=by rw[iu];exact h
theorem w6:eF N []:=trivial
theorem ud{r:List AV}{rs:Rows}(h:gQ N r)(h':eF N rs):eF N (r::rs):=by rw[eF];grind
end
end
theorem mj{a b:Int}(h:(a !=b)=false):a=b:=by grind
theorem ml{a b:Int}(h:(a !=b)=true):¬a=b:=by grind
theorem aP{a b:Int}(h:(a==b)=false):¬a=b:=by grind
theorem aL{a b:Int}(h:(a==b)=true):a=b:=by grind
theorem gN{a:Bool}(h:(!a)=true):a=false:=by grind
theorem cF{a:Bool}(h:(!a)=false):a=true:=by grind
theorem cW{p:Prop}[Decidable p](h:decide p=true):p:=oq h
theorem dS{p:Prop}[Decidable p](h:decide p=false):¬p:=of_decide_eq_false h
theorem bS{a b:ByteArray}:(ax a b=true)=(a=b):=propext iE
theorem ur{a b:ByteArray}:(ax a b=false)=¬(a=b):=by rw[<-bS];simp
theorem Ev.eq{β:Type}{F:Nat->Option β}{r r':β}(h:Ev F r)(e:r=r'):Ev F r':=e▸h
theorem nA{β:Type}{Q:β->Prop}{s:ByteArray}{i:Nat}{k:Nat->Int->Option β}(hi:i<s.size)(hk:∀b,s.data.toList[i]?=some b->T (λn=>k n (b.toNat:Int)) Q):T (λn=>ig s (i:Int) (k n)) Q:=by
 have hm:i<s.data.toList.length:=by simp_all
 obtain⟨r,a,b⟩:=hk s.data.toList[i] (List.getElem?_eq_getElem hm);exact⟨r,.ig rfl (List.getElem?_eq_getElem hm) a,b⟩
def mm(b:Int):Bool:=decide (97<=b/\b<=122\/65<=b/\b<=90)
def wT(b:Int):Bool:=decide (48<=b/\b<=57)
def fj(b:Int):Bool:=mm b||wT b||b==95
theorem MA(b):T (λn=>A4 n b) (.=mm b):=.step YN (by unfold mm;refine .ite (λc=>.ite (λd=>.ret ?_) λd=>.ite (λe=>.ret ?_) λe=>.ret ?_) λc=>.ite (λd=>.ret ?_) λd=>.ret ?_<;>grind)
theorem MB(b):T (λn=>A6 n b) (.=mm b):=.step Zs (by unfold mm;refine .ite (λc=>.ite (λd=>.ret ?_) λd=>.ite (λe=>.ret ?_) λe=>.ret ?_) λc=>.ite (λd=>.ret ?_) λd=>.ret ?_<;>grind)
theorem XN(b):T (λn=>Gd n b) (.=wT b):=.step YW (by unfold wT;refine .ite (λc=>.ret ?_) λc=>.ret ?_<;>grind)
theorem XO(b):T (λn=>Gc n b) (.=wT b):=.step Zb (by unfold wT;refine .ite (λc=>.ret ?_) λc=>.ret ?_<;>grind)
theorem MC(b):T (λn=>Gb n b) (.=fj b):=.step Zu (.ask (MA b) λx hx=>.ite (λc=>.ret (by rw[hx]at c;simp[fj,c])) λc=>.ask (XN b) λy hy=>.ite (λd=>.ret (by rw[hy]at d;simp[fj,d])) λd=>.ret (by rw[hx]at c;rw[hy]at d;simp[fj,c,d]))
def He:List ByteArray:=[bs [116,114,117,101],bs [102,97,108,115,101],bs [110,111,116],bs [111,114],bs [102,111,114,97,108,108],bs [101,120,105,115,116,115],bs [105,110],bs [110,111,116,105,110],bs [115,117,98],bs [109,111,100],bs [102,117,110],bs [99,97,114,100],bs [109,105,110],bs [109,97,120],bs [100,111,109],bs [114,97,110],bs [80,79,87],bs [105,110,116],bs [98,111,111,108],bs [115,101,116],bs [112,97,105,114]]
def rW(s:ByteArray):Bool:=He.any λk=>ax s k
theorem XP(s):T (λn=>FT n s) (.=rW s):=.step Y8 (by
 unfold rW He
 simp only[List.any_cons,List.any_nil]
 repeat(refine .ite (λc=>.pos c (.ret (by simp[c]))) λc=>?_;rw[c,Bool.false_or])
 exact .ite (λc=>.ret (by simp[c])) λc=>.ret (by simp[c]))
theorem SS(a b:ByteArray):ax a b=ax b a:=by rw[Bool.eq_iff_iff,iE,iE];grind
theorem UD{J:Nat->Int->Option Bool}{l:Rows}{p:List AV->Bool}(hl:l.length<=4611686018427387904)
 (h:∀n i,J (n+1) i=aa (decide (i<(l.length:Int))) (ab l i λr=>aa (p r) (some true) (J n (IntKind.i64.wrap (i+1)))) (some false)):T (λn=>J n 0) (.=l.any p):=by
 refine T.loop (σ:=Unit) (L:=λi _ n=>J n i) l.length (λi _=>(l.take i).any p=false) ?_ ?_ () (by simp)
 .intro _ hs;rw[List.take_length]at hs;exact .step (λn=>h n _) (.neg (by simp) (.ret hs.symm))
 .intro i _ hi hs ih
  refine .step (λn=>h n _) (.pos (by simp;omega) (.ab (by omega) (by omega) λr hr=>.ite (λc=>.ret ?_) λc=>?_))
  .grind
  .rw[bA (by omega) (by omega)];refine ih () ?_;rw[List.take_add_one,List.any_append,hs,show l[i]?=some r by grind];simp[c]
theorem MD(s)(l:Rows)(hl:l.length<=4611686018427387904):T (λn=>Bb n s l) (.=l.any λr=>ax (gS r 0) s):=.step YV (UD hl λn i=>V0 n)
theorem XQ(s):T (λn=>F1 n s) (.=rW s):=.step ZK (.ask (MD s _ (by simp)) λx hx=>.ret (by rw[hx];unfold rW He;simp only[List.any_cons,List.any_nil,SS s];rfl))
def ek(s:ByteArray):Bool:=match s.data.toList with|[]=>false|b::l=>decide (s.size<=16)&&mm (b.toNat:Int)&&!rW s&&l.all λc=>fj (c.toNat:Int)
theorem Dz{b:Int}(h:mm b=true):fj b=true:=by simp[fj,h]
theorem Jp{J:Nat->Int->Option Bool}{s:ByteArray}{P:Nat->Int->Option Bool}{p:Int->Bool}(hl:s.size<=4611686018427387904)(k:Nat)(hk:k<=s.size)
 (h:∀i:Nat,i<s.size->∀b,s.data.toList[i]?=some b->p (b.toNat:Int)=true->∀Q,T (λn=>J n ((i:Int)+1)) Q->T (λn=>J n i) Q)
 (h1:∀i:Nat,i<s.size->∀b,s.data.toList[i]?=some b->p (b.toNat:Int)=false->T (λn=>J n i) (.=false))
 (h2:T (λn=>J n s.size) (.=true)):T (λn=>J n k) (.=(s.data.toList.drop k).all λc=>p (c.toNat:Int)):=by
 have key:∀d k,k+d=s.size->T (λn=>J n (k:Int)) (.=(s.data.toList.drop k).all λc=>p (c.toNat:Int)):=by
  intro d
  induction d with
  |zero=>simp_all[List.drop_eq_nil_of_le]
  |succ d ih=>
   intro k e
   have j:k<s.data.toList.length:=by simp;omega
   rw[List.drop_eq_getElem_cons j];cases hp:p (s.data.toList[k].toNat:Int)with|false=>exact(h1 k (by omega) _ (List.getElem?_eq_getElem j) hp).mono λr hr=>by grind|true=>refine h k (by omega) _ (List.getElem?_eq_getElem j) hp _ ?_;have:=ih (k+1) (by omega);grind
 exact key (s.size-k) k (by omega)
theorem UE(s:ByteArray)(hs:bd s):T (λn=>vm n s (s.size:Int) 0) (.=s.data.toList.all λc=>fj (c.toNat:Int)):=by
 have hs:s.size<=1099511627776:=hs
 have:=Jp (J:=λn i=>vm n s (s.size:Int) i) (P:=λ_ _=>none) (p:=fj) (s:=s) (by omega) 0 (by omega) ?_ ?_ ?_
 .grind
 .intro i hi b hb hp Q ih
  refine .step DW (.pos (by simp;omega) (nA hi λc hc=>.ask (MC _) λx hx=>.neg ?_ ?_))
  .grind
  .rw[bA (by omega) (by omega)];exact ih
 .intro i hi b hb hp;refine .step DW (.pos (by simp;omega) (nA hi λc hc=>.ask (MC _) λx hx=>.pos ?_ (.ret rfl)));grind
 .exact .step DW (.neg (by simp) (.ret rfl))
theorem UF(s:ByteArray)(hs:bd s)(h1:1<=s.size):T (λn=>lV n s 1) (.=(s.data.toList.drop 1).all λc=>fj (c.toNat:Int)):=by
 have hs:s.size<=1099511627776:=hs
 have body:∀(i:Nat)(hi:i<s.size)b,s.data.toList[i]?=some b->∀Q:Bool->Prop,(fj (b.toNat:Int)=true->T (λn=>lV n s ((i:Int)+1)) Q)->(fj (b.toNat:Int)=false->Q false)->T (λn=>lV n s i) Q:=by
  intro i hi b hb Q m j
  have go:fj (b.toNat:Int)=true->T (λn=>lV n s (IntKind.i64.wrap ((i:Int)+1))) Q:=λe=>by rw[bA (by omega) (by omega)];exact m e
  refine .step Lz (.pos (by simp;omega) (nA hi λc hc=>.ask (MB _) λx hx=>?_));rw[hb]at hc;cases hc;refine .ite (λd=>nA hi λc hc=>?_) λd=>go (Dz (by grind));rw[hb]at hc;cases hc;refine .ask (XO _) λy hy=>.ite (λe=>nA hi λc hc=>?_) λe=>go (by rw[fj,<-hy,cF e];simp);rw[hb]at hc;cases hc;refine .ite (λf=>.ret (j ?_)) λf=>go (by rw[fj,mj f];simp);rw[fj,<-hx,<-hy,gN d,gN e];simpa using ml f
 refine Jp (J:=λn i=>lV n s i) (P:=λ_ _=>none) (p:=fj) (s:=s) (by omega) 1 h1 ?_ ?_ ?_
 .grind
 .grind
 .exact .step Lz (.neg (by simp) (.ret rfl))
theorem E8{s:ByteArray}:s=bs []↔s.size=0:=by
 constructor
 .rintro rfl;rfl
 .intro e;exact ByteArray.ext (Array.ext' (by simp_all))
theorem tj(s:ByteArray)(hs:bd s):T (λn=>pa n s) (.=ek s):=by
 refine .step Zp (.ite (λc=>.ret ?_) λc=>.ite (λd=>.ret ?_) λd=>?_)
 .rw[bS]at c;subst c;rfl
 .have d:=cW d;grind[fy,ek]
 .rw[ur,E8]at c
  have d:=dS d
  refine nA (i:=0) (by omega) λb hb=>?_
  have e:s.data.toList=b::s.data.toList.drop 1:=by cases h:s.data.toList with|nil=>grind|cons x xs=>grind
  have hid:ek s=(mm (b.toNat:Int)&&!rW s&&(s.data.toList.drop 1).all λc=>fj (c.toNat:Int)):=by unfold ek;rw[e];simp only[List.drop_one,List.tail_cons];grind
  refine .ask (MA _) λx hx=>.ite (λf=>.ret ?_) λf=>.ask (XP _) λy hy=>.ite (λg=>.ret ?_) λg=>(UE s hs).mono λr hr=>?_
  .grind
  .grind
  grind[cF,Dz,mm]
theorem tk(s:ByteArray)(hs:bd s):T (λn=>pd n s) (.=ek s):=by
 refine .step aal (.ite (λc=>.ret ?_) λc=>.ite (λd=>.ret ?_) λd=>?_)
 .have c:=cW c;rw[E8.2 (show s.size=0 by omega)];rfl
 .have d:=cW d;grind[fy,ek]
 .have c:=dS c
  have d:=dS d
  refine nA (i:=0) (by omega) λb hb=>?_
  have e:s.data.toList=b::s.data.toList.drop 1:=by cases h:s.data.toList with|nil=>grind|cons x xs=>grind
  have hid:ek s=(mm (b.toNat:Int)&&!rW s&&(s.data.toList.drop 1).all λc=>fj (c.toNat:Int)):=by unfold ek;rw[e];simp only[List.drop_one,List.tail_cons];grind
  refine .ask (MB _) λx hx=>.ite (λf=>.ret ?_) λf=>.ask (XQ _) λy hy=>.ite (λg=>.ret ?_) λg=>(UF s hs (by omega)).mono λr hr=>?_
  .grind
  .grind
  grind
def tick(s:ByteArray):Bool:=match s.data.toList.getLast? with|some b=>b.toNat==39|none=>false
def ki(s:ByteArray):ByteArray:=if tick s=true then s.extract 0 (s.size-1)else s
def j4(s:ByteArray):Bool:=ek (ki s)
theorem Et{s:ByteArray}(h:bd s):bd (ki s):=by
 have h:s.size<=1099511627776:=h
 unfold ki
 split
 .show(s.extract _ _).size<=1099511627776;simp only[ByteArray.size_extract];omega
 .exact h
theorem Ko{s:ByteArray}(h:0<s.size):s.data.toList.getLast?=s.data.toList[s.size-1]?:=by rw[List.getLast?_eq_getElem?];simp
theorem UG{s:ByteArray}{b:UInt8}(h:0<s.size)(hb:s.data.toList[s.size-1]?=some b):ax (s.extract (s.size-1) s.size) (bs [39])=(b.toNat==39):=by
 have e:(s.extract (s.size-1) s.size).data.toList=[b]:=by
  rw[ByteArray.data_extract,Array.toList_extract]
  have hl:s.data.toList.length=s.size:=by simp
  rw[List.extract_eq_drop_take,<-hl]
  have c:s.size-1<s.data.toList.length:=by omega
  rw[show s.data.toList.length-1=s.size-1 by omega,List.drop_eq_getElem_cons c]
  rw[List.getElem?_eq_getElem c]at hb
  have e2:s.data.toList.length-(s.size-1)=1:=by omega
  rw[e2];simp only[List.take_succ_cons,List.take_zero];grind
 rw[Bool.eq_iff_iff,iE]
 constructor
 .intro q;rw[q]at e;have e:[(39:UInt8)]=[b]:=e;cases e;simp
 .intro q
  have q:b.toNat=39:=by grind
  refine ByteArray.ext (Array.ext' ?_);rw[e,show b=39 from UInt8.toNat_inj.1 q]
theorem XR(s)(h:bd s):T (λn=>Gf n s (bs [39])) (.=tick s):=by
 have hl:s.size<=1099511627776:=h
 refine .step ZU (.ite (λc=>?_) λc=>.ret ?_)
 .have c:=cW c
  have c:1<=s.size:=by have:((bs [39]).size:Int)=1:=rfl;omega
  obtain⟨b,hb⟩:∃b,s.data.toList[s.size-1]?=some b:=⟨_,List.getElem?_eq_getElem (by simp;omega)⟩;rw[show((bs [39]).size:Int)=1 from rfl,bA (by omega) (by omega)];refine .fH ⟨by omega,by omega,by omega⟩ (.ret ?_);rw[show((s.size:Int)-1).toNat=s.size-1 by omega,show((s.size:Int)).toNat=s.size by omega,UG (by omega) hb];unfold tick;rw[Ko (by omega),hb]
 .have c:=dS c
  have c:s.size=0:=by have:((bs [39]).size:Int)=1:=rfl;omega
  simp_all[List.length_eq_zero_iff,tick]
theorem UH{s:ByteArray}(h:tick s=true):1<=s.size:=by
 rcases Nat.eq_zero_or_pos s.size with e|e
 .simp_all[List.length_eq_zero_iff,tick]
 .exact e
theorem ME(s)(h:bd s):T (λn=>A9 n s (bs [39])) (.=ki s):=by
 have hl:s.size<=1099511627776:=h
 refine .step ZM (.ask (Q':=(.=ki s)) (.step Zc (.ask (XR s h) λx hx=>.ite (λc=>?_) λc=>.ret ?_)) λx hx=>.ret hx)
 .subst hx;have:=UH c;rw[show((bs [39]).size:Int)=1 from rfl,bA (by omega) (by omega)];refine .fH ⟨by omega,by omega,by omega⟩ (.ret ?_);simp_all[if_pos,ki]
 simp_all[if_neg,ki]
theorem XS(s)(h:bd s):T (λn=>Gi n s) (.=j4 s):=.step ZV (.ask (ME s h) λx hx=>.ask (tj x (hx▸Et h)) λy hy=>.ret (by rw[hy,hx];rfl))
theorem XT(s)(h:bd s):T (λn=>FU n s) (.=j4 s):=.step ZJ (.ask (ME s h) λx hx=>.ask (tj x (hx▸Et h)) λy hy=>.ret (by rw[hy,hx];rfl))
theorem WH{s:ByteArray}(h:tick s=true):ek s=false:=by
 unfold tick at h
 split at h
 .rename_i b hb
  cases e:ek s with
  |false=>rfl
  |true=>
   unfold ek at e
   split at e
   .cases e
   .rename_i a l hs
    simp only[aZ]at e
    have h:b.toNat=39:=by grind
    have hm:b∈a::l:=by grind
    have hw:fj (b.toNat:Int)=true:=by grind[Dz]
    rw[h]at hw;revert hw;decide
 .cases h
theorem MF(s)(h:bd s):T (λn=>A7 n s) (.=j4 s):=by
 have hl:s.size<=1099511627776:=h
 refine .step aao (.ask (tk s h) λx hx=>.ite (λc=>.ret ?_) λc=>.ask (Q':=λy=>y=j4 s) (.step Zv ?_) λy hy=>.ret hy)
 .subst hx
  have ht:tick s=false:=by grind[WH,tick]
  simp_all[if_neg,j4,ki]
 .subst hx
  have no:tick s=false->j4 s=false:=λe=>by simp_all[if_neg,j4,ki]
  refine .ite (λd=>?_) λd=>.ret ?_
  .have d:=cW d
   obtain⟨b,hb⟩:∃b,s.data.toList[s.size-1]?=some b:=⟨_,List.getElem?_eq_getElem (by simp;omega)⟩
   have ht:tick s=(b.toNat==39):=by unfold tick;rw[Ko (by omega),hb]
   rw[bA (by omega) (by omega),show((s.size:Int)-1)=((s.size-1:Nat):Int)by omega]
   refine nA (by omega) λb' i=>?_
   rw[hb]at i;cases i
   refine .ite (λf=>.fH ⟨by omega,by omega,by omega⟩ ?_) λf=>.ret ?_
   .have f:=aL f
    have ht:tick s=true:=by grind
    have e2:s.extract (0:Int).toNat ((s.size-1:Nat):Int).toNat=ki s:=by unfold ki;rw[if_pos ht];rfl
    rw[e2];exact .ask (tk _ (Et h)) λy hy=>.ret hy
   grind
  .have d:=dS d
   refine Eq.symm ?_
   rcases Nat.eq_zero_or_pos s.size with e|e
   .simp_all[List.length_eq_zero_iff,tick]
   .cases ht:tick s with|false=>exact no ht|true=>unfold j4 ki;rw[if_pos ht,show s.extract 0 (s.size-1)=bs []from E8.2 (by simp only[ByteArray.size_extract];omega)];rfl
def eb(op:Int):Prop:=op=1\/op=2\/op=19\/op=20\/op=29
def e9(op:Int):Prop:=op=3\/op=21\/(46<=op/\op<=52)
instance (op):Decidable (eb op):=inferInstanceAs(Decidable (_\/_))
instance (op):Decidable (e9 op):=inferInstanceAs(Decidable (_\/_))
def eO(op:Int):Int:=if eb op then 0 else if e9 op then 1 else if op=28 then-1 else if 4<=op/\op<=56 then 2 else-2
theorem XU(op):T (λn=>F4 n op) (.=eO op):=by
 have h5:¬eb op->¬e9 op->T (λn=>zh n op) (.=eO op):=λha hb=>.step V6 (by unfold eO;rw[if_neg ha,if_neg hb];refine .ite (λc=>.ret ?_) λc=>.ite (λd=>.ite (λe=>.ret ?_) λe=>.ret ?_) λd=>.ret ?_<;>(first|replace c:=aL c|replace c:=aP c)<;>(try simp only[decide_eq_true_eq,decide_eq_false_iff_not]at*)<;>(repeat split)<;>omega)
 have i:eb op->(0:Int)=eO op:=λh=>by unfold eO;grind
 have j:¬eb op->e9 op->(1:Int)=eO op:=λh h'=>by unfold eO;grind
 refine .step aap (.ite (λc=>.ret (i (by have:=aL c;unfold eb;omega))) λc1=>.ite (λc=>.ret (i (by have:=aL c;unfold eb;omega))) λc2=>.ite (λc=>.ret (i (by have:=aL c;unfold eb;omega))) λc3=>.ite (λc=>.ret (i (by have:=aL c;unfold eb;omega))) λc4=>.ite (λc=>.ret (i (by have:=aL c;unfold eb;omega))) λp=>?_)
 have ha:¬eb op:=by simp_all[aP,eb]
 refine .ite (λc=>.ret (j ha (by have:=aL c;unfold e9;omega))) λo=>.ite (λc=>.ret (j ha (by have:=aL c;unfold e9;omega))) λm=>.ite (λc=>.ite (λd=>.ret (j ha (by have:=cW c;have:=cW d;unfold e9;omega))) λd=>h5 ha ?_) λc=>h5 ha ?_
 .have:=aP o;have:=aP m;have:=cW c;have:=dS d;unfold e9;omega
 .have:=aP o;have:=aP m;have:=dS c;unfold e9;omega
def qe(op:Int)(r:Int×Bool):Prop:=(r.2=true↔eO op≠-2)/\(r.2=true->r.1=eO op)
theorem XV(op):T (λn=>Gg n op) (qe op):=by
 have m:eb op->qe op (0,true):=λh=>by unfold qe eO;grind
 have j:¬eb op->e9 op->qe op (1,true):=λh h'=>by unfold qe eO;grind
 have o:¬eb op->¬e9 op->T (λn=>qP n op) (qe op):=λha hb=>.step Un (by
  unfold qe eO;rw[if_neg ha,if_neg hb]
  unfold eb at ha;unfold e9 at hb
  refine .ite (λc=>.ret ?_) λc=>.ite (λd=>.ite (λe=>.ret ?_) λe=>.ret ?_) λd=>.ret ?_<;>(first|replace c:=aL c|replace c:=aP c)<;>(try simp only[decide_eq_true_eq,decide_eq_false_iff_not]at*)
  .grind
  .grind
  .grind
  grind)
 have p:¬eb op->T (λn=>rk n op) (qe op):=λha=>by
  refine .step Wp (.ite (λc=>.pos c (.ret (j ha (by have:=aL c;unfold e9;omega)))) λc1=>.ite (λc=>.pos c (.ret (j ha (by have:=aL c;unfold e9;omega)))) λc2=>.ite (λc3=>.ite (λc4=>.pos c4 (.ret (j ha (by have:=cW c3;have:=cW c4;unfold e9;omega)))) λc4=>.ite (λi=>.ret (j ha (by have:=aL i;unfold e9;omega))) λi=>o ha ?_) λc3=>.ite (λi=>.ret (j ha (by grind))) λi=>o ha ?_)
  .have:=aP c1;have:=aP c2;have:=cW c3;have:=dS c4;have:=aP i;unfold e9;omega
  .have:=aP c1;have:=aP c2;have:=dS c3;unfold e9;omega
 refine .step ZB (.ite (λc=>.pos c (.ret (m (by have:=aL c;unfold eb;omega)))) λc1=>.ite (λc=>.pos c (.ret (m (by have:=aL c;unfold eb;omega)))) λc2=>.ite (λc=>.pos c (.ret (m (by have:=aL c;unfold eb;omega)))) λc3=>.ite (λc=>.pos c (.ret (m (by have:=aL c;unfold eb;omega)))) λc4=>.ite (λc=>.ret (m (by have:=aL c;unfold eb;omega))) λi=>p ?_);simp_all[aP,eb]
def fk(op:Int):Bool:=decide (op=8\/op=9\/op=55\/op=56)
theorem E9{op:Int}{G:Nat->Option Bool}(h:∀n,G (n+1)=aa (op==8) (some true) (aa (op==9) (some true) (aa (op==55) (some true) (some (op==56))))):T G (.=fk op):=.step h (by unfold fk;refine .ite (λc=>.ret ?_) λc=>.ite (λd=>.ret ?_) λd=>.ite (λe=>.ret ?_) λe=>.ret ?_<;>simp at*<;>simp_all<;>rw[Bool.eq_iff_iff]<;>simp)
theorem tl(op):T (λn=>tQ n op) (.=fk op):=E9 λn=>YU n
theorem tp(op):T (λn=>pf n op) (.=fk op):=E9 λn=>Zr n
theorem Eu(op):T (λn=>Bh n op) (.=fk op):=E9 λn=>ZS n
abbrev cd:=Int×ByteArray×Rows
def tG(x:cd):Bool:=decide (x.1=0)&&ax x.2.1 (bs [])&&decide (x.2.2.length=0)
theorem OQ{x:cd}{G:Nat->Option Bool}(h:∀n,G (n+1)=aa (x.1==0) (aa (ax x.2.1 (bs [])) (some (((x.2.2.length:Int):Int)==0)) (some false)) (some false)):T G (.=tG x):=.step h (by
 unfold tG
 refine .ite (λc=>.ite (λd=>.ret ?_) λd=>.ret ?_) λc=>.ret ?_
 .grind
 .rw[d];simp
 grind)
theorem XX(x):T (λn=>Gj n x) (.=tG x):=OQ λn=>aab n
theorem XY(x):T (λn=>Ga n x) (.=tG x):=OQ λn=>YS n
def fa(x:cd)(w:Bool):Bool:=(decide (x.1=1)||decide (x.1=2)&&!w||decide (x.1=3)&&ek x.2.1||decide (x.1=4)||decide (x.1=5))&&decide ((x.2.2.length:Int)=if x.1=5 then 1 else if x.1=4 then 2 else 0)&&(decide (x.1=3)||ax x.2.1 (bs []))
def cy:Nat->cd->Bool->Nat->Option Nat|0,_,_,_=>none|f+1,x,w,n=>if n+1<=16/\fa x w=true then x.2.2.foldlM (λn r=>cy f (ah r 0) true n) (n+1)else none
theorem xP{σ:Type}{g:σ->List AV->Option σ}{inv:σ->Prop}(h:∀s r s',inv s->g s r=some s'->inv s'):∀{l:Rows}{s s':σ},inv s->l.foldlM g s=some s'->inv s'|[],s,s',h0,e=>by grind|r::l,s,s',h0,e=>by rw[List.foldlM_cons]at e;cases e1:g s r with|none=>grind|some c=>rw[e1]at e;exact xP h (h s r c h0 e1) e
theorem vF:∀{f:Nat}{x:cd}{w:Bool}{n m:Nat},cy f x w n=some m->m<=16/\n+1<=m
 |0,_,_,_,_,h=>by cases h
 |f+1,x,w,n,m,h=>by
  unfold cy at h
  split at h
  .rename_i c;exact xP (inv:=λm=>m<=16/\n+1<=m) (λs r s' hs e=>by have:=vF e;omega) (by omega) h
  .cases h
theorem T.fold{σ β:Type}{l:Rows}{g:σ->List AV->Option σ}{L:Int->σ->Nat->Option β}{Q:Option σ->β->Prop}(inv:σ->Prop)(c:∀s r s',inv s->g s r=some s'->inv s')(j:∀s,T (L l.length s) (Q (some s)))
 (dY:∀(i:Nat)s r(Q':β->Prop),inv s->i<l.length->l[i]?=some r->(∀s',g s r=some s'->T (L ((i:Int)+1) s') Q')->(g s r=none->∀b,Q none b->Q' b)->T (L i s) Q')(s:σ)(h0:inv s):T (L 0 s) (Q (l.foldlM g s)):=by
 have key:∀d i s,i+d=l.length->inv s->T (L (i:Int) s) (Q ((l.drop i).foldlM g s)):=by
  intro d
  induction d with
  |zero=>grind
  |succ d ih=>
   intro i s e hs
   have hi:i<l.length:=by omega
   rw[List.drop_eq_getElem_cons hi,List.foldlM_cons]
   refine dY i s _ _ hs hi (List.getElem?_eq_getElem hi) (λs' m=>?_) λm b hb=>?_
   .grind
   grind
 have:=key l.length 0 s (by omega) h0;grind
theorem kv(n:Nat)(h:n<=4611686018427387904):IntKind.i64.wrap ((n:Int)+1)=((n+1:Nat):Int):=by rw[bA (by omega) (by omega)];rfl
theorem MG{l:Rows}{i:Nat}{r:List AV}(h:bd l)(hr:l[i]?=some r):bd (ah r 0):=⟨trivial,eV (fM h hr) 1,fN (fM h hr) 2⟩
theorem MH(d n a b:Nat)(hn:n<=1000000):T (λn'=>Bg n' (d:Int) ((n:Int),(a:Int),(b:Int))) (.=(decide (n+1<=a/\d<=b),((n+1:Nat):Int),(a:Int),(b:Int))):=by
 refine .step Zx ?_
 rw[kv n (by omega)]
 refine .ite (λc=>.ret ?_) λc=>.ret ?_
 .have c:=cW c;have c:((n+1:Nat):Int)<=a:=c;rw[show decide ((d:Int)<=(b:Int))=decide (n+1<=a/\d<=b)from decide_eq_decide.2 (by omega)]
 grind
abbrev pw(o:Option Nat)(r:Bool×Int×Int×Int):Prop:=match o with|some m=>r=(true,(m:Int),16,6)|none=>r.1=false
theorem MI:∀(f:Nat)(x:cd)(d n:Nat)(w:Bool),d+f=7->n<=1000->bd x->T (λl=>Bf l x (d:Int) w ((n:Int),16,6)) (pw (cy f x w n))
 |f,x,d,n,w,hd,hn,hb=>by
  refine .step Zw (.ask (MH d n 16 6 (by omega)) λy hy=>?_)
  subst hy
  refine .ite (λc=>.ret ?_) λc=>?_
  .have c:=dS (gN c);cases f with|zero=>rfl|succ f=>unfold cy;grind
  have c:=cW (cF c)
  cases f with
  |zero=>omega
  |succ f=>
   have no:fa x w=false->T (λ_=>some (false,((n+1:Nat):Int),(16:Int),(6:Int))) (pw (cy (f+1) x w n)):=λe=>.ret (by unfold cy;grind)
   have p:=cq _ (cq _ hb)
   have hlen:=jv p
   have j:fa x w=true->T (λl=>vB l x.2.2 (d:Int) (((n+1:Nat):Int),16,6)) λr=>pw (cy (f+1) x w n) (!r.1,r.2.2):=λe=>by
    unfold cy
    rw[if_pos ⟨c.1,e⟩]
    refine .step Wx (.ask (Q':=λr=>pw (x.2.2.foldlM (λn r=>cy f (ah r 0) true n) (n+1)) (!decide (r.1>=0),r.2.2)) (.step WE ?_) λr hr=>.ret hr)
    refine T.fold (σ:=Nat) (L:=λi m l=>yh l x.2.2 (x.2.2.length:Int) i (d:Int) ((m:Int),16,6)) (Q:=λo r=>pw o (!decide (r.1>=0),r.2.2)) (λm=>m<=16) (λ_ _ _ _ e=>(vF e).1) ?_ ?_ (n+1) c.1
    .exactλm=>.step Jl (.neg (by simp) (.ret rfl))
    .intro i m r Q' hm hi hr h1 h2
     refine .step Jl (.pos (by simp;omega) (.ab (by omega) (by omega) λr' F=>?_))
     obtain rfl:r=r':=by grind
     refine .ask (Q':=λy=>y.2.1=(d:Int)/\pw (cy f (ah r 0) true m) (!y.1,y.2.2)) (.step aah ?_) λy hy=>?_
     .rw[kv d (by omega)];exact .ask (MI f (ah r 0) (d+1) m true (by omega) (by omega) (MG p hr)) λz hz=>.ret ⟨rfl,by grind⟩
     .obtain⟨u,G,D⟩:=y
      obtain⟨rfl,hy⟩:=hy
      cases hg:cy f (ah r 0) true m with
      |some E=>
       rw[hg]at hy
       have e1:u=false:=by grind
       have e2:D=((E:Int),16,6):=congrArg Prod.snd hy;subst e1;subst e2;refine .neg rfl ?_;grind[bA]
      |none=>
       rw[hg]at hy
       have e1:u=true:=by grind
       subst e1;exact .pos rfl (.ret (h2 hg _ (by grind)))
   have fin:∀(m:Int),(m=if x.1=5 then 1 else if x.1=4 then 2 else 0)->((decide (x.1=1)||decide (x.1=2)&&!w||decide (x.1=3)&&ek x.2.1||decide (x.1=4)||decide (x.1=5))=true)->T (λl=>qN l m (((n+1:Nat):Int),16,6) x d) (pw (cy (f+1) x w n)):=by intro m hm hk;refine .step Uy (.ite (λc=>no (by unfold fa;grind)) λc=>?_);have c:=mj c;have go:(decide (x.1=3)||ax x.2.1 (bs []))=true->T (λq=>ask (vB q x.2.2 (d:Int) (((n+1:Nat):Int),16,6)) λC=>some (!C.1,C.2.2)) (pw (cy (f+1) x w n)):=λe=>.ask (j (by simp_all[b9,fa])) λr hr=>.ret hr;exact .ite (λc2=>.ite (λc3=>no (by unfold fa;grind)) λc3=>go (by grind)) λc2=>go (by grind)
   refine .ite (λc=>fin 0 (by grind) (by grind)) λc1=>?_
   refine .ite (λc=>.ite (λc3=>no ?_) λc3=>fin 0 (by grind) (by grind)) λc2=>?_
   .have c:=aL c;unfold fa;grind
   refine .ite (λc=>.ask (tj _ (gp _ (cq _ hb))) λy hy=>.ite (λc3=>no ?_) λc3=>fin 0 (by grind) (by grind)) λc3=>?_
   .have c:=aL c;unfold fa;grind
   refine .ite (λc=>fin 2 (by grind) (by grind)) λc4=>?_;refine .ite (λc=>fin 1 (by grind) (by grind)) λI=>no ?_;simp_all[fy,aP,fa]
theorem tq(x:cd)(h:bd x):T (λn=>nM n x) (.=(cy 6 x false 0).isSome):=.step Z4 (.ask (MI 6 x 1 0 false rfl (by omega) h) λr hr=>.ret (by grind))
def lL(o:Option Nat):Int:=match o with|some m=>(m:Int)|none=>-1
theorem MJ:∀(f:Nat)(x:cd)(d n:Nat),d+f=7->1<=d->n<=16->bd x->T (λl=>Bc l x (d:Int) (n:Int)) (.=lL (cy f x (decide (1<d)) n))
 |f,x,d,n,hd,F,hn,hb=>by
  have u:=cq _ (cq _ hb)
  have hlen:=jv u
  refine .step ZO (.ite (λc=>.ret ?_) λc=>?_)
  .cases f with|zero=>rfl|succ f=>grind
  have c:=dS c
  cases f with
  |zero=>omega
  |succ f=>
   rw[kv n (by omega)]
   have no:(n+1<=16->fa x (decide (1<d))=false)->T (λ_=>some (-1:Int)) (.=lL (cy (f+1) x (decide (1<d)) n)):=λe=>.ret (by unfold cy;rw[if_neg (λq=>by grind)];rfl)
   refine .ite (λc=>no λe=>by grind) λc2=>?_
   have c2:=dS c2
   have c2:n+1<=16:=by grind
   have p:fa x (decide (1<d))=true->T (λl=>lW l (d:Int) ((n+1:Nat):Int) 0 x) (.=lL (cy (f+1) x (decide (1<d)) n)):=λe=>by
    unfold cy
    rw[if_pos ⟨c2,e⟩]
    refine T.fold (σ:=Nat) (L:=λi m l=>lW l (d:Int) (m:Int) i x) (Q:=λo r=>r=lL o) (λm=>m<=16) (λ_ _ _ _ e=>(vF e).1) ?_ ?_ (n+1) c2
    .exactλm=>.step Lt (.neg (by simp) (.ret rfl))
    .intro i m r Q' hm hi hr h1 h2
     refine .step Lt (.pos (by simp;omega) (.ab (by omega) (by omega) λr' D=>?_))
     obtain rfl:r=r':=by grind
     rw[kv d (by omega)];refine .ask (MJ f (ah r 0) (d+1) m (by omega) (by omega) hm (MG u hr)) λy hy=>?_;rw[b9 (show 1<d+1 by omega)]at hy;subst hy;cases hg:cy f (ah r 0) true m with|some C=>refine .neg (fy (by show¬(C:Int)<0;omega)) ?_;rw[bA (by omega) (by omega)];exact h1 C hg|none=>exact .pos rfl (.ret (h2 hg _ rfl))
   have j:∀(m:Int),(m=if x.1=5 then 1 else if x.1=4 then 2 else 0)->((decide (x.1=1)||decide (x.1=2)&&!(decide (1<d))||decide (x.1=3)||decide (x.1=4)||decide (x.1=5))=true)->T (λl=>qM l (d:Int) ((n+1:Nat):Int) m x) (.=lL (cy (f+1) x (decide (1<d)) n)):=by
    intro m hm hk
    refine .step Uq (.ite (λc=>no λ_=>by unfold fa;grind) λc3=>?_)
    have c3:=mj c3
    have nm:(decide (x.1=3)=true->ek x.2.1=true)->T (λl=>aa (x.1 !=3) (aa (!ax x.2.1 (bs [])) (some (-1)) (lW l (d:Int) ((n+1:Nat):Int) 0 x)) (lW l (d:Int) ((n+1:Nat):Int) 0 x)) (.=lL (cy (f+1) x (decide (1<d)) n)):=λhi=>by
     have E:(decide (x.1=1)||decide (x.1=2)&&!(decide (1<d))||decide (x.1=3)&&ek x.2.1||decide (x.1=4)||decide (x.1=5))=true:=by grind
     refine .ite (λc4=>.ite (λw=>no λ_=>by unfold fa;grind) λw=>p ?_) λc4=>p ?_
     .grind[b9,cF,fa]
     .unfold fa;grind
    refine .ite (λc4=>.ask (tk _ (gp _ (cq _ hb))) λy hy=>.ite (λw=>no λ_=>?_) λw=>nm λ_=>by grind) λc4=>nm λe=>absurd (cW e) (aP c4);have c4:=aL c4;unfold fa;rw[c4,<-hy,gN w];rfl
   have z:¬x.1=1->¬x.1=2->¬x.1=3->T (λl=>u4 l (d:Int) ((n+1:Nat):Int) x.1 x) (.=lL (cy (f+1) x (decide (1<d)) n)):=λe1 e2 e3=>.step Uw (.ite (λc=>j 1 (by grind) (by grind)) λw=>.ite (λc=>j 2 (by grind) (by grind)) λc4=>no λ_=>by simp_all[fy,aP,fa])
   have h4:(x.1=2->¬1<d)->T (λl=>zl l (d:Int) ((n+1:Nat):Int) x) (.=lL (cy (f+1) x (decide (1<d)) n)):=λhw=>by refine .step WB (.ite (λc=>.pos c (j 0 (by grind) (by grind))) λc1=>.ite (λc=>.pos c (j 0 (by grind) (by grind))) λc2=>.ite (λc=>j 0 (by grind) (by grind)) λc3=>z (aP c1) (aP c2) (aP c3))
   refine .ite (λc3=>.ite (λc4=>no λ_=>?_) λc4=>h4 λ_=>by grind) λc3=>h4 λe=>absurd e (aP c3);have c3:=aL c3;have c4:=cW c4;grind[b9,fa]
def dj(x:cd):Bool:=(cy 6 x false 0).isSome
theorem Ew(x:cd)(h:bd x):T (λn=>wE n x) (.=dj x):=.step YR (.ask (MJ 6 x 1 0 rfl (by omega) (by omega) h) λr hr=>.ret (by rw[show decide (1<1)=false from rfl]at hr;subst hr;unfold dj;cases e:cy 6 x false 0 with|some m=>have:=vF e;exact b9 (by show(m:Int)>0;omega)|none=>rfl))
abbrev b6:=Int×ByteArray×Int×Int×ByteArray×Rows×Rows
def eG(a:b6):Bool:=decide (eO a.1≠-2)&&(if eO a.1=-1 then decide (a.2.2.2.2.2.2.length≠0)else decide ((a.2.2.2.2.2.2.length:Int)=eO a.1))
def xj(a:b6):Bool:=if a.1=20 then j4 a.2.1 else if fk a.1=true then ek a.2.1 else ax a.2.1 (bs [])
def sr(a:b6):Bool:=if a.1=19 then decide (0<=a.2.2.1/\a.2.2.1<=1000000000)else decide (a.2.2.1=0)
def kj(a:b6):Bool:=if a.1=29 then decide (a.2.2.2.1≠2)&&dj (ae a.2.2.2)else tG (ae a.2.2.2)
def eS(a:b6):Bool:=eG a&&(xj a&&(sr a&&kj a))
section
variable (a:b6)(h:bd a)
include h
theorem GF:bd (ae a.2.2.2):=
 have h4:bd a.2.2.2.2:=cq _ (cq _ (cq _ (cq a h)))
 have h5:bd a.2.2.2.2.2:=cq _ h4
 ⟨trivial,gp a.2.2.2.2 h4,gp a.2.2.2.2.2 h5⟩
theorem Bv:bd a.2.2.2.2.2.2:=cq _ (cq _ (cq _ (cq _ (cq _ (cq a h)))))
theorem SU(b:Bool):T (λn=>qO n b a) (.=(b&&kj a)):=by
 have h3:=GF a h
 refine .step Uz ?_
 unfold kj
 refine .ite (λc=>?_) λc=>?_
 .rw[if_pos (aL c)]
  refine .ite (λd=>.ite (λe=>.ask (tq _ h3) λy hy=>.ret ?_) λe=>.ret ?_) λd=>.ret (by rw[d];rfl)
  .rw[d,b9 (ml e),hy];rfl
  grind
 .rw[if_neg (aP c)];exact .ite (λd=>.ask (XX _) λy hy=>.ret (by grind)) λd=>.ret (by rw[d];rfl)
theorem SW(b:Bool):T (λn=>u5 n b a) (.=(b&&(sr a&&kj a))):=by
 have k:=SU a h
 refine .step Uh ?_
 unfold sr
 refine .ite (λc=>?_) λc=>?_
 .rw[if_pos (aL c)]
  refine .ite (λd=>.ite (λe=>(k _).mono λr hr=>?_) λe=>(k _).mono λr hr=>?_) λd=>(k _).mono λr hr=>by grind
  .grind
  grind
 .rw[if_neg (aP c)]
  refine .ite (λd=>(k _).mono λr hr=>?_) λd=>(k _).mono λr hr=>by grind
  grind
theorem UI:T (λn=>rj n a) (.=(xj a&&(sr a&&kj a))):=by
 have hn:=gp _ (cq _ h)
 have k:=SW a h
 refine .step V1 ?_
 unfold xj
 refine .ite (λc=>?_) λc=>?_
 .rw[if_pos (aL c)];exact .ask (XS _ hn) λy hy=>hy▸k _
 .rw[if_neg (aP c)]
  refine .ask (tl _) λz hz=>.ite (λd=>?_) λd=>?_
  .rw[if_pos (by grind)];exact .ask (tj _ hn) λy hy=>hy▸k _
  .rw[if_neg (by grind)];exact k _
theorem XZ:T (λn=>Ge n a) (.=eS a):=by
 have k:=UI a h
 refine .step ZR (.ask (XV _) λx hx=>?_)
 have go:eG a=true->T (λn=>rj n a) (.=eS a):=λe=>k.mono λr hr=>by rw[hr];unfold eS;rw[e];rfl
 have no:eG a=false->T (λ_=>some false) (.=eS a):=λe=>.ret (by unfold eS;rw[e];rfl)
 refine .ite (λc=>.pos c (no ?_)) λc=>?_
 .have:eO a.1=-2:=by
   rcases Decidable.em (eO a.1=-2)with e|e
   .exact e
   .have:=hx.1.2 e;grind
  unfold eG;grind
 have hk:=hx.2 (cF c)
 have j:=hx.1.1 (cF c)
 have i:(eO a.1=-1->a.2.2.2.2.2.2.length≠0)->T (λn=>zp n x.1 a) (.=eS a):=λh1=>.step Wb (by
  rw[hk]
  refine .ite (λc=>.ite (λc2=>no ?_) λc2=>go ?_) λc=>go ?_
  .simp_all[if_neg,ml,fy,eG]
  .unfold eG;grind
  .unfold eG;grind)
 refine .ite (λc1=>.ite (λc2=>.pos c2 (no ?_)) λc2=>i λ_ e=>?_) λc1=>i λe=>absurd (hk.trans e) (aP c1)
 .have c1:=aL c1;have c2:=aL c2;simp_all[if_pos,fy,eG]
 grind
theorem SX:T (λn=>sV n a) (.=kj a):=by
 have h3:=GF a h
 refine .step Ui ?_
 unfold kj
 refine .ite (λc=>?_) λc=>?_
 .rw[if_pos (aL c)]
  refine .ask (Ew _ h3) λy hy=>.ite (λd=>.ret ?_) λd=>.ret ?_
  .grind
  grind
 .rw[if_neg (aP c)];exact .ask (XY _) λy hy=>.ret hy
theorem SY:T (λn=>u3 n a) (.=(sr a&&kj a)):=by
 have k:=SX a h
 refine .step Um ?_
 unfold sr
 refine .ite (λc=>?_) λc=>?_
 .rw[if_pos (aL c)]
  refine .ite (λd=>.ret ?_) λd=>.ite (λe=>.ret ?_) λe=>.neg (by grind) (k.mono λr hr=>?_)
  .grind
  .grind
  grind
 .rw[if_neg (aP c)]
  refine .pos (by grind) (.ite (λd=>.ret ?_) λd=>k.mono λr hr=>?_)
  .grind
  grind
theorem UJ:T (λn=>ri n a) (.=(xj a&&(sr a&&kj a))):=by
 have hn:=gp _ (cq _ h)
 have k:=SY a h
 refine .step Wf ?_
 unfold xj
 refine .ite (λc=>?_) λc=>?_
 .rw[if_pos (aL c)];exact .ask (MF _ hn) λy hy=>.ite (λd=>.ret (by grind)) λd=>k.mono λr hr=>by grind
 .rw[if_neg (aP c)]
  refine .ask (tp _) λz hz=>.ite (λd=>?_) λd=>?_
  .rw[if_pos (by grind)];exact .ask (tk _ hn) λy hy=>.ite (λd=>.ret (by grind)) λd=>k.mono λr hr=>by grind
  .rw[if_neg (by grind)];exact .ite (λd=>.ret (by grind)) λd=>k.mono λr hr=>by grind
theorem X0:T (λn=>FP n a) (.=eS a):=by
 have k:=UJ a h
 have go:eG a=true->T (λn=>ri n a) (.=eS a):=λe=>k.mono λr hr=>by rw[hr];unfold eS;rw[e];rfl
 have no:eG a=false->T (λ_=>some false) (.=eS a):=λe=>.ret (by unfold eS;rw[e];rfl)
 refine .step Zq (.ask (XU _) λx hx=>?_)
 subst hx
 refine .ite (λc=>no (by unfold eG;grind)) λc=>?_
 have c:=aP c
 refine .ite (λc1=>.ite (λc2=>no ?_) λc2=>.neg ?_ (go ?_)) λc1=>.ite (λc2=>.ite (λc3=>no ?_) λc3=>go ?_) λc2=>?_
 .unfold eG;grind
 .grind
 .unfold eG;grind
 .simp_all[if_neg,aP,fy,ml,eG]
 .unfold eG;grind
 .exfalso;have c1:=aP c1;grind[dS,eO]
end
def dk:Nat->b6->Nat->Option Nat|0,_,_=>none|f+1,x,n=>if n+1<=2000/\eS x=true then x.2.2.2.2.2.2.foldlM (λn r=>dk f (bt r 0) n) (n+1)else none
theorem tt:∀{f:Nat}{x:b6}{n m:Nat},dk f x n=some m->m<=2000/\n+1<=m
 |0,_,_,_,h=>by cases h
 |f+1,x,n,m,h=>by
  unfold dk at h
  split at h
  .rename_i c;exact xP (inv:=λm=>m<=2000/\n+1<=m) (λs r s' hs e=>by have:=tt e;omega) (by omega) h
  .cases h
theorem nN{l:Rows}{r:List AV}(h:bd l)(hr:r∈l):bd (bt r 0):=
 have h:=ju h hr
 ⟨trivial,eV h 1,trivial,trivial,eV h 4,fN h 5,fN h 6⟩
abbrev xk(o:Option Nat)(r:Bool×Int×Int×Int):Prop:=match o with|some m=>r=(true,(m:Int),2000,64)|none=>r.1=false
theorem Nz:∀(f:Nat)(x:b6)(d n:Nat),d+f=65->n<=2000->bd x->T (λl=>B8 l x (d:Int) ((n:Int),2000,64)) (xk (dk f x n))
 |f,x,d,n,hd,hn,hb=>by
  refine .step abX (.ask (MH d n 2000 64 (by omega)) λy hy=>?_)
  subst hy
  refine .ite (λc=>.ret ?_) λc=>?_
  .have c:=dS (gN c);cases f with|zero=>rfl|succ f=>unfold dk;grind
  have c:=cW (cF c)
  cases f with
  |zero=>omega
  |succ f=>
   have j:=Bv x hb
   have hlen:=jv j
   refine .ask (XZ x hb) λz hz=>.ite (λc2=>.ret (by simp_all[if_neg,gN,dk])) λc2=>?_
   refine .ask (Q':=λr=>xk (dk (f+1) x n) (!r.1,r.2.2)) ?_ λr hr=>.ret hr
   unfold dk
   rw[if_pos ⟨c.1,by grind⟩]
   refine .step XL (.ask (Q':=λr=>xk (x.2.2.2.2.2.2.foldlM (λn r=>dk f (bt r 0) n) (n+1)) (!decide (r.1>=0),r.2.2)) (.step Wj ?_) λr hr=>.ret hr)
   refine T.fold (σ:=Nat) (L:=λi m l=>yg l x.2.2.2.2.2.2 (x.2.2.2.2.2.2.length:Int) i (d:Int) ((m:Int),2000,64)) (Q:=λo r=>xk o (!decide (r.1>=0),r.2.2)) (λm=>m<=2000) (λ_ _ _ _ e=>(tt e).1) ?_ ?_ (n+1) c.1
   .exactλm=>.step Jo (.neg (by simp) (.ret rfl))
   .intro i m r Q' hm hi hr h1 h2
    refine .step Jo (.pos (by simp;omega) (.ab (by omega) (by omega) λr' w=>?_))
    obtain rfl:r=r':=by grind
    refine .ask (Q':=λy=>y.2.1=(d:Int)/\xk (dk f (bt r 0) m) (!y.1,y.2.2)) (.step aaB ?_) λy hy=>?_
    .rw[kv d (by omega)];exact .ask (Nz f (bt r 0) (d+1) m (by omega) hm (nN j (List.mem_of_getElem? hr))) λz hz=>.ret ⟨rfl,by grind⟩
    .obtain⟨p,C,q⟩:=y
     obtain⟨rfl,hy⟩:=hy
     cases hg:dk f (bt r 0) m with
     |some u=>
      rw[hg]at hy
      have e1:p=false:=by grind
      have e2:q=((u:Int),2000,64):=congrArg Prod.snd hy;subst e1;subst e2;refine .neg rfl ?_;grind[bA]
     |none=>
      rw[hg]at hy
      have e1:p=true:=by grind
      subst e1;exact .pos rfl (.ret (h2 hg _ (by grind)))
def ew(x:b6):Bool:=(dk 64 x 0).isSome
theorem As(x:b6)(h:bd x):T (λn=>sn n x) (.=ew x):=.step abV (.ask (Nz 64 x 1 0 rfl (by omega) h) λr hr=>.ret (by grind[ew,dk]))
theorem MK:∀(f:Nat)(x:b6)(d n:Nat),d+f=65->n<=2000->bd x->T (λl=>A1 l x (d:Int) (n:Int)) (.=lL (dk f x n))
 |f,x,d,n,hd,hn,hb=>by
  have j:=Bv x hb
  have hlen:=jv j
  refine .step Y7 (.ite (λc=>.ret ?_) λc=>?_)
  .cases f with|zero=>rfl|succ f=>grind
  have c:=dS c
  cases f with
  |zero=>omega
  |succ f=>
   rw[kv n (by omega)]
   have no:(n+1<=2000->eS x=false)->T (λ_=>some (-1:Int)) (.=lL (dk (f+1) x n)):=λe=>.ret (by unfold dk;rw[if_neg (λq=>by grind)];rfl)
   refine .ite (λc=>no λe=>by grind) λc2=>?_
   have c2:=dS c2
   have c2:n+1<=2000:=by grind
   refine .ask (X0 x hb) λz hz=>.ite (λc3=>no λ_=>by grind) λc3=>?_
   unfold dk
   rw[if_pos ⟨c2,by grind⟩]
   refine T.fold (σ:=Nat) (L:=λi m l=>y7 l (d:Int) (m:Int) i x) (Q:=λo r=>r=lL o) (λm=>m<=2000) (λ_ _ _ _ e=>(tt e).1) ?_ ?_ (n+1) c2
   .exactλm=>.step Lv (.neg (by simp) (.ret rfl))
   .intro i m r Q' hm hi hr h1 h2
    refine .step Lv (.pos (by simp;omega) (.ab (by omega) (by omega) λr' u=>?_))
    obtain rfl:r=r':=by grind
    rw[kv d (by omega)];refine .ask (MK f (bt r 0) (d+1) m (by omega) hm (nN j (List.mem_of_getElem? hr))) λy hy=>?_;subst hy;cases hg:dk f (bt r 0) m with|some p=>refine .neg (fy (by show¬(p:Int)<0;omega)) ?_;rw[bA (by omega) (by omega)];exact h1 p hg|none=>exact .pos rfl (.ret (h2 hg _ rfl))
theorem nB(x:b6)(h:bd x):T (λn=>pE n x) (.=ew x):=.step abL (.ask (MK 64 x 1 0 rfl (by omega) h) λr hr=>.ret (by subst hr;unfold ew;cases e:dk 64 x 0 with|some m=>have:=tt e;exact b9 (by show(m:Int)>0;omega)|none=>rfl))
end Go.AI
