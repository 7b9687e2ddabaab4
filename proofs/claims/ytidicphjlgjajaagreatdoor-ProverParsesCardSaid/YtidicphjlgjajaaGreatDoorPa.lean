/-
  A part of the proof: Ev Sp1 Sp2 PL1 PL2 PL3 PL4 PL5 PL6.
-/
import Derived.IntWalk
import Derived.Test.YtidicphjlgjajaaGreatDoorSa
import Derived.Test.YtidicphjlgjajaaGreatDoorAe
import Derived.Test.YtidicphjlgjajaaGreatDoorG
set_option linter.all false

section
namespace Go.AI
open Go
def Ev{α:Type}(F:Nat->Option α)(r:α):Prop:=∃n0,∀n,n0<=n->F n=some r
section
variable {α β:Type}{r:β}
theorem Ev.ret(r:β):Ev (λ_=>some r) r:=⟨0,λ_ _=>rfl⟩
theorem Ev.step{F G:Nat->Option β}(h:∀n,F (n+1)=G n)(b:Ev G r):Ev F r:=by obtain⟨m,hm⟩:=b;refine⟨m+1,λn hn=>?_⟩;obtain⟨k,rfl⟩:∃k,n=k+1:=⟨n-1,by omega⟩;rw[h];exact hm k (by omega)
theorem Ev.const{F:Nat->Option β}(m:Nat)(h:∀n,F (n+m)=some r):Ev F r:=by refine⟨m,λn hn=>?_⟩;obtain⟨k,rfl⟩:∃k,n=k+m:=⟨n-m,by omega⟩;exact h k
theorem Ev.xa{F:Nat->Option β}{a b:β}(h:Ev F a)(h':Ev F b):a=b:=by obtain⟨m,hm⟩:=h;obtain⟨k,hk⟩:=h';have:=hm (max m k) (Nat.le_max_left _ _);rw[hk (max m k) (Nat.le_max_right _ _)]at this;exact(Option.some.inj this).symm
theorem Ev.ask{F:Nat->Option α}{k:Nat->α->Option β}{a:α}(h:Ev F a)(hk:Ev (λn=>k n a) r):Ev (λn=>ask (F n) (k n)) r:=by obtain⟨m,hm⟩:=h;obtain⟨l,hl⟩:=hk;refine⟨max m l,λn hn=>?_⟩;show(match F n with|some a=>k n a|none=>none)=_;rw[hm n (Nat.le_trans (Nat.le_max_left _ _) hn)];exact hl n (Nat.le_trans (Nat.le_max_right _ _) hn)
theorem Ev.ite{b:Bool}{x y:Nat->Option β}(h1:b=true->Ev x r)(h2:b=false->Ev y r):Ev (λn=>aa b (x n) (y n)) r:=by
 cases b
 .exact h2 rfl
 .exact h1 rfl
theorem Ev.pos{b:Bool}{x y:Nat->Option β}(h:b=true)(h1:Ev x r):Ev (λn=>aa b (x n) (y n)) r:=by subst h;exact h1
theorem Ev.neg{b:Bool}{x y:Nat->Option β}(h:b=false)(h1:Ev y r):Ev (λn=>aa b (x n) (y n)) r:=by subst h;exact h1
theorem Ev.ae{l:List α}{i:Int}{m:Nat}{x:α}{k:Nat->α->Option β}(hi:i=(m:Int))(h:l[m]?=some x)(hk:Ev (λn=>k n x) r):Ev (λn=>ae l i (k n)) r:=by subst hi;obtain⟨n0,h0⟩:=hk;refine⟨n0,λn hn=>?_⟩;unfold Go.AI.ae;rw[show decide ((0:Int)<=(m:Int))=true from ax (by omega)];simp only[Int.toNat_natCast,h];exact h0 n hn
theorem Ev.aV{s:ByteArray}{i:Int}{m:Nat}{x:UInt8}{k:Nat->Int->Option β}(hi:i=(m:Int))(h:s.data.toList[m]?=some x)(hk:Ev (λn=>k n (x.toNat:Int)) r):Ev (λn=>aV s i (k n)) r:=by
 subst hi
 obtain⟨n0,h0⟩:=hk
 refine⟨n0,λn hn=>?_⟩
 unfold Go.AI.aV
 have hs:s[m]?=some x:=by
  have c:m<s.data.toList.length:=by
   rcases Nat.lt_or_ge m s.data.toList.length with a|a
   .exact a
   .rw[List.getElem?_eq_none a]at h;cases h
  have b:m<s.size:=by simpa using c
  rw[List.getElem?_eq_getElem c]at h;rw[getElem?_pos s m b];exact h
 rw[show decide ((0:Int)<=(m:Int))=true from ax (by omega)];simp only[Int.toNat_natCast,hs];exact h0 n hn
theorem Ev.fits{m b:Nat}{x:Nat->Option β}(h:m*b<=140737488355328)(hx:Ev x r):Ev (λn=>fits m b (x n)) r:=by unfold Go.AI.fits;rw[ax h];exact hx
theorem Ev.ai{a b:ByteArray}{k:Nat->ByteArray->Option β}(h:a.size+b.size<=9223372036854775807)(hx:Ev (λn=>k n (a++b)) r):Ev (λn=>ai a b (k n)) r:=by unfold Go.AI.ai;rw[aH (p:=((a.size+b.size:Nat):Int)>IntKind.i64.max) (by show¬_>(9223372036854775807:Int);omega)];exact hx
theorem Ev.cn{s:ByteArray}{lo hi:Int}{k:Nat->ByteArray->Option β}(h:0<=lo/\lo<=hi/\hi<=s.size)(hx:Ev (λn=>k n (s.extract lo.toNat hi.toNat)) r):Ev (λn=>cn s lo hi (k n)) r:=by unfold Go.AI.cn;rw[ax h];exact hx
theorem Ev.jd{l:List α}{lo hi:Int}{k:Nat->List α->Option β}(h:0<=lo/\lo<=hi/\hi<=l.length)(hx:Ev (λn=>k n ((l.drop lo.toNat).take (hi.toNat-lo.toNat))) r):Ev (λn=>jd l lo hi (k n)) r:=by unfold Go.AI.jd;rw[ax h];exact hx
theorem Ev.head{s:ByteArray}{m:Int}{k:Nat->ByteArray->Option β}(h:0<m/\m<=s.size/\m<=9223372036854775807)(hx:Ev (λn=>k n (s.extract 0 m.toNat)) r):Ev (λn=>head s m (k n)) r:=by unfold Go.AI.head;rw[ax h];exact hx
end
theorem gQ{a b:ByteArray}:ao a b=true↔a=b:=by
 unfold ao
 rw[beq_iff_eq]
 constructor
 .intro h;exact ByteArray.ext (Array.ext' (by rw[<-rD,<-rD];exact h))
 .rintro rfl;rfl
theorem fh(a b:ByteArray):ao a b=decide (a=b):=by rw[Bool.eq_iff_iff,gQ,decide_eq_true_iff]
end Go.AI
end

section
namespace Go.AI
def jW(c:Int):Bool:=decide (97<=c)&&decide (c<=122)||decide (65<=c)&&decide (c<=90)
def fi(c:Int):Bool:=decide (48<=c)&&decide (c<=57)
def ga(c:Int):Bool:=jW c||fi c||c==95
def rm:List ByteArray:=[⟨#[116,114,117,101]⟩,⟨#[102,97,108,115,101]⟩,⟨#[110,111,116]⟩,⟨#[111,114]⟩,⟨#[102,111,114,97,108,108]⟩,⟨#[101,120,105,115,116,115]⟩,⟨#[105,110]⟩,⟨#[110,111,116,105,110]⟩,⟨#[115,117,98]⟩,⟨#[109,111,100]⟩,⟨#[102,117,110]⟩,⟨#[99,97,114,100]⟩,⟨#[109,105,110]⟩,⟨#[109,97,120]⟩,⟨#[100,111,109]⟩,⟨#[114,97,110]⟩,⟨#[80,79,87]⟩,⟨#[105,110,116]⟩,⟨#[98,111,111,108]⟩,⟨#[115,101,116]⟩,⟨#[112,97,105,114]⟩]
def fe(s:ByteArray):Bool:=rm.any λk=>decide (s=k)
def hY(l:List UInt8):Bool:=l.all λb=>ga (b.toNat:Int)
def nB(l:List UInt8):Bool:=match l with|[]=>false|b::_=>jW (b.toNat:Int)
def bF(s:ByteArray):Bool:=decide (s.size<=16)&&nB s.data.toList&&!fe s&&hY s.data.toList
theorem lY{i n:Nat}(h:i<n)(hn:n<=9223372036854775807):IntKind.i64.wrap ((i:Int)+1)=((i+1:Nat):Int):=by rw[IntWalk.i64_in _ (by omega)];rfl
def eR:List ByteArray->List (List AV)|[]=>[]|t::ts=>[.sc (.string t)]::eR ts
theorem uo:∀(l:List ByteArray)(i:Nat),(eR l)[i]?=(l[i]?).map λn=>[.sc (.string n)]|[],i=>by simp[eR]|t::ts,0=>by simp[eR]|t::ts,i+1=>by simp[eR,uo ts i]
theorem Ca:∀(l:List ByteArray),(eR l).length=l.length|[]=>rfl|t::ts=>by simp[eR,Ca ts]
theorem Qf:∀(a b:List ByteArray),eR a=eR b->a=b|[],[],_=>rfl|[],_::_,h=>by simp[eR]at h|_::_,[],h=>by simp[eR]at h|a::u,b::v,h=>by simp only[eR,List.cons.injEq,AV.sc.injEq,Value.string.injEq,and_true]at h;rw[h.1,Qf u v h.2]
def jO(s:ByteArray)(l:List ByteArray):Bool:=l.any λx=>decide (x=s)
theorem Sc{s:ByteArray}{l:List ByteArray}:jO s l=true↔s∈l:=by simp[jO]
theorem adh{s:ByteArray}{l l':List ByteArray}:jO s (l++l')=(jO s l||jO s l'):=by simp[jO]
theorem TH{s:ByteArray}:jO s rm=fe s:=by unfold jO fe;congr 1;funext x;exact decide_eq_decide.2 eq_comm
def quote:ByteArray:=⟨#[39]⟩
def fQ(s:ByteArray):Bool:=match s.data.toList.getLast? with|some b=>b==39|none=>false
def kQ(s:ByteArray):ByteArray:=s.extract 0 (s.size-1)
def tg(s:ByteArray):ByteArray:=if fQ s then kQ s else s
def eK(s:ByteArray):Bool:=decide (1<s.size)&&fQ s&&bF (kQ s)
def jy(s:ByteArray):Bool:=bF s||eK s
theorem iw(s:ByteArray)(l u:Nat):(s.extract l u).data.toList=(s.data.toList.drop l).take (u-l):=by simp[List.take_drop]
theorem CM(s:ByteArray):(kQ s).data.toList=s.data.toList.dropLast:=by rw[kQ,iw,List.dropLast_eq_take];simp
theorem Rl(s:ByteArray)(h:0<s.size):(s.extract (s.size-1) s.size).data.toList=match s.data.toList.getLast? with
 |some b=>[b]
 |none=>[]:=by
 rw[iw]
 cases hl:s.data.toList.getLast? with
 |none=>rw[List.getLast?_eq_none_iff]at hl;have:=bV s;rw[hl]at this;simp at this;omega
 |some b=>
  rw[List.getLast?_eq_some_iff]at hl
  obtain⟨ys,hy⟩:=hl
  have:=bV s
  rw[hy]at this
  simp only[List.length_append,aN,List.length_nil]at this
  rw[hy]
  have e:s.size-1=ys.length:=by omega
  rw[e,List.drop_left']
  .rw[List.take_of_length_le (by simp;omega)]
  .rfl
theorem Sd(s:ByteArray)(h:0<s.size):s.extract (s.size-1) s.size=quote↔fQ s=true:=by
 have c:s.extract (s.size-1) s.size=quote↔(s.extract (s.size-1) s.size).data.toList=[39]:=by
  constructor
  .intro e;rw[e];rfl
  .intro e;apply ByteArray.ext;apply Array.ext';rw[e];rfl
 rw[c,Rl s h];unfold fQ;cases s.data.toList.getLast? with|none=>simp|some b=>simp
theorem QG{s:ByteArray}(h:fQ s=true):hY s.data.toList=false:=by
 unfold fQ at h
 cases hl:s.data.toList.getLast? with
 |none=>rw[hl]at h;cases h
 |some b=>
  rw[hl]at h
  have hb:b=39:=by simpa using h
  have hm:b∈s.data.toList:=List.mem_of_getLast? hl;rw[Bool.eq_false_iff];intro hw;have:=List.all_eq_true.1 hw b hm;rw[hb]at this;exact absurd this (by decide)
theorem Se(s:ByteArray):bF (tg s)=jy s:=by
 unfold jy tg eK
 cases h:fQ s with
 |false=>simp
 |true=>
  have hi:bF s=false:=by simp[bF,QG h]
  rw[hi]
  simp only[if_true,Bool.false_or,Bool.and_true]
  by_cases hs:1<s.size
  .simp[hs]
  .have hc:(kQ s).data.toList=[]:=by rw[CM];apply List.eq_nil_of_length_eq_zero;rw[List.length_dropLast,bV];omega
   simp[hs,bF,hc,nB]
theorem rO{s:ByteArray}(h:s.size=0):s.data.toList=[]:=List.eq_nil_of_length_eq_zero (by rw[bV,h])
end Go.AI
end

section
namespace Go.AI
def dw(op:Int):Option (Option Int):=if op=1\/op=2\/op=19\/op=20\/op=29 then some (some 0)else if op=3\/op=21\/(46<=op/\op<=52)then some (some 1)else if op=28 then some none else if 1<=op/\op<=56 then some (some 2)else none
def uU(op:Int):Bool:=decide (op=8)||decide (op=9)||decide (op=55)||decide (op=56)
end Go.AI
namespace Go.AI
def pB:Option (Option Int)->Int|none=>0|some none=>-1|some (some k)=>k
def pC:Option (Option Int)->Int|none=>-2|some none=>-1|some (some k)=>k
def vS(op:Int):Int:=pB (dw op)
def vV(op:Int):Bool:=(dw op).isSome
def vW(op:Int):Int:=pC (dw op)
end Go.AI
namespace Go.AI
theorem adE{op:Int}{v:Option (Option Int)}(h:dw op=v):some (AV.tuple [.sc (.int .i64 (pB v)),.sc (.bool v.isSome)])=some (AV.tuple [.sc (.int .i64 (vS op)),.sc (.bool (vV op))]):=by subst h;rfl
theorem adz{op:Int}{v:Option (Option Int)}(h:dw op=v):some (AV.sc (.int .i64 (pC v)))=some (AV.sc (.int .i64 (vW op))):=by subst h;rfl
end Go.AI
end

section
namespace Go.AI
open Go
theorem lu{α:Type}(b:Bool)(x y:Option α):aa b x y=if b then x else y:=by cases b<;>rfl
theorem rZ(a:Int):Ev (λn=>wG n a) (jW a):=.const 1 λn=>by rw[WJ];simp only[lu,jW];by_cases h1:97<=a<;>by_cases h2:a<=122<;>by_cases h3:65<=a<;>by_cases h4:a<=90<;>simp[h1,h2,h3,h4]
theorem ov(a:Int):Ev (λn=>pA n a) (jW a):=.const 1 λn=>by rw[X5];simp only[lu,jW];by_cases h1:97<=a<;>by_cases h2:a<=122<;>by_cases h3:65<=a<;>by_cases h4:a<=90<;>simp[h1,h2,h3,h4]
theorem DJ(a:Int):Ev (λn=>Bb n a) (fi a):=.const 1 λn=>by rw[WL];simp only[lu,fi];by_cases h1:48<=a<;>by_cases h2:a<=57<;>simp[h1,h2]
theorem sr(a:Int):Ev (λn=>rj n a) (fi a):=.const 1 λn=>by rw[X8];simp only[lu,fi];by_cases h1:48<=a<;>by_cases h2:a<=57<;>simp[h1,h2]
theorem IZ(a:Int):Ev (λn=>wD n a) (ga a):=.step (λn=>WI n a) (.ask (rZ a) (.ite (λh=>by simpa[ga,h]using Ev.ret true) (λh=>.ask (DJ a) (.ite (λh2=>by simpa[ga,h,h2]using Ev.ret true) (λh2=>by simpa[ga,h,h2]using Ev.ret (a==95))))))
theorem Yt{b:Bool}{y:Option Bool}{c:Bool}(h:y=some c):(if b=true then(if b=true then some true else some false)else y)=some (b||c):=by cases b<;>simp[h]
theorem tJ(s:ByteArray):Ev (λn=>nP n s) (fe s):=.const 1 λn=>by
 rw[WK];simp only[lu,fh,fe,rm,List.any_cons,List.any_nil]
 repeat(refine Yt ?_)
 simp only[Bool.or_false];generalize decide (s=_)=b;cases b<;>rfl
theorem Bm(s:ByteArray)(l:List ByteArray)(hl:l.length<=1000):∀(d i:Nat),l.length-i=d->Ev (λn=>y9 n s (eR l) i) (jO s (l.drop i))
 |0,i,hd=>.step (λn=>JV n s _ _) (.neg (by simp[Ca];omega) (by rw[List.drop_eq_nil_of_le (by omega)];exact .ret _))
 |d+1,i,hd=>by
  have hi:i<l.length:=by omega
  refine .step (λn=>JV n s _ _) (.pos (by simp[Ca];omega) (.ae rfl (x:=[.sc (.string l[i])]) (by rw[uo,List.getElem?_eq_getElem hi];rfl) ?_))
  rw[List.drop_eq_getElem_cons hi]
  show Ev (λn=>aa (ao l[i] s) _ _) _
  rw[fh]
  refine .ite (λh=>?_) (λh=>?_)
  .simp only[jO,List.any_cons,h,Bool.true_or];exact .ret _
  .simp only[jO,List.any_cons,h,Bool.false_or];have:=Bm s l hl d (i+1) (by omega);rw[lY hi (by omega)];exact this
theorem NH(s:ByteArray):Ev (λn=>BS n s) (fe s):=.step (λn=>X6 n s) (.ask (.step (λn=>EU n s _) (Bm s rm (by decide) _ 0 rfl)) (by rw[<-TH];exact .ret _))
theorem Hj(s:ByteArray)(hs:s.size<=16):∀(d i:Nat),s.size-i=d->Ev (λn=>An n s s.size i) (hY (s.data.toList.drop i))
 |0,i,hd=>.step (λn=>Li n s _ _) (.neg (by simp;omega) (by rw[List.drop_eq_nil_of_le (by simp;omega)];exact .ret _))
 |d+1,i,hd=>by
  have hi:i<s.data.toList.length:=by simp;omega
  refine .step (λn=>Li n s _ _) (.pos (by simp;omega) (.aV rfl (List.getElem?_eq_getElem hi) (.ask (IZ _) ?_)))
  rw[List.drop_eq_getElem_cons hi]
  refine .ite (λh=>?_) (λh=>?_)
  .simp only[Bool.not_eq_true']at h;simp only[hY,List.all_cons,h,Bool.false_and];exact .ret _
  .simp only[Bool.not_eq_false']at h;simp only[hY,List.all_cons,h,Bool.true_and];rw[lY hi (by simp;omega)];exact Hj s hs d (i+1) (by omega)
theorem Hk(s:ByteArray)(hs:s.size<=16):∀(d i:Nat),s.size-i=d->Ev (λn=>sN n s i) (hY (s.data.toList.drop i))
 |0,i,hd=>.step (λn=>J1 n s _) (.neg (by simp;omega) (by rw[List.drop_eq_nil_of_le (by simp;omega)];exact .ret _))
 |d+1,i,hd=>by
  have hi:i<s.data.toList.length:=by simp;omega
  have key:=Hk s hs d (i+1) (by omega)
  refine .step (λn=>J1 n s _) (.pos (by simp;omega) (.aV rfl (List.getElem?_eq_getElem hi) (.ask (ov _) ?_)))
  rw[List.drop_eq_getElem_cons hi,lY hi (by simp;omega)]
  refine .ite (λh=>?_) (λh=>?_)
  .simp only[Bool.not_eq_true']at h
   refine .aV rfl (List.getElem?_eq_getElem hi) (.ask (sr _) (.ite (λh2=>?_) (λh2=>?_)))
   .simp only[Bool.not_eq_true']at h2
    refine .aV rfl (List.getElem?_eq_getElem hi) (.ite (λh3=>?_) (λh3=>?_))
    .have b:(((s.data.toList[i].toNat:Nat):Int)==95)=false:=by simpa[bne]using h3
     simp only[hY,List.all_cons,ga,h,h2,b,Bool.or_self,Bool.false_and];exact .ret _
    .have b:(((s.data.toList[i].toNat:Nat):Int)==95)=true:=by simpa[bne]using h3
     simp only[hY,List.all_cons,ga,h,h2,b,Bool.or_true,Bool.true_and];exact key
   .simp only[Bool.not_eq_false']at h2;simp only[hY,List.all_cons,ga,h2,Bool.or_true,Bool.true_or,Bool.true_and];exact key
  .simp only[Bool.not_eq_false']at h;simp only[hY,List.all_cons,ga,h,Bool.true_or,Bool.true_and];exact key
theorem lb{s:ByteArray}:ao s (bs [])=decide (s.size=0):=by
 rw[fh,decide_eq_decide]
 constructor
 .rintro rfl;rfl
 .intro h;exact ByteArray.ext (Array.ext' (by rw[rO h]))
theorem lx(s:ByteArray):Ev (λn=>mT n s) (bF s):=by
 refine .step (λn=>Yb n s) ?_
 rw[lb]
 refine .ite (λh=>?_) (λh=>.ite (λh2=>?_) (λh2=>?_))
 .simp only[decide_eq_true_eq]at h
  have:bF s=false:=by simp[bF,rO h,nB]
  rw[this];exact .ret _
 .simp only[decide_eq_true_eq]at h2
  have:bF s=false:=by simp only[bF,aH (p:=s.size<=16) (by omega),Bool.false_and]
  rw[this];exact .ret _
 .simp only[decide_eq_false_iff_not]at h h2
  have c:s.size<=16:=by omega
  cases hl:s.data.toList with
  |nil=>exact absurd (by simpa using congrArg List.length hl) h
  |cons b t=>
   refine .aV (m:=0) rfl (by rw[hl];rfl) (.ask (rZ _) (.ite (λh3=>?_) (λh3=>.ask (tJ s) (.ite (λh4=>?_) (λh4=>?_)))))
   .simp only[Bool.not_eq_true']at h3
    have:bF s=false:=by simp[bF,hl,nB,h3]
    rw[this];exact .ret _
   .have:bF s=false:=by simp[bF,h4]
    rw[this];exact .ret _
   .simp only[Bool.not_eq_false']at h3
    have:bF s=hY (s.data.toList.drop 0):=by simp[bF,h4,hl,nB,h3,c]
    rw[this];exact Hj s c _ 0 rfl
theorem yM(s:ByteArray):Ev (λn=>tE n s) (bF s):=by
 refine .step (λn=>Wp n s) ?_
 refine .ite (λh=>?_) (λh=>.ite (λh2=>?_) (λh2=>?_))
 .simp only[decide_eq_true_eq]at h
  have:bF s=false:=by simp[bF,rO (s:=s) (by omega),nB]
  rw[this];exact .ret _
 .simp only[decide_eq_true_eq]at h2
  have:bF s=false:=by simp only[bF,aH (p:=s.size<=16) (by omega),Bool.false_and]
  rw[this];exact .ret _
 .simp only[decide_eq_false_iff_not]at h h2
  have c:s.size<=16:=by omega
  cases hl:s.data.toList with
  |nil=>have:s.size=0:=by rw[<-bV,hl];rfl
        omega
  |cons b t=>
   refine .aV (m:=0) rfl (by rw[hl];rfl) (.ask (ov _) (.ite (λh3=>?_) (λh3=>.ask (NH s) (.ite (λh4=>?_) (λh4=>?_)))))
   .simp only[Bool.not_eq_true']at h3
    have:bF s=false:=by simp[bF,hl,nB,h3]
    rw[this];exact .ret _
   .have:bF s=false:=by simp[bF,h4]
    rw[this];exact .ret _
   .simp only[Bool.not_eq_false']at h3
    have:bF s=hY (s.data.toList.drop 1):=by simp[bF,h4,hl,nB,h3,c,hY,ga]
    rw[this];exact Hk s c _ 1 rfl
end Go.AI
end

section
namespace Go.AI
open Go
abbrev Fits(s:ByteArray):Prop:=s.size<=4611686018427387904
theorem Sf(s:ByteArray)(hs:Fits s):Ev (λn=>FP n s (bs [39])) (fQ s):=by
 refine .step (λn=>Xb n s _) (.ite (λh=>?_) (λh=>?_))
 .have h:(1:Int)<=s.size:=dP h
  have hw:IntKind.i64.wrap ((s.size:Int)-((bs [39]).size:Int))=((s.size-1:Nat):Int):=by rw[show((bs [39]).size:Int)=1 from rfl,IntWalk.i64_in _ (by unfold Fits at hs;omega)];omega
  rw[hw]
  refine .cn ⟨by omega,by omega,Int.le_refl _⟩ ?_
  have e:ao (s.extract ((s.size-1:Nat):Int).toNat ((s.size:Int)).toNat) (bs [39])=fQ s:=by rw[fh,Bool.eq_iff_iff,decide_eq_true_iff];exact Sd s (by omega)
  rw[<-e];exact .ret _
 .have h:¬(1:Int)<=s.size:=of_decide_eq_false h
  have:fQ s=false:=by unfold fQ;rw[rO (s:=s) (by omega)];rfl
  rw[this];exact .ret _
theorem CN{m:Nat}(h:1<=m)(hm:m<=9223372036854775807):IntKind.i64.wrap ((m:Int)-1)=((m-1:Nat):Int):=by rw[IntWalk.i64_in _ (by omega)];omega
theorem Va(s:ByteArray)(hs:Fits s):Ev (λn=>FI n s (bs [39])) (tg s):=by
 refine .step (λn=>WS n s _) (.ask (a:=tg s) (.step (λn=>W5 n s _) (.ask (Sf s hs) (.ite (λh=>?_) (λh=>?_)))) (.ret _))
 .have h0:0<s.size:=by
   rcases Nat.eq_zero_or_pos s.size with h0|h0
   .unfold fQ at h;rw[rO h0]at h;cases h
   .exact h0
  rw[show((bs [39]).size:Int)=1 from rfl,CN h0 (by unfold Fits at hs;omega)];refine .cn ⟨by omega,by omega,by omega⟩ ?_;rw[tg,h,if_pos rfl,kQ];exact .ret _
 .rw[tg,h,if_neg (by simp)];exact .ret _
theorem TI(s:ByteArray)(hs:Fits s):Ev (λn=>FC n s) (jy s):=.step (λn=>Wv n s) (.ask (Va s hs) (.ask (lx _) (by rw[Se];exact .ret _)))
theorem yg(s:ByteArray)(hs:Fits s):Ev (λn=>tG n s) (eK s):=by
 refine .step (λn=>WD n s) (.ite (λh=>?_) (λh=>?_))
 .have h:(1:Int)<s.size:=dP h
  rw[CN (by omega) (by unfold Fits at hs;omega)]
  obtain⟨b,hb⟩:∃b,s.data.toList[s.size-1]?=some b:=⟨_,List.getElem?_eq_getElem (by rw[bV];omega)⟩
  have hl:s.data.toList.getLast?=some b:=by rw[List.getLast?_eq_getElem?,bV];exact hb
  refine .aV rfl hb (.ite (λh2=>?_) (λh2=>?_))
  .refine .cn ⟨by omega,by omega,by omega⟩ (.ask (yM _) ?_)
   have:eK s=bF (s.extract (0:Int).toNat ((s.size-1:Nat):Int).toNat):=by
    unfold eK fQ kQ
    rw[hl]
    have h3:(b==39)=true:=by
     have:((b.toNat:Nat):Int)=39:=by simpa using h2
     have:b.toNat=39:=by omega
     rw[beq_iff_eq];exact UInt8.toNat_inj.1 this
    simp[h3,ax (show 1<s.size by omega)]
   rw[this];exact .ret _
  .have:eK s=false:=by
    unfold eK fQ
    rw[hl]
    have h3:(b==39)=false:=by
     have:¬((b.toNat:Nat):Int)=39:=by simpa using h2
     rw[beq_eq_false_iff_ne];rintro rfl;exact this rfl
    simp[h3]
   rw[this];exact .ret _
 .have h:¬(1:Int)<s.size:=of_decide_eq_false h
  have:eK s=false:=by unfold eK;rw[aH (show¬1<s.size by omega)];rfl
  rw[this];exact .ret _
theorem Km(s:ByteArray)(hs:Fits s):Ev (λn=>wz n s) (jy s):=.step (λn=>Wl n s) (.ask (yM s) (.ite (λh=>by simpa[jy,h]using Ev.ret true) (λh=>.ask (yg s hs) (by simpa[jy,h]using Ev.ret (eK s)))))
theorem Vb(op:Int):Ev (λn=>FB n op) (vS op,vV op):=.const 3 λn=>by
 rw[Wu,PE,PD];simp only[lu]
 by_cases h:op=1\/op=2\/op=19\/op=20\/op=29
 .rcases h with rfl|rfl|rfl|rfl|rfl<;>rfl
 .by_cases h2:op=3\/op=21\/(46<=op/\op<=52)
  .simp only[vS,vV,dw,if_neg h,if_pos h2]
   simp only[not_or]at h
   rcases h2 with rfl|rfl|h2
   .rfl
   .rfl
   .by_cases h3:op<=51
    .have h4:op≠3:=by omega
     have b:op≠21:=by omega
     simp[h,h3,h4,b,h2.1,pB]
    .have:op=52:=by omega
     subst this;rfl
  .by_cases h3:op=28
   .subst h3;rfl
   .simp only[vS,vV,dw,if_neg h,if_neg h2,if_neg h3];simp only[not_or]at h h2;by_cases h4:1<=op<;>by_cases b:op<=56<;>by_cases f:46<=op<;>by_cases e:op<=51<;>by_cases c:op=52<;>simp[h,h2,h3,h4,b,f,e,c,pB]<;>omega
theorem Vc(op:Int):Ev (λn=>Fx n op) (vW op):=.const 2 λn=>by
 rw[Wk,PC];simp only[lu]
 by_cases h:op=1\/op=2\/op=19\/op=20\/op=29
 .rcases h with rfl|rfl|rfl|rfl|rfl<;>rfl
 .by_cases h2:op=3\/op=21\/(46<=op/\op<=52)
  .simp only[vW,dw,if_neg h,if_pos h2]
   simp only[not_or]at h
   rcases h2 with rfl|rfl|h2
   .rfl
   .rfl
   .by_cases h3:op=21<;>by_cases h4:op=3<;>simp[h,h3,h4,h2.1,h2.2,pC]
  .by_cases h3:op=28
   .subst h3;rfl
   .simp only[vW,dw,if_neg h,if_neg h2,if_neg h3];simp only[not_or]at h h2;by_cases h4:4<=op<;>by_cases f:op<=56<;>by_cases e:46<=op<;>by_cases c:op<=52<;>by_cases b:1<=op<;>simp[h,h2,h3,h4,f,e,c,b,pC]<;>omega
theorem Sg(op:Int):Ev (λn=>FE n op) (uU op):=.const 1 λn=>by rw[Wy];simp only[lu,uU];by_cases h1:op=8<;>by_cases h2:op=9<;>by_cases h3:op=55<;>by_cases h4:op=56<;>simp[h1,h2,h3,h4]
theorem Si(op:Int):Ev (λn=>Fz n op) (uU op):=.const 1 λn=>by rw[Wo];simp only[lu,uU];by_cases h1:op=8<;>by_cases h2:op=9<;>by_cases h3:op=55<;>by_cases h4:op=56<;>simp[h1,h2,h3,h4]
def vX(tk:Int)(tn:ByteArray)(ts:Rows):Bool:=decide (tk=0)&&(decide (tn.size=0)&&decide (ts.length=0))
theorem Vd(tk:Int)(tn:ByteArray)(ts:Rows):Ev (λn=>FD n tk tn ts) (vX tk tn ts):=.const 1 λn=>by rw[Wx,lb];simp only[lu,vX];by_cases h1:tk=0<;>by_cases h2:tn.size=0<;>by_cases h3:ts.length=0<;>simp[h1,h2,h3]
theorem Ve(tk:Int)(tn:ByteArray)(ts:Rows):Ev (λn=>Fy n tk tn ts) (vX tk tn ts):=.const 1 λn=>by rw[Wn,lb];simp only[lu,vX];by_cases h1:tk=0<;>by_cases h2:tn.size=0<;>by_cases h3:ts.length=0<;>simp[h1,h2,h3]
end Go.AI
end

section
namespace Go.AI
open Go
theorem vn{r:List AV}:∀{rows:Rows},r∈rows->fM r<cd rows
 |r'::rows,h=>by
  rw[cd]
  rcases List.mem_cons.1 h with rfl|h
  .omega
  .have:=vn h;omega
theorem adr{rows:Rows}{i:Nat}{r:List AV}(h:rows[i]?=some r):fM r<cd rows:=vn (List.mem_of_getElem? h)
theorem DK:∀{r:List AV}{j:Nat}{c:AV},r[j]?=some c->BX c<=fM r|c'::r,0,c,h=>by simp at h;subst h;rw[fM];omega|c'::r,j+1,c,h=>by have:=DK (r:=r) (j:=j) (c:=c) (by simpa using h);rw[fM];omega
theorem Xg(r:List AV)(j:Nat):(gS r j).size<=fM r:=by
 unfold gS
 split
 .rename_i s h;have:=DK h;rw[BX]at this;omega
 .exact Nat.zero_le _
theorem ME(r:List AV)(j:Nat):cd (gD r j)<=fM r:=by
 unfold gD
 split
 .rename_i l _ h;have:=DK h;rw[BX]at this;omega
 .rw[cd];exact Nat.zero_le _
theorem qm:∀(rows:Rows),rows.length<=cd rows|[]=>Nat.zero_le _|r::rows=>by have:=qm rows;rw[cd,aN];omega
mutual
inductive mU:Int->ByteArray->Rows->Nat->Prop|mk{k:Int}{nm:ByteArray}{ks:Rows}{c:Nat}:nm.size<=16->((k=1\/k=2\/k=3)/\ks.length=0\/k=4/\ks.length=2\/k=5/\ks.length=1)->qV ks c->mU k nm ks (c+1)inductive qV:Rows->Nat->Prop|nil:qV [] 0|cons{r:List AV}{rs:Rows}{c d:Nat}:mU (gI r 0) (gS r 1) (gD r 2) c->qV rs d->qV (r::rs) (c+d)end
theorem xC{s:ByteArray}(h:bF s=true):s.size<=16:=by simp only[bF,aX,decide_eq_true_eq]at h;exact h.1.1.1
def jB(k:Int)(nm:ByteArray)(ks:Rows)(m:Nat):Bool:=decide (ks.length=m)&&(if k=3 then bF nm else decide (nm.size=0))
def nJ(k:Int)(nm:ByteArray)(ks:Rows)(within:Bool):Bool:=if k=1 then jB k nm ks 0 else if k=2 then !within&&jB k nm ks 0 else if k=3 then jB k nm ks 0 else if k=4 then jB k nm ks 2 else if k=5 then jB k nm ks 1 else false
theorem l8{k:Int}{nm:ByteArray}{ks:Rows}{m:Nat}(h:jB k nm ks m=true):nm.size<=16/\ks.length=m:=by
 unfold jB at h
 rw[aX,decide_eq_true_eq]at h
 refine⟨?_,h.1⟩
 have h:=h.2
 split at h
 .exact xC h
 .rw[decide_eq_true_eq]at h;omega
theorem CO{k:Int}{nm:ByteArray}{ks:Rows}{w:Bool}(h:nJ k nm ks w=true):nm.size<=16/\((k=1\/k=2\/k=3)/\ks.length=0\/k=4/\ks.length=2\/k=5/\ks.length=1):=by
 unfold nJ at h
 split at h
 .exact⟨(l8 h).1,by simp[(l8 h).2, *]⟩
 .split at h
  .rw[aX]at h;exact⟨(l8 h.2).1,by simp[(l8 h.2).2, *]⟩
  .split at h
   .exact⟨(l8 h).1,by simp[(l8 h).2, *]⟩
   .split at h
    .exact⟨(l8 h).1,by simp[(l8 h).2, *]⟩
    .split at h
     .exact⟨(l8 h).1,by simp[(l8 h).2, *]⟩
     .cases h
theorem Lu{ks:Rows}{m:Nat}:(((ks.length:Nat):Int)!=(m:Int))=!decide (ks.length=m):=by rw[Bool.eq_iff_iff];simp;omega
theorem vo(k:Int)(nm:ByteArray)(ks:Rows)(d n:Int)(m:Nat)(r:Int)(h:jB k nm ks m=true->Ev (λl=>nz l d n 0 k nm ks) r)
 (h':jB k nm ks m=false->r=-1):Ev (λl=>pM l d n m k nm ks) r:=by
 refine .step (λl=>PF l _ _ _ _ _ _) ?_
 rw[Lu]
 unfold jB at h h'
 refine .ite (λh1=>?_) (λh1=>?_)
 .simp only[Bool.not_eq_true']at h1;rw[h' (by rw[h1];rfl)];exact .ret _
 .simp only[Bool.not_eq_false']at h1
  rw[h1,Bool.true_and]at h h'
  rw[lb]
  by_cases hk:k=3
  .subst hk
   rw[if_pos rfl]at h h'
   refine .pos rfl (.ask (yM nm) (.ite (λh2=>?_) (λh2=>?_)))
   .simp only[Bool.not_eq_true']at h2;rw[h' h2];exact .ret _
   .simp only[Bool.not_eq_false']at h2;exact .neg rfl (h h2)
  .rw[if_neg hk]at h h'
   refine .neg (by simpa using hk) (.pos (by simpa[bne]using hk) (.ite (λh2=>?_) (λh2=>?_)))
   .simp only[Bool.not_eq_true']at h2;rw[h' h2];exact .ret _
   .simp only[Bool.not_eq_false']at h2;exact h h2
theorem Lv(k:Int)(nm:ByteArray)(ks:Rows)(d n:Nat)(hd:d<=6)(hn:n+1<=16)(r:Int)(h:nJ k nm ks (decide (1<d))=true->Ev (λl=>nz l (d:Int) ((n+1:Nat):Int) 0 k nm ks) r)
 (h':nJ k nm ks (decide (1<d))=false->r=-1):Ev (λl=>wC l k nm ks d n) r:=by
 have hw:IntKind.i64.wrap ((n:Int)+1)=((n+1:Nat):Int):=by rw[IntWalk.i64_in _ (by omega)];rfl
 refine .step (λl=>EV l _ _ _ _ _) (.neg (by simp;omega) ?_)
 rw[hw]
 refine .neg (by simp;omega) ?_
 unfold nJ at h h'
 by_cases h1:k=1
 .subst h1;simp only[if_true]at h h';exact .neg rfl (.step (λl=>Cb l _ _ _ _ _) (.pos rfl (.pos rfl (vo 1 nm ks _ _ 0 r h h'))))
 by_cases h2:k=2
 .subst h2
  simp only[show¬(2:Int)=1 by decide,if_false,if_true]at h h'
  refine .pos rfl (.ite (λh3=>?_) (λh3=>?_))
  .have h3:decide (1<d)=true:=by simp at h3⊢;omega
   rw[h' (by rw[h3];rfl)];exact .ret _
  .have h3:decide (1<d)=false:=by simp at h3⊢;omega
   rw[h3,Bool.not_false,Bool.true_and]at h h';exact .step (λl=>Cb l _ _ _ _ _) (.neg rfl (.pos rfl (.pos rfl (vo 2 nm ks _ _ 0 r h h'))))
 refine .neg (by simpa using h2) (.step (λl=>Cb l _ _ _ _ _) (.neg (by simpa using h1) (.neg (by simpa using h2) ?_)))
 simp only[if_neg h1,if_neg h2]at h h'
 by_cases h3:k=3
 .subst h3;simp only[if_true]at h h';exact .pos rfl (vo 3 nm ks _ _ 0 r h h')
 simp only[if_neg h3]at h h'
 refine .neg (by simpa using h3) (.step (λl=>PG l _ _ _ _ _ _) ?_)
 by_cases b:k=5
 .subst b;simp only[show¬(5:Int)=4 by decide,if_false,if_true]at h h';exact .pos rfl (vo 5 nm ks _ _ 1 r h h')
 refine .neg (by simpa using b) ?_
 by_cases h4:k=4
 .subst h4;simp only[if_true]at h h';exact .pos rfl (vo 4 nm ks _ _ 2 r h h')
 .simp only[if_neg h4,if_neg b]at h';rw[h' trivial];exact .neg (by simpa using h4) (.ret _)
end Go.AI
end

section
namespace Go.AI
open Go
theorem kx(n:Nat)(h:n<=4611686018427387904):IntKind.i64.wrap ((n:Int)+1)=((n+1:Nat):Int):=by rw[IntWalk.i64_in _ (by omega)];rfl
theorem su(d n most deep:Nat)(hn:n<=1000000):Ev (λl=>A7 l d n most deep) (decide (n+1<=most)&&decide (d<=deep),((n+1:Nat):Int),(most:Int),(deep:Int)):=by
 refine .step (λl=>V8 l _ _ _ _) ?_
 rw[kx n (by omega)]
 have c:decide (((n+1:Nat):Int)<=(most:Int))=decide (n+1<=most):=by rw[decide_eq_decide];omega
 have b:decide ((d:Int)<=(deep:Int))=decide (d<=deep):=by rw[decide_eq_decide];omega
 rw[c,b];refine .ite (λh=>?_) (λh=>?_)<;>rw[h]<;>exact .ret _
theorem vp(k:Int)(nm:ByteArray)(ks:Rows)(d n:Int)(m:Nat)(r:Bool×Int×Int×Int)(hid:k=3->bF nm=true)(h:jB k nm ks m=true->Ev (λl=>uh l n 16 6 k nm ks d) r)
 (h':jB k nm ks m=false->r=(false,n,16,6)):Ev (λl=>pO l m n 16 6 k nm ks d) r:=by
 refine .step (λl=>PI l _ _ _ _ _ _ _ _) ?_
 rw[Lu]
 unfold jB at h h'
 refine .ite (λh1=>?_) (λh1=>?_)
 .simp only[Bool.not_eq_true']at h1;rw[h' (by rw[h1];rfl)];exact .ret _
 .simp only[Bool.not_eq_false']at h1
  rw[h1,Bool.true_and]at h h'
  rw[lb]
  by_cases hk:k=3
  .rw[if_pos hk]at h;exact .neg (by simpa[bne]using hk) (h (hid hk))
  .rw[if_neg hk]at h h'
   refine .pos (by simpa[bne]using hk) (.ite (λh2=>?_) (λh2=>?_))
   .simp only[Bool.not_eq_true']at h2;rw[h' h2];exact .ret _
   .simp only[Bool.not_eq_false']at h2;exact h h2
theorem Lw(k:Int)(nm:ByteArray)(ks:Rows)(d n:Nat)(w:Bool)(hd:d<=6)(hn:n+1<=16)(r:Bool×Int×Int×Int)(h:nJ k nm ks w=true->Ev (λl=>uh l ((n+1:Nat):Int) 16 6 k nm ks d) r)
 (h':nJ k nm ks w=false->r=(false,((n+1:Nat):Int),16,6)):Ev (λl=>wH l k nm ks d w n 16 6) r:=by
 refine .step (λl=>EW l _ _ _ _ _ _ _ _) (.ask (su d n 16 6 (by omega)) ?_)
 rw[ax hn,ax hd]
 refine .neg rfl ?_
 unfold nJ at h h'
 by_cases h1:k=1
 .subst h1;simp only[if_true]at h h';exact .pos rfl (vp 1 nm ks _ _ 0 r (by simp) h h')
 simp only[if_neg h1]at h h'
 refine .neg (by simpa using h1) ?_
 by_cases h2:k=2
 .subst h2
  simp only[if_true]at h h'
  refine .pos rfl (.ite (λh3=>?_) (λh3=>?_))
  .rw[h' (by rw[h3];rfl)];exact .ret _
  .rw[h3,Bool.not_false,Bool.true_and]at h h';exact vp 2 nm ks _ _ 0 r (by simp) h h'
 simp only[if_neg h2]at h h'
 refine .neg (by simpa using h2) ?_
 by_cases h3:k=3
 .subst h3
  simp only[if_true]at h h'
  refine .pos rfl (.ask (lx nm) (.ite (λh3=>?_) (λh3=>?_)))
  .simp only[Bool.not_eq_true']at h3;rw[h' (by unfold jB;rw[if_pos rfl,h3,Bool.and_false])];exact .ret _
  .simp only[Bool.not_eq_false']at h3;exact vp 3 nm ks _ _ 0 r (λ_=>h3) h h'
 simp only[if_neg h3]at h h'
 refine .neg (by simpa using h3) ?_
 by_cases h4:k=4
 .subst h4;simp only[if_true]at h h';exact .pos rfl (vp 4 nm ks _ _ 2 r (by simp) h h')
 simp only[if_neg h4]at h h'
 refine .neg (by simpa using h4) ?_
 by_cases b:k=5
 .subst b;simp only[if_true]at h h';exact .pos rfl (vp 5 nm ks _ _ 1 r (by simp) h h')
 .simp only[if_neg b]at h';rw[h' trivial];exact .neg (by simpa using b) (.ret _)
def Ot(k:Int)(nm:ByteArray)(ks:Rows)(d n:Nat):Prop:=∃(r m:Int),Ev (λl=>wC l k nm ks d n) r/\Ev (λl=>wH l k nm ks d (decide (1<d)) n 16 6) (decide (0<=r),m,16,6)/\(r=-1\/∃c,mU k nm ks c/\r=((n+c:Nat):Int)/\n+c<=16/\m=r)
theorem H5{k:Int}{nm:ByteArray}{ks:Rows}{d:Nat}(hl:ks.length<=1000)(hd:1<=d)(e:d<=6)(ih:∀r,r∈ks->∀n,n<=16->Ot (gI r 0) (gS r 1) (gD r 2) (d+1) n):∀(j i n:Nat),ks.length-i=j->n<=16->
 ∃(r m x:Int),Ev (λl=>nz l d n i k nm ks) r/\Ev (λl=>zp l ks ks.length i d n 16 6) (x,(d:Int),m,16,6)/\(r=-1/\0<=x\/x=-1/\∃c,qV (ks.drop i) c/\r=((n+c:Nat):Int)/\n+c<=16/\m=r)
 |0,i,n,hj,hn=>⟨n,n,-1,.step (λl=>DE l _ _ _ _ _ _) (.neg (by simp;omega) (.ret _)),.step (λl=>DF l _ _ _ _ _ _ _) (.neg (by simp;omega) (.ret _)),.inr ⟨rfl,0,by rw[List.drop_eq_nil_of_le (by omega)];exact .nil,rfl,hn,rfl⟩⟩
 |j+1,i,n,hj,hn=>by
  have hi:i<ks.length:=by omega
  have hx:=List.getElem?_eq_getElem hi
  obtain⟨r,m,q1,q2,q3⟩:=ih ks[i] (List.getElem_mem hi) n hn
  have hw:=kx d (by omega)
  have b:=kx i (by omega)
  rw[ax (show 1<d+1 by omega)]at q2
  rcases q3 with rfl|⟨c,v,rfl,hc,rfl⟩
  .refine⟨-1,m,i,.step (λl=>DE l _ _ _ _ _ _) (.pos (by simp;omega) (.ae rfl hx (.ask (by rw[hw];exact q1) (.pos rfl (.ret _))))),.step (λl=>DF l _ _ _ _ _ _ _) (.pos (by simp;omega) (.ae rfl hx (.ask (.step (λl=>MC l _ _ _ _ _ _ _) (.ask (by rw[hw];exact q2) (.ret _))) (.pos rfl (.ret _))))),.inl ⟨rfl,by omega⟩⟩
  .obtain⟨r',f,x,p1,p2,p3⟩:=H5 (k:=k) (nm:=nm) hl hd e ih j (i+1) (n+c) (by omega) hc
   have h:decide (0<=((n+c:Nat):Int))=true:=ax (by omega)
   rw[h]at q2
   refine⟨r',f,x,.step (λl=>DE l _ _ _ _ _ _) (.pos (by simp;omega) (.ae rfl hx (.ask (by rw[hw];exact q1) (.neg (by simp;omega) (by rw[b];exact p1))))),.step (λl=>DF l _ _ _ _ _ _ _) (.pos (by simp;omega) (.ae rfl hx (.ask (.step (λl=>MC l _ _ _ _ _ _ _) (.ask (by rw[hw];exact q2) (.ret _))) (.neg rfl (by rw[b];exact p2))))),?_⟩
   rcases p3 with p3|⟨rfl,c',v',rfl,g,rfl⟩
   .exact .inl p3
   .refine .inr ⟨rfl,c+c',?_,by congr 1;omega,by omega,rfl⟩;rw[List.drop_eq_getElem_cons hi];exact .cons v v'
theorem types:∀(W:Nat)(k:Int)(nm:ByteArray)(ks:Rows),cd ks<W->∀d n:Nat,1<=d->d<=7->n<=16->Ot k nm ks d n
 |0,_,_,_,h=>by omega
 |W+1,k,nm,ks,hW=>by
  intro d n hd i hn
  by_cases b:d<=6
  .by_cases f:n+1<=16
   .cases g:nJ k nm ks (decide (1<d))with
    |false=>exact⟨-1,((n+1:Nat):Int),Lv k nm ks d n b f _ (by rw[g];simp) (λ_=>rfl),Lw k nm ks d n _ b f _ (by rw[g];simp) (λ_=>rfl),.inl rfl⟩
    |true=>
     have hlen:ks.length<=2:=by have:=(CO g).2;omega
     obtain⟨r,m,x,q1,q2,q3⟩:=H5 (k:=k) (nm:=nm) (ks:=ks) (d:=d) (by omega) hd b (λr hr n hn=>types W _ _ _ (by have:=ME r 2;have:=vn hr;omega) (d+1) n (by omega) (by omega) hn) _ 0 (n+1) rfl f
     have e:decide (0<=x)=!decide (0<=r):=by
      rcases q3 with⟨rfl,h⟩|⟨rfl,c,_,rfl,_⟩
      .rw[ax h];rfl
      .rw[ax (show(0:Int)<=((n+1+c:Nat):Int)by omega)];rfl
     refine⟨r,m,Lv k nm ks d n b f _ (λ_=>q1) (by rw[g];simp),Lw k nm ks d n _ b f _ (λ_=>?_) (by rw[g];simp),?_⟩
     .refine .step (λl=>PH l _ _ _ _ _ _ _) (.ask (.step (λl=>W6 l _ _ _ _ _) (.ask (.step (λl=>Xc l _ _ _ _ _) q2) (.ret _))) ?_);show Ev (λ_=>some (!decide (0<=x),m,16,6)) _;rw[e,Bool.not_not];exact .ret _
     .rcases q3 with⟨rfl,_⟩|⟨rfl,c,v,rfl,hc,rfl⟩
      .exact .inl rfl
      .exact .inr ⟨c+1,.mk (CO g).1 (CO g).2 (by simpa using v),by congr 1;omega,by omega,rfl⟩
   .refine⟨-1,((n+1:Nat):Int),.step (λl=>EV l _ _ _ _ _) (.neg (by simp;omega) (.pos (by rw[kx n (by omega)];simp;omega) (.ret _))),.step (λl=>EW l _ _ _ _ _ _ _ _) (.ask (su d n 16 6 (by omega)) (.pos (by rw[aH (show¬n+1<=16 by omega)];rfl) (.ret _))),.inl rfl⟩
  .refine⟨-1,((n+1:Nat):Int),.step (λl=>EV l _ _ _ _ _) (.pos (by simp;omega) (.ret _)),.step (λl=>EW l _ _ _ _ _ _ _ _) (.ask (su d n 16 6 (by omega)) (.pos (by rw[aH b,Bool.and_false];rfl) (.ret _))),.inl rfl⟩
theorem Rm(k:Int)(nm:ByteArray)(ks:Rows):∃b,Ev (λl=>qQ l k nm ks) b/\Ev (λl=>qP l k nm ks) b/\(b=true->∃c,mU k nm ks c/\c<=16):=by
 obtain⟨r,m,q1,q2,q3⟩:=types _ k nm ks (Nat.lt_succ_self _) 1 0 (by omega) (by omega) (by omega)
 have hb:decide (r>0)=decide (0<=r):=by
  rcases q3 with rfl|⟨c,v,rfl,_⟩
  .rfl
  .cases v;rw[decide_eq_decide];omega
 refine⟨decide (0<=r),.step (λl=>Ww l _ _ _) (.ask q2 (.ret _)),.step (λl=>Wm l _ _ _) (.ask q1 (by rw[<-hb];exact .ret _)),λh=>?_⟩
 rcases q3 with rfl|⟨c,v,_,hc,_⟩
 .cases h
 .exact⟨c,v,by omega⟩
end Go.AI
end

section
namespace Go.AI
open Go
def fj(op:Int)(kl:Nat):Bool:=match dw op with|none=>false|some none=>!decide (kl=0)|some (some k)=>decide ((kl:Int)=k)
def th(op:Int)(nm:ByteArray):Bool:=if op=20 then jy nm else if uU op=true then bF nm else decide (nm.size=0)
def pf(op N:Int):Bool:=if op=19 then decide (0<=N)&&decide (N<=1000000000)else decide (N=0)
def mL(op tk:Int)(tn:ByteArray)(ts:Rows)(vt:Bool):Bool:=if op=29 then vt&&!decide (tk=2)else vX tk tn ts
def qw(op:Int)(nm:ByteArray)(N tk:Int)(tn:ByteArray)(ts ks:Rows)(vt:Bool):Bool:=fj op ks.length&&(th op nm&&(pf op N&&mL op tk tn ts vt))
theorem G8{op k:Int}(h:dw op=some (some k)):0<=k:=by
 unfold dw at h
 split at h
 .cases h;omega
 .split at h
  .cases h;omega
  .split at h
   .cases h
   .split at h
    .cases h;omega
    .cases h
section
variable {op:Int}{nm:ByteArray}{N tk:Int}{tn:ByteArray}{ts ks:Rows}{vt:Bool}
theorem MF(hv:Ev (λl=>qP l tk tn ts) vt):Ev (λl=>ru l op nm N tk tn ts ks) (mL op tk tn ts vt):=by
 refine .step (λl=>Pu l _ _ _ _ _ _ _) ?_
 unfold mL
 by_cases h:op=29
 .rw[if_pos h]
  refine .pos (by simpa using h) (.ask hv (.ite (λh=>?_) (λh=>?_)))
  .rw[h,Bool.true_and]
   have:(tk !=2)=!decide (tk=2):=by rw[Bool.eq_iff_iff];simp
   rw[<-this];exact .ret _
  .rw[h];exact .ret _
 .rw[if_neg h];exact .neg (by simpa using h) (.ask (Ve _ _ _) (.ret _))
theorem EZ(hv:Ev (λl=>qP l tk tn ts) vt):Ev (λl=>uf l op nm N tk tn ts ks) (pf op N&&mL op tk tn ts vt):=by
 refine .step (λl=>Pv l _ _ _ _ _ _ _) ?_
 unfold pf
 by_cases h:op=19
 .rw[if_pos h]
  refine .pos (by simpa using h) (.ite (λh1=>?_) (λh1=>.ite (λh2=>?_) (λh2=>.neg (by simpa[bne]using h) ?_)))
  .have h1:=dP h1;rw[aH (show¬0<=N by omega)];exact .ret _
  .have h2:=dP h2;rw[aH (show¬N<=1000000000 by omega),Bool.and_false];exact .ret _
  .have h1:=of_decide_eq_false h1;have h2:=of_decide_eq_false h2;rw[ax (show 0<=N by omega),ax (show N<=1000000000 by omega)];exact MF hv
 .rw[if_neg h]
  refine .neg (by simpa using h) (.pos (by simpa[bne]using h) (.ite (λh1=>?_) (λh1=>?_)))
  .have h1:¬N=0:=by simpa[bne]using h1
   rw[aH h1];exact .ret _
  .have h1:N=0:=by simpa[bne]using h1
   rw[ax h1];exact MF hv
theorem Lx(hs:Fits nm)(hv:Ev (λl=>qP l tk tn ts) vt):Ev (λl=>ry l op nm N tk tn ts ks) (th op nm&&(pf op N&&mL op tk tn ts vt)):=by
 refine .step (λl=>Px l _ _ _ _ _ _ _) ?_
 unfold th
 by_cases h:op=20
 .rw[if_pos h]
  refine .pos (by simpa using h) (.ask (Km nm hs) (.ite (λh1=>?_) (λh1=>?_)))
  .simp only[Bool.not_eq_true']at h1;rw[h1];exact .ret _
  .simp only[Bool.not_eq_false']at h1;rw[h1];exact EZ hv
 .rw[if_neg h]
  refine .neg (by simpa using h) (.ask (Si op) (.ite (λh0=>?_) (λh0=>?_)))
  .rw[if_pos h0]
   refine .ask (yM nm) (.ite (λh1=>?_) (λh1=>?_))
   .simp only[Bool.not_eq_true']at h1;rw[h1];exact .ret _
   .simp only[Bool.not_eq_false']at h1;rw[h1];exact EZ hv
  .rw[if_neg (by rw[h0];simp),lb]
   refine .ite (λh1=>?_) (λh1=>?_)
   .simp only[Bool.not_eq_true']at h1;rw[h1];exact .ret _
   .simp only[Bool.not_eq_false']at h1;rw[h1];exact EZ hv
theorem Vf(hs:Fits nm)(hv:Ev (λl=>qP l tk tn ts) vt):Ev (λl=>Fq l op nm N tk tn ts ks) (qw op nm N tk tn ts ks vt):=by
 refine .step (λl=>V7 l _ _ _ _ _ _ _) (.ask (Vc op) ?_)
 unfold qw fj vW
 cases hk:dw op with
 |none=>exact .pos rfl (.ret _)
 |some o=>
  cases o with
  |none=>
   refine .neg rfl (.pos rfl (.ite (λh=>?_) (λh=>.neg rfl ?_)))
   .have h:ks.length=0:=by simpa using h
    rw[h];exact .ret _
   .have h:¬ks.length=0:=by simpa using h
    simp only[aH h,Bool.not_false,Bool.true_and];exact Lx hs hv
  |some k=>
   have b:=G8 hk
   have e:(pC (some (some k))==-2)=false:=by show(k==-2)=false;rw[beq_eq_false_iff_ne];omega
   have c:(pC (some (some k))==-1)=false:=by show(k==-1)=false;rw[beq_eq_false_iff_ne];omega
   refine .neg e (.neg c (.pos (ax (show k>=0 from b)) (.ite (λh=>?_) (λh=>?_))))
   .have h:¬(ks.length:Int)=k:=by simpa[bne,pC]using h
    simp only[aH h,Bool.false_and];exact .ret _
   .have h:(ks.length:Int)=k:=by simpa[bne,pC]using h
    simp only[ax h,Bool.true_and];exact Lx hs hv
theorem vZ(b:Bool)(hv:Ev (λl=>qQ l tk tn ts) vt):Ev (λl=>pL l b op nm N tk tn ts ks) (b&&mL op tk tn ts vt):=by
 refine .step (λl=>Py l _ _ _ _ _ _ _ _) ?_
 unfold mL
 by_cases h:op=29
 .rw[if_pos h]
  refine .pos (by simpa using h) (.ite (λh=>?_) (λh=>?_))
  .rw[h,Bool.true_and]
   have:(tk !=2)=!decide (tk=2):=by rw[Bool.eq_iff_iff];simp
   rw[this]
   refine .ite (λh=>?_) (λh=>?_)
   .rw[h,Bool.and_true];exact .ask hv (.ret _)
   .rw[h,Bool.and_false];exact .ret _
  .rw[h];exact .ret _
 .rw[if_neg h]
  refine .neg (by simpa using h) (.ite (λh=>?_) (λh=>?_))
  .rw[h,Bool.true_and];exact .ask (Vd _ _ _) (.ret _)
  .rw[h];exact .ret _
theorem E0(b:Bool)(hv:Ev (λl=>qQ l tk tn ts) vt):Ev (λl=>ug l b op nm N tk tn ts ks) (b&&(pf op N&&mL op tk tn ts vt)):=by
 refine .step (λl=>Pz l _ _ _ _ _ _ _ _) ?_
 unfold pf
 by_cases h:op=19
 .rw[if_pos h]
  refine .pos (by simpa using h) (.ite (λh0=>.ite (λh1=>?_) (λh1=>?_)) (λh0=>?_))
  .rw[h0,Bool.true_and,show decide (0<=N)=true from h1,Bool.true_and];exact vZ _ hv
  .rw[show decide (0<=N)=false from h1,Bool.false_and,h0,Bool.true_and];exact vZ _ hv
  .rw[h0,Bool.false_and];exact vZ _ hv
 .rw[if_neg h]
  have e:(N==0)=decide (N=0):=by rw[Bool.eq_iff_iff];simp
  rw[e]
  refine .neg (by simpa using h) (.ite (λh0=>?_) (λh0=>?_))
  .rw[h0,Bool.true_and];exact vZ _ hv
  .rw[h0,Bool.false_and];exact vZ _ hv
theorem Ly(hs:Fits nm)(hv:Ev (λl=>qQ l tk tn ts) vt):Ev (λl=>rz l op nm N tk tn ts ks) (th op nm&&(pf op N&&mL op tk tn ts vt)):=by
 refine .step (λl=>PA l _ _ _ _ _ _ _) ?_
 unfold th
 by_cases h:op=20
 .rw[if_pos h];exact .pos (by simpa using h) (.ask (TI nm hs) (E0 _ hv))
 .rw[if_neg h]
  refine .neg (by simpa using h) (.ask (Sg op) (.ite (λh0=>?_) (λh0=>?_)))
  .rw[if_pos h0];exact .ask (lx nm) (E0 _ hv)
  .rw[if_neg (by rw[h0];simp),lb];exact E0 _ hv
theorem Vg(hs:Fits nm)(hv:Ev (λl=>qQ l tk tn ts) vt):Ev (λl=>Fs l op nm N tk tn ts ks) (qw op nm N tk tn ts ks vt):=by
 refine .step (λl=>V9 l _ _ _ _ _ _ _) (.ask (Vb op) ?_)
 unfold qw fj vS vV
 cases hk:dw op with
 |none=>exact .pos rfl (.pos rfl (.ret _))
 |some o=>
  refine .neg rfl ?_
  cases o with
  |none=>
   refine .pos rfl (.ite (λh=>.pos h ?_) (λh=>.step (λl=>GQ l _ _ _ _ _ _ _ _) (.neg rfl ?_)))
   .have h:ks.length=0:=by simpa using h
    rw[h];exact .ret _
   .have h:¬ks.length=0:=by simpa using h
    simp only[aH h,Bool.not_false,Bool.true_and];exact Ly hs hv
  |some k=>
   have b:=G8 hk
   have e:(pB (some (some k))==-1)=false:=by show(k==-1)=false;rw[beq_eq_false_iff_ne];omega
   have c:(pB (some (some k))!=-1)=true:=by show(k !=-1)=true;rw[bne_iff_ne];omega
   refine .neg e (.step (λl=>GQ l _ _ _ _ _ _ _ _) (.pos c (.ite (λh=>?_) (λh=>?_))))
   .have h:¬(ks.length:Int)=k:=by simpa[bne,pB]using h
    simp only[aH h,Bool.false_and];exact .ret _
   .have h:(ks.length:Int)=k:=by simpa[bne,pB]using h
    simp only[ax h,Bool.true_and];exact Ly hs hv
end
end Go.AI
end

section
namespace Go.AI
open Go
structure Lz(op:Int)(nm:ByteArray)(N tk:Int)(tn:ByteArray)(ts:Rows)(kl:Nat):Prop where
 ar:fj op kl=true
 nm:nm.size<=17
 num:0<=N/\N<=1000000000
 ty:op=29->∃c,mU tk tn ts c/\c<=16
mutual
inductive VT:Int->ByteArray->Int->Int->ByteArray->Rows->Rows->Nat->Prop|mk{op:Int}{nm:ByteArray}{N tk:Int}{tn:ByteArray}{ts ks:Rows}{c:Nat}:Lz op nm N tk tn ts ks.length->pD ks c->VT op nm N tk tn ts ks (c+1)inductive pD:Rows->Nat->Prop|nil:pD [] 0|cons{r:List AV}{rs:Rows}{c d:Nat}:VT (gI r 0) (gS r 1) (gI r 2) (gI r 3) (gS r 4) (gD r 5) (gD r 6) c->pD rs d->pD (r::rs) (c+d)end
theorem QJ{s:ByteArray}(h:jy s=true):s.size<=17:=by
 unfold jy at h
 rw[Bool.or_eq_true]at h
 rcases h with h|h
 .have:=xC h;omega
 .unfold eK at h
  rw[aX]at h
  have:=xC h.2
  have e:(kQ s).size=s.size-1:=by rw[<-bV,CM,List.length_dropLast,bV]
  omega
theorem Sj{op:Int}{nm:ByteArray}{N tk:Int}{tn:ByteArray}{ts ks:Rows}{vt:Bool}(hv:vt=true->∃c,mU tk tn ts c/\c<=16)(h:qw op nm N tk tn ts ks vt=true):Lz op nm N tk tn ts ks.length:=by
 unfold qw at h
 rw[aX,aX,aX]at h
 obtain⟨h1,h2,h3,h4⟩:=h
 refine⟨h1,?_,?_,λe=>?_⟩
 .unfold th at h2
  split at h2
  .exact QJ h2
  .split at h2
   .have:=xC h2;omega
   .rw[decide_eq_true_eq]at h2;omega
 .unfold pf at h3
  split at h3
  .rw[aX,decide_eq_true_eq,decide_eq_true_eq]at h3;exact h3
  .rw[decide_eq_true_eq]at h3;omega
 .unfold mL at h4;rw[if_pos e,aX]at h4;exact hv h4.1
def Ou(op:Int)(nm:ByteArray)(N tk:Int)(tn:ByteArray)(ts ks:Rows)(d n:Nat):Prop:=∃(r m:Int),Ev (λl=>BN l op nm N tk tn ts ks d n) r/\Ev (λl=>A2 l op nm N tk tn ts ks d n 2000 64) (decide (0<=r),m,2000,64)/\(r=-1\/∃c,VT op nm N tk tn ts ks c/\r=((n+c:Nat):Int)/\n+c<=2000/\m=r)
theorem H6{op:Int}{nm:ByteArray}{N tk:Int}{tn:ByteArray}{ts ks:Rows}{d:Nat}(hl:ks.length<=4611686018427387904)(e:d<=64)(ih:∀r,r∈ks->∀n,n<=2000->Ou (gI r 0) (gS r 1) (gI r 2) (gI r 3) (gS r 4) (gD r 5) (gD r 6) (d+1) n):∀(j i n:Nat),ks.length-i=j->n<=2000->
 ∃(r m x:Int),Ev (λl=>Ad l d n i op nm N tk tn ts ks) r/\Ev (λl=>zf l ks ks.length i d n 2000 64) (x,(d:Int),m,2000,64)/\(r=-1/\0<=x\/x=-1/\∃c,pD (ks.drop i) c/\r=((n+c:Nat):Int)/\n+c<=2000/\m=r)
 |0,i,n,hj,hn=>⟨n,n,-1,.step (λl=>En l _ _ _ _ _ _ _ _ _ _) (.neg (by simp;omega) (.ret _)),.step (λl=>DC l _ _ _ _ _ _ _) (.neg (by simp;omega) (.ret _)),.inr ⟨rfl,0,by rw[List.drop_eq_nil_of_le (by omega)];exact .nil,rfl,hn,rfl⟩⟩
 |j+1,i,n,hj,hn=>by
  have hi:i<ks.length:=by omega
  have hx:=List.getElem?_eq_getElem hi
  obtain⟨r,m,q1,q2,q3⟩:=ih ks[i] (List.getElem_mem hi) n hn
  have hw:=kx d (by omega)
  have b:=kx i (by omega)
  rcases q3 with rfl|⟨c,v,rfl,hc,rfl⟩
  .refine⟨-1,m,i,.step (λl=>En l _ _ _ _ _ _ _ _ _ _) (.pos (by simp;omega) (.ae rfl hx (.ask (by rw[hw];exact q1) (.pos rfl (.ret _))))),.step (λl=>DC l _ _ _ _ _ _ _) (.pos (by simp;omega) (.ae rfl hx (.ask (.step (λl=>MB l _ _ _ _ _ _ _ _ _ _ _) (.ask (by rw[hw];exact q2) (.ret _))) (.pos rfl (.ret _))))),.inl ⟨rfl,by omega⟩⟩
  .obtain⟨r',f,x,p1,p2,p3⟩:=H6 (op:=op) (nm:=nm) (N:=N) (tk:=tk) (tn:=tn) (ts:=ts) hl e ih j (i+1) (n+c) (by omega) hc
   have h:decide (0<=((n+c:Nat):Int))=true:=ax (by omega)
   rw[h]at q2
   refine⟨r',f,x,.step (λl=>En l _ _ _ _ _ _ _ _ _ _) (.pos (by simp;omega) (.ae rfl hx (.ask (by rw[hw];exact q1) (.neg (by simp;omega) (by rw[b];exact p1))))),.step (λl=>DC l _ _ _ _ _ _ _) (.pos (by simp;omega) (.ae rfl hx (.ask (.step (λl=>MB l _ _ _ _ _ _ _ _ _ _ _) (.ask (by rw[hw];exact q2) (.ret _))) (.neg rfl (by rw[b];exact p2))))),?_⟩
   rcases p3 with p3|⟨rfl,c',v',rfl,g,rfl⟩
   .exact .inl p3
   .refine .inr ⟨rfl,c+c',?_,by congr 1;omega,by omega,rfl⟩;rw[List.drop_eq_getElem_cons hi];exact .cons v v'
theorem Au:∀(W:Nat)(op:Int)(nm:ByteArray)(N tk:Int)(tn:ByteArray)(ts ks:Rows),cd ks<W->W<=4611686018427387904->Fits nm->∀d n:Nat,d<=65->n<=2000->Ou op nm N tk tn ts ks d n
 |0,_,_,_,_,_,_,_,h,_,_=>by omega
 |W+1,op,nm,N,tk,tn,ts,ks,hW,hB,hf=>by
  intro d n p hn
  by_cases f:d<=64
  .by_cases g:n+1<=2000
   .obtain⟨vt,o,k,j⟩:=Rm tk tn ts
    have hr:=Vf (op:=op) (N:=N) (ks:=ks) hf k
    have hp:=Vg (op:=op) (N:=N) (ks:=ks) hf o
    have hw:=kx n (by omega)
    have b:=su d n 2000 64 (by omega)
    rw[ax g,ax f]at b
    cases i:qw op nm N tk tn ts ks vt with
    |false=>rw[i]at hr hp;exact⟨-1,((n+1:Nat):Int),.step (λl=>Bj l _ _ _ _ _ _ _ _ _) (.neg (by simp;omega) (by rw[hw];exact .neg (by simp;omega) (.ask hr (.pos rfl (.ret _))))),.step (λl=>Ar l _ _ _ _ _ _ _ _ _ _ _) (.ask b (.neg rfl (.ask hp (.pos rfl (.ret _))))),.inl rfl⟩
    |true=>
     rw[i]at hr hp
     have hlen:=qm ks
     obtain⟨r,m,x,q1,q2,q3⟩:=H6 (op:=op) (nm:=nm) (N:=N) (tk:=tk) (tn:=tn) (ts:=ts) (ks:=ks) (d:=d) (by omega) f (λr hr n hn=>Au W _ _ _ _ _ _ _ (by have:=ME r 6;have:=vn hr;omega) (by omega) (by have:=Xg r 1;have:=vn hr;unfold Fits;omega) (d+1) n (by omega) hn) _ 0 (n+1) rfl g
     have e:decide (0<=x)=!decide (0<=r):=by
      rcases q3 with⟨rfl,h⟩|⟨rfl,c,_,rfl,_⟩
      .rw[ax h];rfl
      .rw[ax (show(0:Int)<=((n+1+c:Nat):Int)by omega)];rfl
     refine⟨r,m,.step (λl=>Bj l _ _ _ _ _ _ _ _ _) (.neg (by simp;omega) (by rw[hw];exact .neg (by simp;omega) (.ask hr (.neg rfl q1)))),.step (λl=>Ar l _ _ _ _ _ _ _ _ _ _ _) (.ask b (.neg rfl (.ask hp (.neg rfl (.ask (.step (λl=>XY l _ _ _ _ _) (.ask (.step (λl=>Wz l _ _ _ _ _) q2) (.ret _))) ?_))))),?_⟩
     .show Ev (λ_=>some (!decide (0<=x),m,2000,64)) _;rw[e,Bool.not_not];exact .ret _
     .rcases q3 with⟨rfl,_⟩|⟨rfl,c,v,rfl,hc,rfl⟩
      .exact .inl rfl
      .exact .inr ⟨c+1,.mk (Sj j i) (by simpa using v),by congr 1;omega,by omega,rfl⟩
   .refine⟨-1,((n+1:Nat):Int),.step (λl=>Bj l _ _ _ _ _ _ _ _ _) (.neg (by simp;omega) (.pos (by rw[kx n (by omega)];simp;omega) (.ret _))),.step (λl=>Ar l _ _ _ _ _ _ _ _ _ _ _) (.ask (su d n 2000 64 (by omega)) (.pos (by rw[aH (show¬n+1<=2000 by omega)];rfl) (.ret _))),.inl rfl⟩
  .refine⟨-1,((n+1:Nat):Int),.step (λl=>Bj l _ _ _ _ _ _ _ _ _) (.pos (by simp;omega) (.ret _)),.step (λl=>Ar l _ _ _ _ _ _ _ _ _ _ _) (.ask (su d n 2000 64 (by omega)) (.pos (by rw[aH f,Bool.and_false];rfl) (.ret _))),.inl rfl⟩
theorem H7(op:Int)(nm:ByteArray)(N tk:Int)(tn:ByteArray)(ts ks:Rows)(hk:cd ks<4611686018427387904)(hn:Fits nm):
 ∃b,Ev (λl=>tR l op nm N tk tn ts ks) b/\Ev (λl=>BK l op nm N tk tn ts ks) b/\(b=true->∃c,VT op nm N tk tn ts ks c/\c<=2000):=by
 obtain⟨r,m,q1,q2,q3⟩:=Au _ op nm N tk tn ts ks (Nat.lt_succ_self _) (by omega) hn 1 0 (by omega) (by omega)
 have hb:decide (r>0)=decide (0<=r):=by
  rcases q3 with rfl|⟨c,v,rfl,_⟩
  .rfl
  .cases v;rw[decide_eq_decide];omega
 refine⟨decide (0<=r),.step (λl=>XN l _ _ _ _ _ _ _) (.ask q2 (.ret _)),.step (λl=>XM l _ _ _ _ _ _ _) (.ask q1 (by rw[<-hb];exact .ret _)),λh=>?_⟩
 rcases q3 with rfl|⟨c,v,_,hc,_⟩
 .cases h
 .exact⟨c,v,by omega⟩
end Go.AI
end
