/-
  A part of the proof: Q4 Q5 Q6 Q7 Q8 Q9 Q10 Q11 Q12.
-/
import Derived.Test.YtidicphjlgjajaaGreatDoorQa
import Derived.Test.YtidicphjlgjajaaGreatDoorPa
set_option linter.all false

section
namespace Go.AI
open Go
abbrev TM:=Int×ByteArray×Int×Int×ByteArray×Rows×Rows
abbrev av(a:TM):List AV:=bf a
def nd(o:Int)(ks:Rows):TM:=(o,bs [],0,0,bs [],[],ks)
def nm(o:Int)(x:ByteArray)(ks:Rows):TM:=(o,x,0,0,bs [],[],ks)
abbrev AO(α:Type):=Option (Option (α×Tk×Int))
def bd{α β:Type}(x:AO α)(k:α->Tk->Int->AO β):AO β:=match x with|none=>none|some none=>some none|some (some (a,t,d))=>k a t d
def ok{α:Type}(a:α)(t:Tk)(d:Int):AO α:=some (some (a,t,d))
def no{α:Type}:AO α:=some none
def aM(t:Tk)(b:List UInt8):Bool:=(t.k==4||t.k==2)&&decide (t.x=bs b)
def jj(x:ByteArray):Bool:=decide (x=bs [40])||decide (x=bs [91])||decide (x=bs [123])
def jk(x:ByteArray):Bool:=decide (x=bs [41])||decide (x=bs [93])||decide (x=bs [125])
def gi:List (List UInt8×Nat×Int):=[([60,61,62],1,7),([61,62],2,6),([111,114],3,5),([38],4,4),([124,45,62],8,27),([46,46],10,30),([43],11,22),([45],11,23),([42],12,24),([47],12,25),([109,111,100],12,26),([61],6,10),([47,61],6,11),([60],6,12),([60,61],6,13),([62],6,14),([62,61],6,15),([105,110],6,16),([110,111,116,105,110],6,17),([115,117,98],6,18),([60,45,62],7,41),([43,45,62],7,42),([45,45,62],7,43),([62,45,62],7,44),([62,45,62,62],7,45),([92,47],9,31),([47,92],9,32),([92],9,33),([62,60],9,34),([60,43],9,35),([59],9,36),([60,124],9,37),([60,60,124],9,38),([124,62],9,39),([124,62,62],9,40)]
def cM:List (List UInt8×Nat×Int)->List UInt8->Nat×Int|[],_=>(0,0)|(x,r)::l,w=>match decide (w=x)with|true=>r|false=>cM l w
def dk(l:Nat)(t:Tk):Int:=match(t.k==4||t.k==2)&&decide ((cM gi t.x.data.toList).1=l)with|true=>(cM gi t.x.data.toList).2|false=>0
def nV(l:Nat):Bool:=decide (l=3\/l=4\/l=8\/l=9\/l=11\/l=12)
def fU:List (List UInt8):=[[80,79,87],[99,97,114,100],[109,105,110],[109,97,120],[100,111,109],[114,97,110]]
def lN:List (List UInt8)->Int->List UInt8->Int|[],_,_=>0|x::l,n,w=>match decide (w=x)with|true=>n|false=>lN l (n+1) w
def gX(x:ByteArray):Int:=lN fU 46 x.data.toList
inductive jl where|T(l:Nat)|M(a:TM)(l:Nat)|F(a:TM)|A|B|E(acc:Rows)|Y|N(o:Int)
section
variable (s:ByteArray)
def bI(t:Tk)(d:Int):AO Unit:=match(aJ s t.e).k==5 with|true=>no|false=>ok () (aJ s t.e) d
def bz(t:Tk)(d:Int):AO Unit:=match jj t.x,jk t.x with|true,_=>(match decide (64<=d)with|true=>no|false=>bI s t (d+1))|false,true=>bI s t (d-1)|false,false=>bI s t d
def cD(b:List UInt8)(t:Tk)(d:Int):AO Unit:=match aM t b with|true=>bz s t d|false=>no
def kq(t:Tk)(d:Int):AO ByteArray:=match t.k==1&&bF t.x with|true=>bd (bz s t d) λ_ t' d'=>ok t.x t' d'|false=>no
def mM(t:Tk):Bool:=(aJ s t.e).k==2&&decide ((aJ s t.e).x=bs [105,110])
def sp:Nat->jl->Tk->Int->AO TM
 |0,_,_,_=>none
 |f+1,.T l,t,d=>match l with|5=>(match aM t [110,111,116]with|true=>bd (bz s t d) λ_ t d=>bd (sp f (.T 5) t d) λa t d=>ok (nd 3 [av a]) t d|false=>sp f (.T 6) t d)|13=>(match aM t [45]with|true=>bd (bz s t d) λ_ t d=>bd (sp f (.T 13) t d) λa t d=>ok (nd 21 [av a]) t d|false=>bd (sp f .A t d) λa t d=>sp f (.F a) t d)|l=>bd (sp f (.T (l+1)) t d) λa t d=>sp f (.M a l) t d
 |f+1,.M a l,t,d=>match dk l t==0 with|true=>ok a t d|false=>bd (bz s t d) λ_ t' d'=>bd (sp f (.T (if l=2 then 2 else l+1)) t' d') λb t' d'=>match nV l with|true=>sp f (.M (nd (dk l t) [av a,av b]) l) t' d'|false=>ok (nd (dk l t) [av a,av b]) t' d'
 |f+1,.F a,t,d=>match aM t [40],aM t [91],aM t [126]with|true,_,_=>bd (bz s t d) λ_ t d=>bd (sp f (.T 1) t d) λb t d=>bd (cD s [41] t d) λ_ t d=>sp f (.F (nd 54 [av a,av b])) t d|false,true,_=>bd (bz s t d) λ_ t d=>bd (sp f (.T 1) t d) λb t d=>bd (cD s [93] t d) λ_ t d=>sp f (.F (nd 53 [av a,av b])) t d|false,false,true=>bd (bz s t d) λ_ t d=>sp f (.F (nd 52 [av a])) t d|false,false,false=>ok a t d
 |f+1,.A,t,d=>match t.k==1,t.k==3 with|true,_=>bd (bz s t d) λ_ t' d'=>ok (nm 20 t.x []) t' d'|false,true=>bd (bz s t d) λ_ t' d'=>ok (19,bs [],t.v,0,bs [],[],[]) t' d'|false,false=>match aM t [116,114,117,101],aM t [102,97,108,115,101],aM t [40],aM t [123]with|true,_,_,_=>bd (bz s t d) λ_ t d=>ok (nd 1 []) t d|_,true,_,_=>bd (bz s t d) λ_ t d=>ok (nd 2 []) t d|_,_,true,_=>bd (bz s t d) λ_ t d=>bd (sp f (.T 1) t d) λa t d=>bd (cD s [41] t d) λ_ t d=>ok a t d|_,_,_,true=>bd (bz s t d) λ_ t d=>sp f .B t d|_,_,_,_=>match aM t [102,111,114,97,108,108],aM t [101,120,105,115,116,115],aM t [102,117,110],t.k==2&&decide (0<gX t.x)with|true,_,_,_=>bd (bz s t d) λ_ t d=>sp f (.N 8) t d|_,true,_,_=>bd (bz s t d) λ_ t d=>sp f (.N 9) t d|_,_,true,_=>bd (bz s t d) λ_ t d=>sp f (.N 56) t d|_,_,_,true=>bd (bz s t d) λ_ t' d'=>bd (cD s [40] t' d') λ_ t' d'=>bd (sp f (.T 1) t' d') λa t' d'=>bd (cD s [41] t' d') λ_ t' d'=>ok (nd (gX t.x) [av a]) t' d'|_,_,_,_=>no
 |f+1,.B,t,d=>match aM t [125]with
  |true=>bd (bz s t d) λ_ t d=>bd (cD s [91] t d) λ_ t d=>bd (sp f .Y t d) λa t d=>bd (cD s [93] t d) λ_ t d=>ok (29,bs [],0,a.1,a.2.1,a.2.2.2.2.2.2,[]) t d
  |false=>match t.k==1&&bF t.x&&mM s t with
   |true=>bd (bz s t d) λ_ t' d'=>bd (bz s t' d') λ_ t' d'=>bd (sp f (.T 7) t' d') λa t' d'=>match aM t' [124]with|true=>bd (bz s t' d') λ_ t' d'=>bd (sp f (.T 1) t' d') λb t' d'=>bd (cD s [125] t' d') λ_ t' d'=>ok (nm 55 t.x [av a,av b]) t' d'|false=>bd (sp f (.M (nd 16 [av (nm 20 t.x []),av a]) 4) t' d') λa t d=>bd (sp f (.M a 3) t d) λa t d=>bd (sp f (.M a 2) t d) λa t d=>bd (sp f (.M a 1) t d) λa t d=>sp f (.E [av a]) t d
   |false=>bd (sp f (.T 1) t d) λa t d=>sp f (.E [av a]) t d
 |f+1,.E acc,t,d=>match aM t [44]with|true=>bd (bz s t d) λ_ t d=>bd (sp f (.T 1) t d) λa t d=>sp f (.E (acc++[av a])) t d|false=>bd (cD s [125] t d) λ_ t d=>ok (nd 28 acc) t d
 |f+1,.Y,t,d=>match t.k==1&&bF t.x with|true=>bd (bz s t d) λ_ t' d'=>ok (nm 3 t.x []) t' d'|false=>match aM t [105,110,116],aM t [115,101,116],aM t [112,97,105,114]with|true,_,_=>bd (bz s t d) λ_ t d=>ok (nd 1 []) t d|_,true,_=>bd (bz s t d) λ_ t d=>bd (cD s [40] t d) λ_ t d=>bd (sp f .Y t d) λa t d=>bd (cD s [41] t d) λ_ t d=>ok (nd 5 [gU (a.1,a.2.1,a.2.2.2.2.2.2)]) t d|_,_,true=>bd (bz s t d) λ_ t d=>bd (cD s [40] t d) λ_ t d=>bd (sp f .Y t d) λa t d=>bd (cD s [44] t d) λ_ t d=>bd (sp f .Y t d) λb t d=>bd (cD s [41] t d) λ_ t d=>ok (nd 4 [gU (a.1,a.2.1,a.2.2.2.2.2.2),gU (b.1,b.2.1,b.2.2.2.2.2.2)]) t d|_,_,_=>no
 |f+1,.N o,t,d=>bd (kq s t d) λx t d=>bd (cD s [105,110] t d) λ_ t d=>bd (sp f (.T 7) t d) λa t d=>bd (cD s [46] t d) λ_ t d=>bd (sp f (.T 1) t d) λb t d=>ok (nm o x [av a,av b]) t d
def mu(t:Tk):Int:=2*((s.size:Int)-t.e)+(if t.k=0 then 0 else 1)
structure aT(t:Tk)(d:Int):Prop where
 tk:∃i,i<=s.size/\t=aJ s i
 k:t.k≠5
 lo:mu s t-2*s.size-1<=d
 hi:d<=64
variable {s:ByteArray}{α β:Type}
theorem aT.ok{t:Tk}{d:Int}(h:aT s t d):∃i,pg s i t:=by obtain⟨i,h1,rfl⟩:=h.tk;exact⟨i,qe h1⟩
theorem aT.e{t:Tk}{d:Int}(h:aT s t d):t.e<=s.size:=let⟨_,h⟩:=h.ok;h.e
theorem v8{t:Tk}{d:Int}(h:aT s t d):0<=mu s t:=by have:=h.e;unfold mu;split<;>omega
theorem kK{t:Tk}{b:List UInt8}(h:aM t b=true):t.k≠0:=by simp only[aM,aX,Bool.or_eq_true,beq_iff_eq]at h;omega
theorem mN{t:Tk}{c:Int}{b:Bool}(h:(t.k==c&&b)=true)(hc:c≠0):t.k≠0:=by simp only[aX,beq_iff_eq]at h;omega
theorem mn{t:Tk}{l:Nat}(h:(dk l t==0)=false):t.k≠0:=by intro e;unfold dk at h;rw[e]at h;cases h
def Inv(x:AO α)(Q:Tk->Int->Prop):Prop:=∀a t d,x=some (some (a,t,d))->Q t d
theorem Inv.no{Q:Tk->Int->Prop}:Inv (no:AO α) Q:=λ_ _ _ e=>by cases e
theorem Inv.ok{Q:Tk->Int->Prop}{a:α}{t:Tk}{d:Int}(h:Q t d):Inv (Go.AI.ok a t d) Q:=λ_ _ _ e=>by cases e;exact h
theorem Inv.bd{Q b:Tk->Int->Prop}{x:AO α}{k:α->Tk->Int->AO β}(h1:Inv x Q)(h2:∀a t d,Q t d->Inv (k a t d) b):Inv (Go.AI.bd x k) b:=λa t d e=>by
 unfold Go.AI.bd at e
 split at e
 .cases e
 .cases e
 .exact h2 _ _ _ (h1 _ _ _ rfl) _ _ _ e
theorem DO{t:Tk}{d d':Int}(h:aT s t d)(h1:d'<=64)(h2:d-1<=d')(h3:d'<d->t.k≠0):Inv (bI s t d') λt' d'=>aT s t' d'/\mu s t'<=mu s t/\(t.k≠0->mu s t'<mu s t):=by
 unfold bI
 split
 .exact .no
 .rename_i hk
  have hk:(aJ s t.e).k≠5:=by simpa using hk
  have b:=h.e
  have ho:=qe b
  have g:=ho.e
  have c:=ho.go
  have h0:t.e<=(aJ s t.e).e:=by
   by_cases e:(aJ s t.e).k=0
   .have:(aJ s t.e).e=s.size:=by exact ho.en e
    omega
   .have:=c e hk;omega
  have hm:mu s (aJ s t.e)<=mu s t/\(t.k≠0->mu s (aJ s t.e)<mu s t):=by
   unfold mu
   by_cases e:(aJ s t.e).k=0
   .rw[if_pos e]
    constructor
    .split<;>omega
    .intro f;rw[if_neg f];omega
   .have:=c e hk
    rw[if_neg e]
    constructor
    .split<;>omega
    .intro _;split<;>omega
  refine .ok ⟨⟨⟨t.e,b,rfl⟩,hk,?_,h1⟩,hm⟩
  have:=h.lo
  by_cases e:d'<d
  .have:=hm.2 (h3 e);omega
  .omega
end
end Go.AI
end

section
namespace Go.AI
open Go
section
variable {s:ByteArray}{α β:Type}
theorem Xl{t:Tk}{d:Int}(h:aT s t d)(hc:jk t.x=true):t.k≠0:=by obtain⟨i,hk⟩:=h.ok;intro e;rw[hk.nd e]at hc;exact absurd hc (by decide)
def Nx(s:ByteArray)(t:Tk)(t':Tk)(d':Int):Prop:=aT s t' d'/\mu s t'<=mu s t/\(t.k≠0->mu s t'<mu s t)
def Nl(s:ByteArray)(t:Tk)(t':Tk)(d':Int):Prop:=aT s t' d'/\mu s t'<mu s t
def Ne(s:ByteArray)(t:Tk)(t':Tk)(d':Int):Prop:=aT s t' d'/\mu s t'<=mu s t
theorem ly{t:Tk}{d:Int}(h:aT s t d):Inv (bz s t d) (Nx s t):=by
 unfold bz
 split
 .split
  .exact .no
  .rename_i h1;have:=of_decide_eq_false h1;exact DO h (by omega) (by omega) (λe=>by omega)
 .rename_i _ hc;exact DO h (by have:=h.hi;omega) (by omega) (λ_=>Xl h hc)
 .exact DO h h.hi (by omega) (λe=>by omega)
theorem sR{t:Tk}{d:Int}(h:aT s t d)(hk:t.k≠0):Inv (bz s t d) (Nl s t):=λa t d e=>⟨(ly h a t d e).1,(ly h a t d e).2.2 hk⟩
theorem gq{t:Tk}{d:Int}{b:List UInt8}(h:aT s t d):Inv (cD s b t d) (Nl s t):=by
 unfold cD
 split
 .rename_i hb;exact sR h (kK hb)
 .exact .no
theorem yQ{t:Tk}{d:Int}(h:aT s t d):Inv (kq s t d) (Nl s t):=by
 unfold kq
 split
 .rename_i hb;exact .bd (sR h (mN hb (by decide))) λ_ t' d' h'=>.ok h'
 .exact .no
theorem Inv.le{x:AO α}{t t0:Tk}(h:Inv x (Nl s t))(hl:mu s t<=mu s t0):Inv x (Ne s t0):=λa t d e=>⟨(h a t d e).1,by have:=(h a t d e).2;omega⟩
theorem Inv.ne{x:AO α}{t t0:Tk}(h:Inv x (Ne s t))(hl:mu s t<=mu s t0):Inv x (Ne s t0):=λa t d e=>⟨(h a t d e).1,by have:=(h a t d e).2;omega⟩
theorem Inv.nx{x:AO α}{t t0:Tk}(h:Inv x (Nx s t))(hl:mu s t<=mu s t0):Inv x (Ne s t0):=λa t d e=>⟨(h a t d e).1,by have:=(h a t d e).2.1;omega⟩
theorem eT:∀(f:Nat)(c:jl)(t0 t:Tk)(d:Int),aT s t d->mu s t<=mu s t0->Inv (sp s f c t d) (Ne s t0)|0,_,_,_,_,_,_=>λ_ _ _ e=>by cases e|f+1,c,t0,t,d,h,hl=>by have ih:=eT f;cases c;all_goals unfold sp;repeat'(first|exact .no|exact .ok ⟨by assumption,by assumption⟩|exact ih _ t0 _ _ (by assumption) (by assumption)|refine .bd ((ly (by assumption)).nx (by assumption)) (λ_ _ _ h'=>?_);obtain⟨_,_⟩:=h'|refine .bd ((gq (by assumption)).le (by assumption)) (λ_ _ _ h'=>?_);obtain⟨_,_⟩:=h'|refine .bd ((yQ (by assumption)).le (by assumption)) (λ_ _ _ h'=>?_);obtain⟨_,_⟩:=h'|refine .bd (ih _ t0 _ _ (by assumption) (by assumption)) (λ_ _ _ h'=>?_);obtain⟨_,_⟩:=h'|split)
theorem nW{t:Tk}{c:Int}(h:(t.k==c)=true)(hc:c≠0):t.k≠0:=by rw[eq_of_beq h];exact hc
theorem wa{x:AO α}{k:α->Tk->Int->AO β}{Q:Tk->Int->Prop}(h0:x≠none)(h1:Inv x Q)(h2:∀a t d,Q t d->k a t d≠none):bd x k≠none:=by
 unfold bd
 split
 .exact absurd rfl h0
 .simp
 .exact h2 _ _ _ (h1 _ _ _ rfl)
theorem Es{t:Tk}{d:Int}:bI s t d≠none:=by unfold bI;split<;>simp[no,ok]
theorem Et{t:Tk}{d:Int}:bz s t d≠none:=by
 unfold bz
 split
 .split
  .simp[no]
  .exact Es
 .exact Es
 .exact Es
theorem Vj{t:Tk}{d:Int}{b:List UInt8}:cD s b t d≠none:=by
 unfold cD
 split
 .exact Et
 .simp[no]
theorem Vk{t:Tk}{d:Int}:kq s t d≠none:=by
 unfold kq
 split
 .exact wa (Q:=λ_ _=>True) Et (λ_ _ _ _=>trivial) λ_ _ _ _=>by simp[ok]
 .simp[no]
def gC:jl->Int|.T l=>20-(l:Int)|.M _ _=>1|.F _=>1|.A=>2|.B=>20|.E _=>1|.Y=>1|.N _=>1
def pj:jl->Prop|.T l=>1<=l/\l<=13|.M _ l=>1<=l/\l<=12|_=>True
theorem B1{l:Nat}(h:pj (.T l))(e:l=13->False):pj (.T (l+1)):=⟨Nat.le_add_left _ _,by have:_/\l<=13:=h;have:¬l=13:=e;omega⟩
theorem Ov{l:Nat}{a:TM}(h:pj (.T l))(e:l=13->False):pj (.M a l):=⟨h.1,by have:_/\l<=13:=h;have:¬l=13:=e;omega⟩
theorem Ox{l:Nat}{a:TM}(h:pj (.M a l)):pj (.T (if l=2 then 2 else l+1)):=by have:1<=l/\l<=12:=h;show 1<=_/\_<=13;split<;>omega
theorem MJ:∀(f:Nat)(c:jl)(t:Tk)(d:Int),aT s t d->pj c->40*mu s t+gC c<f->sp s f c t d≠none
 |0,c,t,d,h,hc,hf=>by have:=v8 h;cases c<;>simp only[gC,pj]at hf hc<;>omega
 |f+1,c,t,d,h,hc,hf=>by have ih:=MJ f;rw[Int.natCast_add]at hf;cases c;all_goals
  simp only[gC]at hf
  first|have:1<=_/\_<=13:=hc|skip
  unfold sp;repeat'(first
   |exactλe=>by cases e
   |exact ih _ _ _ (by assumption) (by first|exact trivial|exact⟨by decide,by decide⟩|exact B1 hc (by assumption)|exact Ov hc (by assumption)|exact Ox hc|exact hc) (by simp only[gC];first|omega|(split<;>omega))
   |refine wa Et (ly (by assumption)) (λ_ _ _ h'=>?_);obtain⟨_,_,b⟩:=h';first|have:=b (kK (by assumption))|have:=b (mN (by assumption) (by decide))|have:=b (nW (by assumption) (by decide))|have:=b (mn (by assumption))|skip
   |refine wa Vj (gq (by assumption)) (λ_ _ _ h'=>?_);obtain⟨_,_⟩:=h'|refine wa Vk (yQ (by assumption)) (λ_ _ _ h'=>?_);obtain⟨_,_⟩:=h'|refine wa (ih _ _ _ (by assumption) (by first|exact trivial|exact⟨by decide,by decide⟩|exact B1 hc (by assumption)|exact Ov hc (by assumption)|exact Ox hc|exact hc) (by simp only[gC];first|omega|(split<;>omega))) (eT f _ _ _ _ (by assumption) (Int.le_refl _)) (λ_ _ _ h'=>?_);obtain⟨_,_⟩:=h'|split)
end
end Go.AI
end

section
namespace Go.AI
open Go
section
variable {α β γ δ:Type}
def Rv(F:Nat->Option (bg β Unit))(o:Option (α×Tk×Int))(f:α->Tk->Int->Int->β):Prop:=match o with|some (a,t,d)=>∃q,Ev F (.ret (f a t d q))|none=>∃c q,(c=207\/c=208)/\Ev F (.aB c q ())
def Zv(F:Nat->Option (bg β Unit))(X:AO α)(f:α->Tk->Int->Int->β):Prop:=∀o,X=some o->Rv F o f
variable {F G:Nat->Option (bg β Unit)}{X:AO α}{f:α->Tk->Int->Int->β}
theorem Rv.map{F:Nat->Option (bg β Unit)}{G:Nat->Option (bg γ Unit)}{o:Option (α×Tk×Int)}{f:α->Tk->Int->Int->β}{g:α->Tk->Int->Int->γ}(h:Rv F o f)(h1:∀a t d q,Ev F (.ret (f a t d q))->Ev G (.ret (g a t d q)))(h2:∀c q,Ev F (.aB c q ())->Ev G (.aB c q ())):Rv G o g:=by cases o with|none=>exact let⟨c,q,e,h⟩:=h;⟨c,q,e,h2 c q h⟩|some o=>exact let⟨q,h⟩:=h;⟨q,h1 _ _ _ _ h⟩
theorem Zv.imp(h:Zv G X f)(h1:∀v,Ev G v->Ev F v):Zv F X f:=λo e=>(h o e).map (λ_ _ _ _=>h1 _) λ_ _=>h1 _
theorem Zv.step(e:∀n,F (n+1)=G n)(h:Zv G X f):Zv F X f:=h.imp λ_=>.step e
theorem Zv.ask{H:Nat->Option γ}{k:Nat->γ->Option (bg β Unit)}{a:γ}(h:Ev H a)(h1:Zv (λn=>k n a) X f):Zv (λn=>Go.AI.ask (H n) (k n)) X f:=h1.imp λ_=>.ask h
theorem Zv.pos{b:Bool}{x y:Nat->Option (bg β Unit)}(h:b=true)(h1:Zv x X f):Zv (λn=>aa b (x n) (y n)) X f:=h1.imp λ_=>.pos h
theorem Zv.neg{b:Bool}{x y:Nat->Option (bg β Unit)}(h:b=false)(h1:Zv y X f):Zv (λn=>aa b (x n) (y n)) X f:=h1.imp λ_=>.neg h
theorem Zv.ite{b:Bool}{x y:Nat->Option (bg β Unit)}(h1:b=true->Zv x X f)(h2:b=false->Zv y X f):Zv (λn=>aa b (x n) (y n)) X f:=by
 cases b
 .exact .neg rfl (h2 rfl)
 .exact .pos rfl (h1 rfl)
theorem Zv.ok{a:α}{t:Tk}{d:Int}{q:Int}{v:β}(h:v=f a t d q):Zv (λ_=>some (.ret v)) (Go.AI.ok a t d) f:=λo e=>by cases e;exact⟨q,h▸.ret _⟩
theorem Zv.no{c:TypeId}{q:List AV}(h:c=207\/c=208)(hF:Ev F (.aB c q ())):Zv F (no:AO α) f:=λo e=>by cases e;exact⟨c,q,h,hF⟩
theorem Ev.qy{H:Nat->Option (bg γ Unit)}{k:Nat->γ->Option (bg β Unit)}{a:γ}{v:bg β Unit}(h:Ev H (.ret a))(h1:Ev (λn=>k n a) v):Ev (λn=>a7 (H n) (k n)) v:=.ask h h1
theorem Ev.mo{H:Nat->Option (bg γ Unit)}{k:Nat->γ->Option (bg β Unit)}{c:TypeId}{q:List AV}(h:Ev H (.aB c q ())):Ev (λn=>a7 (H n) (k n)) (.aB c q ()):=.ask h (.ret _)
theorem Rv.pre{H:Nat->Option (bg γ Unit)}{k:Nat->γ->Option (bg β Unit)}{o:Option (α×Tk×Int)}{a:γ}(h1:Rv (λn=>k n a) o f)(h:Ev H (.ret a)):Rv (λn=>a7 (H n) (k n)) o f:=h1.map (λ_ _ _ _=>.qy h) λ_ _=>.qy h
theorem Zv.bd{H:Nat->Option (bg γ Unit)}{k:Nat->γ->Option (bg β Unit)}{Y:AO δ}{g:δ->Tk->Int->Int->γ}{Q:Tk->Int->Prop}{K:δ->Tk->Int->AO α}(h:Zv H Y g)(hi:Inv Y Q)(h1:∀a t d q,Q t d->Zv (λn=>k n (g a t d q)) (K a t d) f):Zv (λn=>a7 (H n) (k n)) (Go.AI.bd Y K) f:=λo e=>by cases Y with|none=>cases e|some y=>cases y with|none=>cases e;obtain⟨c,q,e,h⟩:=h none rfl;exact⟨c,q,e,.mo h⟩|some y=>obtain⟨a,t,d⟩:=y;obtain⟨q,h⟩:=h _ rfl;exact Rv.pre (h1 a t d q (hi a t d rfl) o e) h
theorem Zv.dy{H:Nat->Option (bg β Unit)}(h:Zv H X f):Zv (λn=>Go.AI.dy (H n)) X f:=λo e=>(h o e).map (λ_ _ _ _ h=>.qy h (.ret _)) λ_ _ h=>.mo h
end
section
variable {s:ByteArray}{α β γ:Type}{t:Tk}{d q:Int}
theorem ja{x:Int}(h:-1000000<=x/\x<=1000000):IntKind.i64.wrap x=x:=by rw[IntWalk.i64_in _ (by omega)]
theorem kS{b:List UInt8}(h:∃i,pg s i t):Ev (λn=>kP n (bs b) (bc s t q d)) (aM t b,bc s t q d):=by
 obtain⟨i,c⟩:=h
 refine .step (λn=>WN n _ _) ?_
 have hk:=c.kd
 show Ev (λn=>aa (pk t.k==3) (aa (ao (px t) (bs b)) (some (true,_)) (aa (pk t.k==1) (aa (ao (px t) (bs b)) (ask (nP n (bs b)) λj=>some (j,_)) (some (false,_))) (some (false,_)))) (aa (pk t.k==1) (aa (ao (px t) (bs b)) (ask (nP n (bs b)) λg=>some (g,_)) (some (false,_))) (some (false,_)))) _
 rw[fh]
 have e:t.k=1\/t.k=2\/t.k=4->px t=t.x:=λh=>if_pos h
 unfold aM
 rcases hk with hk|hk|hk|hk|hk|hk
 .rw[hk];exact .ret _
 .rw[e (by simp[hk]),hk]
  refine .neg rfl (.pos rfl (.ite (λh=>.ask (tJ _) ?_) λh=>.ret _))
  have:fe (bs b)=false:=by rw[<-dP h];exact(c.nk hk).1
  rw[this];exact .ret _
 .rw[e (by simp[hk]),hk]
  refine .neg rfl (.pos rfl (.ite (λh=>.ask (tJ _) ?_) λh=>by rw[h];exact .ret _))
  have:fe (bs b)=true:=by rw[<-dP h];exact c.wd hk
  rw[this,h];exact .ret _
 .rw[hk];exact .ret _
 .rw[e (by simp[hk]),hk];exact .pos rfl (.ite (λh=>by rw[h];exact .ret _) λh=>.neg rfl (by rw[h];exact .ret _))
 .rw[hk];exact .ret _
theorem aT.Gn(hs:s.size<=65536)(h:aT s t d){d':Int}:Inv (bI s t d') (λt' b=>t'=aJ s t.e/\b=d'/\t'.k≠5):=by
 unfold bI
 split
 .exact .no
 .rename_i hk;exact .ok ⟨rfl,rfl,by simpa using hk⟩
theorem Zv.Gn(hs:s.size<=65536)(h:aT s t d){d1 d2:Int}{F:Nat->Option (bg γ Unit)}{k:Nat->_->Option (bg γ Unit)}{K:Unit->Tk->Int->AO α}{f:α->Tk->Int->Int->γ}(hF:F=λn=>a7 (fG n (bc s t q d1)) (k n))
 (h1:∀c,(aJ s t.e).k≠5->Zv (λn=>k n (bc s (aJ s t.e) c d1)) (K () (aJ s t.e) d2) f):Zv F (Go.AI.bd (bI s t d2) K) f:=λo e=>by
 subst hF
 have hp:=AA hs h.e (pk t.k) (px t) (pv t) q d1
 unfold bI at e
 rcases hp with⟨b,r,hp⟩|⟨b,c,hp⟩
 .rw[b]at e;cases e;exact⟨207,r,.inl rfl,.mo hp⟩
 .rw[beq_eq_false_iff_ne.2 b]at e;exact Rv.pre (h1 c b o e) hp
def xe(l:Nat):List (List UInt8×Nat×Int):=gi.filter λp=>p.2.1==l
def mV(l:Nat):Int×Rows×Rows:=(if l=2 then 2 else if nV l=true then 1 else 0,(xe l).map (λp=>[.sc (.string (bs p.1))]),(xe l).map (λp=>[.sc (.int .i64 p.2.2)]))
def od:List (List UInt8×Nat×Int)->Tk->Int|[],_=>0|p::l,t=>match aM t p.1 with|true=>p.2.2|false=>od l t
theorem DP(t:Tk)(l:Nat):∀L:List (List UInt8×Nat×Int),(∀p∈L,aM t p.1=false)->od (L.filter λp=>p.2.1==l) t=0
 |[],_=>rfl
 |p::L,h=>by
  have ih:=DP t l L λp hp=>h p (.tail _ hp)
  rw[List.filter_cons]
  split
  .simp only[od,h p (.head _)];exact ih
  .exact ih
theorem TS(l:Nat)(hl:1<=l):od (xe l) t=dk l t:=by
 unfold dk xe
 by_cases hk:(t.k==4||t.k==2)=true
 .have hx:∀b,aM t b=decide (t.x.data.toList=b):=λb=>by unfold aM;rw[hk,Bool.true_and];exact decide_eq_decide.2 ⟨λh=>by rw[h],λh=>ByteArray.ext (Array.ext' h)⟩
  rw[hk,Bool.true_and]
  generalize t.x.data.toList=w at hx⊢
  have key:∀L:List (List UInt8×Nat×Int),(L.map (·.1)).Nodup->od (L.filter λp=>p.2.1==l) t=match decide ((cM L w).1=l)with
   |true=>(cM L w).2
   |false=>0:=by
   intro L
   induction L with
   |nil=>intro _;show 0=_;split<;>rfl
   |cons p L ih=>
    intro hn
    rw[List.map_cons,List.nodup_cons]at hn
    have ih:=ih hn.2
    obtain⟨x,r⟩:=p
    rw[List.filter_cons]
    by_cases hw:w=x
    .rw[show cM ((x,r)::L) w=r by simp only[cM,ax hw]]
     have h0:=DP t l L λp hp=>by rw[hx,decide_eq_false_iff_not];rintro rfl;exact hn.1 (List.mem_map.2 ⟨p,hp,hw▸rfl⟩)
     split
     .rename_i h;rw[ax (eq_of_beq h)];simp only[od,hx,ax hw]
     .rename_i h;rw[aH (by simpa using h)];exact h0
    .rw[show cM ((x,r)::L) w=cM L w by simp only[cM,aH hw]]
     split
     .simp only[od,hx,aH hw];exact ih
     .exact ih
  exact key gi (by decide)
 .rw[Bool.not_eq_true]at hk;rw[hk,Bool.false_and];exact DP t l _ λp _=>by unfold aM;rw[hk];rfl
theorem I7(h:∃i,pg s i t)(G:Int)(L:List (List UInt8×Nat×Int))(hL:L.length<=100):∀(R:List (List UInt8×Nat×Int))(i:Nat),L.drop i=R->
 Ev (λn=>vi n (L.map λp=>[.sc (.string (bs p.1))]) ((L.map λp=>([.sc (.string (bs p.1))]:List AV)).length:Int) (i:Int) (bc s t q d) (G,L.map (λp=>[.sc (.string (bs p.1))]),L.map (λp=>[.sc (.int .i64 p.2.2)]))) (od R t,bc s t q d)
 |[],i,e=>by
  have:L.length<=i:=by rw[<-List.drop_eq_nil_iff];exact e
  exact .step (λn=>J6 n _ _ _ _ _) (.neg (aH (by rw[List.length_map];omega)) (.ret _))
 |p::R,i,e=>by
  have hi:i<L.length:=by
   rcases Nat.lt_or_ge i L.length with q|q
   .exact q
   .rw[List.drop_eq_nil_of_le q]at e;cases e
  rw[List.drop_eq_getElem_cons hi]at e
  injection e with c b
  have hg:∀(f:_->List AV),(L.map f)[i]?=some (f p):=λf=>by rw[List.getElem?_map,List.getElem?_eq_getElem hi,c];rfl
  refine .step (λn=>J6 n _ _ _ _ _) (.pos (ax (by rw[List.length_map];omega)) (.ae rfl (hg _) (.ask (kS h) ?_)));unfold od;cases aM t p.1 with|true=>exact .pos rfl (.ae rfl (hg _) (.ret _))|false=>exact .neg rfl (Ev.wr (F:=λn j=>vi n _ _ j _ _) hi (by omega) (I7 h G L hL R (i+1) b))
theorem Xm(h:∃i,pg s i t){l:Nat}(hl:1<=l):Ev (λn=>Bd n (mV l) (bc s t q d)) (dk l t,bc s t q d):=by rw[<-TS l hl];exact .step (λn=>W4 n _ _) (I7 h _ (xe l) (by refine Nat.le_trans (List.length_filter_le _ _) (by decide)) _ 0 rfl)
end
end Go.AI
end

section
namespace Go.AI
open Go
section
variable {s:ByteArray}{α β:Type}{t:Tk}{d q:Int}
theorem jC{b:List UInt8}(h:aM t b=true):t.x=bs b/\(t.k=4\/t.k=2):=by simpa[aM,and_comm]using h
theorem sS(h1:jj t.x=false)(h2:jk t.x=false):bz s t d=bI s t d:=by unfold bz;rw[h1,h2]
theorem zx(h1:jj t.x=false)(h2:jk t.x=true):bz s t d=bI s t (d-1):=by unfold bz;rw[h1,h2]
theorem AB{b:List UInt8}(h:aM t b=true):cD s b t d=bz s t d:=by unfold cD;rw[h]
def lets(x:ByteArray):Bool:=match x.data.toList with|[]=>false|c::_=>jW (c.toNat:Int)
theorem LJ(h:lets t.x=true):jj t.x=false/\jk t.x=false:=by
 have:∀b,lets b=false->decide (t.x=b)=false:=λb hb=>aH λe=>by rw[e,hb]at h;cases h
 simp only[jj,jk,this _ (by decide:lets (bs [40])=false),this _ (by decide:lets (bs [91])=false),this _ (by decide:lets (bs [123])=false),this _ (by decide:lets (bs [41])=false),this _ (by decide:lets (bs [93])=false),this _ (by decide:lets (bs [125])=false),Bool.or_self,and_self]
theorem TT:∀x,fe x=true->lets x=true:=λx h=>by
 unfold fe at h
 rw[List.any_eq_true]at h
 obtain⟨k,h1,h2⟩:=h
 rw[dP h2]
 have:∀k∈rm,lets k=true:=by decide
 exact this k h1
theorem zy(h:∃i,pg s i t)(hk:t.k=1\/t.k=2):lets t.x=true:=by
 obtain⟨i,h⟩:=h
 rcases hk with hk|hk
 .obtain⟨c,r,h1,h2⟩:=h.id hk;unfold lets;rw[h1];exact h2
 .exact TT _ (h.wd hk)
theorem mq(h:∃i,pg s i t)(hk:t.k=1\/t.k=2):bz s t d=bI s t d:=sS (LJ (zy h hk)).1 (LJ (zy h hk)).2
theorem yh{b:List UInt8}(h:lets t.x=true)(hb:lets (bs b)=false):aM t b=false:=by rw[Bool.eq_false_iff];intro e;rw[(jC e).1,hb]at h;cases h
theorem Eu{b:List UInt8}(h:t.k≠4)(h2:t.k≠2):aM t b=false:=by rw[Bool.eq_false_iff];intro e;rcases(jC e).2 with h|h<;>contradiction
theorem LK{b:List UInt8}(h:∃i,pg s i t)(hk:t.k=4)(hb:b∉eh):aM t b=false:=by obtain⟨i,h⟩:=h;rw[Bool.eq_false_iff];intro e;have:=h.si hk;rw[(jC e).1]at this;exact hb this
theorem Ew{b c:List UInt8}(h:aM t b=true)(hc:b≠c):aM t c=false:=by rw[Bool.eq_false_iff];intro e;have:=(jC e).1;rw[(jC h).1]at this;exact hc (by injection this with h;injection h)
theorem Kv:∀(L:List (List UInt8×Nat×Int))(w:List UInt8),cM L w=(0,0)\/(w,cM L w)∈L
 |[],_=>.inl rfl
 |(x,r)::L,w=>by
  unfold cM
  by_cases h:w=x
  .rw[ax h];exact .inr (h▸.head _)
  .rw[aH h];exact(Kv L w).imp id λh=>.tail _ h
theorem sw{l:Nat}(h:(dk l t==0)=false):(t.k=4\/t.k=2)/\(t.x.data.toList,l,dk l t)∈gi:=by
 unfold dk at h⊢
 split at h
 .rename_i hc
  rw[aX,Bool.or_eq_true,beq_iff_eq,beq_iff_eq,decide_eq_true_iff]at hc
  refine⟨hc.1,?_⟩
  rcases Kv gi t.x.data.toList with e|e
  .rw[e]at h;cases h
  .rw[<-hc.2];exact e
 .cases h
theorem LL{l:Nat}(h:(dk l t==0)=false):bz s t d=bI s t d:=by
 have hm:=(sw h).2
 have:∀p∈gi,jj (bs p.1)=false/\jk (bs p.1)=false:=by decide
 have:=this _ hm;exact sS this.1 this.2
theorem LM{l:Nat}(h:(dk l t==0)=false):dk l t≠20/\(dk l t=16->aM t [105,110]=true):=by
 obtain⟨hk,hm⟩:=sw h
 have:∀p∈gi,p.2.2≠20/\(p.2.2=16->p.1=[105,110]):=by decide
 have:=this _ hm;refine⟨this.1,λe=>?_⟩;have hx:t.x=bs [105,110]:=ByteArray.ext (Array.ext' (this.2 e));rcases hk with hk|hk<;>simp[aM,hk,hx]
theorem LN{l:Nat}(hl:l<=4)(h:(dk l t==0)=false):dk l t≠16:=λe=>by
 have:∀p∈gi,p.2.1<=4->p.2.2≠16:=by decide
 exact this _ (sw h).2 hl e
theorem TU{l:Nat}(h:aM t [124]=true):(dk l t==0)=true:=by
 cases h0:dk l t==0 with
 |true=>rfl
 |false=>
  have hm:=(sw h0).2
  rw[(jC h).1]at hm
  have:∀p∈gi,p.1≠[124]:=by decide
  exact absurd rfl (this _ hm)
def fN(x:AO α)(Q:α->Tk->Prop):Prop:=∀a t d,x=some (some (a,t,d))->Q a t
theorem fN.no{Q:α->Tk->Prop}:fN (no:AO α) Q:=λ_ _ _ e=>by cases e
theorem fN.ok{Q:α->Tk->Prop}{a:α}{t:Tk}{d:Int}(h:Q a t):fN (Go.AI.ok a t d) Q:=λ_ _ _ e=>by cases e;exact h
theorem fN.bd{Q:α->Tk->Prop}{b:β->Tk->Prop}{x:AO α}{k:α->Tk->Int->AO β}(h1:fN x Q)(h2:∀a t d,Q a t->fN (k a t d) b):fN (Go.AI.bd x k) b:=λa t d e=>by
 unfold Go.AI.bd at e
 split at e
 .cases e
 .cases e
 .exact h2 _ _ _ (h1 _ _ _ rfl) _ _ _ e
theorem fN.tt{x:AO α}:fN x λ_ _=>True:=λ_ _ _ _=>trivial
def kr(s:ByteArray)(t:Tk)(a:TM)(t':Tk):Prop:=(a.1=20->t.k=1/\a=nm 20 t.x []/\t'=aJ s t.e)/\(a.1=16->∃b c,a.2.2.2.2.2.2=[av b,av c]/\(b.1=20->t.k=1/\b=nm 20 t.x []/\aM (aJ s t.e) [105,110]=true))
theorem kr.Gq{a:TM}{t':Tk}(h1:a.1≠20)(h2:a.1≠16):kr s t a t':=⟨λh=>absurd h h1,λh=>absurd h h2⟩
theorem kr.nd{o:Int}{ks:Rows}{t':Tk}(h1:o≠20)(h2:o≠16):kr s t (nd o ks) t':=.Gq h1 h2
theorem Oy:∀(f:Nat)(a:TM)(l:Nat)(t1:Tk)(d1:Int),kr s t a t1->fN (sp s f (.M a l) t1 d1) (kr s t)
 |0,_,_,_,_,_=>λ_ _ _ e=>by cases e
 |f+1,a,l,t1,d1,h=>by
  unfold sp
  split
  .exact .ok h
  .rename_i h0
   refine .bd .tt λ_ t2 d2 _=>.bd .tt λb c i _=>?_
   have hs:kr s t (nd (dk l t1) [av a,av b]) c:=by refine⟨λe=>absurd e (LM h0).1,λe=>⟨a,b,rfl,λg=>?_⟩⟩;obtain⟨h1,h2,h3⟩:=h.1 g;exact⟨h1,h2,h3▸(LM h0).2 e⟩
   split
   .exact Oy f _ l _ _ hs
   .exact .ok hs
theorem Oz:∀(f:Nat)(a:TM)(t1:Tk)(d1:Int),kr s t a t1->fN (sp s f (.F a) t1 d1) (kr s t)
 |0,_,_,_,_=>λ_ _ _ e=>by cases e
 |f+1,a,t1,d1,h=>by
  have ih:∀o ks t1 d1,o≠20->o≠16->fN (sp s f (.F (nd o ks)) t1 d1) (kr s t):=λo ks t1 d1 h1 h2=>Oz f _ t1 d1 (.Gq h1 h2)
  unfold sp
  split
  .exact .bd .tt λ_ _ _ _=>.bd .tt λ_ _ _ _=>.bd .tt λ_ _ _ _=>ih _ _ _ _ (by decide) (by decide)
  .exact .bd .tt λ_ _ _ _=>.bd .tt λ_ _ _ _=>.bd .tt λ_ _ _ _=>ih _ _ _ _ (by decide) (by decide)
  .exact .bd .tt λ_ _ _ _=>ih _ _ _ _ (by decide) (by decide)
  .exact .ok h
theorem Kw:∀(L:List (List UInt8))(n:Int)(w:List UInt8),lN L n w=0\/(n<=lN L n w/\lN L n w<n+L.length/\w∈L)
 |[],_,_=>.inl rfl
 |x::L,n,w=>by
  unfold lN
  by_cases h:w=x
  .rw[ax h];exact .inr ⟨Int.le_refl _,by simp only[aN];omega,h▸.head _⟩
  .rw[aH h];exact(Kw L (n+1) w).imp id λ⟨h1,h2,h3⟩=>⟨by show n<=lN L (n+1) w;omega,by show lN L (n+1) w<_;simp only[aN];omega,.tail _ h3⟩
theorem LO{x:ByteArray}(h:gX x≠0):46<=gX x/\gX x<=51/\x.data.toList∈fU:=by
 rcases Kw fU 46 x.data.toList with e|⟨h1,h2,h3⟩
 .exact absurd e h
 .exact⟨h1,by have:((fU.length:Nat):Int)=6:=rfl;have h2:gX x<46+(fU.length:Int):=h2;omega,h3⟩
theorem shN(f:Nat)(o:Int)(t1:Tk)(d1:Int)(h1:o≠20)(h2:o≠16):fN (sp s f (.N o) t1 d1) (kr s t):=by cases f with|zero=>exactλ_ _ _ e=>by cases e|succ f=>unfold sp;exact .bd .tt λ_ _ _ _=>.bd .tt λ_ _ _ _=>.bd .tt λ_ _ _ _=>.bd .tt λ_ _ _ _=>.bd .tt λ_ _ _ _=>.ok (.Gq h1 h2)
theorem zz:fN (bI s t d) λ_ t'=>t'=aJ s t.e:=by
 unfold bI
 split
 .exact .no
 .exact .ok rfl
theorem shA(f:Nat)(h:aT s t d)(hk:t.k=1\/t.k=2):fN (sp s f .A t d) (kr s t):=by
 cases f with
 |zero=>exactλ_ _ _ e=>by cases e
 |succ f=>
  have hl:=zy h.ok hk
  have h3:(t.k==3)=false:=by rw[beq_eq_false_iff_ne];omega
  unfold sp
  simp only[h3,yh hl (by decide:lets (bs [40])=false),yh hl (by decide:lets (bs [123])=false)]
  cases h1:t.k==1 with
  |true=>simp only[mq h.ok hk];exact .bd zz λ_ _ _ e=>.ok ⟨λ_=>⟨eq_of_beq h1,rfl,e⟩,λe=>absurd e (by show(20:Int)≠16;decide)⟩
  |false=>
  simp only
  repeat'(first|exact .no|exact .ok (.nd (by decide) (by decide))|contradiction|exact shN _ _ _ _ (by decide) (by decide)|refine .bd .tt λ_ _ _ _=>?_|split)
  have b:(t.k==2&&decide (0<gX t.x))=true:=by assumption
  rw[aX,decide_eq_true_iff]at b;have:=LO (x:=t.x) (by omega);exact .ok (.nd (by omega) (by omega))
theorem Gr:∀(f l:Nat)(t:Tk)(d:Int),aT s t d->(t.k=1\/t.k=2)->fN (sp s f (.T l) t d) (kr s t)
 |0,_,_,_,_,_=>λ_ _ _ e=>by cases e
 |f+1,l,t,d,h,hk=>by
  unfold sp
  split
  .split
   .exact .bd .tt λ_ _ _ _=>.bd .tt λ_ _ _ _=>.ok (.nd (by decide) (by decide))
   .exact Gr f 6 t d h hk
  .split
   .exact .bd .tt λ_ _ _ _=>.bd .tt λ_ _ _ _=>.ok (.nd (by decide) (by decide))
   .exact .bd (shA f h hk) λ_ _ _ h=>Oz f _ _ _ h
  .exact .bd (Gr f _ t d h hk) λ_ _ _ h=>Oy f _ _ _ _ h
theorem xf:∀(f:Nat)(a:TM)(l:Nat)(t1:Tk)(d1:Int),l<=4->(a.1=16->aM t1 [124]=false)->fN (sp s f (.M a l) t1 d1) (λa' t'=>a'.1=16->aM t' [124]=false)
 |0,_,_,_,_,_,_=>λ_ _ _ e=>by cases e
 |f+1,a,l,t1,d1,hl,h=>by
  unfold sp
  split
  .exact .ok h
  .rename_i h0
   refine .bd .tt λ_ t2 d2 _=>.bd .tt λb c g _=>?_
   split
   .exact xf f _ l _ _ hl λe=>absurd e (LN hl h0)
   .exact .ok λe=>absurd e (LN hl h0)
end
end Go.AI
end

section
namespace Go.AI
open Go
section
variable {s:ByteArray}{α β γ δ:Type}{t:Tk}{d q:Int}
def eE(s:ByteArray)(a:TM)(t:Tk)(d q:Int):=eW a (bc s t q d)
def wO(s:ByteArray)(_:Unit)(t:Tk)(d q:Int):=bc s t q d
def Z5(s:ByteArray)(_:Unit)(t:Tk)(d q:Int):Bool×ByteArray×Int×Int×ByteArray×Int×Int×Int:=(true,bc s t q d)
def NJ(s:ByteArray)(x:ByteArray)(t:Tk)(d q:Int):=(x,bc s t q d)
def FY(s:ByteArray)(a:TM)(t:Tk)(d q:Int):=(a.1,a.2.1,a.2.2.2.2.2.2,bc s t q d)
theorem Zv.pre{H:Nat->Option (bg γ Unit)}{k:Nat->γ->Option (bg β Unit)}{X:AO α}{f:α->Tk->Int->Int->β}{a:γ}(h:Ev H (.ret a))(h1:Zv (λn=>k n a) X f):Zv (λn=>a7 (H n) (k n)) X f:=h1.imp λ_=>.qy h
theorem Zv.ae{l:List γ}{i:Int}{m:Nat}{x:γ}{k:Nat->γ->Option (bg β Unit)}{X:AO α}{f:α->Tk->Int->Int->β}(hi:i=(m:Int))(h:l[m]?=some x)(hk:Zv (λn=>k n x) X f):Zv (λn=>Go.AI.ae l i (k n)) X f:=hk.imp λ_=>.ae hi h
theorem Zv.nil{F:Nat->Option (bg β Unit)}{f:α->Tk->Int->Int->β}:Zv F none f:=λ_ e=>by cases e
theorem oY(hs:s.size<=65536)(h:aT s t d):Zv (λn=>fG n (bc s t q d)) (bI s t d) (wO s):=λo e=>by
 unfold bI at e
 rcases AA hs h.e (pk t.k) (px t) (pv t) q d with⟨b,r,hp⟩|⟨b,c,hp⟩
 .rw[b]at e;cases e;exact⟨207,r,.inl rfl,hp⟩
 .rw[beq_eq_false_iff_ne.2 b]at e;cases e;exact⟨c,hp⟩
theorem Vo:Zv (λn=>mI n (bc s t q d)) (no:AO α) (λ_ t d q=>bc s t q d):=.no (.inl rfl) (.step (λn=>ET n _) (.ret _))
theorem sT{k:Nat->_->Option (bg β Unit)}{f:α->Tk->Int->Int->β}:Zv (λn=>a7 (mI n (bc s t q d)) (k n)) (no:AO α) f:=.no (.inl rfl) (.mo (.step (λn=>ET n _) (.ret _)))
theorem jD{b:List UInt8}(h:aT s t d)(c:aM t b=false):Ev (λn=>gh n (bs b) (bc s t q d)) (.ret (false,bc s t q d)):=.step (λn=>Mw n _ _) (.ask (kS h.ok) (by rw[c];exact .pos rfl (.ret _)))
theorem jE(hs:s.size<=65536){b:List UInt8}(h:aT s t d)(f:aM t b=true):Zv (λn=>gh n (bs b) (bc s t q d)) (bI s t d) (Z5 s):=by
 refine .step (λn=>Mw n _ _) (.ask (kS h.ok) ?_)
 rw[f]
 have:=oY (q:=q) hs h
 refine .neg rfl λo e=>?_
 rcases o with _|⟨_,t',d'⟩
 .obtain⟨c,q,h1,h2⟩:=this _ e;exact⟨c,q,h1,.mo h2⟩
 .obtain⟨q,h2⟩:=this _ e;exact⟨q,.qy h2 (.ret _)⟩
def B3(b:List UInt8):Bool:=!jj (bs b)&&!jk (bs b)
theorem iZ{b:List UInt8}(c:aM t b=true)(hb:B3 b=true):bz s t d=bI s t d:=by simp only[B3,aX,Bool.not_eq_true']at hb;rw[<-(jC c).1]at hb;exact sS hb.1 hb.2
theorem LR(hs:s.size<=65536){b:List UInt8}(h:aT s t d):Zv (λn=>qR n (bs b) (bc s t q d)) (match aM t b with
 |true=>bI s t d
 |false=>no) (wO s):=by
 refine .step (λn=>Xa n _ _) ?_
 cases f:aM t b with
 |true=>
  have:=jE (q:=q) hs h f
  intro o e
  rcases o with _|⟨_,t',d'⟩
  .obtain⟨c,q,h1,h2⟩:=this _ e;exact⟨c,q,h1,.mo h2⟩
  .obtain⟨q,h2⟩:=this _ e;exact⟨q,.qy h2 (.neg rfl (.ret _))⟩|false=>exact .pre (jD h f) (.pos rfl (.dy Vo))
theorem Ey(hs:s.size<=65536){b:List UInt8}(h:aT s t d)(hb:B3 b=true):Zv (λn=>qR n (bs b) (bc s t q d)) (cD s b t d) (wO s):=by have:=LR (q:=q) (b:=b) hs h;unfold cD;cases c:aM t b with|true=>rw[c]at this;rw[iZ c hb];exact this|false=>rw[c]at this;exact this
theorem aT.b(hs:s.size<=65536)(h:aT s t d):-500000<=d/\d<=64:=⟨by have:=v8 h;have:=h.lo;omega,h.hi⟩
theorem sU(hs:s.size<=65536){b:List UInt8}(h:aT s t d)(hb:(jk (bs b)&&!jj (bs b))=true):Zv (λn=>nR n (bs b) (bc s t q d)) (cD s b t d) (wO s):=by
 rw[aX,Bool.not_eq_true']at hb
 refine .step (λn=>W2 n _ _) ?_
 have:=LR (q:=q) (b:=b) hs h
 have hd:=h.b hs
 unfold cD
 cases f:aM t b with
 |true=>rw[<-(jC f).1]at hb;rw[f]at this;rw[zx hb.2 hb.1];unfold bI at this⊢;intro o e;cases g:(aJ s t.e).k==5 with|true=>rw[g]at this e;cases e;obtain⟨c,q,h1,h2⟩:=this _ rfl;exact⟨c,q,h1,.mo h2⟩|false=>rw[g]at this e;cases e;obtain⟨q,h2⟩:=this _ rfl;exact⟨q,.qy h2 (by show Ev (λ_=>some (bg.ret (jh (bc s (aJ s t.e) q d) (IntKind.i64.wrap (d-1))))) _;rw[ja (by omega)];exact .ret _)⟩
 |false=>rw[f]at this;exactλo e=>by cases e;obtain⟨c,q,h1,h2⟩:=this _ rfl;exact⟨c,q,h1,.mo h2⟩
theorem vq(hs:s.size<=65536){b:List UInt8}(h:aT s t d)(hb:jj (bs b)=true):Zv (λn=>nQ n (bs b) (bc s t q d)) (cD s b t d) (wO s):=by
 refine .step (λn=>W1 n _ _) (.ask (kS h.ok) ?_)
 have hd:=h.b hs
 unfold cD
 cases i:aM t b with
 |false=>exact .pos rfl sT
 |true=>
  rw[<-(jC i).1]at hb
  refine .neg rfl (.step (λn=>Tm n _) ?_)
  unfold bz
  rw[hb]
  show Zv (λn=>aa (d==64) _ (dy (fG n (jh (bc s t q d) (IntKind.i64.wrap (d+1)))))) _ _
  rw[ja (by omega)]
  refine .ite (λc=>?_) λc=>?_
  .rw[ax (by have:=eq_of_beq c;omega)];exact .no (.inr rfl) (.ret _)
  .have c:=beq_eq_false_iff_ne.1 c
   rw[aH (by omega)]
   refine .dy λo e=>?_
   unfold bI at e
   rcases AA hs h.e (pk t.k) (px t) (pv t) q (d+1)with⟨f,r,hp⟩|⟨f,g,hp⟩
   .rw[f]at e;cases e;exact⟨207,r,.inl rfl,hp⟩
   .rw[beq_eq_false_iff_ne.2 f]at e;cases e;exact⟨g,hp⟩
theorem Vp(hs:s.size<=65536)(h:aT s t d):Zv (λn=>FO n (bc s t q d)) (kq s t d) (NJ s):=by
 refine .step (λn=>W9 n _) ?_
 obtain⟨i,hk⟩:=h.ok
 have bad:Zv (λn=>zo n (px t) (bc s t q d)) (no:AO ByteArray) (NJ s):=.step (λn=>Tp n _ _) sT
 have c:(bc s t q d).2.2.1=pk t.k:=rfl
 have b:(bc s t q d).2.2.2.1=px t:=rfl
 simp only[c,b]
 unfold kq
 rcases hk.kd with e|e|e|e|e|e
 .rw[e];exact .pos rfl bad
 .rw[e,show px t=t.x by simp[px,e]];refine .neg rfl (.ask (lx _) ?_);cases hi:bF t.x with|true=>rw[mq h.ok (.inl e)];exact .neg rfl (.bd (oY hs h) (λ_ _ _ _=>trivial:Inv _ λ_ _=>True) λ_ _ _ _ _=>.ok rfl)|false=>rw[show px t=t.x by simp[px,e]]at bad;exact .pos rfl bad
 .rw[e,show px t=t.x by simp[px,e]]
  refine .neg rfl (.ask (lx _) ?_)
  have:bF t.x=false:=by simp[bF,hk.wd e]
  rw[this,show px t=t.x by simp[px,e]]at*;exact .pos rfl bad
 .rw[e];exact .pos rfl bad
 .rw[e];exact .pos rfl bad
 .exact absurd e h.k
theorem Xp{l:Nat}:((mV l).1==2)=(l==2):=by
 unfold mV
 by_cases h:l=2
 .subst h;rfl
 .rw[beq_eq_false_iff_ne.2 h];simp only[if_neg h];split<;>rfl
theorem MK{l:Nat}:((mV l).1 !=1)=!nV l:=by
 unfold mV
 by_cases h:l=2
 .subst h;rfl
 .simp only[if_neg h];cases nV l<;>rfl
theorem NK{Fn:Nat->Int->Option (bg β Unit)}{X:AO α}{f:α->Tk->Int->Int->β}{l:Nat}(hl:l<=12)(h:Zv (λn=>Fn n ((if l=2 then 2 else l+1:Nat):Int)) X f):Zv (λn=>aa ((mV l).1==2) (Fn n l) (Fn n (IntKind.i64.wrap ((l:Int)+1)))) X f:=by
 rw[Xp,ja (by omega)]
 by_cases e:l=2
 .subst e;exact .pos rfl h
 .rw[if_neg e]at h;exact .neg (beq_eq_false_iff_ne.2 e) h
theorem Xq{l:Nat}{a:TM}{st}{X:AO α}{f:α->Tk->Int->Int->_}(h1:1<=l)(h2:l<=12)(b:l≠5)(h:Zv (λn=>vg n (l:Int) st a (0,bs [],0,0,bs []) (mV l) [] []) X f):Zv (λn=>FA n a (l:Int) st) X f:=by
 refine .step (λn=>Ws n _ _ _) (.ask (.step (λn=>Wc n) (.ret _)) ?_)
 have:l=1\/l=2\/l=3\/l=4\/l=6\/l=7\/l=8\/l=9\/l=10\/l=11\/l=12:=by omega
 rcases this with rfl|rfl|rfl|rfl|rfl|rfl|rfl|rfl|rfl|rfl|rfl<;>exact .ae rfl rfl h
end
end Go.AI
end

section
namespace Go.AI
open Go
section
variable {s:ByteArray}{α β γ δ:Type}{t:Tk}{d q:Int}{f:Nat}
noncomputable def BP(n:Nat)(i:ByteArray×Int×Int×ByteArray×Int×Int×Int):=a7 (gh n (bs [125]) i) λb=>(aa b.1 (a7 (nQ n (bs [91]) (jh b.2 (IntKind.i64.wrap (b.2.2.2.2.2.2.2-1)))) λh=>(a7 (pe n h) λe=>(a7 (nR n (bs [93]) e.2.2.2) λg=>(some (bg.ret ((29:Int),(bs []),(0:Int),(tP e (([]:Rows),g)))))))) (a7 (ec n 1 b.2) λc=>(dy (tH n (bp c) (b.2.2.2.1==1) c.2.2.2.2.2.2.2))))
abbrev t5(a:TM):Int×ByteArray×Int×Int×ByteArray:=(a.1,a.2.1,a.2.2.1,a.2.2.2.1,a.2.2.2.2.1)
def RZ(s:ByteArray)(f:Nat)(t:Tk)(d:Int):jl->Prop|.T l=>∀q,Zv (λn=>ec n (l:Int) (bc s t q d)) (sp s f (.T l) t d) (eE s)|.M a l=>(∀q j c b,Zv (λn=>vg n (l:Int) (bc s t q d) a j (mV l) c b) (sp s f (.M a l) t d) (eE s))/\∀q j c b,Zv (λn=>x7 n (l:Int) (bc s t q d) (t5 a) j (mV l) a.2.2.2.2.2.1 a.2.2.2.2.2.2 c b) (sp s f (.M a l) t d) (eE s)|.F a=>(∀q j c b,Zv (λn=>ze n (bc s t q d) a j c b) (sp s f (.F a) t d) (eE s))/\∀q j c b,Zv (λn=>ou n (bc s t q d) (t5 a) j a.2.2.2.2.2.1 a.2.2.2.2.2.2 c b) (sp s f (.F a) t d) (eE s)|.A=>∀q,Zv (λn=>A9 n (bc s t q d)) (sp s f .A t d) (eE s)|.B=>∀q,Zv (λn=>BP n (bc s t q d)) (sp s f .B t d) (eE s)|.E acc=>∀q j c b,Zv (λn=>oJ n (bc s t q d) j acc c b) (sp s f (.E acc) t d) (eE s)|.Y=>∀q,Zv (λn=>pe n (bc s t q d)) (sp s f .Y t d) (FY s)|.N o=>∀q,Zv (λn=>wJ n o (bc s t q d)) (sp s f (.N o) t d) (eE s)
def Gs(s:ByteArray)(t:Tk):jl->Prop|.T l=>1<=l/\l<=13|.M _ l=>1<=l/\l<=12/\l≠5|.E acc=>(acc.length:Int)+mu s t<=2*s.size+2|_=>True
abbrev IH(s:ByteArray)(f:Nat):Prop:=∀(c:jl)(t:Tk)(d:Int),aT s t d->Gs s t c->RZ s f t d c
theorem B4:IH s 0:=λc t d _ _=>by
 cases c
 case M=>exact⟨λ_ _ _ _=>.nil,λ_ _ _ _=>.nil⟩
 case F=>exact⟨λ_ _ _ _=>.nil,λ_ _ _ _=>.nil⟩
 case E=>exactλ_ _ _ _=>.nil
 all_goals exactλ_=>.nil
theorem j4{b:List UInt8}(h:aT s t d)(c:aM t b=true)(hb:B3 b=true):Inv (bI s t d) (Nl s t):=by rw[<-iZ c hb];exact sR h (kK c)
variable (hs:s.size<=65536)(ih:IH s f)
include hs ih
theorem lT(l:Nat)(h:aT s t d)(hl:1<=l/\l<=13):Zv (λn=>ec n (l:Int) (bc s t q d)) (sp s f (.T l) t d) (eE s):=ih (.T l) t d h hl q
theorem zN(o:Int)(h:aT s t d):RZ s (f+1) t d (.N o):=λq=>by unfold sp;exact .step (λn=>W0 n _ _) (.bd (Vp hs h) (yQ h) λ_ t d q h=>.bd (Ey hs h.1 rfl) (gq h.1) λ_ t d q h=>.bd (lT hs ih 7 h.1 (by decide)) (eT f _ t t d h.1 (Int.le_refl _)) λ_ t d q h=>.bd (Ey hs h.1 rfl) (gq h.1) λ_ t d q h=>.bd (lT hs ih 1 h.1 (by decide)) (eT f _ t t d h.1 (Int.le_refl _)) λ_ t d q h=>.ok rfl)
theorem zE(acc:Rows)(h:aT s t d)(aS:Gs s t (.E acc)):RZ s (f+1) t d (.E acc):=λq j l k=>by
 have aS:(acc.length:Int)+mu s t<=2*s.size+2:=aS
 unfold sp
 refine .step (λn=>To n _ _ _ _ _) ?_
 cases c:aM t [44]with
 |true=>
  rw[iZ c rfl]
  refine .bd (jE hs h c) (j4 h c rfl) λ_ t' d' m h'=>.pos rfl ?_
  refine .bd (lT hs ih 1 h'.1 (by decide)) (eT f _ t' t' d' h'.1 (Int.le_refl _)) λa e i g b=>?_
  have h1:=h'.2
  have h2:=b.2
  have h3:=v8 b.1
  have hl:(acc++[av a]).length=acc.length+1:=by simp
  refine Zv.imp (ih (.E (acc++[av a])) e i b.1 (by show _+_<=_;rw[hl];omega) g j l k) λv=>.fits (by simp only[List.length_singleton];omega)|false=>refine .pre (jD h c) (.neg rfl ?_);exact .bd (sU hs h rfl) (gq h) λ_ t d q h=>.ok rfl
theorem zY(h:aT s t d):RZ s (f+1) t d .Y:=λq=>by
 refine .step (λn=>W3 n _) ?_
 have l:(bc s t q d).2.2.1=pk t.k:=rfl
 have j:(bc s t q d).2.2.2.1=px t:=rfl
 simp only[l,j]
 obtain⟨i,hk⟩:=h.ok
 have c:∀{t d q},aT s t d->Zv (λn=>pe n (bc s t q d)) (sp s f .Y t d) (FY s):=λ{t d q}h=>ih .Y t d h trivial q
 have hi:∀{t d},aT s t d->Inv (sp s f .Y t d) (Ne s t):=λ{t d}h=>eT f _ t t d h (Int.le_refl _)
 have rest:(t.k==1&&bF t.x)=false->Zv (λn=>zn n (bc s t q d) (0,bs []) []) (sp s (f+1) .Y t d) (FY s):=λe=>by unfold sp;rw[e];refine .step (λn=>Tn n _ _ _) ?_;cases b:aM t [105,110,116]with|true=>simp only[iZ b rfl];exact .bd (jE hs h b) (j4 h b rfl) λ_ t' d' g h'=>.pos rfl (.ok rfl)|false=>refine .pre (jD h b) (.neg rfl ?_);cases b:aM t [115,101,116]with|true=>simp only[iZ b rfl];exact .bd (jE hs h b) (j4 h b rfl) λ_ t' d' g h'=>.pos rfl (.bd (vq hs h'.1 rfl) (gq h'.1) λ_ t d q h=>.bd (c h.1) (hi h.1) λ_ t d q h=>.bd (sU hs h.1 rfl) (gq h.1) λ_ t d q h=>.ok rfl)|false=>refine .pre (jD h b) (.neg rfl ?_);cases b:aM t [112,97,105,114]with|true=>simp only[iZ b rfl];exact .bd (jE hs h b) (j4 h b rfl) λ_ t' d' g h'=>.pos rfl (.bd (vq hs h'.1 rfl) (gq h'.1) λ_ t d q h=>.bd (c h.1) (hi h.1) λ_ t d q h=>.bd (Ey hs h.1 rfl) (gq h.1) λ_ t d q h=>.bd (c h.1) (hi h.1) λ_ t d q h=>.bd (sU hs h.1 rfl) (gq h.1) λ_ t d q h=>.ok rfl)|false=>exact .pre (jD h b) (.neg rfl sT)
 rcases hk.kd with e|e|e|e|e|e
 .rw[e]at rest⊢;exact .neg rfl (rest rfl)
 .rw[show px t=t.x by simp[px,e]]
  refine .pos (by rw[e];rfl) (.ask (lx _) ?_)
  cases hi:bF t.x with
  |true=>
   have:(t.k==1&&bF t.x)=true:=by rw[e,hi];rfl
   unfold sp;rw[this];simp only[mq h.ok (.inl e)];exact .pos rfl (.bd (oY hs h) (λ_ _ _ _=>trivial:Inv _ λ_ _=>True) λ_ _ _ _ _=>.ok rfl)|false=>exact .neg rfl (rest (by rw[hi,Bool.and_false]))
 .rw[show px t=t.x by simp[px,e]]
  refine .pos (by rw[e];rfl) (.ask (lx _) ?_)
  have:bF t.x=false:=by simp[bF,hk.wd e]
  rw[this];exact .neg rfl (rest (by rw[e];rfl))
 .rw[e]at rest⊢;exact .neg rfl (rest rfl)
 .rw[e]at rest⊢;exact .neg rfl (rest rfl)
 .exact absurd e h.k
theorem zM(a:TM)(l:Nat)(h:aT s t d)(aS:Gs s t (.M a l)):RZ s (f+1) t d (.M a l):=by
 obtain⟨h1,h2,m⟩:=aS
 have hl:1<=(if l=2 then 2 else l+1)/\(if l=2 then 2 else l+1)<=13:=by split<;>omega
 constructor;all_goals
  intro q j p o
  first|with_reducible refine .step (λn=>Tf n _ _ _ _ _ _ _) ?_|refine .step (λn=>QX n _ _ _ _ _ _ _ _ _) ?_
  refine .ask (Xm h.ok h1) ?_
  unfold sp
  cases h0:dk l t==0 with
  |true=>exact .pos rfl (.ok rfl)
  |false=>
   rw[LL h0]
   refine .neg rfl (.bd (oY hs h) (by rw[<-LL h0];exact sR h (mn h0)) λ_ t' d' u h'=>?_)
   first|with_reducible refine NK (Fn:=λn i=>zj n _ _ i _ _ _ _ _ _) h2 (.step (λn=>Th n _ _ _ _ _ _ _ _ _) ?_)|refine NK (Fn:=λn i=>ya n _ _ i _ _ _ _ _ _ _ _) h2 (.step (λn=>QY n _ _ _ _ _ _ _ _ _ _ _) ?_)
   refine .bd (lT hs ih _ h'.1 hl) (eT f _ t' t' d' h'.1 (Int.le_refl _)) λb c k e g=>?_;cases hL:nV l with|true=>exact .neg (by rw[MK,hL];rfl) ((ih (.M (nd (dk l t) [av a,av b]) l) c k g.1 ⟨h1,h2,m⟩).2 e _ _ _)|false=>exact .pos (by rw[MK,hL];rfl) (.ok rfl)
end
end Go.AI
end

section
namespace Go.AI
open Go
section
variable {s:ByteArray}{α β γ δ:Type}{t:Tk}{d q:Int}{f:Nat}
theorem ow{x:AO α}{k:α->Tk->Int->AO β}{l:β->Tk->Int->AO γ}:bd (bd x k) l=bd x λa t d=>bd (k a t d) l:=by cases x with|none=>rfl|some o=>cases o<;>rfl
theorem wb{x:AO α}:bd x (λa t d=>ok a t d)=x:=by cases x with|none=>rfl|some o=>cases o<;>rfl
def B5(s:ByteArray)(f:Nat)(o c:List UInt8)(t:Tk)(d:Int):AO TM:=bd (cD s o t d) λ_ t d=>bd (sp s f (.T 1) t d) λa t d=>bd (cD s c t d) λ_ t d=>ok a t d
theorem zG{o c:List UInt8}{K:TM->Tk->Int->AO α}:bd (cD s o t d) (λ_ t d=>bd (sp s f (.T 1) t d) λa t d=>bd (cD s c t d) λ_ t d=>K a t d)=bd (B5 s f o c t d) K:=by unfold B5;simp only[ow];rfl
theorem DQ{o c:List UInt8}(h:aT s t d):Inv (B5 s f o c t d) (Nl s t):=.bd (gq h) λ_ _ _ h1=>.bd (eT f _ _ _ _ h1.1 (Int.le_refl _)) λ_ _ _ h2=>.bd (gq h2.1) λ_ _ _ h3=>.ok ⟨h3.1,by have:=h1.2;have:=h2.2;have:=h3.2;omega⟩
theorem Z7(x:ByteArray):Ev (λn=>FM n x) (gX x):=.const 1 λn=>by
 have hx:∀b,ao x (bs b)=decide (x.data.toList=b):=λb=>by rw[fh];exact decide_eq_decide.2 ⟨λh=>by rw[h],λh=>ByteArray.ext (Array.ext' h)⟩
 rw[WZ];simp only[hx,gX,fU,lN];generalize decide (x.data.toList=[80,79,87])=a;generalize decide (x.data.toList=[99,97,114,100])=b;generalize decide (x.data.toList=[109,105,110])=c;generalize decide (x.data.toList=[109,97,120])=d;generalize decide (x.data.toList=[100,111,109])=e;generalize decide (x.data.toList=[114,97,110])=g;cases a<;>cases b<;>cases c<;>cases d<;>cases e<;>cases g<;>rfl
variable (hs:s.size<=65536)(ih:IH s f)
include hs ih
theorem B6{o c:List UInt8}(h:aT s t d)(ho:jj (bs o)=true)(hc:(jk (bs c)&&!jj (bs c))=true):Zv (λn=>pd n (bs o) (bs c) (bc s t q d)) (B5 s f o c t d) (eE s):=.step (λn=>WO n _ _ _) (.bd (vq hs h ho) (gq h) λ_ _ _ _ h1=>.bd (lT hs ih 1 h1.1 (by decide)) (eT f _ _ _ _ h1.1 (Int.le_refl _)) λ_ _ _ _ h2=>.bd (sU hs h2.1 hc) (gq h2.1) λ_ _ _ _ _=>.ok rfl)
theorem zF(a:TM)(h:aT s t d):RZ s (f+1) t d (.F a):=by constructor;all_goals
 intro q j g e
 first|with_reducible refine .step (λn=>Te n _ _ _ _ _) ?_|refine .step (λn=>QW n _ _ _ _ _ _ _) ?_
 refine .ask (kS h.ok) ?_;unfold sp;cases c:aM t [40]with|true=>simp only[<-AB c,zG];exact .pos rfl (.bd (B6 hs ih h rfl rfl) (DQ h) λb t d q h=>(ih (.F (nd 54 [av a,av b])) t d h.1 trivial).2 q _ _ _)|false=>refine .neg rfl (.ask (kS h.ok) ?_);cases c:aM t [91]with|true=>simp only[<-AB c,zG];exact .pos rfl (.bd (B6 hs ih h rfl rfl) (DQ h) λb t d q h=>(ih (.F (nd 53 [av a,av b])) t d h.1 trivial).2 q _ _ _)|false=>refine .neg rfl ?_;cases c:aM t [126]with|true=>simp only[iZ c rfl];exact .bd (jE hs h c) (j4 h c rfl) λ_ t d q h=>.pos rfl ((ih (.F (nd 52 [av a])) t d h.1 trivial).2 q _ _ _)|false=>exact .pre (jD h c) (.neg rfl (.ok rfl))
theorem zA(h:aT s t d):RZ s (f+1) t d .A:=λq=>by
 refine .step (λn=>Wq n _) ?_
 have p:(bc s t q d).2.2.1=pk t.k:=rfl
 have o:(bc s t q d).2.2.2.1=px t:=rfl
 have m:(bc s t q d).2.2.2.2.1=pv t:=rfl
 simp only[p,o,m]
 obtain⟨i,hk⟩:=h.ok
 have hW:t.k=2\/t.k=1->t.k=1\/t.k=2:=Or.symm
 have l:Inv (bI s t d) λ_ _=>True:=λ_ _ _ _=>trivial
 rcases hk.kd with e|e|e|e|e|e
 .have g:∀b,aM t b=false:=λb=>Eu (by omega) (by omega);refine .neg (by rw[e];rfl) (.neg (by rw[e];rfl) (.ask (kS h.ok) (.neg (g _) (.ask (kS h.ok) (.neg (g _) ?_)))));unfold sp;simp only[g,e];exact sT
 .refine .neg (by rw[e];rfl) (.pos (by rw[e];rfl) (.dy (.step (λn=>Mz n _ _) (.ask (tJ _) ?_))));rw[show px t=t.x by simp[px,e],(hk.nk e).1];unfold sp;simp only[show(t.k==1)=true by rw[e];rfl,mq h.ok (.inl e)];exact .pos rfl (.bd (oY hs h) l λ_ _ _ _ _=>.ok rfl)
 .have hl:=zy h.ok (.inr e)
  refine .neg (by rw[e];rfl) (.pos (by rw[e];rfl) (.dy (.step (λn=>Mz n _ _) (.ask (tJ _) ?_))))
  rw[show px t=t.x by simp[px,e],hk.wd e]
  refine .neg rfl (.ask (Z7 _) ?_)
  unfold sp
  simp only[show(t.k==1)=false by rw[e];rfl,show(t.k==3)=false by rw[e];rfl,show(t.k==2)=true by rw[e];rfl,yh hl (by decide:lets (bs [40])=false),yh hl (by decide:lets (bs [123])=false),Bool.true_and]
  by_cases hp:gX t.x=0
  .have j:decide (0<gX t.x)=false:=aH (by omega);refine .neg (by rw[hp];rfl) ?_;cases g:aM t [116,114,117,101]with|true=>simp only[iZ g rfl];exact .bd (jE hs h g) (j4 h g rfl) λ_ t d q h=>.pos rfl (.ok rfl)|false=>refine .pre (jD h g) (.neg rfl ?_);cases g:aM t [102,97,108,115,101]with|true=>simp only[iZ g rfl];exact .bd (jE hs h g) (j4 h g rfl) λ_ t d q h=>.pos rfl (.ok rfl)|false=>refine .pre (jD h g) (.neg rfl ?_);cases g:aM t [102,111,114,97,108,108]with|true=>simp only[iZ g rfl];exact .bd (jE hs h g) (j4 h g rfl) λ_ t d q h=>.pos rfl (.dy (ih (.N 8) t d h.1 trivial q))|false=>refine .pre (jD h g) (.neg rfl ?_);cases g:aM t [101,120,105,115,116,115]with|true=>simp only[iZ g rfl];exact .bd (jE hs h g) (j4 h g rfl) λ_ t d q h=>.pos rfl (.dy (ih (.N 9) t d h.1 trivial q))|false=>refine .pre (jD h g) (.neg rfl ?_);cases g:aM t [102,117,110]with|true=>simp only[iZ g rfl];exact .bd (jE hs h g) (j4 h g rfl) λ_ t d q h=>.pos rfl (.dy (ih (.N 56) t d h.1 trivial q))|false=>refine .pre (jD h g) (.neg rfl ?_);rw[j];exact sT
  .obtain⟨p1,p2,p3⟩:=LO hp
   have g:∀b,b∉fU->aM t b=false:=λb hb=>by rw[Bool.eq_false_iff];intro e;rw[(jC e).1]at p3;exact hb p3
   simp only[g _ (by decide:[116,114,117,101]∉fU),g _ (by decide:[102,97,108,115,101]∉fU),g _ (by decide:[102,111,114,97,108,108]∉fU),g _ (by decide:[101,120,105,115,116,115]∉fU),g _ (by decide:[102,117,110]∉fU),ax (show 0<gX t.x by omega),mq h.ok (.inr e),zG];exact .pos (bne_iff_ne.2 hp) (.bd (oY hs h) (show Inv (bI s t d) (Nl s t)by rw[<-mq h.ok (.inr e)];exact sR h (by omega)) λ_ t d q h=>.bd (B6 hs ih h.1 rfl rfl) (DQ h.1) λ_ _ _ _ _=>.ok rfl)
 .unfold sp
  simp only[show(t.k==1)=false by rw[e];rfl,show(t.k==3)=true by rw[e];rfl]
  obtain⟨c,r,h1,h2⟩:=hk.sg e
  have hb:∀b,(∀c r,b=c::r->fi (c.toNat:Int)=false)->decide (t.x=bs b)=false:=λb hb=>aH λe=>by rw[e]at h1;rw[hb c r h1]at h2;cases h2
  have hp:bz s t d=bI s t d:=sS (by simp only[jj,hb [40] (by rintro _ _⟨⟩;rfl),hb [91] (by rintro _ _⟨⟩;rfl),hb [123] (by rintro _ _⟨⟩;rfl),Bool.or_self]) (by simp only[jk,hb [41] (by rintro _ _⟨⟩;rfl),hb [93] (by rintro _ _⟨⟩;rfl),hb [125] (by rintro _ _⟨⟩;rfl),Bool.or_self]);rw[hp];exact .pos (by rw[e];rfl) (.bd (oY hs h) l λ_ _ _ _ _=>.ok (by rw[show pv t=t.v by simp[pv,e]];rfl))
 .have g:∀b,b∉eh->aM t b=false:=λb hb=>LK h.ok e hb;unfold sp;simp only[show(t.k==1)=false by rw[e];rfl,show(t.k==3)=false by rw[e];rfl,show(t.k==2)=false by rw[e];rfl,Bool.false_and,g _ (by decide:[116,114,117,101]∉eh),g _ (by decide:[102,97,108,115,101]∉eh),g _ (by decide:[102,111,114,97,108,108]∉eh),g _ (by decide:[101,120,105,115,116,115]∉eh),g _ (by decide:[102,117,110]∉eh)];refine .neg (by rw[e];rfl) (.neg (by rw[e];rfl) (.ask (kS h.ok) ?_));cases g:aM t [40]with|true=>simp only[<-AB g,zG,wb];exact .pos rfl (.dy (B6 hs ih h rfl rfl))|false=>refine .neg rfl (.ask (kS h.ok) ?_);cases g:aM t [123]with|true=>simp only[<-AB g];exact .pos rfl (.dy (.step (λn=>WQ n _) (.bd (vq hs h rfl) (gq h) λ_ t d q h=>ih .B t d h.1 trivial q)))|false=>exact .neg rfl sT
 .exact absurd e h.k
end
end Go.AI
end

section
namespace Go.AI
open Go
section
variable {s:ByteArray}{α β γ δ:Type}{t:Tk}{d q:Int}{f:Nat}(hs:s.size<=65536)
include hs
theorem stepT{l:Nat}{X:AO TM}{K:TM->Tk->Int->AO TM}{Q:Tk->Int->Prop}{st}(h1:1<=l/\l<=12)(e:l≠5)(b:Zv (λn=>ec n ((l+1:Nat):Int) st) X (eE s))(hi:Inv X Q)(c:∀a t d q,Q t d->Zv (λn=>vg n (l:Int) (bc s t q d) a (0,bs [],0,0,bs []) (mV l) [] []) (K a t d) (eE s)):Zv (λn=>ec n (l:Int) st) (bd X K) (eE s):=by refine .step (λn=>vQ n _ _) (.neg (beq_eq_false_iff_ne.2 (by omega)) (.neg (beq_eq_false_iff_ne.2 (by omega)) ?_));rw[ja (by omega)];exact .bd b hi λa t d q h=>.dy (Xq h1.1 h1.2 e (c a t d q h))
theorem MO{X:AO TM}(h:aT s t d)(c:aM t [110,111,116]=false)(b:Zv (λn=>ec n 6 (bc s t q d)) X (eE s)):Zv (λn=>ec n 5 (bc s t q d)) X (eE s):=.step (λn=>vQ n _ _) (.pos rfl (.pre (jD h c) (.neg rfl (.dy b))))
theorem LU{X:AO TM}{Y:TM->Tk->Int->AO TM}{Q:Tk->Int->Prop}(h:aT s t d)(e:aM t [45]=false)(c:Zv (λn=>A9 n (bc s t q d)) X (eE s))(hi:Inv X Q)(b:∀a t d q,Q t d->Zv (λn=>ze n (bc s t q d) a (0,bs [],0,0,bs []) [] []) (Y a t d) (eE s)):Zv (λn=>ec n 13 (bc s t q d)) (bd X Y) (eE s):=.step (λn=>vQ n _ _) (.neg rfl (.pos rfl (.pre (jD h e) (.neg rfl (.bd c hi λa t d q h=>.dy (.step (λn=>Wr n _ _) (b a t d q h)))))))
theorem zT(ih:IH s f)(l:Nat)(h:aT s t d)(hl:1<=l/\l<=13):RZ s (f+1) t d (.T l):=λq=>by
 unfold sp
 split
 .cases b:aM t [110,111,116]with|true=>simp only[iZ b rfl];exact .step (λn=>vQ n _ _) (.pos rfl (.bd (jE hs h b) (j4 h b rfl) λ_ t d q h=>.pos rfl (.bd (lT hs ih 5 h.1 (by decide)) (eT f _ _ _ _ h.1 (Int.le_refl _)) λ_ _ _ _ _=>.ok rfl)))|false=>exact MO hs h b (lT hs ih 6 h (by decide))
 .cases b:aM t [45]with|true=>simp only[iZ b rfl];exact .step (λn=>vQ n _ _) (.neg rfl (.pos rfl (.bd (jE hs h b) (j4 h b rfl) λ_ t d q h=>.pos rfl (.bd (lT hs ih 13 h.1 (by decide)) (eT f _ _ _ _ h.1 (Int.le_refl _)) λ_ _ _ _ _=>.ok rfl))))|false=>exact LU hs h b (ih .A t d h trivial q) (eT f _ _ _ _ h (Int.le_refl _)) λa t d q h=>(ih (.F a) t d h.1 trivial).1 q _ _ _
 .rename_i e c;have e:l≠5:=e;have c:l≠13:=c;exact stepT hs ⟨hl.1,by omega⟩ e (lT hs ih (l+1) h ⟨by omega,by omega⟩) (eT f _ _ _ _ h (Int.le_refl _)) λa t d q h=>(ih (.M a l) t d h.1 ⟨hl.1,by omega,e⟩).1 q _ _ _
theorem OC(ih:IH s f)(a:TM)(b:Bool)(h:aT s t d)(hk:aM t [124]=true->b=true->a.1=16->∃x c,a.2.2.2.2.2.2=[av x,av c]/\(x.1=20->bF x.2.1=false))(hm:mu s t<=2*s.size+1):Zv (λn=>tH n a b (bc s t q d)) (sp s f (.E [av a]) t d) (eE s):=by have rest:=(ih (.E [av a]) t d h (by show((1:Nat):Int)+_<=_;omega)) q (0,bs [],0,0,bs []) [] [];refine .step (λn=>MA n _ _ _) (.ask (kS h.ok) (.ite (λi=>?_) λ_=>rest));cases b with|false=>exact .neg rfl rest|true=>refine .pos rfl (.ite (λg=>?_) λ_=>rest);obtain⟨x,c,h1,h2⟩:=hk i rfl (eq_of_beq g);rw[h1];refine .ae (m:=0) rfl rfl (.ite (λe=>?_) λ_=>rest);refine .ae (m:=0) rfl rfl (.ask (lx _) ?_);rw[show bF (gS (av x) 1)=false from h2 (eq_of_beq e)];exact .neg rfl rest
theorem zE1(ih:IH s f)(x:ByteArray)(c:TM)(h:aT s t d)(e:aM t [124]=true)(hx:bF x=true):Zv (λn=>tH n (nd 16 [av (nm 20 x []),av c]) true (bc s t q d)) (bd (bz s t d) λ_ t' d'=>bd (sp s f (.T 1) t' d') λb t' d'=>bd (cD s [125] t' d') λ_ t' d'=>ok (nm 55 x [av c,av b]) t' d') (eE s):=by refine .step (λn=>MA n _ _ _) (.ask (kS h.ok) (.pos e (.pos rfl (.pos rfl (.ae (m:=0) rfl rfl (.pos rfl (.ae (m:=0) rfl rfl (.ask (lx _) (.pos hx ?_)))))))));rw[iZ e rfl];exact .bd (oY hs h) (j4 h e rfl) λ_ t d q h=>.bd (lT hs ih 1 h.1 (by decide)) (eT f _ _ _ _ h.1 (Int.le_refl _)) λ_ t d q h=>.bd (sU hs h.1 rfl) (gq h.1) λ_ _ _ _ _=>.ae (m:=0) rfl rfl (.ae (m:=1) rfl rfl (.ok rfl))
theorem Vr{l:Nat}(b:aM t [105,110]=true)(hl:l≠6):dk l t==0:=by
 cases h:dk l t==0 with
 |true=>rfl
 |false=>
  have hm:=(sw h).2
  rw[(jC b).1]at hm
  have:∀p∈gi,p.1=[105,110]->p.2.1=6:=by decide
  exact absurd (this _ hm rfl) hl
theorem OD(h:aT s t d)(hk:t.k=1)(b:aM (aJ s t.e) [105,110]=true):∀k l:Nat,l+k=13->7<=l->Zv (λn=>ec n (l:Int) (bc s t q d)) (bd (bz s t d) λ_ t' d'=>ok (nm 20 t.x []) t' d') (eE s)
 |0,l,e,_=>by
  obtain rfl:l=13:=e
  have hA:sp s 1 .A t d=bd (bz s t d) λ_ t' d'=>ok (nm 20 t.x []) t' d':=by unfold sp;simp only[hk];rfl
  have hi:Inv (sp s 1 .A t d) λt' d'=>aT s t' d'/\t'=aJ s t.e:=λa t' d' e=>⟨(eT 1 .A t t d h (Int.le_refl _) a t' d' e).1,by rw[hA,mq h.ok (.inl hk)]at e;exact(fN.bd zz λ_ t' _ e=>.ok (Q:=λ(_:TM)t'=>t'=aJ s t.e) e) a t' d' e⟩
  have:=LU (Y:=λa t d=>ok a t d) (q:=q) hs h (Eu (by omega) (by omega)) (zA hs B4 h q) hi λa t' d' c h'=>by have:=(zF hs B4 a h'.1).1 c (0,bs [],0,0,bs []) [] [];unfold sp at this;rw[Ew (h'.2▸b) (by decide),Ew (h'.2▸b) (by decide),Ew (h'.2▸b) (by decide)]at this;exact this
  rw[wb,hA]at this;exact this
 |k+1,l,e,hl=>by
  have ih:=OD h hk b k (l+1) (by omega) (by omega)
  have hi:Inv (bd (bz s t d) λ_ t' d'=>ok (nm 20 t.x []) t' d') λt' d'=>aT s t' d'/\t'=aJ s t.e:=by refine .bd (Q:=λt' d'=>aT s t' d'/\t'=aJ s t.e) (λa t' d' e=>⟨(ly h a t' d' e).1,?_⟩) λ_ _ _ h=>.ok h;rw[mq h.ok (.inl hk)]at e;exact zz a t' d' e
  have:=stepT (K:=λa t d=>ok a t d) hs (l:=l) ⟨by omega,by omega⟩ (by omega) ih hi λa t' d' c h'=>by have:=(zM hs B4 a l h'.1 ⟨by omega,by omega,by omega⟩).1 c (0,bs [],0,0,bs []) [] [];unfold sp at this;rw[Vr hs (h'.2▸b) (by omega)]at this;exact this
  rw[wb]at this;exact this
end
end Go.AI
end

section
namespace Go.AI
open Go
section
variable {s:ByteArray}{α β γ δ:Type}{t:Tk}{d q:Int}{f:Nat}(hs:s.size<=65536)
theorem Zv.xg{H:Nat->Option (bg γ Unit)}{k:Nat->γ->Option (bg β Unit)}{Y:AO δ}{g:δ->Tk->Int->Int->γ}{K:δ->Tk->Int->AO α}{f:α->Tk->Int->Int->β}(h:Zv H Y g)(h1:∀a t d q,Y=some (some (a,t,d))->Zv (λn=>k n (g a t d q)) (K a t d) f):Zv (λn=>a7 (H n) (k n)) (Go.AI.bd Y K) f:=λo e=>by cases Y with|none=>cases e|some y=>cases y with|none=>cases e;obtain⟨c,q,e,h⟩:=h none rfl;exact⟨c,q,e,.mo h⟩|some y=>obtain⟨a,t,d⟩:=y;obtain⟨q,h⟩:=h _ rfl;exact Rv.pre (h1 a t d q rfl o e) h
theorem qz:mu s t<=2*s.size+1:=by unfold mu;split<;>omega
theorem Vs(b:aM t [105,110]=true):dk 6 t=16:=by unfold dk;obtain⟨h1,h2⟩:=jC b;rw[h1,show(t.k==4||t.k==2)=true by rcases h2 with h|h<;>rw[h]<;>rfl];rfl
include hs
theorem Z8{b:List UInt8}{d2:Int}{k:Nat->_->Option (bg γ Unit)}{K:Unit->Tk->Int->AO α}{g:α->Tk->Int->Int->γ}(h:aT s t d)(l:aM t b=true)(h1:∀i,(aJ s t.e).k≠5->Zv (λn=>k n (true,bc s (aJ s t.e) i d)) (K () (aJ s t.e) d2) g):Zv (λn=>a7 (gh n (bs b) (bc s t q d)) (k n)) (bd (bI s t d2) K) g:=λo e=>by have:=jE (q:=q) hs h l;unfold bI at this e;cases j:(aJ s t.e).k==5 with|true=>rw[j]at this e;cases e;obtain⟨c,q,h1,h2⟩:=this _ rfl;exact⟨c,q,h1,.mo h2⟩|false=>rw[j]at this e;obtain⟨i,h2⟩:=this _ rfl;exact Rv.pre (h1 i (beq_eq_false_iff_ne.1 j) o e) h2
def X7(s:ByteArray)(f:Nat)(t:Tk)(d:Int):AO TM:=bd (bz s t d) λ_ t' d'=>bd (bz s t' d') λ_ t' d'=>sp s f (.T 7) t' d'
omit hs in
theorem LV(h:aT s t d):Inv (X7 s f t d) (Ne s t):=.bd (ly h) λ_ _ _ h1=>.bd (ly h1.1) λ_ _ _ h2=>.ne (eT f _ _ _ _ h2.1 (Int.le_refl _)) (by have:=h1.2.1;have:=h2.2.1;omega)
omit hs in
theorem Z9:fN (X7 s f t d) λ_ _=>f≠0:=.bd .tt λ_ _ _ _=>.bd .tt λ_ _ _ _=>λ_ _ _ e=>by rintro rfl;cases e
abbrev kt(t:Tk)(a:TM):TM:=nd 16 [av (nm 20 t.x []),av a]
abbrev tV(s:ByteArray)(f:Nat)(X:AO TM):AO TM:=bd (bd (bd (bd X λa t d=>sp s f (.M a 4) t d) λa t d=>sp s f (.M a 3) t d) λa t d=>sp s f (.M a 2) t d) λa t d=>sp s f (.M a 1) t d
theorem zIN(ih:IH s f)(h:aT s t d)(hk:t.k=1)(g:aM (aJ s t.e) [105,110]=true):Zv (λn=>ec n 1 (bc s t q d)) (tV s f (bd (X7 s f t d) λa t' d'=>ok (kt t a) t' d')) (eE s):=by
 have hi:Inv (bd (bz s t d) λ_ t' d'=>ok (nm 20 t.x []) t' d') λt' d'=>aT s t' d'/\t'=aJ s t.e:=by refine .bd (Q:=λt' d'=>aT s t' d'/\t'=aJ s t.e) (λa t' d' e=>⟨(ly h a t' d' e).1,?_⟩) λ_ _ _ h=>.ok h;rw[mq h.ok (.inl hk)]at e;exact zz a t' d' e
 have c:=stepT (K:=λa t d=>bd (bz s t d) λ_ t' d'=>bd (sp s f (.T 7) t' d') λb t' d'=>ok (nd 16 [av a,av b]) t' d') hs (l:=6) (by decide) (by decide) (OD (q:=q) hs h hk g 6 7 rfl (by decide)) hi λa t' d' i h'=>by have:=(zM hs ih a 6 h'.1 ⟨by decide,by decide,by decide⟩).1 i (0,bs [],0,0,bs []) [] [];unfold sp at this;rw[Vs (h'.2▸g)]at this;exact this
 have c:Zv (λn=>ec n ((6:Nat):Int) (bc s t q d)) (bd (X7 s f t d) λa t' d'=>ok (kt t a) t' d') (eE s):=by unfold X7;simp only[ow]at c⊢;exact c
 have j:Inv (bd (X7 s f t d) λa t' d'=>ok (kt t a) t' d') (Ne s t):=.bd (LV h) λ_ _ _ h=>.ok h;have go:∀{l:Nat}{X:AO TM},1<=l/\l<=4->Zv (λn=>ec n ((l+1:Nat):Int) (bc s t q d)) X (eE s)->Inv X (Ne s t)->Zv (λn=>ec n (l:Int) (bc s t q d)) (bd X λa t d=>sp s f (.M a l) t d) (eE s)/\Inv (bd X λa t d=>sp s f (.M a l) t d) (Ne s t):=λ{l X}hl m hi=>⟨stepT hs ⟨hl.1,by omega⟩ (by omega) m hi λa t d q h=>(ih (.M a l) t d h.1 ⟨hl.1,by omega,by omega⟩).1 q _ _ _,.bd hi λa t' d' h'=>eT f _ _ _ _ h'.1 h'.2⟩;have o:=MO hs h (Eu (by omega) (by omega)) c;have h4:=go (l:=4) (by decide) o j;have h3:=go (l:=3) (by decide) h4.1 h4.2;have h2:=go (l:=2) (by decide) h3.1 h3.2;exact(go (l:=1) (by decide) h2.1 h2.2).1
theorem zB(ih:IH s f)(h:aT s t d):RZ s (f+1) t d .B:=λq=>by
 unfold sp
 show Zv (λn=>BP n (bc s t q d)) _ _
 unfold BP
 cases G:aM t [125]with
 |true=>
  have hc:=(jC G).1
  have hp:bz s t d=bI s t (d-1):=zx (by rw[hc];rfl) (by rw[hc];rfl)
  simp only[hp]
  refine Z8 hs h G λu O=>.pos rfl ?_
  have h':aT s (aJ s t.e) (d-1):=(ly h () _ _ (by rw[hp];unfold bI;rw[beq_eq_false_iff_ne.2 O];rfl)).1
  have e:jh (bc s (aJ s t.e) u d) (IntKind.i64.wrap (d-1))=bc s (aJ s t.e) u (d-1):=by have:=h.b hs;rw[ja (by omega)];rfl
  show Zv (λn=>a7 (nQ n (bs [91]) (jh (bc s (aJ s t.e) u d) (IntKind.i64.wrap (d-1)))) _) _ _;rw[e];exact .bd (vq hs h' rfl) (gq h') λ_ t d q h=>.bd (ih .Y t d h.1 trivial q) (eT f _ _ _ _ h.1 (Int.le_refl _)) λ_ t d q h=>.bd (sU hs h.1 rfl) (gq h.1) λ_ _ _ _ _=>.ok rfl
 |false=>
  refine .pre (jD h G) (.neg rfl ?_)
  cases hc:t.k==1&&bF t.x&&mM s t with
  |false=>
   refine .xg (lT hs ih 1 h (by decide)) λa t' d' u e=>.dy ?_
   have h':=(eT f _ _ _ _ h (Int.le_refl _) a t' d' e).1
   refine OC hs ih a _ h' (λ_ hb m=>?_) qz
   have hk:t.k=1\/t.k=2:=by
    have hb:(pk t.k==1)=true:=hb
    obtain⟨i,hk⟩:=h.ok
    rcases hk.kd with e|e|e|e|e|e
    .rw[e]at hb;cases hb
    .exact .inl e
    .exact .inr e
    .rw[e]at hb;cases hb
    .rw[e]at hb;cases hb
    .exact absurd e h.k
   obtain⟨x,c,h1,h2⟩:=(Gr f 1 t d h hk a t' d' e).2 m
   refine⟨x,c,h1,λI=>?_⟩
   obtain⟨v,L,J⟩:=h2 I
   rw[L]
   show bF t.x=false
   have hf:mM s t=true:=by
    obtain⟨j1,j2⟩:=jC J
    unfold mM
    rw[j1]
    rcases j2 with j2|j2
    .have:=LK ⟨_,qe h.e⟩ j2 (by decide:[105,110]∉eh);rw[J]at this;cases this
    .rw[j2];rfl
   rw[v,hf]at hc;simpa using hc
  |true=>
   simp only[aX,beq_iff_eq]at hc
   obtain⟨⟨v,hid⟩,hf⟩:=hc
   have D:aM (aJ s t.e) [105,110]=true:=by unfold mM at hf;rw[aX]at hf;unfold aM;rw[hf.1,hf.2];simp
   have hF:=zIN (q:=q) hs ih h v D
   have j:(pk t.k==1)=true:=by rw[v];rfl
   have C:∀W:TM->Tk->Int->AO TM,bd (bz s t d) (λ_ t' d'=>bd (bz s t' d') λ_ t' d'=>bd (sp s f (.T 7) t' d') W)=bd (X7 s f t d) W:=λW=>by unfold X7;simp only[ow]
   simp only[C]
   show Zv (λn=>a7 (ec n 1 (bc s t q d)) λo=>dy (tH n (bp o) (pk t.k==1) o.2.2.2.2.2.2.2)) _ _
   rw[j]
   have F:=LV (f:=f) h
   have p:=Z9 (s:=s) (f:=f) (t:=t) (d:=d)
   generalize X7 s f t d=X at hF F p⊢
   cases X with
   |none=>exact .nil
   |some X=>
    cases X with
    |none=>exact .xg hF λ_ _ _ _ e=>by cases e
    |some X=>
     obtain⟨a,t',d'⟩:=X
     have N:=F a t' d' rfl
     have hf:=p a t' d' rfl
     show Zv _ (match aM t' [124]with|true=>_|false=>_) _
     cases hb:aM t' [124]with
     |true=>
      obtain⟨g,rfl⟩:∃g,f=g+1:=⟨f-1,by omega⟩
      have w:∀a l,sp s (g+1) (.M a l) t' d'=ok a t' d':=λa l=>by unfold sp;rw[TU hb]
      have hF:Zv (λn=>ec n 1 (bc s t q d)) (ok (kt t a) t' d') (eE s):=by
       have e:tV s (g+1) (bd (some (some (a,t',d'))) λa t' d'=>ok (kt t a) t' d')=ok (kt t a) t' d':=by show bd (bd (bd (sp s (g+1) (.M (kt t a) 4) t' d') _) _) _=_;rw[w];show bd (bd (sp s (g+1) (.M (kt t a) 3) t' d') _) _=_;rw[w];show bd (sp s (g+1) (.M (kt t a) 2) t' d') _=_;rw[w];exact w _ _
       rw[e]at hF;exact hF
      exact Zv.xg (K:=λ_ t' d'=>bd (bz s t' d') λ_ t' d'=>bd (sp s (g+1) (.T 1) t' d') λb t' d'=>bd (cD s [125] t' d') λ_ t' d'=>ok (nm 55 t.x [av a,av b]) t' d') hF λz t2 d2 q2 e=>by cases e;exact .dy (zE1 hs ih t.x a N.1 hb hid)
     |false=>have e:∀W:TM->Tk->Int->AO TM,(bd (sp s f (.M (kt t a) 4) t' d') λa t d=>bd (sp s f (.M a 3) t d) λa t d=>bd (sp s f (.M a 2) t d) λa t d=>bd (sp s f (.M a 1) t d) W)=bd (tV s f (bd (some (some (a,t',d'))) λa t' d'=>ok (kt t a) t' d')) W:=λW=>by simp only[tV,ow];rfl
             simp only[e];have hA:fN (tV s f (bd (some (some (a,t',d'))) λa t' d'=>ok (kt t a) t' d')) λa' t'=>a'.1=16->aM t' [124]=false:=.bd (.bd (.bd (.bd (.bd (Q:=λ_ t'=>aM t' [124]=false) (λ_ _ _ e=>by cases e;exact hb) λ_ _ _ h=>.ok λ_=>h) λa t d h=>xf f a 4 t d (by decide) h) λa t d h=>xf f a 3 t d (by decide) h) λa t d h=>xf f a 2 t d (by decide) h) λa t d h=>xf f a 1 t d (by decide) h;have hI:Inv (tV s f (bd (some (some (a,t',d'))) λa t' d'=>ok (kt t a) t' d')) (Ne s t):=.bd (.bd (.bd (.bd (.bd F λ_ _ _ h=>.ok h) λ_ _ _ h=>eT f _ _ _ _ h.1 h.2) λ_ _ _ h=>eT f _ _ _ _ h.1 h.2) λ_ _ _ h=>eT f _ _ _ _ h.1 h.2) λ_ _ _ h=>eT f _ _ _ _ h.1 h.2;exact .xg hF λz t2 d2 q2 e=>.dy (OC hs ih z true (hI z t2 d2 e).1 (λE _ m=>by have:=hA z t2 d2 e m;rw[E]at this;cases this) qz)
theorem nY:∀f,IH s f|0=>B4|f+1=>λc t d h aS=>by cases c with|T l=>exact zT hs (nY f) l h aS|M a l=>exact zM hs (nY f) a l h aS|F a=>exact zF hs (nY f) a h|A=>exact zA hs (nY f) h|B=>exact zB hs (nY f) h|E acc=>exact zE hs (nY f) acc h aS|Y=>exact zY hs (nY f) h|N o=>exact zN hs (nY f) o h
end
end Go.AI
end
