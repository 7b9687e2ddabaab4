/-
  A part of the proof: Q23 Q24 Q25 Q26 Q27 Q28 Q29 Q30.
-/
import Derived.Test.YtidicphjlgjajaaGreatDoorQd
set_option linter.all false

section
namespace Go.AI
open Go
abbrev ST:=Int×Int×ByteArray×Rows×Rows×Rows
structure GS(S:ST):Prop where
 i1:cX S.1
 i2:cX S.2.1
 nm:S.2.2.1.size<=500000
 pt:∃l:List Int,S.2.2.2.1=l.map iR/\l.length<=1000000/\∀x∈l,cX x
 ks:∃l:List Int,S.2.2.2.2.2=l.map iR/\l.length<=1000000/\∀x∈l,cX x
 ts:∃l:List TM,S.2.2.2.2.1=l.map av/\l.length<=1000000/\∀a∈l,GT a
theorem yi{v:Int}(h:cX v):(aY v).size<=20:=by
 have h1:-9223372036854775808<=v:=h.1
 have h2:v<=9223372036854775807:=h.2
 unfold aY Lib.itoa
 rw[ba]
 split
 .have:=sv (u:=v.natAbs) (by omega);simp only[aN];omega
 .have:=sv (u:=v.toNat) (by omega);omega
theorem CR{xs:List (List UInt8)}{y p:List UInt8}(h:xs≠[]):Lib.join (xs++[y]) p=Lib.join xs p++(p++y):=by cases xs with|nil=>exact absurd rfl h|cons x r=>rw[List.cons_append,Lib.join_cons,Lib.join_cons,List.append_assoc];congr 1;simp[Lib.joinTail]
theorem I9(xs:List (List UInt8))(p:ByteArray):nI (xs.map rS) p=bs (Lib.join xs p.data.toList):=by
 unfold nI o8
 rw[List.map_map]
 congr 2
 conv=>rhs;rw[<-List.map_id xs]
 rfl
theorem l4(a b c:ByteArray):a++b++c=a++(b++c):=ByteArray.append_assoc
theorem me(a b:List UInt8):bs (a++b)=bs a++bs b:=ByteArray.ext (Array.ext' (by simp))
def gH(l:List Int)(p:ByteArray):ByteArray:=bs (Lib.join (l.map Lib.itoa) p.data.toList)
theorem Kx:∀{l:List Int},(∀x∈l,cX x)->Lib.lens (l.map Lib.itoa)<=20*l.length
 |[],_=>by simp[Lib.lens]
 |x::l,h=>by
  have:=Kx λy hy=>h y (.tail _ hy)
  have h2:(Lib.itoa x).length<=20:=by have:=yi (h x (.head _));unfold aY at this;rw[ba]at this;exact this
  simp only[Lib.lens,List.map_cons,List.sum_cons,aN]at this⊢;omega
theorem zH{l:List Int}{p:ByteArray}(h:∀x∈l,cX x)(hp:p.size=1):(gH l p).size<=21*l.length:=by unfold gH;rw[ba];have hl:=Kx h;cases l with|nil=>simp[Lib.join_nil]|cons x r=>rw[List.map_cons]at hl⊢;rw[Lib.join_length,bV,hp,List.length_map];simp only[aN]at hl⊢;omega
section
variable {l:List Int}{p:ByteArray}(hI:∀x∈l,cX x)(hl:l.length<=1000000)(hp:p.size=1)
include hI hl hp
theorem LW:Ev (λn=>BW n (l.map iR) p) (gH l p):=by
 have go:∀(d i:Nat)(acc:List (List UInt8)),l.length-i=d->acc=(l.take i).map Lib.itoa->Ev (λn=>Ap n p (l.map iR) ((l.map iR).length:Int) (i:Int) (acc.map rS)) (gH l p):=by
  intro d
  induction d with
  |zero=>intro i acc hd ha;rw[List.take_of_length_le (by omega)]at ha;subst ha;have hj:nI ((l.map Lib.itoa).map rS) p=gH l p:=I9 _ _;have hz:=zH hI hp;refine .step (λn=>Ll n _ _ _ _ _) (.neg (aH (by rw[List.length_map];omega)) (.pos (ax ?_) (by rw[hj];exact .ret _)));refine⟨by simp only[List.length_map];omega,?_⟩;have e:(bs (Lib.join (o8 ((l.map Lib.itoa).map rS)) p.data.toList)).size=(gH l p).size:=congrArg ByteArray.size hj;rw[ba]at e;omega
  |succ d ih=>
   intro i acc hd ha
   have hi:i<l.length:=by omega
   have hg:(l.map iR)[i]?=some (iR l[i]):=by rw[List.getElem?_map,List.getElem?_eq_getElem hi];rfl
   have hv:=hI l[i] (List.getElem_mem hi)
   refine .step (λn=>Ll n _ _ _ _ _) (.pos (ax (by rw[List.length_map];omega)) (.ae rfl hg (.pos (ax hv) (.fits ?_ ?_))))
   .rw[ha];simp only[List.length_map,List.length_take,List.length_singleton];omega
   .rw[IntWalk.i64_in _ (by omega)];have:=ih (i+1) (acc++[Lib.itoa l[i]]) (by omega) (by rw[List.take_succ_eq_append_getElem hi,List.map_append,<-ha];rfl);rw[List.map_append]at this;exact this
 exact .step (λn=>Yd n _ _) (go _ 0 [] rfl rfl)
theorem LX:Ev (λn=>Be n (l.map iR) p) (gH l p):=by
 have go:∀(d i:Nat),l.length-i=d->i<=l.length->Ev (λn=>vj n (l.map iR) p (gH (l.take i) p) (i:Int)) (gH l p):=by
  intro d
  induction d with
  |zero=>intro i hd _;rw[List.take_of_length_le (by omega)];exact .step (λn=>J7 n _ _ _ _) (.neg (aH (by rw[List.length_map];omega)) (.ret _))
  |succ d ih=>
   intro i hd g
   have hi:i<l.length:=by omega
   have hg:(l.map iR)[i]?=some (iR l[i]):=by rw[List.getElem?_map,List.getElem?_eq_getElem hi];rfl
   have hv:=hI l[i] (List.getElem_mem hi)
   have hz:=zH (l:=l.take i) (λx hx=>hI x (List.mem_of_mem_take hx)) hp
   rw[List.length_take]at hz
   have f:=yi hv
   have ih:=ih (i+1) (by omega) (by omega)
   have e:gH (l.take (i+1)) p=(if 0<i then gH (l.take i) p++p else gH (l.take i) p)++aY l[i]:=by
    unfold gH
    rw[List.take_succ_eq_append_getElem hi,List.map_append]
    split
    .rename_i h0
     have:(l.take i).map Lib.itoa≠[]:=λe=>by have:=congrArg List.length e;simp only[List.length_map,List.length_take,List.length_nil]at this;omega
     show bs (Lib.join (_++[Lib.itoa l[i]]) _)=_;rw[CR this,me,me,l4];rfl
    .rename_i h0
     have:i=0:=by omega
     subst this;show bs (Lib.join [Lib.itoa l[0]] _)=bs []++_;rw[Lib.join_one,show bs []++aY l[0]=aY l[0]from ByteArray.empty_append];rfl
   have c:∀x:ByteArray,x.size<=30000000->x++aY l[i]=gH (l.take (i+1)) p->Ev (λn=>zq n (l.map iR) p x (i:Int)) (gH l p):=λx hx b=>.step (λn=>Tq n _ _ _ _) (.ae rfl hg (.ask (Ax hv) (.ai (by show x.size+(aY l[i]).size<=_;omega) (by rw[IntWalk.i64_in _ (by omega)];show Ev (λn=>vj n _ _ (x++aY l[i]) _) _;rw[b];exact ih))))
   refine .step (λn=>J7 n _ _ _ _) (.pos (ax (by rw[List.length_map];omega)) (.ite (λh0=>?_) λh0=>?_))
   .have h0:0<i:=by have:=dP h0;omega
    rw[if_pos h0]at e;exact .ai (by omega) (c _ (by rw[bj];omega) e.symm)
   .have h0:¬0<i:=by have:=of_decide_eq_false h0;omega
    rw[if_neg h0]at e;exact c _ (by omega) e.symm
 exact .step (λn=>W7 n _ _) (go _ 0 rfl (Nat.zero_le _))
end
end Go.AI
end

section
namespace Go.AI
open Go
section
variable {S:ST}(h:GS S)
def fb(S:ST)(x:ByteArray):ByteArray:=if S.2.1≠0 then x++(bs [32,98,32]++aY S.2.1)else x
def gJ(S:ST)(x:ByteArray):ByteArray:=if S.2.2.1≠bs []then x++(bs [32,110,32]++S.2.2.1)else x
def gK(l:List Int)(c:UInt8)(p:ByteArray)(x:ByteArray):ByteArray:=if l≠[]then x++(bs [32,c,32]++gH l p)else x
theorem yT{l:List Int}{c:UInt8}{p x:ByteArray}(h:l=[]):gK l c p x=x:=if_neg λe=>e h
theorem zI{l:List Int}{c:UInt8}{p x:ByteArray}(h:l≠[]):gK l c p x=x++(bs [32,c,32]++gH l p):=if_pos h
def hG:List ByteArray->ByteArray->ByteArray|[],x=>x|f::fs,x=>hG fs (x++(bs [32,58,32]++f))
theorem Ky:∀(fs:List ByteArray)(a b:ByteArray),hG fs (a++b)=a++hG fs b|[],_,_=>rfl|f::fs,a,b=>by show hG fs (a++b++_)=a++hG fs (b++_);rw[l4,Ky fs]
theorem Sn:∀(fs:List ByteArray)(a:ByteArray),(∀f∈fs,f.size<=1400000)->(hG fs a).size<=a.size+1400003*fs.length|[],a,_=>by show a.size<=_;omega|f::fs,a,hf=>by have:=Sn fs (a++(bs [32,58,32]++f)) λg hg=>hf g (.tail _ hg);have h1:=hf f (.head _);rw[bj,bj,show(bs [32,58,32]).size=3 from rfl]at this;show(hG fs _).size<=_;simp only[aN];omega
theorem NR:∀(ts:List TM),(∀a∈ts,GT a)->∃fs:List ByteArray,fs.length=ts.length/\(∀f∈fs,f.size<=1400000)/\∀(i:Nat)a,ts[i]?=some a->∃f,fs[i]?=some f/\
 Ev (λl=>w4 l a.1 a.2.1 a.2.2.1 a.2.2.2.1 a.2.2.2.2.1 a.2.2.2.2.2.1 a.2.2.2.2.2.2) f/\Ev (λl=>wt l a.1 a.2.1 a.2.2.1 a.2.2.2.1 a.2.2.2.2.1 a.2.2.2.2.2.1 a.2.2.2.2.2.2) f
 |[],_=>⟨[],rfl,(λ_ h=>nomatch h),(λ_ _ h=>by cases h)⟩
 |a::ts,h=>by
  obtain⟨fs,h1,h2,h3⟩:=NR ts λb hb=>h b (.tail _ hb)
  have ha:=h a (.head _)
  have hw:=ha.weight
  have hg:=oX a
  obtain⟨f,q1,q2,q3⟩:=formatTerm a.1 a.2.1 a.2.2.1 a.2.2.2.1 a.2.2.2.2.1 a.2.2.2.2.2.1 a.2.2.2.2.2.2 (by omega) (by show _<=_;omega)
  refine⟨f::fs,by rw[aN,aN,h1],λg hg=>?_,λi b hb=>?_⟩
  .rcases List.mem_cons.1 hg with rfl|hg
   .exact q1
   .exact h2 g hg
  .cases i with|zero=>cases hb;exact⟨f,rfl,q2,q3⟩|succ i=>exact h3 i b hb
theorem DR{ts:List TM}{fs:List ByteArray}{J:Nat->ByteArray->Int->Option ByteArray}{N:Nat->TM->Option ByteArray}
 (hl:ts.length<=1000000)(e:fs.length=ts.length)(hf:∀f∈fs,f.size<=1400000)(g:∀(i:Nat)a,ts[i]?=some a->∃f,fs[i]?=some f/\Ev (λl=>N l a) f)
 (hJ:∀n x i,J (n+1) x i=aa (decide (i<((ts.map av).length:Int))) (ae (ts.map av) i λb=>ask (N n (gI b 0,gS b 1,gI b 2,gI b 3,gS b 4,gD b 5,gD b 6)) λj=>ai (bs [32,58,32]) j λm=>ai x m λk=>J n k (IntKind.i64.wrap (i+1))) (some x)):
 ∀(d i:Nat)(x:ByteArray),ts.length-i=d->x.size<=100000000+1400003*i->Ev (λn=>J n x (i:Int)) (hG (fs.drop i) x)
 |0,i,x,hd,_=>by rw[List.drop_eq_nil_of_le (by omega)];exact .step (λn=>hJ n _ _) (.neg (aH (by rw[List.length_map];omega)) (.ret _))
 |d+1,i,x,hd,hx=>by
  have hi:i<ts.length:=by omega
  have hg:(ts.map av)[i]?=some (av ts[i]):=by rw[List.getElem?_map,List.getElem?_eq_getElem hi];rfl
  obtain⟨f,h1,h2⟩:=g i _ (List.getElem?_eq_getElem hi);obtain⟨c,h1⟩:=List.getElem?_eq_some_iff.1 h1;have hz:=hf f (h1▸List.getElem_mem c);rw[List.drop_eq_getElem_cons c,h1];have o:(bs [32,58,32]).size=3:=rfl;refine .step (λn=>hJ n _ _) (.pos (ax (by rw[List.length_map];omega)) (.ae rfl hg (.ask h2 (.ai (by omega) (.ai (by rw[bj];omega) ?_)))));rw[IntWalk.i64_in _ (by omega)];exact DR hl e hf g hJ d (i+1) _ (by omega) (by rw[bj,bj];omega)
theorem AD{l:List Int}:decide (((l.map iR).length:Int)>0)=decide (l≠[]):=by rw[decide_eq_decide];cases l with|nil=>simp|cons x l=>simp
theorem Ia:∀(i:Nat)(l:List UInt8),cQ i l++l=cQ (i+1) l|0,l=>by show[]++l=l++[];rw[List.append_nil];rfl|i+1,l=>by show l++cQ i l++l=l++cQ (i+1) l;rw[List.append_assoc,Ia i l]
theorem Di:∀(i:Nat)(l:List UInt8),(cQ i l).length=i*l.length|0,l=>by show 0=_;omega|i+1,l=>by show(l++cQ i l).length=_;rw[List.length_append,Di i l,Nat.add_mul];omega
theorem So(h:GS S):∃L:ByteArray,Ev (λn=>jN n S) L/\∀d:Nat,d<=1000000->Ev (λn=>BV n S (d:Int)) (bs (cQ d [32,32])++L):=by
 obtain⟨g,b,name,path,Au,M⟩:=S
 obtain⟨i1,i2,nm,⟨pl,rfl,p2,p3⟩,⟨kl,rfl,O,B⟩,⟨v,rfl,t2,U⟩⟩:=h
 dsimp only at i1 i2 nm
 obtain⟨fs,R,Q,P⟩:=NR v U
 let S:ST:=(g,b,name,pl.map iR,v.map av,kl.map iR)
 have X:=zH (p:=bs [46]) p3 rfl
 have Y:=zH (p:=bs [44]) B rfl
 have hr:=yi i1
 have hb:=yi i2
 have m:∀c:UInt8,(bs [32,c,32]).size=3:=λ_=>rfl
 have w:∀x,(fb S x).size<=x.size+23:=λx=>by
  unfold fb;split
  .rw[bj,bj,m];show _+(3+(aY b).size)<=_;omega
  .omega
 have z:∀x,(gJ S x).size<=x.size+500003:=λx=>by
  unfold gJ;split
  .rw[bj,bj,m];show _+(3+name.size)<=_;omega
  .omega
 have D:∀x,(gK pl 112 (bs [46]) x).size<=x.size+21000003:=λx=>by
  unfold gK;split
  .rw[bj,bj,m];omega
  .omega
 have V:∀x,(gK kl 107 (bs [44]) x).size<=x.size+21000003:=λx=>by
  unfold gK;split
  .rw[bj,bj,m];omega
  .omega
 let body(x:ByteArray):ByteArray:=gK kl 107 (bs [44]) (gK pl 112 (bs [46]) (gJ S (fb S x)))
 have u:∀x,(body x).size<=x.size+45000000:=λx=>by have:=w x;have:=z (fb S x);have:=D (gJ S (fb S x));have:=V (gK pl 112 (bs [46]) (gJ S (fb S x)));show(gK kl 107 (bs [44]) _).size<=_;omega
 have C:∀a x,body (a++x)=a++body x:=λa x=>by
  show gK _ _ _ (gK _ _ _ (gJ _ (fb _ _)))=a++gK _ _ _ (gK _ _ _ (gJ _ (fb _ _)))
  have e1:fb S (a++x)=a++fb S x:=by unfold fb;split<;>simp only[l4]
  have Z:∀y,gJ S (a++y)=a++gJ S y:=λy=>by unfold gJ;split<;>simp only[l4]
  have T:∀l c p y,gK l c p (a++y)=a++gK l c p y:=λl c p y=>by unfold gK;split<;>simp only[l4]
  rw[e1,Z,T,T]
 refine⟨hG fs (body (aY g)),?_,λd hd=>?_⟩
 .
  have fin:∀W:List (List UInt8),W≠[]->W.length<=20->bs (Lib.join W [32])=body (aY g)->Ev (λn=>zb n S (W.map rS)) (hG fs (body (aY g))):=λW hW hl o=>by
   have hj:nI (W.map rS) (bs [32])=body (aY g):=(I9 _ _).trans o
   have hz:=u (aY g)
   refine .step (λn=>Tc n _ _) (.pos (ax ⟨by rw[List.length_map];omega,?_⟩) ?_)
   .have e:(bs (Lib.join (o8 (W.map rS)) [32])).size=_:=congrArg ByteArray.size hj;rw[ba]at e;show(Lib.join (o8 (W.map rS)) [32]).length<=_;omega
   .rw[hj];exact DR (J:=λn x i=>Ai n x (v.map av) ((v.map av).length:Int) i) (N:=λn a=>w4 n a.1 a.2.1 a.2.2.1 a.2.2.2.1 a.2.2.2.2.1 a.2.2.2.2.2.1 a.2.2.2.2.2.2) t2 R Q (λi a e=>let⟨f,q1,q2,_⟩:=P i a e;⟨f,q1,q2⟩) (λn x i=>UX n _ _ _ _) _ 0 _ rfl (by omega)
  have two:∀(W:List (List UInt8))(c:UInt8)(y:ByteArray),W≠[]->bs (Lib.join (W++[[c],y.data.toList]) [32])=bs (Lib.join W [32])++(bs [32,c,32]++y):=λW c y hW=>by rw[show W++[[c],y.data.toList]=(W++[[c]])++[y.data.toList]by rw[List.append_assoc];rfl,CR (by simp),CR hW,me,me,me,me,l4];congr 1
  have F:∀W:List (List UInt8),W≠[]->W.length<=10->bs (Lib.join W [32])=gK pl 112 (bs [46]) (gJ S (fb S (aY g)))->Ev (λn=>Aj n S (W.map rS)) (hG fs (body (aY g))):=λW hW hl o=>by
   refine .step (λn=>UY n _ _) ?_
   show Ev (λn=>aa (decide (((kl.map iR).length:Int)>0)) _ _) _
   rw[AD]
   by_cases hk:kl=[]
   .exact .neg (aH (λe=>e hk)) (fin W hW (by omega) (o.trans (yT hk).symm))
   .refine .pos (ax hk) (.ask (LW B O rfl) (.fits (by simp only[List.length_map,aN,List.length_nil];omega) ?_));have:=fin (W++[[107],(gH kl (bs [44])).data.toList]) (by simp) (by rw[List.length_append];simp only[aN,List.length_nil];omega) ((two _ _ _ hW).trans (by rw[o];exact(zI hk).symm));rw[List.map_append]at this;exact this
  have I:∀W:List (List UInt8),W≠[]->W.length<=8->bs (Lib.join W [32])=gJ S (fb S (aY g))->Ev (λn=>Ak n S (W.map rS)) (hG fs (body (aY g))):=λW hW hl o=>by
   refine .step (λn=>UZ n _ _) ?_
   show Ev (λn=>aa (decide (((pl.map iR).length:Int)>0)) _ _) _
   rw[AD]
   by_cases hk:pl=[]
   .exact .neg (aH (λe=>e hk)) (F W hW (by omega) (o.trans (yT hk).symm))
   .refine .pos (ax hk) (.ask (LW p3 p2 rfl) (.fits (by simp only[List.length_map,aN,List.length_nil];omega) ?_));have:=F (W++[[112],(gH pl (bs [46])).data.toList]) (by simp) (by rw[List.length_append];simp only[aN,List.length_nil];omega) ((two _ _ _ hW).trans (by rw[o];exact(zI hk).symm));rw[List.map_append]at this;exact this
  have K:∀W:List (List UInt8),W≠[]->W.length<=6->bs (Lib.join W [32])=fb S (aY g)->Ev (λn=>Am n S (W.map rS)) (hG fs (body (aY g))):=λW hW hl o=>by
   refine .step (λn=>U0 n _ _) ?_
   show Ev (λn=>aa (!ao name (bs [])) _ _) _
   rw[fh]
   by_cases hk:name=bs []
   .exact .neg (by rw[ax hk];rfl) (I W hW (by omega) (by rw[o];unfold gJ;rw[if_neg (λe=>e hk)]))
   .refine .pos (by rw[aH hk];rfl) (.fits (by simp only[List.length_map,aN,List.length_nil];omega) ?_);have:=I (W++[[110],name.data.toList]) (by simp) (by rw[List.length_append];simp only[aN,List.length_nil];omega) (by rw[two _ _ _ hW,o];unfold gJ;rw[if_pos hk]);rw[List.map_append]at this;exact this
  refine .step (λn=>X3 n _) (.pos (ax i1) ?_)
  show Ev (λn=>aa (b !=0) _ _) _
  by_cases j:b=0
  .exact .neg (by rw[j];rfl) (K [Lib.itoa g] (by simp) (by simp) (by rw[Lib.join_one];unfold fb;rw[if_neg (λe=>e j)];rfl))
  .refine .pos (bne_iff_ne.2 j) (.pos (ax i2) (.fits (by simp only[aN,List.length_nil];omega) ?_));exact K ([Lib.itoa g]++[[98],(aY b).data.toList]) (by simp) (by simp) (by rw[two _ _ _ (by simp),Lib.join_one];unfold fb;rw[if_pos j];rfl)
 .rw[<-Ky,<-C]
  have b0:(bs (cQ d [32,32])++aY g).size<=2*d+20:=by rw[bj,ba,Di];simp only[aN,List.length_nil];omega
  have q:∀x,x=body (bs (cQ d [32,32])++aY g)->Ev (λn=>tc n x 0 S) (hG fs (body (bs (cQ d [32,32])++aY g))):=λx hx=>by have hz:=u (bs (cQ d [32,32])++aY g);rw[<-hx]at hz⊢;exact DR (J:=λn x i=>tc n x i S) (N:=λn a=>wt n a.1 a.2.1 a.2.2.1 a.2.2.2.1 a.2.2.2.2.1 a.2.2.2.2.2.1 a.2.2.2.2.2.2) t2 R Q (λi a e=>let⟨f,q1,_,q2⟩:=P i a e;⟨f,q1,q2⟩) (λn x i=>U3 n _ _ _) _ 0 _ rfl (by omega)
  have hy:bs (cQ d [32,32])++aY g=bs (cQ d [32,32])++aY g:=rfl
  have t:∀x,x=gK pl 112 (bs [46]) (gJ S (fb S (bs (cQ d [32,32])++aY g)))->Ev (λn=>zl n x S) (hG fs (body (bs (cQ d [32,32])++aY g))):=λx hx=>by
   have hz:x.size<=60000000:=by have:=w (bs (cQ d [32,32])++aY g);have:=z (fb S (bs (cQ d [32,32])++aY g));have:=D (gJ S (fb S (bs (cQ d [32,32])++aY g)));rw[hx];omega
   refine .step (λn=>Tj n _ _) ?_
   show Ev (λn=>aa (decide (((kl.map iR).length:Int)>0)) _ _) _
   rw[AD]
   by_cases hk:kl=[]
   .exact .neg (aH (λe=>e hk)) (q x (hx.trans (yT hk).symm))
   .exact .pos (ax hk) (.ask (LX B O rfl) (.ai (by rw[m];omega) (.ai (by rw[bj,m];omega) (q _ (by rw[hx];exact(zI hk).symm)))))
  have E:∀x,x=gJ S (fb S (bs (cQ d [32,32])++aY g))->Ev (λn=>zm n x S) (hG fs (body (bs (cQ d [32,32])++aY g))):=λx hx=>by
   have hz:x.size<=30000000:=by have:=w (bs (cQ d [32,32])++aY g);have:=z (fb S (bs (cQ d [32,32])++aY g));rw[hx];omega
   refine .step (λn=>Tl n _ _) ?_
   show Ev (λn=>aa (decide (((pl.map iR).length:Int)>0)) _ _) _
   rw[AD]
   by_cases hk:pl=[]
   .exact .neg (aH (λe=>e hk)) (t x (hx.trans (yT hk).symm))
   .exact .pos (ax hk) (.ask (LX p3 p2 rfl) (.ai (by rw[m];omega) (.ai (by rw[bj,m];omega) (t _ (by rw[hx];exact(zI hk).symm)))))
  have G:∀x,x=fb S (bs (cQ d [32,32])++aY g)->Ev (λn=>Aq n x S) (hG fs (body (bs (cQ d [32,32])++aY g))):=λx hx=>by
   have hz:x.size<=3000000:=by have:=w (bs (cQ d [32,32])++aY g);rw[hx];omega
   refine .step (λn=>U4 n _ _) ?_
   show Ev (λn=>aa (!ao name (bs [])) _ _) _
   rw[fh]
   by_cases hk:name=bs []
   .exact .neg (by rw[ax hk];rfl) (E x (hx.trans (show _=gJ S _ from(if_neg λe=>e hk).symm)))
   .exact .pos (by rw[aH hk];rfl) (.ai (by rw[m];show _+name.size<=_;omega) (.ai (by rw[bj,m];show _+(_+name.size)<=_;omega) (E _ (by rw[hx];exact(show _=gJ S _ from(if_pos hk).symm)))))
  refine .step (λn=>Yc n _ _) ?_
  have go:∀(k i:Nat),i+k=d->Ev (λn=>Ao n (d:Int) (bs (cQ i [32,32])) (i:Int) S) (hG fs (body (bs (cQ d [32,32])++aY g))):=by
   intro k
   induction k with
   |zero=>
    intro i e
    obtain rfl:i=d:=e
    refine .step (λn=>Lj n _ _ _ _) (.neg (aH (by omega)) (.ask (Ax i1) (.ai (by rw[bj]at b0;show _+(aY g).size<=_;omega) ?_)))
    show Ev (λn=>aa (b !=0) _ _) _
    by_cases j:b=0
    .exact .neg (by rw[j];rfl) (G _ (show _=fb S _ from(if_neg λe=>e j).symm))
    .exact .pos (bne_iff_ne.2 j) (.ask (Ax i2) (.ai (by rw[m];show _+(aY b).size<=_;omega) (.ai (by rw[bj (bs [32,98,32]),m];show _+(_+(aY b).size)<=_;have:(bs (cQ i [32,32])++aY g).size<=2*i+20:=b0;show(bs (cQ i [32,32])++aY g).size+_<=_;omega) (G _ (show _=fb S _ from(if_pos j).symm)))))|succ k ih=>intro i e;refine .step (λn=>Lj n _ _ _ _) (.pos (ax (by omega)) (.ai (by rw[ba,Di,ba];simp only[aN,List.length_nil];omega) ?_));rw[IntWalk.i64_in _ (by omega),<-me,Ia];exact ih (i+1) (by omega)
  exact go d 0 (by omega)
end
end Go.AI
end

section
namespace Go.AI
open Go
def GH(x:Hd×Rows×Rows):Prop:=cX x.1.1/\cX x.1.2.1/\x.1.2.2.size<=500000/\(∃l:List Int,x.2.1=l.map iR/\l.length<=1000000/\∀x∈l,cX x)/\∃l:List Int,x.2.2=l.map iR/\l.length<=1000000/\∀x∈l,cX x
theorem Kz:∀{l:List (List UInt8)}{r:List Int},lS l=some r->∀x∈r,cX x
 |[],r,h,x,hx=>by cases h;cases hx
 |w::l,r,h,x,hx=>by
  unfold lS at h
  split at h
  .rename_i h1 h2
   cases h
   rcases List.mem_cons.1 hx with rfl|hx
   .exact(yO h1).1
   .exact Kz h2 x hx
  .cases h
theorem KA{s p:ByteArray}{r:List Int}(hs:s.size<=500000)(h:wL s p=some r):r.length<=1000000/\∀x∈r,cX x:=by refine⟨?_,Kz h⟩;rw[Kp h];have:=uA s.data.toList p.data.toList;rw[bV]at this;omega
theorem LY:∀(l:List (List UInt8))(st r:Hd×Rows×Rows),(∀x∈l,x.length<=500000)->gZ l st=some r->GH st->GH r
 |[],st,r,_,h,hg=>by cases h;exact hg
 |[_],_,_,_,h,_=>by unfold gZ at h;cases h
 |k::v::l,(hd,p,q),r,hz,h,hg=>by
  have hv:(bs v).size<=500000:=by rw[ba];exact hz v (.tail _ (.head _))
  have ih:∀st,gZ l st=some r->GH st->GH r:=λst=>LY l st r λx hx=>hz x (.tail _ (.tail _ hx))
  obtain⟨b,g2,f,e,c⟩:=hg
  unfold gZ at h
  split at h
  .split at h
   .rename_i h1;exact ih _ h ⟨b,(yO h1).1,f,e,c⟩
   .cases h
  .split at h
   .exact ih _ h ⟨b,g2,hv,e,c⟩
   .cases h
  .split at h
   .rename_i h1;exact ih _ h ⟨b,g2,f,⟨_,rfl,KA hv h1⟩,c⟩
   .cases h
  .split at h
   .rename_i h1;exact ih _ h ⟨b,g2,f,e,⟨_,rfl,KA hv h1⟩⟩
   .cases h
  .cases h
theorem mP{P:List (List UInt8)}(hP:P.length<=1000000)(f:List AV):∀(d i:Nat),P.length-i=d->∃o:Option (List TM),(∀ts,o=some ts->ts.length=P.length-i/\∀a∈ts,GT a)/\
 ∀(acc:Rows),acc.length<=i->∀(s:ByteArray)(j hd:Hd)(j1 j2 j3 p q:Rows),(match o with|some ts=>∀v,Ev (λn=>ask (jN n (fW hd (p,acc++ts.map av,q))) λg=>some (fW hd (p,acc++ts.map av,q,ao g s))) v->Ev (λn=>oV n s (P.map rS) ((P.map rS).length:Int) (i:Int) j hd j1 j2 j3 p acc q) v|none=>∃v,Ev (λn=>oV n s (P.map rS) ((P.map rS).length:Int) (i:Int) j hd j1 j2 j3 p acc q) v/\v.2.2.2.2.2.2=false)/\∀k:Int,match o with|some ts=>∀v,Ev (λn=>ask (BV n (fW hd (p,acc++ts.map av,q)) (IntKind.i64.wrap (Int.tdiv k 2))) λg=>some (fW hd (p,acc++ts.map av,q,(IntKind.i64.wrap (Int.tdiv k 2)),ao g s))) v->Ev (λn=>ml n s k (f::P.map rS) ((i+1:Nat):Int) j hd j1 j2 j3 p acc q) v|none=>∃v,Ev (λn=>ml n s k (f::P.map rS) ((i+1:Nat):Int) j hd j1 j2 j3 p acc q) v/\v.2.2.2.2.2.2.2=false
 |0,i,e=>⟨some [],λts h=>by cases h;exact⟨by rw[e];rfl,(λ_ h=>nomatch h)⟩,λacc _ s j hd j1 j2 j3 p q=>by
  have l:(P.map rS).length=P.length:=List.length_map ..
  constructor
  .intro v hv;rw[show acc++([]:List TM).map av=acc from List.append_nil _]at hv;exact .step (λn=>Ep n _ _ _ _ _ _ _ _ _ _ _ _) (.neg (aH (by omega)) hv)
  .intro k v hv;rw[show acc++([]:List TM).map av=acc from List.append_nil _]at hv;exact .step (λn=>Eo n _ _ _ _ _ _ _ _ _ _ _ _) (.neg (aH (by rw[aN];omega)) hv)⟩
 |d+1,i,e=>by
  have hi:i<P.length:=by omega
  have l:(P.map rS).length=P.length:=List.length_map ..
  have g0:(P.map rS)[i]?=some (rS P[i]):=by rw[List.getElem?_map,List.getElem?_eq_getElem hi];rfl
  have u:(f::P.map rS)[i+1]?=some (rS P[i]):=g0
  have w1:IntKind.i64.wrap ((i:Int)+1)=((i+1:Nat):Int):=by rw[IntWalk.i64_in _ (by omega)];rfl
  have z:IntKind.i64.wrap (((i+1:Nat):Int)+1)=((i+2:Nat):Int):=by rw[IntWalk.i64_in _ (by omega)];rfl
  obtain⟨r,hr⟩:=Ro (bs P[i])
  cases r with
  |none=>
   obtain⟨⟨v,h1,h2⟩,⟨w,h3,h4⟩⟩:=hr
   refine⟨none,(λ_ h=>nomatch h),λacc _ s j hd j1 j2 j3 p q=>⟨?_,λk=>?_⟩⟩
   .exact⟨(0,0,bs [],[],[],[],false),.step (λn=>Ep n _ _ _ _ _ _ _ _ _ _ _ _) (.pos (ax (by omega)) (.ae rfl g0 (.ask h1 (.pos (bne_iff_ne.2 h2) (.ret _))))),rfl⟩
   .exact⟨fW hd (p,acc,q,0,false),.step (λn=>Eo n _ _ _ _ _ _ _ _ _ _ _ _) (.pos (ax (by rw[aN];omega)) (.ae rfl u (.ask h3 (.pos (bne_iff_ne.2 h4) (.ret _))))),rfl⟩
  |some a=>
   obtain⟨B,h1,h2⟩:=hr
   obtain⟨o,ho,ih⟩:=mP hP f d (i+1) (by omega)
   have hp:∀{acc:Rows}{s j hd j1 j2 j3 p q v},acc.length<=i->Ev (λn=>oV n s (P.map rS) ((P.map rS).length:Int) ((i+1:Nat):Int) j hd j1 j2 j3 p (acc++[av a]) q) v->Ev (λn=>oV n s (P.map rS) ((P.map rS).length:Int) (i:Int) j hd j1 j2 j3 p acc q) v:=λha hv=>.step (λn=>Ep n _ _ _ _ _ _ _ _ _ _ _ _) (.pos (ax (by omega)) (.ae rfl g0 (.ask h1 (.neg rfl (.fits (by simp only[List.length_singleton];omega) (by rw[w1];exact hv))))))
   have m:∀{acc:Rows}{s k j hd j1 j2 j3 p q v},acc.length<=i->Ev (λn=>ml n s k (f::P.map rS) ((i+2:Nat):Int) j hd j1 j2 j3 p (acc++[av a]) q) v->Ev (λn=>ml n s k (f::P.map rS) ((i+1:Nat):Int) j hd j1 j2 j3 p acc q) v:=λha hv=>.step (λn=>Eo n _ _ _ _ _ _ _ _ _ _ _ _) (.pos (ax (by rw[aN];omega)) (.ae rfl u (.ask h2 (.neg rfl (.fits (by simp only[List.length_singleton];omega) (by rw[z];exact hv))))))
   have c:∀{acc:Rows},acc.length<=i->(acc++[av a]).length<=i+1:=λh=>by rw[List.length_append,List.length_singleton];omega
   cases o with
   |none=>
    refine⟨none,(λ_ h=>nomatch h),λacc ha s j hd j1 j2 j3 p q=>⟨?_,λk=>?_⟩⟩
    .obtain⟨v,h3,h4⟩:=(ih (acc++[av a]) (c ha) s j hd j1 j2 j3 p q).1;exact⟨v,hp ha h3,h4⟩
    .obtain⟨v,h3,h4⟩:=(ih (acc++[av a]) (c ha) s j hd j1 j2 j3 p q).2 k;exact⟨v,m ha h3,h4⟩
   |some ts=>
    refine⟨some (a::ts),λt h=>?_,λacc ha s j hd j1 j2 j3 p q=>⟨λv hv=>?_,λk v hv=>?_⟩⟩
    .cases h
     obtain⟨h3,h4⟩:=ho ts rfl
     refine⟨by rw[aN,h3];omega,λb hb=>?_⟩
     rcases List.mem_cons.1 hb with rfl|hb
     .exact B
     .exact h4 b hb
    .refine hp ha ((ih (acc++[av a]) (c ha) s j hd j1 j2 j3 p q).1 v ?_);rw[List.append_assoc];exact hv
    .refine m ha ((ih (acc++[av a]) (c ha) s j hd j1 j2 j3 p q).2 k v ?_);rw[List.append_assoc];exact hv
def bu(k:Nat)(w:ByteArray):ByteArray:=bs (List.replicate k 32)++w
theorem Dj(k:Nat)(w:ByteArray):(bu k w).size=k+w.size:=by unfold bu;rw[bj,ba,List.length_replicate]
theorem Ja(k:Nat)(w:ByteArray):(bu k w).data.toList=List.replicate k 32++w.data.toList:=by unfold bu;simp
theorem TX{k:Nat}{w:ByteArray}{j:Hd}{j1 j2 j3:Rows}(hz:(bu k w).size<=1000000)(hw:w.data.toList.head?≠some 32){v:Int×Int×ByteArray×Rows×Rows×Rows×Int×Bool}
 (h:Ev (λn=>Ae n (bu k w) (k:Int) j j1 j2 j3) v):∀d i:Nat,k-i=d->i<=k->Ev (λn=>z7 n (bu k w) (i:Int) j j1 j2 j3) v:=by
 intro d
 have hs:=Dj k w
 have hl:=Ja k w
 induction d with
 |zero=>
  intro i hd hi
  obtain rfl:i=k:=by omega
  refine .step (λn=>K6 n _ _ _ _ _ _) (.ite (λg=>?_) λ_=>h)
  have g:=dP g
  have b:0<w.data.toList.length:=by rw[bV];omega
  cases f:w.data.toList with
  |nil=>rw[f]at b;simp at b
  |cons c r=>
   have hg:(bu i w).data.toList[i]?=some c:=by rw[hl,List.getElem?_append_right (by rw[List.length_replicate];exact ak _),List.length_replicate,Nat.sub_self,f];rfl
   refine .aV rfl hg (.neg ?_ h)
   rw[beq_eq_false_iff_ne]
   intro e
   rw[f]at hw
   have:c.toNat=32:=by omega
   exact hw (by rw[show c=32 from UInt8.toNat_inj.1 this];rfl)
 |succ d ih=>
  intro i hd hi
  have hg:(bu k w).data.toList[i]?=some 32:=by rw[hl,List.getElem?_append_left (by rw[List.length_replicate];omega),List.getElem?_replicate,if_pos (by omega)]
  refine .step (λn=>K6 n _ _ _ _ _ _) (.pos (ax (by omega)) (.aV rfl hg (.pos rfl ?_)));rw[IntWalk.i64_in _ (by omega)];exact ih (i+1) (by omega) (by omega)
theorem Sp{k:Nat}{w:ByteArray}:(bu k w).extract k (bu k w).size=w:=by refine ByteArray.ext (Array.ext' ?_);rw[iw,Ja,List.drop_left' (List.length_replicate),Dj,List.take_of_length_le (by rw[bV];omega)]
theorem Jb(d:Nat):cQ d [32,32]=List.replicate (2*d) 32:=by induction d with|zero=>rfl|succ d ih=>show[32,32]++cQ d [32,32]=_;rw[ih,show 2*(d+1)=2*d+1+1 by omega,List.replicate_succ,List.replicate_succ];rfl
theorem Jc(w:ByteArray)(hw:w.size<=300000):∃o:Option ST,
 (∀S,o=some S->GS S/\Ev (λn=>jN n S) w)/\
 (match o with|some S=>Ev (λn=>kj n w) (fL S true)|none=>∃v,Ev (λn=>kj n w) v/\v.2.2.2.2.2.2=false)/\
 ∀k:Nat,k<=300000->w.data.toList.head?≠some 32->match o,decide (k%2=0)with|some S,true=>Ev (λn=>iO n (bu k w)) (fL S (((k/2:Nat):Int),true))|_,_=>∃v,Ev (λn=>iO n (bu k w)) v/\v.2.2.2.2.2.2.2=false:=by
 have N:([32,58,32]:List UInt8)≠[]:=by simp
 have O:([32]:List UInt8)≠[]:=by simp
 obtain⟨c,P,hP⟩:=uv (s:=w.data.toList) N
 obtain⟨w0,W,hW⟩:=uv (s:=c) O
 have U:=uA w.data.toList [32,58,32]
 have hp0:=xD N _ _ (ak _) c (by rw[hP];exact .head _)
 rw[bV]at U hp0
 have hWl:=uA c [32]
 rw[hP,aN]at U
 rw[hW,aN]at hWl
 have z:∀x∈w0::W,x.length<=500000:=λx hx=>by have:=xD O _ _ (ak _) x (by rw[hW];exact hx);omega
 have BZ:splitB w (bs [32,58,32])=rS c::P.map rS:=by unfold splitB;rw[show(bs [32,58,32]).data.toList=[32,58,32]from rfl,hP];rfl
 have xb:splitB (bs c) (bs [32])=(w0::W).map rS:=by unfold splitB;rw[show(bs [32]).data.toList=[32]from rfl,show(bs c).data.toList=c from rfl,hW];rfl
 have t:=uV (bs w0) (by rw[ba];have:=z w0 (.head _);omega)
 have K:∀{b:Bool}{x:Int}{v},Ev (λn=>kZ n (bs w0)) (x,b)->Ev (λn=>s8 n w (rS c::P.map rS) ((w0::W).map rS) b 1 (0,0,bs []) (x,0,bs []) [] [] [] [] [] []) v->Ev (λn=>kj n w) v:=λ{b x v}h1 h2=>by refine .step (λn=>XQ n _) (.pos (ax ⟨by omega,by show 1<=3;decide⟩) ?_);rw[BZ];refine .ae (m:=0) rfl rfl (.pos (ax ⟨by show(bs c).size<_;rw[ba];omega,ak _⟩) ?_);show Ev (λn=>ae (splitB (bs c) (bs [32])) 0 _) _;rw[xb];refine .ae (m:=0) rfl rfl (.ask h1 ?_);show Ev (λn=>s8 n w (rS c::P.map rS) (splitB (bs c) (bs [32])) b 1 _ _ _ _ _ _ _ _) _;rw[xb];exact h2
 have J:∀{k:Nat}{v},k<=300000->w.data.toList.head?≠some 32->Ev (λn=>ask (ri n ((w0::W).map rS)) λi=>(aa (!i.2.2.2.2.2.2) (some (jh i ((0:Int),false))) (aa (decide (((Int.tmod (k:Int) 2):Int)>0)) (some (jh i (0,false))) (ml n (bu k w) k (rS c::P.map rS) 1 (0,0,bs []) (eO i) [] [] [] i.2.2.2.1 i.2.2.2.2.1 i.2.2.2.2.2.1)))) v->Ev (λn=>iO n (bu k w)) v:=λ{k v}hk f h=>by have hz:=Dj k w;refine .step (λn=>XO n _) (TX (by omega) f ?_ k 0 rfl (Nat.zero_le _));refine .step (λn=>UP n _ _ _ _ _ _) (.cn (by omega) ?_);simp only[Int.toNat_natCast,Sp];refine .ask (Aw (by omega) (by decide) (by decide)) ?_;show Ev (λn=>ae (splitB w (bs [32,58,32])) 0 λr3=>ask (re n (gS r3 0) (bs [32])) λx4=>ask (ri n x4) λi=>(aa (!i.2.2.2.2.2.2) (some (jh i ((0:Int),false))) (aa (decide (((Int.tmod (k:Int) 2):Int)>0)) (some (jh i (0,false))) (ml n (bu k w) k (splitB w (bs [32,58,32])) 1 (0,0,bs []) (eO i) [] [] [] i.2.2.2.1 i.2.2.2.2.1 i.2.2.2.2.2.1)))) v;rw[BZ];refine .ae (m:=0) rfl rfl (.ask (Aw (s:=bs c) (by rw[ba];omega) (by decide) (by decide)) ?_);rw[xb];exact h
 have noR:∀{k:Nat},k<=300000->w.data.toList.head?≠some 32->(∃v,Ev (λn=>ri n ((w0::W).map rS)) v/\v.2.2.2.2.2.2=false)->∃v,Ev (λn=>iO n (bu k w)) v/\v.2.2.2.2.2.2.2=false:=λhk f⟨v,h1,h2⟩=>⟨jh v (0,false),J hk f (.ask h1 (.pos (by rw[h2];rfl) (.ret _))),rfl⟩
 have p:(∃v,Ev (λn=>kj n w) v/\v.2.2.2.2.2.2=false)->(∃v,Ev (λn=>ri n ((w0::W).map rS)) v/\v.2.2.2.2.2.2=false)->∃o:Option ST,(∀S,o=some S->GS S/\Ev (λn=>jN n S) w)/\(match o with|some S=>Ev (λn=>kj n w) (fL S true)|none=>∃v,Ev (λn=>kj n w) v/\v.2.2.2.2.2.2=false)/\∀k:Nat,k<=300000->w.data.toList.head?≠some 32->match o,decide (k%2=0)with|some S,true=>Ev (λn=>iO n (bu k w)) (fL S (((k/2:Nat):Int),true))|_,_=>∃v,Ev (λn=>iO n (bu k w)) v/\v.2.2.2.2.2.2.2=false:=λh1 h2=>⟨none,(λ_ h=>nomatch h),h1,λk hk f=>noR hk f h2⟩
 cases hn:ke (bs w0)with
 |none=>rw[hn]at t;obtain⟨⟨x,h1⟩,y,h2⟩:=t;exact p ⟨_,K h1 (.step (λn=>vk n _ _ _ _ _ _ _ _ _ _ _ _ _) (.neg rfl (.step (λn=>DB n _ _ _ _ _ _ _ _ _ _ _) (.pos rfl (.ret _))))),rfl⟩ ⟨_,.step (λn=>FU n _) (.ae (m:=0) rfl rfl (.ask h2 (.pos rfl (.ret _)))),rfl⟩
 |some Y=>
  rw[hn]at t
  obtain⟨h1,h2⟩:=t
  have hp:=Z3 (W:=w0::W) (by rw[aN];omega) z (s:=w) (pr:=rS c::P.map rS) (j:=(0,0,bs [])) (j1:=[]) (j2:=[]) (j3:=[]) _ 1 (Y,0,bs []) [] [] rfl
  have hr:=λD=>Z4 (W:=w0::W) (by rw[aN];omega) z (j:=(0,0,bs [])) (j1:=[]) (j2:=[]) (j3:=[]) _ 1 (Y,0,bs []) [] [] rfl D
  rw[show(w0::W).drop 1=W from rfl]at hp hr
  rw[aN,Nat.add_sub_cancel]at hr
  have Q:(((w0::W).map rS).length:Int)=((W.length+1:Nat):Int):=by rw[List.length_map,aN]
  have B:∀{v},W.length%2=0->Ev (λn=>vM n ((w0::W).map rS) 1 (0,0,bs []) (Y,0,bs []) [] [] [] [] [] []) v->Ev (λn=>ri n ((w0::W).map rS)) v:=λD h=>.step (λn=>FU n _) (.ae (m:=0) rfl rfl (.ask h2 (.neg rfl (.neg (by rw[Q,beq_eq_false_iff_ne,Int.tmod_eq_emod_of_nonneg (by omega)];omega) h))))
  cases Z:gZ W ((Y,0,bs []),[],[])with
  |none=>
   rw[Z]at hp hr
   obtain⟨v,h3,h4⟩:=hp
   refine p ⟨v,K h1 h3,h4⟩ ?_
   by_cases D:W.length%2=0
   .obtain⟨u,h5,h6⟩:=hr D;exact⟨u,B D h5,h6⟩
   .exact⟨_,.step (λn=>FU n _) (.ae (m:=0) rfl rfl (.ask h2 (.neg rfl (.pos (by rw[Q,beq_iff_eq,Int.tmod_eq_emod_of_nonneg (by omega)];omega) (.ret _))))),rfl⟩
  |some X=>
   have D:=I6 Z
   rw[Z]at hp hr
   obtain⟨h',G,F⟩:=X
   have hp:∀v,Ev (λn=>vb n w (rS c::P.map rS) true (0,0,bs []) h' [] [] [] G [] F) v->_:=hp
   have V:=B D (hr D _ (.ret _))
   have q:=LY W _ _ (λx hx=>z x (.tail _ hx)) Z ⟨(yO hn).1,(show cX 0 by decide),(show(bs []).size<=500000 by decide),⟨[],rfl,by decide,(λ_ h=>nomatch h)⟩,⟨[],rfl,by decide,(λ_ h=>nomatch h)⟩⟩
   obtain⟨o,ho,Gv⟩:=mP (P:=P) (by omega) (rS c) _ 0 rfl
   have M:∀{v},Ev (λn=>oV n w (P.map rS) ((P.map rS).length:Int) ((0:Nat):Int) (0,0,bs []) h' [] [] [] G [] F) v->Ev (λn=>kj n w) v:=λ{v}h=>by
    refine K h1 (hp v (.step (λn=>DB n _ _ _ _ _ _ _ _ _ _ _) (.neg rfl (.jd (by rw[aN];omega) ?_))))
    have e:((rS c::P.map rS).drop (1:Int).toNat).take ((((rS c::P.map rS).length:Int)).toNat-(1:Int).toNat)=P.map rS:=by show(P.map rS).take (((rS c::P.map rS).length:Int).toNat-1)=_;rw[List.take_of_length_le (by rw[aN];omega)]
    rw[e];exact h
   have R:∀k:Nat,Int.tmod (k:Int) 2=((k%2:Nat):Int):=λk=>by rw[Int.tmod_eq_emod_of_nonneg (by omega)];omega
   have T:∀k:Nat,k<=300000->IntKind.i64.wrap (Int.tdiv (k:Int) 2)=((k/2:Nat):Int):=λk hk=>by rw[show Int.tdiv (k:Int) 2=((k/2:Nat):Int)by rw[Int.tdiv_eq_ediv_of_nonneg (by omega)];omega,IntWalk.i64_in _ (by omega)]
   have I:∀{k:Nat},k<=300000->w.data.toList.head?≠some 32->k%2≠0->∃v,Ev (λn=>iO n (bu k w)) v/\v.2.2.2.2.2.2.2=false:=λ{k}hk f h2=>⟨_,J hk f (.ask V (.neg rfl (.pos (ax (by rw[R];omega)) (.ret _)))),rfl⟩
   have E:∀{k:Nat}{v},k<=300000->w.data.toList.head?≠some 32->k%2=0->Ev (λn=>ml n (bu k w) k (rS c::P.map rS) ((0+1:Nat):Int) (0,0,bs []) h' [] [] [] G [] F) v->Ev (λn=>iO n (bu k w)) v:=λ{k v}hk f h2 h=>J hk f (.ask V (.neg rfl (.neg (aH (by rw[R];omega)) h)))
   have g:=λs=>Gv [] (Nat.zero_le _) s (0,0,bs []) h' [] [] [] G F
   cases o with
   |none=>
    obtain⟨v,h3,h4⟩:=(g w).1
    refine⟨none,(λ_ h=>nomatch h),⟨v,M h3,h4⟩,λk hk f=>?_⟩
    by_cases h2:k%2=0
    .obtain⟨u,h5,h6⟩:=(g (bu k w)).2 k;exact⟨u,E hk f h2 h5,h6⟩
    .exact I hk f h2
   |some ts=>
    obtain⟨t1,t2⟩:=ho ts rfl
    have hS:GS (fW h' (G,ts.map av,F)):=⟨q.1,q.2.1,q.2.2.1,q.2.2.2.1,q.2.2.2.2,⟨ts,rfl,by omega,t2⟩⟩
    obtain⟨L,l1,l2⟩:=So hS
    have l:=M ((g w).1 _ (.ask l1 (.ret _)))
    have C:∀{k:Nat},k<=300000->w.data.toList.head?≠some 32->k%2=0->Ev (λn=>iO n (bu k w)) (fW h' (G,ts.map av,F,((k/2:Nat):Int),ao L w)):=λ{k}hk f h2=>by
     have:=(g (bu k w)).2 k
     have:=E hk f h2 (this _ (.ask (by rw[T k hk];exact l2 (k/2) (by omega)) (.ret _)))
     have e:ao (bs (cQ (k/2) [32,32])++L) (bu k w)=ao L w:=by
      rw[fh,fh,decide_eq_decide]
      have e2:bs (cQ (k/2) [32,32])=bs (List.replicate k 32):=by rw[Jb,show 2*(k/2)=k by omega]
      rw[e2]
      unfold bu
      constructor
      .intro h;have:=congrArg (λx=>x.data.toList) h;simp only[ByteArray.data_append,Array.toList_append]at this;exact ByteArray.ext (Array.ext' (List.append_cancel_left this))
      .intro h;rw[h]
     rw[T k hk,e]at this;exact this
    by_cases hL:L=w
    .have hb:ao L w=true:=gQ.2 hL
     rw[hb]at l
     refine⟨some (fW h' (G,ts.map av,F)),λS e=>?_,l,λk hk f=>?_⟩
     .cases e;exact⟨hS,hL▸l1⟩
     .by_cases h2:k%2=0
      .rw[ax h2];have:=C hk f h2;rw[hb]at this;exact this
      .rw[aH h2];exact I hk f h2
    .have hb:ao L w=false:=by rw[fh];exact aH hL
     refine⟨none,(λ_ h=>nomatch h),⟨_,l,hb⟩,λk hk f=>?_⟩
     by_cases h2:k%2=0
     .exact⟨_,C hk f h2,hb⟩
     .exact I hk f h2
end Go.AI
end

section
namespace Go.AI
open Go
theorem zJ:∀x:List UInt8,(Lib.trimLeftB x 32).length<=x.length/\x=List.replicate (x.length-(Lib.trimLeftB x 32).length) 32++Lib.trimLeftB x 32/\(Lib.trimLeftB x 32).head?≠some 32
 |[]=>⟨ak _,rfl,by simp[Lib.trimLeftB]⟩
 |c::x=>by
  obtain⟨h0,h1,h2⟩:=zJ x
  unfold Lib.trimLeftB at h0 h1 h2⊢
  rw[List.dropWhile_cons]
  by_cases hc:c=32
  .subst hc;rw[if_pos (by decide)];refine⟨by rw[aN];omega,?_,h2⟩;rw[aN,show x.length+1-(List.dropWhile (λx=>x==32) x).length=(x.length-(List.dropWhile (λx=>x==32) x).length)+1 by omega,List.replicate_succ,List.cons_append,<-h1]
  .rw[if_neg (by simpa using hc)];exact⟨ak _,by simp,by simpa using hc⟩
noncomputable def og(w:ByteArray):Option ST:=if h:w.size<=300000 then Classical.choose (Jc w h)else none
theorem EC{w:ByteArray}(hw:w.size<=300000):(∀S,og w=some S->GS S/\Ev (λn=>jN n S) w)/\(match og w with|some S=>Ev (λn=>kj n w) (fL S true)|none=>∃v,Ev (λn=>kj n w) v/\v.2.2.2.2.2.2=false)/\∀k:Nat,k<=300000->w.data.toList.head?≠some 32->match og w,decide (k%2=0)with|some S,true=>Ev (λn=>iO n (bu k w)) (fL S (((k/2:Nat):Int),true))|_,_=>∃v,Ev (λn=>iO n (bu k w)) v/\v.2.2.2.2.2.2.2=false:=by unfold og;rw[dif_pos hw];exact Classical.choose_spec (Jc w hw)
def fO(x:List UInt8):ByteArray:=bs (Lib.trimLeftB x 32)
def aZ(x:List UInt8):Nat:=x.length-(fO x).size
abbrev NL:=List (ST×Nat)
def place(d:Nat)(acc:NL):Bool:=match acc.getLast? with|none=>decide (d=0)|some p=>decide (1<=d/\d<=p.2+1)
noncomputable def jm(x:List UInt8)(acc:NL):Option (ST×Nat):=match og (fO x),decide (aZ x%2=0)&&(place (aZ x/2) acc&&decide (acc.length<2000/\aZ x/2<100))with|some S,true=>some (S,aZ x/2)|_,_=>none
noncomputable def lU:List (List UInt8)->NL->Nat⊕NL
 |[],acc=>.inl acc.length
 |[x],acc=>match decide (x=[]/\acc≠[])with|true=>.inr acc|false=>.inl acc.length
 |x::y::R,acc=>match jm x acc with|some p=>lU (y::R) (acc++[p])|none=>.inl acc.length
abbrev PT:=Int×Int×ByteArray×Rows×Rows×Rows×Rows×Int×Int
def tW(e:Nat):PT:=(0,0,bs [],[],[],[],[],(e:Int),2)
def ij(l:NL):Rows:=l.map λp=>xH p.1
def gL(l:NL):Rows:=l.map λp=>iR (p.2:Int)
def cY(l:NL):Rows:=l.map λp=>uj (fL p.1 (p.2:Int))
abbrev TW:=Int×Int×ByteArray×Rows×Rows×Rows×Rows×Int
def xh(C:NL->Nat->Option TW)(X:Nat⊕NL)(F:Nat->Option PT):Prop:=match X with|.inl e=>Ev F (tW e)|.inr l=>∀v,Ev (C l) v->Ev F (rb v ((0:Int),(0:Int)))
theorem xh.imp{C:NL->Nat->Option TW}{X:Nat⊕NL}{F G:Nat->Option PT}(h:xh C X G)(h1:∀v,Ev G v->Ev F v):xh C X F:=by cases X with|inl e=>exact h1 _ h|inr l=>exactλv hv=>h1 _ (h v hv)
theorem ED(x:List UInt8):(fO x).size<=x.length:=by unfold fO;rw[ba];exact(zJ x).1
theorem LZ(x:List UInt8):bs x=bu (aZ x) (fO x):=by have:=(zJ x).2.1;unfold bu aZ fO;rw[ba,<-me,<-this]
theorem Jd{acc:NL}{p:ST×Nat}(h:acc.getLast?=some p):acc[acc.length-1]?=some p/\0<acc.length:=by
 rw[List.getLast?_eq_getElem?]at h
 refine⟨h,?_⟩
 rcases Nat.eq_zero_or_pos acc.length with e|e
 .rw[List.length_eq_zero_iff.1 e]at h;cases h
 .exact e
theorem Ib{acc:NL}(h:acc.getLast?=none):acc=[]:=List.getLast?_eq_none_iff.1 h
theorem Xt:∀(m:Nat)(s:ByteArray)(acc:NL)(j:Hd)(C B z t:Rows),s.size<=m->m<=200000->acc.length<=2000->(∀p∈acc,p.2<100)->
 xh (λl n=>w6 n (ij l) (gL l)) (lU (Lib.split s.data.toList [10]) acc) λn=>tx n s (acc.length:Int) j (ij acc) (gL acc) C B z t:=by
 intro m
 induction m using Nat.strongRecOn with
 |ind m ih=>
  intro s acc j C B z t hs hm ha hA
  have G:([10]:List UInt8)≠[]:=by simp
  have hl:=bV s
  have body:∀{v:PT},Ev (λn=>wu n s (acc.length:Int) j (ij acc) (gL acc) C B z t) v->¬(s=bs []/\acc≠[])->Ev (λn=>tx n s (acc.length:Int) j (ij acc) (gL acc) C B z t) v:=λ{v}h hn=>by
   refine .step (λn=>Ml n _ _ _ _ _ _ _ _ _) ?_
   rw[fh]
   by_cases h0:s=bs []
   .have:acc=[]:=Classical.byContradiction λe=>hn ⟨h0,e⟩;exact .neg (by rw[ax h0];rfl) (.pos (by rw[this];rfl) h)
   .exact .pos (by rw[aH h0];rfl) h
  let x:=(Lib.cut s.data.toList [10]).1
  let c:=(Lib.cut s.data.toList [10]).2.2
  have hx:x.length<=s.size:=by
   show(Lib.cut s.data.toList [10]).1.length<=_
   unfold Lib.cut
   split
   .rw[List.length_take];omega
   .exact Nat.le_of_eq hl
  have hwl:=ED x
  have W:lI s (bs [10])=bs x:=rfl
  have V:oU (bs x)=fO x:=rfl
  have ek:IntKind.i64.wrap (((bs x).size:Int)-((fO x).size:Int))=(aZ x:Int):=by rw[ba,IntWalk.i64_in _ (by omega)];unfold aZ;omega
  have hk2:aZ x<=300000:=by unfold aZ;omega
  obtain⟨so1,g,so3⟩:=EC (w:=fO x) (by omega)
  have em:Int.tmod (aZ x:Int) 2=((aZ x%2:Nat):Int):=by rw[Int.tmod_eq_emod_of_nonneg (by omega)];omega
  have ed:IntKind.i64.wrap (Int.tdiv (aZ x:Int) 2)=((aZ x/2:Nat):Int):=by rw[show Int.tdiv (aZ x:Int) 2=((aZ x/2:Nat):Int)by rw[Int.tdiv_eq_ediv_of_nonneg (by omega)];omega,IntWalk.i64_in _ (by omega)]
  have E:∀{v:PT},(∀b pl S,Ev (λn=>kj n (fO x)) (fL S b)->(pl=true↔aZ x%2=0/\place (aZ x/2) acc=true)->Ev (λn=>vE n (acc.length:Int) (nN s (bs [10])) c ((aZ x/2:Nat):Int) b pl j (ij acc) (gL acc) S C B z t) v)->
   Ev (λn=>wu n s (acc.length:Int) j (ij acc) (gL acc) C B z t) v:=λ{v}h=>by
   obtain⟨u,Y⟩:∃u,Ev (λn=>kj n (fO x)) u:=by cases ho:og (fO x)with|none=>rw[ho]at g;obtain⟨u,h1,_⟩:=g;exact⟨u,h1⟩|some S=>rw[ho]at g;exact⟨_,g⟩
   have h:=λpl=>h u.2.2.2.2.2.2 pl (gm u) Y
   have K:∀last:Int,-1<=last->last<=300000->(decide (((aZ x/2:Nat):Int)<=last+1)&&(decide (((aZ x/2:Nat):Int)>0)==decide ((acc.length:Int)>0)))=place (aZ x/2) acc->Ev (λn=>zX n (acc.length:Int) (nN s (bs [10])) c (fO x) (aZ x:Int) last j (ij acc) (gL acc) C B z t) v:=λlast l1 l2 hp=>by
    refine .step (λn=>UJ n _ _ _ _ _ _ _ _ _ _ _ _ _) (.ask Y ?_)
    simp only[em,ed]
    rw[IntWalk.i64_in (last+1) (by omega)]
    refine .ite (λh2=>.ite (λh3=>h _ ?_) λh3=>h _ ?_) λh2=>h _ ?_
    .rw[h3,Bool.true_and]at hp;rw[hp];have h2:((aZ x%2:Nat):Int)=0:=eq_of_beq h2;exact⟨λe=>⟨by omega,e⟩,λe=>e.2⟩
    .rw[h3,Bool.false_and]at hp;exact⟨(λe=>nomatch e),λe=>by rw[<-hp]at e;exact nomatch e.2⟩
    .have h2:((aZ x%2:Nat):Int)≠0:=beq_eq_false_iff_ne.1 h2;exact⟨(λe=>nomatch e),λe=>by omega⟩
   refine .step (λn=>VX n _ _ _ _ _ _ _ _ _) (.pos (ax (by omega)) (.pos (gQ.2 rfl) ?_))
   rw[W,V,ek]
   cases k:acc.getLast? with
   |none=>
    have:=Ib k
    refine .neg (aH (by rw[this];simp)) (K (-1) (by omega) (by omega) ?_)
    unfold place
    rw[k,this]
    show(decide (((aZ x/2:Nat):Int)<=-1+1)&&(decide (((aZ x/2:Nat):Int)>0)==decide ((0:Int)>0)))=decide (aZ x/2=0)
    by_cases h0:aZ x/2=0
    .rw[h0];rfl
    .rw[aH h0,aH (by omega)];rfl
   |some p=>
    obtain⟨g1,g2⟩:=Jd k
    have hd:(gL acc)[acc.length-1]?=some (iR (p.2:Int)):=by unfold gL;rw[List.getElem?_map,g1];rfl
    have ew:IntKind.i64.wrap ((acc.length:Int)-1)=((acc.length-1:Nat):Int):=by rw[IntWalk.i64_in _ (by omega)];omega
    refine .pos (ax (by omega)) (.ae ew hd ?_)
    rw[ew]
    have hp:=hA p (List.mem_of_getElem? g1)
    refine .cL (m:=acc.length-1) hd (K (p.2:Int) (by omega) (by omega) ?_)
    unfold place
    rw[k]
    show _=decide (1<=aZ x/2/\aZ x/2<=p.2+1)
    rw[ax (show(acc.length:Int)>0 by omega)]
    by_cases h1:1<=aZ x/2
    .rw[ax (show((aZ x/2:Nat):Int)>0 by omega),beq_self_eq_true,Bool.and_true,decide_eq_decide];omega
    .rw[aH (show¬((aZ x/2:Nat):Int)>0 by omega),aH (show¬(1<=aZ x/2/\aZ x/2<=p.2+1)by omega)];exact Bool.and_false _
  rcases Lib.index_spec s.data.toList [10]with⟨hi,_⟩|⟨i,hi,adG,ho,_⟩
  .rw[uu hi]
   have hc:Lib.cut s.data.toList [10]=(s.data.toList,[],false):=by unfold Lib.cut;rw[hi];rfl
   have o:c=false:=by show(Lib.cut s.data.toList [10]).2.2=_;rw[hc]
   unfold lU
   by_cases h0:s.data.toList=[]/\acc≠[]
   .rw[ax h0];intro v hv;have P:s=bs []:=ByteArray.ext (Array.ext' h0.1);refine .step (λn=>Ml n _ _ _ _ _ _ _ _ _) (.neg (by rw[fh,ax P];rfl) (.neg ?_ (.ask hv (.ret _))));rw[beq_eq_false_iff_ne];have:=List.length_pos_iff.2 h0.2;omega
   .rw[aH h0];refine body (E λb pl S _ _=>?_) λh=>h0 ⟨by rw[h.1],h.2⟩;rw[o];exact .step (λn=>Ej n _ _ _ _ _ _ _ _ _ _ _ _ _ _) (.pos rfl (.ret _))
  .have hc:Lib.cut s.data.toList [10]=(s.data.toList.take i,s.data.toList.drop (i+1),true):=by unfold Lib.cut;rw[hi,if_pos (by omega)];rfl
   have f:=(Lib.occAt_room ho).resolve_right G
   rw[hl]at f
   have f:i+1<=s.size:=f
   have o:c=true:=by show(Lib.cut s.data.toList [10]).2.2=_;rw[hc]
   have O:x=s.data.toList.take i:=by show(Lib.cut s.data.toList [10]).1=_;rw[hc]
   have Q:nN s (bs [10])=bs (s.data.toList.drop (i+1)):=by show bs (Lib.cut s.data.toList [10]).2.1=_;rw[hc]
   obtain⟨y,R,L⟩:=uv (s:=s.data.toList.drop (i+1)) G
   rw[uz G hi,show i+([10]:List UInt8).length=i+1 from rfl,L,<-O]
   unfold lU
   have N:¬(s=bs []/\acc≠[]):=λh=>by rw[h.1]at f;exact absurd f (by show¬i+1<=0;omega)
   have hsz:(bs (s.data.toList.drop (i+1))).size=s.size-(i+1):=by rw[ba,List.length_drop,hl]
   cases hL:jm x acc with
   |none=>
    refine body (E λb pl S hb F=>?_) N
    rw[o]
    refine .step (λn=>Ej n _ _ _ _ _ _ _ _ _ _ _ _ _ _) (.neg rfl ?_)
    cases b with
    |false=>exact .pos rfl (.ret _)
    |true=>
     refine .neg rfl ?_
     cases pl with
     |false=>exact .pos rfl (.ret _)
     |true=>
      refine .neg rfl ?_
      obtain⟨p1,p2⟩:=F.1 rfl
      cases I:og (fO x)with
      |none=>rw[I]at g;obtain⟨u,u1,X⟩:=g;have:=Ev.xa hb u1;rw[<-this]at X;cases X
      |some J=>
       unfold jm at hL
       rw[I,ax p1,p2,Bool.true_and,Bool.true_and]at hL
       have Z:¬(acc.length<2000/\aZ x/2<100):=λe=>by rw[ax e]at hL;cases hL
       by_cases h2:acc.length<2000
       .exact .neg (aH (by omega)) (.pos (ax (by omega)) (.ret _))
       .exact .pos (ax (by omega)) (.ret _)
   |some p=>
    have I:∃S,og (fO x)=some S/\p=(S,aZ x/2)/\aZ x%2=0/\place (aZ x/2) acc=true/\acc.length<2000/\aZ x/2<100:=by
     unfold jm at hL
     split at hL
     .rename_i S h1 h2;rw[aX,aX,decide_eq_true_iff,decide_eq_true_iff]at h2;cases hL;exact⟨S,h1,rfl,h2.1,h2.2.1,h2.2.2.1,h2.2.2.2⟩
     .cases hL
    obtain⟨S,I,rfl,k1,k2,k3,k4⟩:=I
    rw[I]at g
    have:=ih (s.size-(i+1)) (by omega) (bs (s.data.toList.drop (i+1))) (acc++[(S,aZ x/2)]) j C B z t (by omega) (by omega) (by rw[List.length_append,List.length_singleton];omega) λq M=>by
     rcases List.mem_append.1 M with M|M
     .exact hA q M
     .rw[List.mem_singleton.1 M];exact k4
    rw[show(bs (s.data.toList.drop (i+1))).data.toList=s.data.toList.drop (i+1)from rfl,L]at this
    refine this.imp λv hv=>body (E λb pl J hb F=>?_) N
    have D:=Ev.xa hb g
    have T:b=true:=congrArg (λv=>v.2.2.2.2.2.2) D
    have U:J=S:=by
     have:gm (fL J b)=gm (fL S true):=by rw[D]
     exact this
    subst T;subst U
    rw[F.2 ⟨k1,k2⟩,o,Q]
    refine .step (λn=>Ej n _ _ _ _ _ _ _ _ _ _ _ _ _ _) (.neg rfl (.neg rfl (.neg rfl (.neg (aH (by omega)) (.neg (aH (by omega)) (.fits ?_ (.fits ?_ ?_)))))))
    .simp only[ij,List.length_map,List.length_singleton];omega
    .simp only[gL,List.length_map,List.length_singleton];omega
    .rw[IntWalk.i64_in _ (by omega)]
     have W:ij (acc++[(J,aZ x/2)])=ij acc++[xH J]:=by unfold ij;rw[List.map_append];rfl
     have V:gL (acc++[(J,aZ x/2)])=gL acc++[iR ((aZ x/2:Nat):Int)]:=by unfold gL;rw[List.map_append];rfl
     rw[W,V,List.length_append,List.length_singleton]at hv;exact hv
end Go.AI
end

section
namespace Go.AI
open Go
section
variable {s:ByteArray}(hs:s.size<=200000){R0:List (List UInt8)}(hR:R0.length<=300000)(hz:∀x∈R0,x.length<=200000)
include hs hR
theorem Xu{e:Nat}{i:Nat}{j:Hd}{l k g f c:Rows}(hi:i<=300000):Ev (λn=>iF n s (R0.map rS) (e:Int) (i:Int) j l k g f c) (tW e):=by have h:Ev (λn=>vC n s (e:Int) j l k g f c) (tW e):=.step (λn=>Eh n _ _ _ _ _ _ _ _) (.pos (ax (by omega)) (.neg (aH (by omega)) (.ret _)));have b:Ev (λn=>vD n s (R0.map rS) (e:Int) j l k g f c) (tW e):=.step (λn=>Ei n _ _ _ _ _ _ _ _ _) (.neg (aH (by omega)) h);exact .step (λn=>Mo n _ _ _ _ _ _ _ _ _ _) (.step (λn=>ES n _ _ _ _ _ _ _ _ _ _) (.ite (λ_=>.neg (aH (by omega)) b) λ_=>b))
include hz
theorem Xv:∀(d i:Nat)(acc:NL)(j:Hd)(k g f c:Rows),R0.length-i=d->i=acc.length->i<R0.length->(∀p∈acc,p.2<100)->
 xh (λl n=>w5 n (cY l)) (lU (R0.drop i) acc) λn=>mH n s (R0.map rS) (-1) (i:Int) j (cY acc) k g f c:=by
 intro d
 have Q:(R0.map rS).length=R0.length:=List.length_map ..
 induction d with
 |zero=>intro i acc j k g f c hd _ hi _;omega
 |succ d ih=>
  intro i acc j k g f c hd ha hi hA
  have w1:IntKind.i64.wrap ((i:Int)+1)=((i+1:Nat):Int):=by rw[IntWalk.i64_in _ (by omega)];rfl
  have g0:(R0.map rS)[i]?=some (rS R0[i]):=by rw[List.getElem?_map,List.getElem?_eq_getElem hi];rfl
  have hx:=hz _ (List.getElem_mem hi)
  rw[List.drop_eq_getElem_cons hi]
  by_cases D:i+1<R0.length
  .rw[List.drop_eq_getElem_cons D]
   generalize R0[i]=x at g0 hx
   have W:=ED x
   have R:aZ x<=300000:=by unfold aZ;omega
   obtain⟨_,_,b⟩:=EC (w:=fO x) (by omega)
   have b:=b (aZ x) R (zJ x).2.2
   unfold lU
   have o:∀{v u},Ev (λn=>iO n (bu (aZ x) (fO x))) u->Ev (λn=>(aa (!u.2.2.2.2.2.2.2) (iF n s (R0.map rS) (i:Int) (i:Int) j (cY acc) k g f c) (aa (decide ((i:Int)>=2000)) (iF n s (R0.map rS) (i:Int) (i:Int) j (cY acc) k g f c) (aa (decide (((IntKind.i64.wrap (u.2.2.2.2.2.2.1+1)):Int)>100)) (iF n s (R0.map rS) (i:Int) (i:Int) j (cY acc) k g f c) (aa ((i:Int)==0) (aa (decide (u.2.2.2.2.2.2.1>0)) (aa (decide (u.2.2.2.2.2.2.1>0)) (iF n s (R0.map rS) (i:Int) (i:Int) j (cY acc) k g f c) (pb n s (R0.map rS) (-1) (i:Int) u.2.2.2.2.2.2.1 j (cY acc) (gm u) k g f c)) (qu n s (R0.map rS) (-1) (i:Int) u.2.2.2.2.2.2.1 j (cY acc) (gm u) k g f c)) (qu n s (R0.map rS) (-1) (i:Int) u.2.2.2.2.2.2.1 j (cY acc) (gm u) k g f c)))))) v->Ev (λn=>mH n s (R0.map rS) (-1) (i:Int) j (cY acc) k g f c) v:=λ{v u}X h=>.step (λn=>ES n _ _ _ _ _ _ _ _ _ _) (.pos (by rw[w1];exact ax (by omega)) (.pos (by decide) (.ae rfl g0 (.ask (by show Ev (λn=>iO n (bs x)) u;rw[LZ x];exact X) h))))
   have bad:Ev (λn=>iF n s (R0.map rS) (i:Int) (i:Int) j (cY acc) k g f c) (tW acc.length):=ha▸Xu hs hR (by omega)
   cases E:og (fO x)with
   |none=>
    rw[E]at b
    have hL:jm x acc=none:=by unfold jm;rw[E]
    rw[hL];obtain⟨u,h1,h2⟩:=b;exact o h1 (.pos (by rw[h2];rfl) bad)
   |some S=>
    rw[E]at b
    by_cases z:aZ x%2=0
    .rw[ax z]at b
     have b:Ev (λn=>iO n (bu (aZ x) (fO x))) (fL S (((aZ x/2:Nat):Int),true)):=b
     by_cases B:acc.length<2000/\aZ x/2<100
     .have P:IntKind.i64.wrap (((aZ x/2:Nat):Int)+1)=((aZ x/2+1:Nat):Int):=by rw[IntWalk.i64_in _ (by omega)];rfl
      have U:∀{v},jm x acc=some (S,aZ x/2)->Ev (λn=>mH n s (R0.map rS) (-1) ((i+1:Nat):Int) j (cY (acc++[(S,aZ x/2)])) k g f c) v->Ev (λn=>pb n s (R0.map rS) (-1) (i:Int) ((aZ x/2:Nat):Int) j (cY acc) S k g f c) v:=λ{v}_ h=>by
       refine .step (λn=>VW n _ _ _ _ _ _ _ _ _ _ _ _) (.fits ?_ (.step (λn=>Mo n _ _ _ _ _ _ _ _ _ _) ?_))
       .simp only[cY,List.length_map,List.length_singleton];omega
       .rw[w1]
        have e1:cY (acc++[(S,aZ x/2)])=cY acc++[uj (fL S ((aZ x/2:Nat):Int))]:=by unfold cY;rw[List.map_append];rfl
        rw[e1]at h;exact h
      have pre:∀{v},Ev (λn=>(aa ((i:Int)==0) (aa (decide (((aZ x/2:Nat):Int)>0)) (aa (decide (((aZ x/2:Nat):Int)>0)) (iF n s (R0.map rS) (i:Int) (i:Int) j (cY acc) k g f c) (pb n s (R0.map rS) (-1) (i:Int) ((aZ x/2:Nat):Int) j (cY acc) S k g f c)) (qu n s (R0.map rS) (-1) (i:Int) ((aZ x/2:Nat):Int) j (cY acc) S k g f c)) (qu n s (R0.map rS) (-1) (i:Int) ((aZ x/2:Nat):Int) j (cY acc) S k g f c))) v->Ev (λn=>mH n s (R0.map rS) (-1) (i:Int) j (cY acc) k g f c) v:=λ{v}h=>o b (.neg rfl (.neg (aH (by omega)) (.neg (by show decide (IntKind.i64.wrap (((aZ x/2:Nat):Int)+1)>100)=false;rw[P];exact aH (by omega)) h)))
      have hL:jm x acc=match place (aZ x/2) acc with|true=>some (S,aZ x/2)|false=>none:=by unfold jm;rw[E,ax z,ax B,Bool.true_and,Bool.and_true];cases place (aZ x/2) acc<;>rfl
      have nx:=ih (i+1) (acc++[(S,aZ x/2)]) j k g f c (by omega) (by rw[List.length_append,List.length_singleton];omega) D λq J=>by
       rcases List.mem_append.1 J with J|J
       .exact hA q J
       .rw[List.mem_singleton.1 J];exact B.2
      rw[List.drop_eq_getElem_cons D]at nx
      cases t:acc.getLast? with
      |none=>
       have h0:=Ib t
       have L:i=0:=by rw[ha,h0];rfl
       by_cases M:aZ x/2=0
       .have hp:place (aZ x/2) acc=true:=by unfold place;rw[t];exact ax M
        rw[hp]at hL;rw[hL];refine nx.imp λv hv=>pre (.pos (by rw[L];rfl) (.neg (aH (by omega)) (.step (λn=>Eg n _ _ _ _ _ _ _ _ _ _ _ _) (.neg (aH (by omega)) (U hL hv)))))
       .have hp:place (aZ x/2) acc=false:=by unfold place;rw[t];exact aH M
        rw[hp]at hL;rw[hL];exact pre (.pos (by rw[L];rfl) (.pos (ax (by omega)) (.pos (ax (by omega)) bad)))
      |some p=>
       obtain⟨V,g2⟩:=Jd t
       have K:(cY acc)[i-1]?=some (uj (fL p.1 (p.2:Int))):=by unfold cY;rw[List.getElem?_map,ha,V];rfl
       have O:IntKind.i64.wrap ((i:Int)-1)=((i-1:Nat):Int):=by rw[IntWalk.i64_in _ (by omega)];omega
       have hp:place (aZ x/2) acc=decide (1<=aZ x/2/\aZ x/2<=p.2+1):=by unfold place;rw[t]
       rw[hp]at hL
       have I:((i:Int)==0)=false:=beq_eq_false_iff_ne.2 (by omega)
       by_cases h1:aZ x/2<1
       .rw[aH (by omega)]at hL;rw[hL];exact pre (.neg I (.step (λn=>Eg n _ _ _ _ _ _ _ _ _ _ _ _) (.pos (ax (by omega)) (.pos (ax (by omega)) bad))))
       .have G:∀{v},Ev (λn=>(aa (decide (((aZ x/2:Nat):Int)>(IntKind.i64.wrap ((p.2:Int)+1)))) (iF n s (R0.map rS) (i:Int) (i:Int) j (cY acc) k g f c) (pb n s (R0.map rS) (-1) (i:Int) ((aZ x/2:Nat):Int) j (cY acc) S k g f c))) v->Ev (λn=>mH n s (R0.map rS) (-1) (i:Int) j (cY acc) k g f c) v:=λ{v}h=>pre (.neg I (.step (λn=>Eg n _ _ _ _ _ _ _ _ _ _ _ _) (.pos (ax (by omega)) (.neg (aH (by omega)) (.ae O K (by rw[O];exact .cL (m:=i-1) K h))))))
        have Y:=hA p (List.mem_of_getElem? V)
        by_cases h2:aZ x/2<=p.2+1
        .rw[ax (by omega)]at hL;rw[hL];exact nx.imp λv hv=>G (.neg (aH (by rw[IntWalk.i64_in _ (by omega)];omega)) (U hL hv))
        .rw[aH (by omega)]at hL;rw[hL];exact G (.pos (ax (by rw[IntWalk.i64_in _ (by omega)];omega)) bad)
     .have hL:jm x acc=none:=by unfold jm;rw[E,aH B,Bool.and_false,Bool.and_false]
      rw[hL]
      by_cases h2:acc.length<2000
      .refine o b (.neg rfl (.neg (aH (by omega)) (.pos (ax ?_) bad)));show IntKind.i64.wrap (((aZ x/2:Nat):Int)+1)>100;rw[IntWalk.i64_in _ (by omega)];omega
      .exact o b (.neg rfl (.pos (ax (by omega)) bad))
    .rw[aH z]at b
     have hL:jm x acc=none:=by unfold jm;rw[E,aH z,Bool.false_and]
     rw[hL];obtain⟨u,h1,h2⟩:=b;exact o h1 (.pos (by rw[h2];rfl) bad)
  .rw[List.drop_eq_nil_of_le (by omega)]
   have P:IntKind.i64.wrap (((R0.map rS).length:Int)-1)=(i:Int):=by rw[Q,IntWalk.i64_in _ (by omega)];omega
   have N:IntKind.i64.wrap (((R0.map rS).length:Int)-1)=((i:Nat):Int):=P
   have o:∀{v},Ev (λn=>vD n s (R0.map rS) (-1) j (cY acc) k g f c) v->Ev (λn=>mH n s (R0.map rS) (-1) (i:Int) j (cY acc) k g f c) v:=λh=>.step (λn=>ES n _ _ _ _ _ _ _ _ _ _) (.neg (by rw[w1];exact aH (by omega)) h)
   have F:Ev (λn=>zW n s (R0.map rS) j (cY acc) k g f c) (tW acc.length):=by refine .step (λn=>UI n _ _ _ _ _ _ _ _) ?_;rw[P,ha];exact .step (λn=>Eh n _ _ _ _ _ _ _ _) (.pos (ax (by omega)) (.neg (aH (by omega)) (.ret _)))
   unfold lU
   by_cases h0:R0[i]=[]/\acc≠[]
   .rw[ax h0]
    intro v hv
    have Z:=List.length_pos_iff.2 h0.2
    refine o (.step (λn=>Ei n _ _ _ _ _ _ _ _ _) (.pos (by decide) (.ae N g0 (.neg ?_ (.neg ?_ (.step (λn=>Eh n _ _ _ _ _ _ _ _) (.neg (by decide) (.ask hv (.ret _)))))))))
    .show(!ao (bs R0[i]) (bs []))=false;rw[h0.1,gQ.2 rfl];rfl
    .rw[beq_eq_false_iff_ne];unfold cY;rw[List.length_map];omega
   .rw[aH h0]
    refine o (.step (λn=>Ei n _ _ _ _ _ _ _ _ _) (.pos (by decide) (.ae N g0 ?_)))
    show Ev (λn=>aa (!ao (bs R0[i]) (bs [])) _ _) _
    by_cases C:R0[i]=[]
    .have T:acc=[]:=Classical.byContradiction λe=>h0 ⟨C,e⟩;refine .neg (by rw[C,gQ.2 rfl];rfl) (.pos ?_ F);rw[T];rfl
    .refine .pos ?_ F
     rw[fh,aH];.rfl
     intro e;exact C (congrArg (λx=>x.data.toList) e)
end
end Go.AI
end

section
namespace Go.AI
open Go
inductive gO where|mk(S:ST)(ks:List gO)
abbrev T8:=Int×Int×ByteArray×Rows×Rows×Rows×Rows
mutual
def aR:gO->T8|.mk S ks=>fL S (rws ks)
def rws:List gO->Rows|[]=>[]|t::ts=>mZ (aR t)::rws ts
end
mutual
def cA:Nat->gO->NL|d,.mk S ks=>(S,d)::bq (d+1) ks
def bq:Nat->List gO->NL|_,[]=>[]|d,t::ts=>cA d t++bq d ts
end
theorem Je(d:Nat):∀a b:List gO,bq d (a++b)=bq d a++bq d b|[],_=>by rw[List.nil_append,bq,List.nil_append]|t::a,b=>by rw[List.cons_append,bq,bq,Je d a b,List.append_assoc]
theorem KB:∀a b:List gO,rws (a++b)=rws a++rws b|[],_=>by rw[List.nil_append,rws,List.nil_append]|t::a,b=>by rw[List.cons_append,rws,rws,KB a b];rfl
theorem kB:∀a:List gO,(rws a).length=a.length|[]=>by rw[rws];rfl|t::a=>by rw[rws,aN,aN,kB a]
theorem TY(d:Nat)(t:gO):0<(cA d t).length:=by cases t;rw[cA];simp
theorem r9(d:Nat):∀a:List gO,a.length<=(bq d a).length|[]=>Nat.zero_le _|t::a=>by rw[bq,List.length_append,aN];have:=TY d t;have:=r9 d a;omega
theorem sy:∀(a:List gO)(i:Nat)(t:gO),a[i]?=some t->(rws a)[i]?=some (mZ (aR t))|[],_,_,h=>by cases h|t::a,0,_,h=>by cases h;rw[rws];rfl|t::a,i+1,u,h=>by rw[rws];exact sy a i u h
def pI:NL->Prop|a::b::r=>b.2<=a.2+1/\pI (b::r)|_=>True
theorem Jf:∀{a:ST×Nat}{l:NL},pI (a::l)->pI l|_,[],_=>trivial|_,_::_,h=>h.2
theorem Jg:∀{x y:NL},pI (x++y)->pI y|[],_,h=>h|_::x,y,h=>Jg (x:=x) (Jf h)
theorem Rq:∀(m:Nat)(l':NL)(S:ST)(d:Nat),l'.length<=m->m<=3000->pI ((S,d)::l')->∃ks r,l'=bq (d+1) ks++r/\(∀p,r.head?=some p->p.2<=d)/\
 Ev (λn=>w6 n (ij ((S,d)::l')) (gL ((S,d)::l'))) (eW (aR (.mk S ks)) ((1+(bq (d+1) ks).length:Nat):Int))/\
 Ev (λn=>w5 n (cY ((S,d)::l'))) (eW (aR (.mk S ks)) ((1+(bq (d+1) ks).length:Nat):Int)):=by
 intro m
 induction m using Nat.strongRecOn with
 |ind m ih=>
  intro l' S d hl hm C
  have go:∀(k:Nat)(ks:List gO)(r:NL),r.length=k->l'=bq (d+1) ks++r->(∀p,r.head?=some p->p.2<=d+1)->∃j r',l'=bq (d+1) j++r'/\(∀p,r'.head?=some p->p.2<=d)/\
   Ev (λn=>vG n (ij ((S,d)::l')) (gL ((S,d)::l')) ((1+(bq (d+1) ks).length:Nat):Int) S (rws ks)) (eW (aR (.mk S j)) ((1+(bq (d+1) j).length:Nat):Int))/\
   Ev (λn=>vF n (cY ((S,d)::l')) ((1+(bq (d+1) ks).length:Nat):Int) (0,0,bs []) S [] [] [] [] (rws ks)) (eW (aR (.mk S j)) ((1+(bq (d+1) j).length:Nat):Int)):=by
   intro k
   induction k using Nat.strongRecOn with
   |ind k F=>
    intro ks r hr t Q
    have hlen:l'.length=(bq (d+1) ks).length+r.length:=by rw[t,List.length_append]
    have M:(ij ((S,d)::l')).length=l'.length+1:=by unfold ij;rw[List.length_map,aN]
    have R:(gL ((S,d)::l')).length=l'.length+1:=by unfold gL;rw[List.length_map,aN]
    have O:(cY ((S,d)::l')).length=l'.length+1:=by unfold cY;rw[List.length_map,aN]
    have c:∀i:Int,fL S (rws ks,i)=eW (aR (.mk S ks)) i:=λi=>by rw[aR];rfl
    cases r with
    |nil=>
     rw[List.length_nil]at hlen
     refine⟨ks,[],t,(λ_ h=>by cases h),?_,?_⟩
     .refine .step (λn=>El n _ _ _ _ _) (.neg (aH (by omega)) ?_);rw[c];exact .ret _
     .refine .step (λn=>Ek n _ _ _ _ _ _ _ _ _) (.neg (aH (by omega)) ?_);rw[c];exact .ret _
    |cons p o=>
     rw[aN]at hlen
     have e:∀(f:ST×Nat->List AV),(((S,d)::l').map f)[1+(bq (d+1) ks).length]?=some (f p):=λf=>by rw[Nat.add_comm,List.map_cons,List.getElem?_cons_succ,t,List.map_append,List.getElem?_append_right (by rw[List.length_map];exact ak _),List.length_map,Nat.sub_self];rfl
     have h0:∀(f:ST×Nat->List AV),(((S,d)::l').map f)[0]?=some (f (S,d)):=λf=>rfl
     by_cases hp:p.2<=d
     .refine⟨ks,p::o,t,(λq h=>by cases h;exact hp),?_,?_⟩
      .refine .step (λn=>El n _ _ _ _ _) (.pos (ax (by omega)) (.ae (m:=1+(bq (d+1) ks).length) rfl (e _) (.ae (m:=0) rfl (h0 _) (.neg (aH (by show¬(p.2:Int)>(d:Int);omega)) ?_))));rw[c];exact .ret _
      .refine .step (λn=>Ek n _ _ _ _ _ _ _ _ _) (.pos (ax (by omega)) (.ae (m:=1+(bq (d+1) ks).length) rfl (e _) (.ae (m:=0) rfl (h0 _) (.neg (aH (by show¬(p.2:Int)>(d:Int);omega)) ?_))));rw[c];exact .ret _
     .have w:p.2=d+1:=by have:=Q p rfl;omega
      obtain⟨g,Y⟩:=p
      dsimp only at w
      subst w
      have B:pI ((g,d+1)::o):=by have:=Jf C;rw[t]at this;exact Jg this
      obtain⟨b,D,K,X,W,V⟩:=ih o.length (by omega) o g (d+1) (ak _) (by omega) B
      have z:bq (d+1) (ks++[.mk g b])=bq (d+1) ks++((g,d+1)::bq (d+1+1) b):=by rw[Je,bq,cA,bq,List.append_nil]
      have G:(bq (d+1) (ks++[.mk g b])).length=(bq (d+1) ks).length+(1+(bq (d+1+1) b).length):=by rw[z,List.length_append,aN];omega
      have N:o.length=(bq (d+1+1) b).length+D.length:=by rw[K,List.length_append]
      obtain⟨E,L,U,T,J,I⟩:=F D.length (by rw[<-hr,aN];omega) (ks++[.mk g b]) D rfl (by rw[z,t,K];simp) X
      rw[KB,show rws [.mk g b]=[mZ (aR (.mk g b))]by rw[rws,rws]]at J I
      have P:(rws ks).length<=3000:=by rw[kB];have:=r9 (d+1) ks;omega
      have v:IntKind.i64.wrap (((1+(bq (d+1) ks).length:Nat):Int)+((1+(bq (d+1+1) b).length:Nat):Int))=((1+(bq (d+1) (ks++[.mk g b])).length:Nat):Int):=by rw[IntWalk.i64_in _ (by omega),G];omega
      have u:((S,d)::l').drop (1+(bq (d+1) ks).length)=(g,d+1)::o:=by rw[Nat.add_comm,List.drop_succ_cons,t,List.drop_left' rfl]
      have l:∀(f:ST×Nat->List AV),((((S,d)::l').map f).drop (((1+(bq (d+1) ks).length:Nat):Int)).toNat).take ((((((S,d)::l').map f).length:Nat):Int).toNat-(((1+(bq (d+1) ks).length:Nat):Int)).toNat)=((g,d+1)::o).map f:=λf=>by simp only[Int.toNat_natCast];rw[List.take_of_length_le (by rw[List.length_drop];exact ak _),<-List.map_drop,u]
      refine⟨E,L,U,T,?_,?_⟩
      .refine .step (λn=>El n _ _ _ _ _) (.pos (ax (by omega)) (.ae (m:=1+(bq (d+1) ks).length) rfl (e _) (.ae (m:=0) rfl (h0 _) (.pos (ax (by show((d+1:Nat):Int)>(d:Int);omega)) (.jd (by omega) (.jd (by omega) ?_))))));refine .ask (by unfold ij gL;rw[l,l];exact W) (.fits (by simp only[List.length_singleton];omega) ?_);show Ev (λn=>vG n _ _ (IntKind.i64.wrap (((1+(bq (d+1) ks).length:Nat):Int)+((1+(bq (d+1+1) b).length:Nat):Int))) S (rws ks++[mZ (aR (.mk g b))])) _;rw[v];exact J
      .refine .step (λn=>Ek n _ _ _ _ _ _ _ _ _) (.pos (ax (by omega)) (.ae (m:=1+(bq (d+1) ks).length) rfl (e _) (.ae (m:=0) rfl (h0 _) (.pos (ax (by show((d+1:Nat):Int)>(d:Int);omega)) (.jd (by omega) ?_)))));refine .ask (by unfold cY;rw[l];exact V) (.fits (by simp only[List.length_singleton];omega) ?_);show Ev (λn=>vF n _ (IntKind.i64.wrap (((1+(bq (d+1) ks).length:Nat):Int)+((1+(bq (d+1+1) b).length:Nat):Int))) (0,0,bs []) S [] [] [] [] (rws ks++[mZ (aR (.mk g b))])) _;rw[v];exact I
  obtain⟨ks,r,h1,h2,h3,h4⟩:=go l'.length [] l' rfl (by rw[bq];rfl) (λp h=>by cases l' with|nil=>cases h|cons q Z=>cases h;exact C.1)
  refine⟨ks,r,h1,h2,.step (λn=>XR n _ _) (.ae (m:=0) rfl rfl ?_),.step (λn=>XP n _) (.ae (m:=0) rfl rfl ?_)⟩
  .rw[bq,rws]at h3;exact h3
  .rw[bq,rws]at h4;exact h4
theorem MQ{l:Rows}(h:l.length<=3000000):Ev (λn=>BL n l l) true:=by
 have go:∀(d i:Nat),l.length-i=d->Ev (λn=>Aa n l l (i:Int)) true:=by
  intro d
  induction d with
  |zero=>intro i e;exact .step (λn=>K8 n _ _ _) (.neg (aH (by omega)) (.ret _))
  |succ d ih=>
   intro i e
   have hi:i<l.length:=by omega
   refine .step (λn=>K8 n _ _ _) (.pos (ax (by omega)) (.ae rfl (List.getElem?_eq_getElem hi) (.ae rfl (List.getElem?_eq_getElem hi) (.neg (by simp) ?_))));rw[IntWalk.i64_in _ (by omega)];exact ih (i+1) (by omega)
 exact .step (λn=>XT n _ _) (.neg (by simp) (go _ 0 rfl))
theorem MR{k:Int}{x:ByteArray}{ks:Rows}(hl:ks.length<=1000000000000)(ih:∀(i:Nat)(r:List AV),ks[i]?=some r->∃a:Int×ByteArray×Rows,r=gU a/\Ev (λn=>tF n a a) true):Ev (λn=>tF n (k,x,ks) (k,x,ks)) true:=by
 have go:∀(d i:Nat),ks.length-i=d->Ev (λn=>zh n (i:Int) (k,x,ks) (k,x,ks)) true:=by
  intro d
  induction d with
  |zero=>intro i e;exact .step (λn=>J3 n _ _ _) (.neg (aH (by show¬(i:Int)<(ks.length:Int);omega)) (.ret _))
  |succ d b=>
   intro i e
   have hi:i<ks.length:=by omega
   obtain⟨a,h1,h2⟩:=ih i _ (List.getElem?_eq_getElem hi);refine .step (λn=>J3 n _ _ _) (.pos (ax (by show(i:Int)<(ks.length:Int);omega)) (.ae rfl (List.getElem?_eq_getElem hi) (.ae rfl (List.getElem?_eq_getElem hi) (.ask (a:=true) (by rw[h1];exact h2) (.neg rfl ?_)))));rw[IntWalk.i64_in _ (by omega)];exact b (i+1) (by omega)
 exact .step (λn=>WC n _ _) (.neg (by simp) (.neg (by rw[gQ.2 rfl];rfl) (.neg (by simp) (go _ 0 rfl))))
theorem Vv{rows:Rows}(h:WY rows):cd rows<=1000000000000->∀(i:Nat)(r:List AV),rows[i]?=some r->∃a:Int×ByteArray×Rows,r=gU a/\Ev (λn=>tF n a a) true:=by induction h with|nil=>intro _ i r e;cases e|@cons k x ks rest h1 h2 c b=>intro hw i r e;have hw:(1+(x.size+1+(cd ks+1+0)))+1+cd rest<=1000000000000:=hw;have:=qm ks;cases i with|succ i=>exact b (by omega) i r e|zero=>cases e;exact⟨(k,x,ks),rfl,MR (by omega) (c (by omega))⟩
theorem MS{ks:Rows}(hl:ks.length<=1000000000000)(ih:∀(i:Nat)(r:List AV),ks[i]?=some r->∃a:TM,r=av a/\Ev (λn=>tD n a a) true):Ev (λn=>BM n ks ks) true:=by
 have go:∀(d i:Nat),ks.length-i=d->Ev (λn=>Ab n ks ks (i:Int)) true:=by
  intro d
  induction d with
  |zero=>intro i e;exact .step (λn=>K9 n _ _ _) (.neg (aH (by omega)) (.ret _))
  |succ d b=>
   intro i e
   have hi:i<ks.length:=by omega
   obtain⟨a,h1,h2⟩:=ih i _ (List.getElem?_eq_getElem hi);refine .step (λn=>K9 n _ _ _) (.pos (ax (by omega)) (.ae rfl (List.getElem?_eq_getElem hi) (.ae rfl (List.getElem?_eq_getElem hi) (.ask (a:=true) (by rw[h1];exact h2) (.neg rfl ?_)))));rw[IntWalk.i64_in _ (by omega)];exact b (i+1) (by omega)
 exact .step (λn=>XU n _ _) (.neg (by simp) (go _ 0 rfl))
theorem MT{a:TM}(hy:WY a.2.2.2.2.2.1)(hw:fM (av a)<=1000000000000)(ih:∀(i:Nat)(r:List AV),a.2.2.2.2.2.2[i]?=some r->∃b:TM,r=av b/\Ev (λn=>tD n b b) true):Ev (λn=>tD n a a) true:=by have hw:(1+(a.2.1.size+1+(1+(1+(a.2.2.2.2.1.size+1+(cd a.2.2.2.2.2.1+1+(cd a.2.2.2.2.2.2+1+0)))))))<=1000000000000:=hw;obtain⟨o,x,N,tk,tn,ts,ks⟩:=a;dsimp only at hy hw ih;have:=qm ks;have:=qm ts;exact .step (λn=>Wg n _ _) (.pos (by simp) (.pos (gQ.2 rfl) (.pos (by simp) (.ask (MR (k:=tk) (x:=tn) (ks:=ts) (show ts.length<=_ by omega) (Vv hy (by omega))) (.pos rfl (.ask (MS (ks:=ks) (show ks.length<=_ by omega) ih) (.ret _)))))))
theorem Vw{rows:Rows}(h:WT rows):cd rows<=1000000000000->∀(i:Nat)(r:List AV),rows[i]?=some r->∃a:TM,r=av a/\Ev (λn=>tD n a a) true:=by induction h with|nil=>intro _ i r e;cases e|@cons a rest hy h1 h2 c b=>intro hw i r e;have hw:fM (av a)+1+cd rest<=1000000000000:=hw;have ha:=oX a;unfold Wa at ha;cases i with|succ i=>exact b (by omega) i r e|zero=>cases e;exact⟨a,rfl,MT hy (by omega) (c (by omega))⟩
theorem Sq{S:ST}(h:GS S):Ev (λn=>BJ n S S) true:=by obtain⟨e,b,name,path,Au,f⟩:=S;obtain⟨_,_,_,⟨pl,rfl,p2,_⟩,⟨kl,rfl,k,_⟩,⟨g,rfl,t2,j⟩⟩:=h;refine .step (λn=>XK n _ _) (.pos (by simp) (.pos (by simp) (.pos (gQ.2 rfl) (.ask (MQ (by rw[List.length_map];omega)) (.pos rfl (.ask (MS (by rw[List.length_map];omega) λi r hr=>?_) (.pos rfl (.ask (MQ (by rw[List.length_map];omega)) (.ret _)))))))));rw[List.getElem?_map]at hr;cases ha:g[i]? with|none=>rw[ha]at hr;cases hr|some a=>rw[ha]at hr;cases hr;have hg:=j a (List.mem_of_getElem? ha);have hw:=hg.weight;have c:=oX a;unfold Wa at hw c;exact⟨a,rfl,MT hg.shape.one.1 (by omega) (Vw hg.shape.one.2 (by omega))⟩
end Go.AI
end

section
namespace Go.AI
open Go
noncomputable def tX(S:ST):ByteArray:=by classical exact if h:∃w:ByteArray,w.size<=300000/\Ev (λn=>jN n S) w then Classical.choose h else bs []
def nK(p:ST×Nat):Prop:=(GS p.1/\p.2<=40000)/\∃w:ByteArray,w.size<=300000/\Ev (λn=>jN n p.1) w
theorem EE{S:ST}(h:∃w:ByteArray,w.size<=300000/\Ev (λn=>jN n S) w):(tX S).size<=300000/\Ev (λn=>jN n S) (tX S):=by unfold tX;rw[dif_pos h];exact Classical.choose_spec h
noncomputable def jn(p:ST×Nat):ByteArray:=bs (List.replicate (2*p.2) 32)++tX p.1++bs [10]
noncomputable def out:NL->ByteArray|[]=>bs []|p::l=>jn p++out l
theorem DS:∀a b:NL,out (a++b)=out a++out b|[],b=>(ByteArray.empty_append).symm|p::a,b=>by rw[List.cons_append,out,out,DS a b,l4]
theorem Dk{p:ST×Nat}(h:nK p):(jn p).size<=400000:=by have:=h.1.2;have:=(EE h.2).1;unfold jn;rw[bj,bj,ba,List.length_replicate];show _+1<=_;omega
theorem yj:∀l:NL,(∀p∈l,nK p)->(out l).size<=400000*l.length|[],_=>ak _|p::l,h=>by have h1:=Dk (h p (.head _));have h2:=yj l λq b=>h q (.tail _ b);rw[out,bj,aN];omega
theorem sa(d:Nat):∀(a:List gO)(i:Nat)(t:gO),a[i]?=some t->(cA d t).length<=(bq d a).length/\∀p∈cA d t,p∈bq d a|[],_,_,h=>by cases h|u::a,0,t,h=>by cases h;rw[bq];exact⟨by rw[List.length_append];omega,λp hp=>List.mem_append_left _ hp⟩|u::a,i+1,t,h=>by obtain⟨h1,h2⟩:=sa d a i t h;rw[bq];exact⟨by rw[List.length_append];omega,λp hp=>List.mem_append_right _ (h2 p hp)⟩
theorem OE:∀(m:Nat)(t:gO)(d:Nat),(cA d t).length<=m->m<=3000->(∀p∈cA d t,GS p.1)->Ev (λn=>F7 n (aR t) (aR t)) true:=by
 intro m
 induction m using Nat.strongRecOn with
 |ind m ih=>
  intro t d hl hm hg
  obtain⟨S,ks⟩:=t
  rw[cA]at hl hg
  rw[aN]at hl
  have g:=r9 (d+1) ks
  have h:Ev (λn=>BJ n (gm (aR (.mk S ks))) (gm (aR (.mk S ks)))) true:=by rw[aR];exact Sq (hg (S,d) (.head _))
  have b:(aR (.mk S ks)).2.2.2.2.2.2=rws ks:=by rw[aR];rfl
  have go:∀(j i:Nat),ks.length-i=j->Ev (λn=>A1 n (i:Int) (aR (.mk S ks)) (aR (.mk S ks))) true:=by
   intro j
   induction j with
   |zero=>intro i e;exact .step (λn=>Mm n _ _ _) (.neg (by rw[b,kB];exact aH (by omega)) (.ret _))
   |succ j c=>
    intro i e
    have hi:i<ks.length:=by omega
    have hk:=List.getElem?_eq_getElem hi;have hr:=sy ks i _ hk;obtain⟨k,f⟩:=sa (d+1) ks i _ hk;have:=ih (cA (d+1) ks[i]).length (by omega) ks[i] (d+1) (ak _) (by omega) λp hp=>hg p (.tail _ (f p hp));refine .step (λn=>Mm n _ _ _) (.pos (by rw[b,kB];exact ax (by omega)) ?_);rw[b];refine .ae rfl hr (.ae rfl hr (.ask (a:=true) this (.neg rfl ?_)));rw[IntWalk.i64_in _ (by omega)];exact c (i+1) (by omega)
  exact .step (λn=>eF7 n _ _) (.ask h (.neg rfl (.neg (by simp) (go _ 0 rfl))))
theorem KC{S:ST}{d:Nat}{f:Bool}{b:ByteArray}(hg:nK (S,d))(hd:d<=40000)(hb:b.size<=10000000000){n1:Int}(hn:n1=(d:Int)):
 Ev (λn=>aa (sk (bs [32,32]) n1) (ask (jN n S) λg=>(ai (oG (bs [32,32]) n1) g λi=>(ai i (bs [10]) λh=>(ask (vJ n h f b) λc=>(some c.2))))) none) (true,b++jn (S,d)):=by
 subst hn
 obtain⟨h1,h2⟩:=EE hg.2
 have h1:(tX S).size<=300000:=h1
 have e:oG (bs [32,32]) (d:Int)=bs (List.replicate (2*d) 32):=by unfold oG;rw[Int.toNat_natCast];exact congrArg bs (Jb d)
 have hz:(bs (List.replicate (2*d) 32)).size=2*d:=by rw[ba,List.length_replicate]
 have j:(bs [32,32]).size=2:=rfl;have k:(bs [10]).size=1:=rfl;refine .pos (ax ⟨by omega,by omega,by rw[j];omega⟩) (.ask h2 ?_);rw[e];refine .ai (by omega) (.ai (by rw[bj];omega) (.ask (Vh _ f b (by rw[bj,bj];omega)) (.ret _)))
theorem aaa:∀(m:Nat)(t:gO)(path:Rows)(f:Bool)(b:ByteArray),(cA path.length t).length<=m->m<=3000->path.length+m<=4000->path≠[]->b.size+400000*m<=10000000000->(∀p∈cA path.length t,nK p)->
 ∃k,Ev (λn=>vK n (aR t) path f b) (true,k,b++out (cA path.length t)):=by
 intro m
 induction m using Nat.strongRecOn with
 |ind m ih=>
  intro t path f b hl hm z hp hb hg
  obtain⟨S,ks⟩:=t
  rw[cA]at hl hg⊢
  rw[aN]at hl
  have B:=r9 (path.length+1) ks
  have o:wS path=true:=by cases path with|nil=>exact absurd rfl hp|cons _ _=>rfl
  have u:(aR (.mk S ks)).2.2.2.2.2.2=rws ks:=by rw[aR];rfl
  have C:gm (aR (.mk S ks))=S:=by rw[aR];rfl
  have h:=hg (S,path.length) (.head _)
  have G:=Dk h
  have q:Ev (λn=>FF n path (aR (.mk S ks)) f b) (true,b++jn (S,path.length)):=.step (λn=>WB n _ _ _ _) (by rw[C];exact KC h (by omega) (by omega) rfl)
  have go:∀(j i:Nat)(f:Bool)(c:ByteArray),ks.length-i=j->c.size+400000*(bq (path.length+1) (ks.drop i)).length<=10000000000->
   ∃k,Ev (λn=>yE n path (rws ks) ((rws ks).length:Int) (i:Int) f c) (true,k,c++out (bq (path.length+1) (ks.drop i))):=by
   intro j
   induction j with
   |zero=>intro i f c e hc;rw[List.drop_eq_nil_of_le (by omega),bq];exact⟨f,.step (λn=>IB n _ _ _ _ _ _) (.neg (by rw[kB];exact aH (by omega)) (.c7 (by show _=(true,f,c++bs []);rw[show c++bs []=c from ByteArray.append_empty])))⟩
   |succ j l=>
    intro i f c e hc
    have hi:i<ks.length:=by omega
    have hk:=List.getElem?_eq_getElem hi
    have hr:=sy ks i _ hk
    obtain⟨F,v⟩:=sa (path.length+1) ks i _ hk
    have g:(path++[iR (i:Int)]).length=path.length+1:=by rw[List.length_append];rfl
    rw[List.drop_eq_getElem_cons hi,bq,List.length_append]at hc;obtain⟨E,h1⟩:=ih (cA (path.length+1) ks[i]).length (by omega) ks[i] (path++[iR (i:Int)]) f c (by rw[g];exact ak _) (by omega) (by rw[g];omega) (by simp) (by omega) (by rw[g];intro p hp;exact hg p (.tail _ (v p hp)));rw[g]at h1;have w:(out (cA (path.length+1) ks[i])).size<=400000*(cA (path.length+1) ks[i]).length:=yj _ λp hp=>hg p (.tail _ (v p hp));obtain⟨D,h2⟩:=l (i+1) E (c++out (cA (path.length+1) ks[i])) (by omega) (by rw[bj];omega);refine⟨D,.step (λn=>IB n _ _ _ _ _ _) (.pos (by rw[kB];exact ax (by omega)) (.ae rfl hr (.pos o (.fits (by simp only[List.length_singleton];omega) (.ask h1 (.neg rfl ?_))))))⟩;rw[IntWalk.i64_in _ (by omega),List.drop_eq_getElem_cons hi,bq,DS,<-l4];exact h2
  obtain⟨k,h2⟩:=go ks.length 0 true (b++jn (S,path.length)) rfl (by rw[List.drop_zero,bj];omega);rw[List.drop_zero]at h2;refine⟨k,.step (λn=>UR n _ _ _ _) (.ask q ?_)⟩;rw[u,out,<-l4];exact h2
theorem Jh{S:ST}(h:GS S):Ev (λn=>Ag n S.2.2.2.2.1) false:=by
 obtain⟨b,e,t2,c⟩:=h.ts
 rw[e]
 have go:∀(j i:Nat),b.length-i=j->Ev (λn=>x8 n (b.map av) ((b.map av).length:Int) (i:Int)) (-1):=by
  intro j
  induction j with
  |zero=>intro i e;exact .step (λn=>HM n _ _ _) (.neg (by rw[List.length_map];exact aH (by omega)) (.ret _))
  |succ j ih=>
   intro i e
   have hi:i<b.length:=by omega
   have hr:(b.map av)[i]?=some (av b[i]):=by rw[List.getElem?_map,List.getElem?_eq_getElem hi];rfl
   have hg:=(c _ (List.getElem_mem hi)).okP;refine .step (λn=>HM n _ _ _) (.pos (by rw[List.length_map];exact ax (by omega)) (.ae rfl hr (.ask (.step (λn=>Ye n _) (.ask hg (.ret _))) (.neg rfl ?_))));rw[IntWalk.i64_in _ (by omega)];exact ih (i+1) (by omega)
 exact .step (λn=>UU n _) (.ask (.step (λn=>Tg n _) (go _ 0 rfl)) (.ret _))
theorem aab:∀(m:Nat)(t:gO)(path:Rows)(f:Bool),(cA path.length t).length<=m->m<=3000->path.length+m<=4000->path≠[]->(∀p∈cA path.length t,nK p)->
 Ev (λn=>Ah n (aR t) path f) (true,f):=by
 intro m
 induction m using Nat.strongRecOn with
 |ind m ih=>
  intro t path f hl hm o hp hg
  obtain⟨S,ks⟩:=t
  rw[cA]at hl hg
  rw[aN]at hl
  have q:=r9 (path.length+1) ks
  have g:wS path=true:=by cases path with|nil=>exact absurd rfl hp|cons _ _=>rfl
  have h:(aR (.mk S ks)).2.2.2.2.2.2=rws ks:=by rw[aR];rfl
  have u:(aR (.mk S ks)).2.2.2.2.1=S.2.2.2.2.1:=by rw[aR];rfl
  have k:=hg (S,path.length) (.head _)
  have go:∀(j i:Nat),ks.length-i=j->Ev (λn=>yF n path (rws ks) ((rws ks).length:Int) (i:Int) f) (true,f):=by
   intro j
   induction j with
   |zero=>intro i e;exact .step (λn=>IE n _ _ _ _ _) (.neg (by rw[kB];exact aH (by omega)) (.ret _))
   |succ j c=>
    intro i e
    have hi:i<ks.length:=by omega
    have hk:=List.getElem?_eq_getElem hi
    have hr:=sy ks i _ hk
    obtain⟨v,l⟩:=sa (path.length+1) ks i _ hk
    have b:(path++[iR (i:Int)]).length=path.length+1:=by rw[List.length_append];rfl
    have h1:=ih (cA (path.length+1) ks[i]).length (by omega) ks[i] (path++[iR (i:Int)]) f (by rw[b];exact ak _) (by omega) (by rw[b];omega) (by simp) (by rw[b];intro p hp;exact hg p (.tail _ (l p hp)));refine .step (λn=>IE n _ _ _ _ _) (.pos (by rw[kB];exact ax (by omega)) (.ae rfl hr (.pos g (.fits (by simp only[List.length_singleton];omega) (.ask h1 (.neg rfl ?_))))));rw[IntWalk.i64_in _ (by omega)];exact c (i+1) (by omega)
  refine .step (λn=>UW n _ _ _) (.ask (.step (λn=>U2 n _ _ _) (.ask (by rw[u];exact Jh k.1.1) (.neg rfl (.ret _)))) ?_);rw[h];exact go _ 0 rfl
theorem Vx(t:gO)(hl:(cA 0 t).length<=3000)(hg:∀p∈cA 0 t,nK p):Ev (λn=>F8 n (aR t)) (out (cA 0 t)):=by
 have J:=hg
 obtain⟨S,ks⟩:=t
 rw[cA]at hl hg
 rw[aN]at hl
 have hl:(bq 1 ks).length+1<=3000:=hl
 have hg:∀p∈(S,0)::bq 1 ks,nK p:=hg
 have I:=r9 1 ks
 have l:(aR (.mk S ks)).2.2.2.2.2.2=rws ks:=by rw[aR];rfl
 have K:gm (aR (.mk S ks))=S:=by rw[aR];rfl
 have q:(aR (.mk S ks)).2.2.2.2.1=S.2.2.2.2.1:=by rw[aR];rfl
 have h:=hg (S,0) (.head _)
 have M:=Dk h
 have C:∀(j i:Nat)(f:Bool),ks.length-i=j->Ev (λn=>yD n (rws ks) ((rws ks).length:Int) (i:Int) f) (true,f):=by
  intro j
  induction j with
  |zero=>intro i f e;exact .step (λn=>Iy n _ _ _ _) (.neg (by rw[kB];exact aH (by omega)) (.ret _))
  |succ j g=>
   intro i f e
   have hi:i<ks.length:=by omega
   have hk:=List.getElem?_eq_getElem hi;have hr:=sy ks i _ hk;obtain⟨D,m⟩:=sa 1 ks i _ hk;have h1:=aab (cA 1 ks[i]).length ks[i] [iR (i:Int)] f (ak _) (by omega) (by show 1+_<=_;omega) (by simp) λp hp=>hg p (.tail _ (m p hp));refine .step (λn=>Iy n _ _ _ _) (.pos (by rw[kB];exact ax (by omega)) (.ae rfl hr (.pos rfl (.fits (by simp only[List.length_singleton];omega) (.ask h1 (.neg rfl ?_))))));rw[IntWalk.i64_in _ (by omega)];exact g (i+1) f (by omega)
 have B:∀(j i:Nat)(f:Bool)(c:ByteArray),ks.length-i=j->c.size+400000*(bq 1 (ks.drop i)).length<=10000000000->
  ∃L,Ev (λn=>z8 n (rws ks) ((rws ks).length:Int) (i:Int) f c) (true,L,c++out (bq 1 (ks.drop i))):=by
  intro j
  induction j with
  |zero=>intro i f c e hc;rw[List.drop_eq_nil_of_le (by omega),bq];exact⟨f,.step (λn=>K7 n _ _ _ _ _) (.neg (by rw[kB];exact aH (by omega)) (.c7 (by show _=(true,f,c++bs []);rw[show c++bs []=c from ByteArray.append_empty])))⟩
  |succ j g=>
   intro i f c e hc
   have hi:i<ks.length:=by omega
   have hk:=List.getElem?_eq_getElem hi;have hr:=sy ks i _ hk;obtain⟨D,m⟩:=sa 1 ks i _ hk;rw[List.drop_eq_getElem_cons hi,bq,List.length_append]at hc;obtain⟨z,h1⟩:=aaa (cA 1 ks[i]).length ks[i] [iR (i:Int)] f c (ak _) (by omega) (by show 1+_<=_;omega) (by simp) (by omega) λp hp=>hg p (.tail _ (m p hp));have h1:Ev (λn=>vK n (aR ks[i]) [iR (i:Int)] f c) (true,z,c++out (cA 1 ks[i])):=h1;have G:(out (cA 1 ks[i])).size<=400000*(cA 1 ks[i]).length:=yj _ λp hp=>hg p (.tail _ (m p hp));obtain⟨k,h2⟩:=g (i+1) z (c++out (cA 1 ks[i])) (by omega) (by rw[bj];omega);refine⟨k,.step (λn=>K7 n _ _ _ _ _) (.pos (by rw[kB];exact ax (by omega)) (.ae rfl hr (.pos rfl (.fits (by simp only[List.length_singleton];omega) (.ask h1 (.neg rfl ?_))))))⟩;rw[IntWalk.i64_in _ (by omega),List.drop_eq_getElem_cons hi,bq,DS,<-l4];exact h2
 have w:Ev (λn=>BG n (aR (.mk S ks))) true:=.step2 (λn=>XI n _) (.ask (Ev.sh (F:=λn=>EO n false (aR (.mk S ks))) (r:=((false,aR (.mk S ks)):Bool×T8)) (.step (λn=>UK n _ _) (.ask (.step (λn=>UM n _ _) (.ask (.step (λn=>X2 n _ _) (.ask (by rw[q];exact Jh h.1.1) (.neg rfl (.ret _)))) (by rw[l];exact C _ 0 false rfl))) (.ret _)))) (.ret _))
 have ho:out (cA 0 (.mk S ks))=jn (S,0)++out (bq 1 ks):=by rw[cA,out]
 have E:=yj (bq 1 ks) λp hp=>hg p (.tail _ hp)
 obtain⟨k,h2⟩:=B ks.length 0 true (bs []++jn (S,0)) rfl (by rw[List.drop_zero,bj];show 0+_+_<=_;omega)
 rw[List.drop_zero,show bs []++jn (S,0)=jn (S,0)from ByteArray.empty_append,<-ho]at h2
 have u:Ev (λn=>BH n false (aR (.mk S ks)) (bs [])) (k,out (cA 0 (.mk S ks)),aR (.mk S ks)):=by
  refine .step (λn=>XJ n _ _ _) (.ask (a:=(true,k,out (cA 0 (.mk S ks)))) (.step (λn=>XS n _ _ _) (.ask (a:=(true,jn (S,0))) (.step (λn=>eR8 n _ _ _) ?_) ?_)) (.ret _))
  .rw[K];have:=KC (S:=S) (d:=0) (f:=false) (b:=bs []) h (by decide) (by decide) (n1:=0) rfl;rw[show bs []++jn (S,0)=jn (S,0)from ByteArray.empty_append]at this;exact this
  .rw[l];exact h2
 have v:∀f(b:ByteArray),b.size<=9223372036854775807->Ev (λn=>BI n f b) (b,f,b):=λf b hb=>by
  by_cases h0:0<b.size
  .refine .step (λn=>Nz n _ _) (.pos (ax h0) (.head (by omega) (.c7 ?_)));rw[Int.toNat_natCast,ByteArray.extract_zero_size]
  .have h0:b.size=0:=by omega
   have:b=bs []:=ByteArray.ext (Array.ext' (List.eq_nil_of_length_eq_zero (by rw[bV];exact h0)));subst this;exact .step (λn=>Nz n _ _) (.neg (aH (by decide)) (.pos rfl (.ret _)))
 have o:(out (cA 0 (.mk S ks))).size<=9223372036854775807:=by rw[ho,bj];omega
 exact .step2 (λn=>eF8 n _) (.ask (Ev.sh (F:=λn=>BG n (aR (.mk S ks))) w) (.neg rfl (.ask (Ev.sh (F:=λn=>BH n false (aR (.mk S ks)) (bs [])) u) (.ask (Ev.sh (F:=λn=>BI n k (out (cA 0 (.mk S ks)))) (v k _ o)) (.ret _)))))
end Go.AI
end

section
namespace Go.AI
open Go
def Gw:NL->NL->Prop|_,[]=>True|acc,p::r=>place p.2 acc=true/\Gw (acc++[p]) r
theorem Vy:∀(m:Nat)(s:ByteArray)(acc l:NL),s.size<=m->m<=200000->acc.length<=2000->lU (Lib.split s.data.toList [10]) acc=.inr l->
 ∃l',l=acc++l'/\s=out l'/\(∀p∈l',nK p)/\Gw acc l'/\l.length<=2000/\l≠[]:=by
 intro m
 induction m using Nat.strongRecOn with
 |ind m ih=>
  intro s acc l hs hm ha h
  have e:([10]:List UInt8)≠[]:=by simp
  have hl:=bV s
  rcases Lib.index_spec s.data.toList [10]with⟨hi,_⟩|⟨i,hi,k,ho,_⟩
  .rw[uu hi]at h
   unfold lU at h
   split at h
   .rename_i h0;rw[decide_eq_true_iff]at h0;cases h;exact⟨[],(List.append_nil _).symm,ByteArray.ext (Array.ext' h0.1),(λ_ h=>by cases h),trivial,ha,h0.2⟩
   .cases h
  .have b:=(Lib.occAt_room ho).resolve_right e
   rw[hl]at b
   have b:i+1<=s.size:=b
   obtain⟨y,R,f⟩:=uv (s:=s.data.toList.drop (i+1)) e
   rw[uz e hi,show i+([10]:List UInt8).length=i+1 from rfl,f]at h
   have u:(bs (s.data.toList.drop (i+1))).size=s.size-(i+1):=by rw[ba,List.length_drop,hl]
   unfold lU at h
   cases hL:jm (s.data.toList.take i) acc with
   |none=>rw[hL]at h;cases h
   |some p=>
    rw[hL]at h
    generalize hx:s.data.toList.take i=x at hL
    have n:x.length<=200000:=by rw[<-hx,List.length_take];omega
    have o:=ED x
    unfold jm at hL
    split at hL
    .rename_i S h1 h2
     rw[aX,aX,decide_eq_true_iff,decide_eq_true_iff]at h2
     cases hL
     obtain⟨g,_,_⟩:=EC (w:=fO x) (by omega)
     obtain⟨v,g2⟩:=g S h1
     have hg:nK (S,aZ x/2):=⟨⟨v,by show aZ x/2<=40000;omega⟩,fO x,by omega,g2⟩
     have hw:tX S=fO x:=Ev.xa (EE hg.2).2 g2
     obtain⟨l',F,E,D,C,B,z⟩:=ih (s.size-(i+1)) (by omega) (bs (s.data.toList.drop (i+1))) (acc++[(S,aZ x/2)]) l (by omega) (by omega) (by rw[List.length_append,List.length_singleton];omega) (by rw[show(bs (s.data.toList.drop (i+1))).data.toList=s.data.toList.drop (i+1)from rfl,f];exact h)
     refine⟨(S,aZ x/2)::l',by rw[F,List.append_assoc];rfl,?_,λq j=>?_,⟨h2.2.1,C⟩,B,z⟩
     .rw[out,<-E]
      have t:jn (S,aZ x/2)=bs x++bs [10]:=by unfold jn;rw[hw,LZ x];unfold bu;rw[show 2*(aZ x/2)=aZ x by omega]
      rw[t,<-me,<-me];refine ByteArray.ext (Array.ext' ?_);show s.data.toList=x++[10]++s.data.toList.drop (i+1);have c:=Lib.occAt_iff_take s.data.toList [10] i (by rw[hl];exact b);rw[ho]at c;have c:(s.data.toList.drop i).take 1=[10]:=eq_of_beq c.symm;rw[<-hx,List.append_assoc,<-c,show s.data.toList.drop (i+1)=(s.data.toList.drop i).drop 1 by rw[List.drop_drop],List.take_append_drop,List.take_append_drop]
     .rcases List.mem_cons.1 j with rfl|j
      .exact hg
      .exact D q j
    .cases hL
theorem KD:∀(l acc:NL)(q:ST×Nat),acc.getLast?=some q->Gw acc l->pI (q::l)/\∀p∈l,1<=p.2
 |[],_,_,_,_=>⟨trivial,λ_ h=>by cases h⟩
 |p::l,acc,q,b,h=>by
  obtain⟨h1,h2⟩:=h
  obtain⟨e,c⟩:=KD l (acc++[p]) p List.getLast?_concat h2
  unfold place at h1
  rw[b]at h1
  have h1:1<=p.2/\p.2<=q.2+1:=dP h1
  refine⟨⟨h1.2,e⟩,λr hr=>?_⟩
  rcases List.mem_cons.1 hr with rfl|hr
  .exact h1.1
  .exact c r hr
def zS:ST:=(0,0,bs [],[],[],[])
theorem Xw:GS zS:=⟨by decide,by decide,by decide,⟨[],rfl,by decide,(λ_ h=>by cases h)⟩,⟨[],rfl,by decide,(λ_ h=>by cases h)⟩,⟨[],rfl,by decide,(λ_ h=>by cases h)⟩⟩
theorem Rr(s:ByteArray):Ev (λn=>F3 n s) true:=by
 by_cases hs:s.size<=200000
 .have f:decide ((s.size:Int)>200000)=false:=aH (by omega)
  have c:decide ((s.size:Int)>1048576)=false:=aH (by omega)
  have hl:=bV s
  have hP:=Xt s.size s [] (0,0,bs []) [] [] [] [] (ak _) hs (by decide) (λ_ h=>by cases h)
  have g:([10]:List UInt8)≠[]:=by simp
  have F:=uA s.data.toList [10]
  have hR:=Xv hs (R0:=Lib.split s.data.toList [10]) (by omega) (λx hx=>by have:=xD g _ _ (ak _) x hx;omega) _ 0 [] (0,0,bs []) [] [] [] [] rfl rfl (by obtain⟨x,l,e⟩:=uv (s:=s.data.toList) g;rw[e];exact Nat.succ_pos _) (λ_ h=>by cases h)
  rw[List.drop_zero]at hR
  have w:∀{v},Ev (λn=>tx n s ((([]:NL).length:Nat):Int) (0,0,bs []) (ij []) (gL []) [] [] [] []) v->Ev (λn=>F5 n s) v:=λh=>.step (λn=>eF5 n _) (.neg c h)
  have u:∀{v},Ev (λn=>mH n s ((Lib.split s.data.toList [10]).map rS) (-1) ((0:Nat):Int) (0,0,bs []) (cY []) [] [] [] []) v->Ev (λn=>F6 n s) v:=λh=>.step (λn=>eF6 n _) (.ask (Aw (by omega) (by decide) (by decide)) h)
  cases k:lU (Lib.split s.data.toList [10]) []with
  |inl e=>
   rw[k]at hP hR
   have o:=w hP
   have m:=u hR
   have hz:∀d,cA d (.mk zS [])=[(zS,d)]:=λd=>by rw[cA,bq]
   have i:=OE 1 (.mk zS []) 0 (by rw[hz];exact ak _) (by decide) λp hp=>by rw[hz]at hp;rw[List.mem_singleton.1 hp];exact Xw
   rw[aR,rws]at i;refine .step (λn=>Gg n _) (.neg f (.ask o (.ask m (.neg (by simp) (.neg (by simp) (.ask (a:=true) i (.neg rfl (.pos rfl (.pos rfl (.ret _))))))))))
  |inr l=>
   rw[k]at hP hR
   obtain⟨l',C,K,B,J,I,G⟩:=Vy s.size s [] l (ak _) hs (by decide) k
   rw[List.nil_append]at C
   subst C
   cases l with
   |nil=>exact absurd rfl G
   |cons p r=>
    obtain⟨S,d⟩:=p
    obtain⟨p1,p2⟩:=J
    have hd:d=0:=dP p1
    subst hd
    obtain⟨M,L⟩:=KD r [(S,0)] (S,0) rfl p2
    rw[aN]at I
    obtain⟨ks,t,t1,t2,E,D⟩:=Rq r.length r S 0 (ak _) (by omega) M
    have j:t=[]:=by cases t with|nil=>rfl|cons q N=>have h1:=t2 q rfl;have h2:=L q (by rw[t1];exact List.mem_append_right _ (.head _));omega
    subst j
    rw[List.append_nil]at t1
    have b:cA 0 (.mk S ks)=(S,0)::r:=by rw[cA,<-t1]
    have o:=w (hP _ E)
    have m:=u (hR _ D)
    have i:=OE 3000 (.mk S ks) 0 (by rw[b,aN];omega) (ak _) λp hp=>by rw[b]at hp;exact(B p hp).1.1
    have z:=Vx (.mk S ks) (by rw[b,aN];omega) (by rw[b];exact B);rw[b,<-K]at z;exact .step (λn=>Gg n _) (.neg f (.ask o (.ask m (.neg (by simp) (.neg (by simp) (.ask (a:=true) i (.neg rfl (.neg rfl (.ask (a:=s) z (.pos (gQ.2 rfl) (.pos rfl (.ret _))))))))))))
 .exact .step (λn=>Gg n _) (.pos (ax (by omega)) (.pos rfl (.ret _)))
end Go.AI
end
