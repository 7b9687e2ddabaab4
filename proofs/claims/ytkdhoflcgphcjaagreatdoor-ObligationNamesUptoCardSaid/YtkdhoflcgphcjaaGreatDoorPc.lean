/- A part of the proof. -/
import Derived.Test.YtkdhoflcgphcjaaGreatDoorPb
set_option linter.all false

namespace Go.AI
open Go
theorem Fe{t:b6}{l:List KT}(ha:eG t=true)(hk:l.length=t.2.2.2.2.2.2.length)(w:t.1≠20)(u:t.1≠29)(hb:fk t.1=true->∃a y,l=[some (.set a),y]):∃o,cM t.1 l o:=by
 unfold eG at ha
 simp only[aZ,decide_eq_true_eq]at ha
 obtain⟨h1,h2⟩:=ha
 rw[<-hk]at h2
 generalize t.1=op at*
 have i:l.length=2->∃x y,l=[x,y]:=λh=>by match l,h with|[x,y],_=>grind
 have one:l.length=1->∃x,l=[x]:=λh=>by match l,h with|[x],_=>grind
 have nil:l.length=0->l=[]:=λh=>List.length_eq_zero_iff.1 h
 unfold eO at h1 h2
 by_cases hA:eb op
 .rw[if_pos hA]at h2
  have h2:l.length=0:=by simpa using h2
  obtain rfl:=nil h2
  unfold eb at hA
  rcases(by omega:(1<=op/\op<=2)\/op=19)with⟨a,b⟩|rfl
  .exact⟨_,.tf a b⟩
  .exact⟨_,.num⟩
 rw[if_neg hA]at h1 h2
 by_cases hB:e9 op
 .rw[if_pos hB]at h2
  have h2:l.length=1:=by simp at h2;omega
  obtain⟨x,rfl⟩:=one h2
  unfold e9 at hB
  rcases(by omega:op=3\/op=21\/op=46\/op=47\/(48<=op/\op<=49)\/op=50\/op=51\/op=52)with rfl|rfl|rfl|rfl|⟨a,b⟩|rfl|rfl|rfl
  .exact⟨_,.nt x⟩
  .exact⟨_,.neg x⟩
  .exact⟨_,.pow x⟩
  .exact⟨_,.card x⟩
  .exact⟨_,.mn x a b⟩
  .exact⟨_,.Hf x⟩
  .exact⟨_,.Hg x⟩
  .exact⟨_,.inv x⟩
 rw[if_neg hB]at h1 h2
 by_cases hC:op=28
 .subst hC;rw[if_pos rfl]at h2;cases l with|nil=>simp at h2|cons x l=>exact⟨_,.set x l⟩
 rw[if_neg hC]at h1 h2
 by_cases j:4<=op/\op<=56
 .rw[if_pos j]at h2
  have h2:l.length=2:=by simp at h2;omega
  unfold eb at hA
  unfold e9 at hB
  by_cases hE:fk op=true
  .obtain⟨a,y,rfl⟩:=hb hE
   unfold fk at hE
   have hE:=cW hE
   rcases(by omega:(8<=op/\op<=9)\/op=55\/op=56)with⟨c,d⟩|rfl|rfl
   .exact⟨_,.qu a y c d⟩
   .exact⟨_,.Fc a y⟩
   .exact⟨_,.lam a y⟩
  .obtain⟨x,y,rfl⟩:=i h2
   have hE:¬(op=8\/op=9\/op=55\/op=56):=λq=>hE (b9 q)
   rcases(by omega:(4<=op/\op<=7)\/(10<=op/\op<=11)\/(12<=op/\op<=15)\/(16<=op/\op<=17)\/op=18\/(22<=op/\op<=26)\/op=27\/op=30\/(31<=op/\op<=33)\/op=34\/op=35\/op=36\/(37<=op/\op<=38)\/(39<=op/\op<=40)\/(41<=op/\op<=45)\/op=53\/op=54)with⟨a,b⟩|⟨a,b⟩|⟨a,b⟩|⟨a,b⟩|rfl|⟨a,b⟩|rfl|rfl|⟨a,b⟩|rfl|rfl|rfl|⟨a,b⟩|⟨a,b⟩|⟨a,b⟩|rfl|rfl
   .exact⟨_,.log x y a b⟩
   .exact⟨_,.eq x y a b⟩
   .exact⟨_,.ord x y a b⟩
   .exact⟨_,.mem x y a b⟩
   .exact⟨_,.sub x y⟩
   .exact⟨_,.ar x y a b⟩
   .exact⟨_,.pair x y⟩
   .exact⟨_,.range x y⟩
   .exact⟨_,.un x y a b⟩
   .exact⟨_,.prod x y⟩
   .exact⟨_,.over x y⟩
   .exact⟨_,.comp x y⟩
   .exact⟨_,.GM x y a b⟩
   .exact⟨_,.GN x y a b⟩
   .exact⟨_,.fn x y a b⟩
   .exact⟨_,.Hh x y⟩
   .exact⟨_,.app x y⟩
 grind
theorem fD{p:Prop}{r t:KT}(h:ft p r=some t)(hr:bd (aS r)):bd (aS t):=by simp_all[ft]
theorem aaR:bd (aS (some .int)):=OS
theorem tJ{op:Int}{l:List KT}{o:Option KT}(h:cM op l o)(hl:∀x,x∈l->bd (aS x)){t:KT}(ht:o=some t):bd (aS t):=by
 have q:=aaR
 have i:=aaF
 have j:bd (aS (some (.set .int))):=iX OS
 have c:∀{x:KT}{l},(∀y,y∈x::l->bd (aS y))->bd (aS x):=λh=>h _ (List.mem_cons_self ..)
 have e1:∀{x y:KT}{l},(∀z,z∈x::y::l->bd (aS z))->bd (aS y):=λh=>h _ (List.mem_cons_of_mem _ (List.mem_cons_self ..))
 cases h
 case tf=>grind
 case num=>grind
 case nt=>exact fD ht i
 case log=>exact fD ht i
 case qu=>exact fD ht i
 case eq=>exact fD ht i
 case ord=>exact fD ht i
 case mem=>unfold uu at ht;split at ht;exact fD ht i;cases ht
 case sub=>unfold l6 at ht;split at ht;exact fD ht i;cases ht
 case neg=>exact fD ht q
 case ar=>exact fD ht q
 case pair=>unfold Au at ht;split at ht;cases ht;exact tH (c hl) (e1 hl);cases ht
 case set=>unfold GJ at ht;split at ht;exact fD ht (iX (c hl));cases ht
 case range=>exact fD ht j
 case un=>unfold l6 at ht;split at ht;exact fD ht (c hl);cases ht
 case prod=>unfold rC at ht;split at ht;cases ht;exact iX (tH (ib (c hl)) (ib (e1 hl)));cases ht
 case over=>unfold tI at ht;split at ht;exact fD ht (c hl);cases ht
 case comp=>unfold l7 at ht;split at ht;exact fD ht (iX (tH (lY (ib (c hl))).1 (lY (ib (e1 hl))).2));cases ht
 case GM=>unfold nC at ht;split at ht;exact fD ht (e1 hl);cases ht
 case GN=>unfold nD at ht;split at ht;exact fD ht (c hl);cases ht
 case fn=>unfold qf at ht;split at ht;cases ht;exact iX (iX (tH (ib (c hl)) (ib (e1 hl))));cases ht
 case pow=>unfold wU at ht;split at ht;cases ht;exact iX (c hl);cases ht
 case card=>unfold wh at ht;grind
 case mn=>grind[rX]
 case Hf=>unfold tV at ht;split at ht;cases ht;exact iX (lY (ib (c hl))).1;cases ht
 case Hg=>unfold tW at ht;split at ht;cases ht;exact iX (lY (ib (c hl))).2;cases ht
 case inv=>unfold tX at ht;split at ht;cases ht;exact iX (tH (lY (ib (c hl))).2 (lY (ib (c hl))).1);cases ht
 case Hh=>unfold px at ht;split at ht;exact fD ht (iX (lY (ib (c hl))).2);cases ht
 case app=>unfold tY at ht;split at ht;exact fD ht (lY (ib (c hl))).2;cases ht
 case Fc=>exact fD ht (c hl)
 case lam=>unfold GK at ht;split at ht;cases ht;exact iX (tH (ib (c hl)) (e1 hl));cases ht
abbrev Cd:=Int×ByteArray×Rows×Int×Rows×Rows×Rows
abbrev iz:=Int×ByteArray×Rows×Rows×Int
abbrev qh(m:Rows×Rows)(p:Rows)(o:Option KT)(r:Cd):Prop:=match o with|some t=>r=aC (aS t) (0,m.1,m.2,p)|none=>r.2.2.2.1≠0/\r.2.2.2.2.2.2.length<=1000
abbrev nW(d:Nat)(o:Option KT)(r:iz):Prop:=match o with|some t=>r=aC (aS t) ([],0)|none=>r.2.2.2.2≠0/\r.2.2.2.1.length<=d/\r.2.2.1=[]
def j5(o:Option KT):Option KT:=match o with|some t=>if dj (aS t)=true then some t else none|none=>none
theorem EB(x:cd)(h:bd x):T (λn=>tR n x) λr=>(dj x=true->r=aC x 0)/\(dj x=false->r.2.2.2≠0):=by
 refine .step Z6 (.ask (tq x h) λy hy=>.ite (λc=>.ret ⟨λe=>?_,λ_=>by grind⟩) λc=>.ret ⟨λ_=>rfl,λe=>?_⟩)
 .simp_all[gN,dj]
 simp_all[cF,dj]
section
variable {op:Int}{l:List KT}{o:Option KT}(h:cM op l o)(hl:l.length<=9999)(hb:∀x,x∈l->bd (aS x))(m:Rows×Rows)(p:Rows)(hp:p.length<=1000)
include h hl hb hp
theorem aaS(a5:Int×ByteArray)(a8:Rows):∀r:KB,rQ o r->T (λn=>bL n r.2.2.2 m a5 (ae r) p a8) (qh m p (j5 o)):=by intro r hr;refine .step R8 ?_;cases o with|none=>exact .pos (by grind) (.ret ⟨by grind,hp⟩)|some t=>have hr:r=aC (aS t) true:=hr;subst hr;refine .neg rfl (.ask (EB (aS t) (tJ h hb rfl)) λx hx=>.ret ?_);unfold j5;simp only;cases e:dj (aS t)with|true=>rw[hx.1 e];rfl|false=>exact⟨hx.2 e,hp⟩
theorem aaT(c:Int×ByteArray)(a8:Rows):∀r:KB,rQ o r->T (λn=>bM n r.2.2.2 m p c (ae r) a8) (qh m p (j5 o)):=by intro r hr;refine .step Ug ?_;cases o with|none=>exact .pos (by grind) (.ret ⟨by grind,hp⟩)|some t=>have hr:r=aC (aS t) true:=hr;subst hr;refine .neg rfl (.ask (EB (aS t) (tJ h hb rfl)) λx hx=>.ret ?_);unfold j5;simp only;cases e:dj (aS t)with|true=>rw[hx.1 e];rfl|false=>exact⟨hx.2 e,hp⟩
end
theorem GR{t:b6}{l:List KT}{o:Option KT}(h:T (λn=>lA n t (KL l)) (rQ o))(hb:∀u,o=some u->bd (aS u))(j e4 e5 a7)(i:Int)(e:Rows×Rows)(hi:¬i<(t.2.2.2.2.2.2.length:Int))(d:Nat):T (λn=>fC n j i e t e4 e5 (KL l) a7 []) (nW d (j5 o)):=by
 refine .step qV (.neg (fy hi) (.ask h λx hx=>?_))
 cases o with
 |none=>exact .pos (by grind) (.ret ⟨by show(7:Int)≠0;omega,Nat.zero_le _,rfl⟩)
 |some u=>
  have hx:x=aC (aS u) true:=hx
  subst hx
  refine .neg rfl (.ask (Ew (aS u) (hb u rfl)) λy hy=>?_)
  unfold j5
  simp only
  refine .ite (λc=>.ret ?_) λc=>.ret ?_
  .rw[if_neg (by grind)];exact⟨by show(5:Int)≠0;omega,Nat.zero_le _,rfl⟩
  .rw[if_pos (by grind)];rfl
abbrev su(o:Option Ty)(r:KB):Prop:=match o with|some a=>r=aC (enc a) true|none=>r.2.2.2=false
abbrev mQ(m:Rows)(s:ByteArray)(o:Option Ty):Prop:=match o with|some a=>∃r,dy m s=some r/\ah (r.drop 1) 0=enc a|none=>dy m s=none
structure Bw(e m:Rows×Rows):Prop where nm:∀s,bd s->∃o:Option Ty,mQ m.1 s o/\(∀b:Rows,T (λn=>kP n b s (-1) e (0,bs []) []) (su o))/\∀a,o=some a->bd (enc a)kn:∀a,bd (enc a)->dj (enc a)=true->∃b:Bool,(∀p,T (λn=>wH n (enc a) m p) (.=(b,m.1,m.2,p)))/\T (λn=>rR n e (enc a)) (.=b)
abbrev Sc:=List (ByteArray×Ty)
def bF(B:Sc):Rows:=B.map λx=>kJ (x.1,enc x.2)
def jz:Sc->ByteArray->Option Ty|[],_=>none|x::l,s=>if ax x.1 s=true then some x.2 else jz l s
theorem X3(s:ByteArray):∀B:Sc,T (λn=>Bi n (bF B) s) (su (jz B s)):=by
 intro B
 refine .step Zd ?_
 induction B with
 |nil=>exact .step Lr (.emp (λ_=>.ret rfl) λh=>absurd rfl h)
 |cons x B ih=>
  refine .step Lr (.emp (λh=>by cases h) λh=>.mV h λr l e=>?_)
  cases e
  unfold jz
  refine .ite (λc=>.mV h λr l e=>?_) λc=>.mV h λr l e=>?_
  .cases e;have c:ax x.1 s=true:=c;rw[if_pos c];exact .ret rfl
  .cases e;rw[if_neg (by intro q;have c:ax x.1 s=false:=c;grind)];exact ih
theorem X4{e:Rows×Rows}(s:ByteArray)(B:Sc)(hB:B.length<=1000){o:Option Ty}(he:∀b:Rows,T (λn=>kP n b s (-1) e (0,bs []) []) (su o)):T (λn=>kP n (bF B).reverse s ((B.length:Int)-1) e (0,bs []) []) (su ((jz B s).or o)):=by
 have key:∀(i pre:Sc),B=pre++i->T (λn=>kP n (bF B).reverse s ((i.length:Int)-1) e (0,bs []) []) (su ((jz i s).or o)):=by
  intro i
  induction i with
  |nil=>intro pre _;simpa[jz]using he (bF B).reverse
  |cons x i ih=>
   intro pre e1
   have j:(bF B).reverse[i.length]?=some (kJ (x.1,enc x.2)):=by simp_all[List.map_append,List.reverse_append,List.map_cons,List.reverse_cons,List.append_assoc,List.getElem?_append_right,bF]
   have hlen:i.length+1<=B.length:=by grind
   have q:((bF B).reverse).length=B.length:=by unfold bF;simp
   have hi:(((x::i).length:Int)-1)=(i.length:Int):=by simp
   rw[hi]
   refine .step Lx (.pos (b9 (by omega)) (.gx (by simpa using j) ?_ (by omega)))
   unfold jz
   refine .ite (λc=>?_) λc=>?_
   .have c:ax x.1 s=true:=c;rw[if_pos c];exact .gx (x:=kJ (x.1,enc x.2)) (by grind) (.ret (show su (some x.2) _ from rfl)) (by omega)
   .have c:ax x.1 s=false:=c;rw[if_neg (by rw[c];simp),bA (by omega) (by omega)];exact ih (pre++[x]) (by grind)
 exact key B [] rfl
inductive gT:b6->Prop|mk{t:b6}:CT t.2.2.2.2.2.1->(∀r,r∈t.2.2.2.2.2.2->gT (bt r 0))->gT t
theorem Jq{σ:Type}{g:σ->List AV->Option σ}:∀{l:Rows}{s s':σ},l.foldlM g s=some s'->∀r,r∈l->∃a b,g a r=some b
 |[],_,_,_,r,hr=>by cases hr
 |x::l,s,s',h,r,hr=>by
  rw[List.foldlM_cons]at h
  cases e:g s x with
  |none=>grind
  |some c=>
   rw[e]at h
   rcases List.mem_cons.1 hr with rfl|hr
   .grind
   .exact Jq h r hr
theorem sM{f:Nat}{t:b6}{n k:Nat}(h:dk (f+1) t n=some k):eS t=true/\∀r,r∈t.2.2.2.2.2.2->∃a b,dk f (bt r 0) a=some b:=by grind[Jq,dk]
theorem IA{t:b6}(h:eS t=true):eG t=true/\kj t=true:=by simp_all[aZ,eS]
theorem MM{t:b6}{k:Nat}{r:List AV}(hr:t.2.2.2.2.2.2[k]?=some r){sc:Rows}{m:Rows×Rows}{p q:Rows}(hp:p.length<=998)(hq:q=p++[[.sc (.int .i64 (k:Int))]]){o:Option KT}(h:T (λn=>zq n (bt r 0) sc m q) (qh m q o)):
 T (λn=>wG n t (k:Int) sc m p) (qh m p o):=by
 have hl:(q.length:Int)-1=(p.length:Int):=by grind
 have c:q.take p.length=p:=by grind
 refine .step Zy (.fits (by simp;omega) (.gx (by simpa using hr) ?_ (by omega)))
 rw[<-hq]
 refine .ask h λx hx=>?_
 obtain⟨D,C,z,x4,w,j,i⟩:=x
 cases o with
 |none=>exact .neg (by grind) (.ret hx)
 |some u=>
  have hx:(D,C,z,x4,w,j,i)=aC (aS u) (0,m.1,m.2,q):=hx
  simp only[aC,aV]at hx
  obtain⟨rfl,rfl,rfl,rfl,rfl,rfl,rfl⟩:=hx
  refine .pos rfl (.pos (b9 ?_) (.ret ?_))
  .grind[bA]
  .simp only[PE];rw[hl,bA (by omega) (by omega),Int.toNat_natCast,c];rfl
section
variable {e m:Rows×Rows}(hE:Bw e m)(f:Nat)(t:b6)(hn:eS t=true)(hc:CT t.2.2.2.2.2.1)(ht:bd t)(p:Rows)(hp:p.length<=990)
abbrev Ce(e m:Rows×Rows)(f:Nat)(t:b6)(p:Rows)(k:Nat)(B:Sc):Prop:=∀r,t.2.2.2.2.2.2[k]?=some r->∃o:Option KT,(∀u,o=some u->bd (aS u))/\T (λn=>wG n t (k:Int) (bF B) m p) (qh m p o)/\T (λn=>lX n e (bF B).reverse (bt r 0)) (nW f o)
theorem DZ(l:List KT)(x:KT):KL l++[aR (aS x)]=KL (l++[x]):=by unfold KL;simp
theorem acb{k:Nat}(hf:f<=100){r:List AV}{B c:Sc}(hr:t.2.2.2.2.2.2[k]?=some r){u v:Int×ByteArray}{w x:Rows}(h:T (λn=>lX n e (bF c).reverse (bt r 0)) (nW f none)):T (λn=>sW n (bF B).reverse (k:Int) e t u v w (bF c).reverse x []) (nW (f+1) none):=by refine .step Kk (.gx (by grind) (.ask h λz hz=>.pos (by grind) (.fits (by grind) (.ret ⟨hz.1,?_,rfl⟩))) (by omega));have:=hz.2.1;show([[.sc (.int .i64 (k:Int))]]++z.2.2.2.1:Rows).length<=_;simp;omega
theorem Ff{k:Nat}(hf:f<=100){r:List AV}{B:Sc}(hr:t.2.2.2.2.2.2[k]?=some r){c:Rows}{u v:Int×ByteArray}{w x:Rows}(h:T (λn=>lX n e (bF B).reverse (bt r 0)) (nW f none)):T (λn=>sH n c (k:Int) (bF B).reverse e t u v w x []) (nW (f+1) none):=by refine .step Iz (.gx (by grind) (.ask h λz hz=>.pos (by grind) (.fits (by grind) (.ret ⟨hz.1,?_,rfl⟩))) (by omega));have:=hz.2.1;show([[.sc (.int .i64 (k:Int))]]++z.2.2.2.1:Rows).length<=_;simp;omega
theorem aaU{k:Nat}(hk:k<=100000){r:List AV}{B o:Sc}(hr:t.2.2.2.2.2.2[k]?=some r){i c:Int×ByteArray}{K:List KT}(w:K.length=k){a8 j:Rows}{u:KT}{Q:iz->Prop}(h:T (λn=>lX n e (bF o).reverse (bt r 0)) (nW f (some u)))
 (hn:T (λn=>fC n (bF B).reverse ((k+1:Nat):Int) e t i c (KL (K++[u])) a8 j) Q):T (λn=>sW n (bF B).reverse (k:Int) e t i c (KL K) (bF o).reverse a8 j) Q:=by
 have q:(KL K).length=k:=by unfold KL;simpa using w
 refine .step Kk (.gx (by grind) (.ask h λz hz=>?_) (by omega));have hz:z=aC (aS u) ([],0):=hz;subst hz;refine .neg rfl (.fits (by grind) ?_);rw[kv k (by omega)];have:KL K++[aR (ae (aC (aS u) (([]:Rows),(0:Int))))]=KL (K++[u]):=DZ K u;grind
theorem zF{k:Nat}(hk:k<=100000){r:List AV}{B o:Sc}(hr:t.2.2.2.2.2.2[k]?=some r){i c:Int×ByteArray}{K:List KT}(w:K.length=k){a8 j:Rows}{u:KT}{Q:iz->Prop}(h:T (λn=>lX n e (bF o).reverse (bt r 0)) (nW f (some u)))
 (hn:T (λn=>fC n (bF B).reverse ((k+1:Nat):Int) e t i c (KL (K++[u])) a8 j) Q):T (λn=>sH n (bF B).reverse (k:Int) (bF o).reverse e t i c (KL K) a8 j) Q:=by
 have q:(KL K).length=k:=by unfold KL;simpa using w
 refine .step Iz (.gx (by grind) (.ask h λz hz=>?_) (by omega));have hz:z=aC (aS u) ([],0):=hz;subst hz;refine .neg rfl (.fits (by grind) ?_);rw[kv k (by omega)];have:KL K++[aR (ae (aC (aS u) (([]:Rows),(0:Int))))]=KL (K++[u]):=DZ K u;grind
end
abbrev Bo(m:Rows×Rows)(p:Rows)(f:Nat)(F:Nat->Option Cd)(G:Nat->Option iz):Prop:=∃o:Option KT,(∀u,o=some u->bd (aS u))/\T F (qh m p o)/\T G (nW f o)
theorem EC{o:Option KT}(h:∀u,o=some u->bd (aS u)):∀u,j5 o=some u->bd (aS u):=λu hu=>by unfold j5 at hu;grind
section
variable {e m:Rows×Rows}(f:Nat)(t:b6)(ht:bd t)(p:Rows)(hp:p.length<=990)(hf:f<=100)(a5:Int×ByteArray)(a8:Rows)(e4 e5:Int×ByteArray)(a7:Rows)(B:Sc)
include ht hp hf
theorem OW{l:List KT}{o:Option KT}(h:cM t.1 l o)(hk:l.length=t.2.2.2.2.2.2.length)(hl:l.length<=9999)(hb:∀x,x∈l->bd (aS x))(i:t.1≠20)(c:t.1≠29)(j:Sc):Bo m p (f+1) (λn=>uO n (bF j) (t.2.2.2.2.2.2.length:Int) (l.length:Int) m t a5 (KL l) p a8) (λn=>fC n (bF B).reverse (l.length:Int) e t e4 e5 (KL l) a7 []):=by refine⟨j5 o,EC λu hu=>tJ h hb hu,?_,GR (t:=t) (NH t.2 h hl) (λu hu=>tJ h hb hu) _ _ _ _ _ _ (by omega) _⟩;exact .step uG (.neg (fy (by omega)) (.neg (by grind) (.neg (by grind) (OV (λn b x=>bL n b m a5 x p a8) h hl (aaS h hl hb m p (by omega) a5 a8)))))
theorem NI(ha:eG t=true)(C:t.1≠20)(z:t.1≠29)(q:fk t.1=false)(hlen:t.2.2.2.2.2.2.length<=9999)(j:∀k,Ce e m f t p k B):∀(d:Nat)(l:List KT),l.length+d=t.2.2.2.2.2.2.length->(∀x,x∈l->bd (aS x))->
 Bo m p (f+1) (λn=>uO n (bF B) (t.2.2.2.2.2.2.length:Int) (l.length:Int) m t a5 (KL l) p a8) (λn=>fC n (bF B).reverse (l.length:Int) e t e4 e5 (KL l) a7 [])
 |0,l,hd,hb=>by obtain⟨o,h⟩:=Fe (l:=l) ha (by omega) C z (λc=>by grind);exact OW f t ht p hp hf a5 a8 e4 e5 a7 B h (by omega) (by omega) hb C z B
 |d+1,l,hd,hb=>by
  have w:l.length<t.2.2.2.2.2.2.length:=by omega
  obtain⟨o,ho,h1,h2⟩:=j l.length _ (List.getElem?_eq_getElem w)
  have F:(KL l).length=l.length:=by unfold KL;simp
  have i:∀{x y:Nat->Option iz}{Q:iz->Prop},T y Q->T (λn=>Go.AI.ask (pf n t.1) λE=>aa E (x n) (y n)) Q:=λh=>.ask (tp _) λb hb=>.neg (hb.trans q) h
  cases o with
  |none=>
   refine⟨none,λu hu=>(by cases hu),?_,?_⟩
   .exact .step uG (.pos (b9 (by omega)) (.ask h1 λx hx=>.pos (by grind) (.ret hx)))
   .exact .step qV (.pos (b9 (by omega)) (i (Ff f t hf (List.getElem?_eq_getElem w) h2)))
  |some u=>
   obtain⟨o',D,g1,g2⟩:=NI ha C z q hlen j d (l++[u]) (by simp;omega) (λx hx=>by grind)
   have e1:(((l++[u]).length:Nat):Int)=((l.length+1:Nat):Int):=by simp
   rw[e1]at g1 g2
   refine⟨o',D,?_,?_⟩
   .refine .step uG (.pos (b9 (by omega)) (.ask h1 λx hx=>?_))
    have hx:x=aC (aS u) (0,m.1,m.2,p):=hx
    subst hx
    have next:T (λn=>mN n (bF B) (t.2.2.2.2.2.2.length:Int) (l.length:Int) (m.1,m.2) t a5 (KL l++[aR (ae (aC (aS u) ((0:Int),m.1,m.2,p)))]) p a8) (qh m p o'):=by refine .step yk ?_;have:KL l++[aR (ae (aC (aS u) ((0:Int),m.1,m.2,p)))]=KL (l++[u]):=DZ l u;rw[this,kv l.length (by omega)];exact g1
    exact .neg rfl (.fits (by grind) (.ite (λ_=>.ask (Eu _) λb hb=>.neg (hb.trans q) next) λ_=>next))
   .exact .step qV (.pos (b9 (by omega)) (i (zF f t (by omega) (List.getElem?_eq_getElem w) rfl h2 g2)))
theorem X5(ha:eG t=true)(C:t.1≠20)(z:t.1≠29)(q:fk t.1=false)(hlen:t.2.2.2.2.2.2.length<=9999)(j:∀k,Ce e m f t p k B):
 Bo m p (f+1) (λn=>oP n (bF B) (t.2.2.2.2.2.2.length:Int) 0 m p t a5 [] a8) (λn=>fC n (bF B).reverse 0 e t e4 e5 [] a7 []):=by
 by_cases h0:t.2.2.2.2.2.2.length=0
 .obtain⟨o,h⟩:=Fe (l:=[]) ha (by simp[h0]) C z (λc=>by grind)
  have hb:∀x:KT,x∈([]:List KT)->bd (aS x):=λx hx=>by cases hx
  refine⟨j5 o,EC λu hu=>tJ h hb hu,?_,GR (t:=t) (NH t.2 h (by simp)) (λu hu=>tJ h hb hu) _ _ _ _ _ _ (by omega) _⟩;exact .step qS (.neg (fy (by omega)) (.neg (by grind) (.neg (by grind) (OV (λn b x=>bM n b m p a5 x a8) h (by simp) (aaT h (by simp) hb m p (by omega) a5 a8)))))
 .have w:0<t.2.2.2.2.2.2.length:=by omega
  obtain⟨o,ho,h1,h2⟩:=j 0 _ (List.getElem?_eq_getElem w)
  have i:∀{x y:Nat->Option iz}{Q:iz->Prop},T y Q->T (λn=>Go.AI.ask (pf n t.1) λE=>aa E (x n) (y n)) Q:=λh=>.ask (tp _) λb hb=>.neg (hb.trans q) h
  cases o with
  |none=>
   refine⟨none,λu hu=>(by cases hu),?_,?_⟩
   .exact .step qS (.pos (b9 (by omega)) (.ask h1 λx hx=>.pos (by grind) (.ret hx)))
   .exact .step qV (.pos (b9 (by omega)) (i (Ff (k:=0) f t hf (List.getElem?_eq_getElem w) h2)))
  |some u=>
   obtain⟨o',D,g1,g2⟩:=NI f t ht p hp hf a5 a8 e4 e5 a7 B ha C z q hlen j (t.2.2.2.2.2.2.length-1) [u] (by simp;omega) (λx hx=>by grind)
   refine⟨o',D,?_,?_⟩
   .refine .step qS (.pos (b9 (by omega)) (.ask h1 λx hx=>?_));have hx:x=aC (aS u) (0,m.1,m.2,p):=hx;subst hx;refine .neg rfl (.fits (by simp) (.pos rfl (.ask (Eu _) λb hb=>.neg (hb.trans q) (.step yk ?_))));rw[bA (by omega) (by omega)];exact g1
   .exact .step qV (.pos (b9 (by omega)) (i (zF (k:=0) (K:=[]) f t (by omega) (List.getElem?_eq_getElem w) rfl h2 g2)))
theorem X6(ha:eG t=true)(q:fk t.1=true)(hBl:B.length<=1000)(i:∀k M,(M=B\/∃a,bd (enc a)/\M=(t.2.1,a)::B)->Ce e m f t p k M):
 Bo m p (f+1) (λn=>oP n (bF B) (t.2.2.2.2.2.2.length:Int) 0 m p t a5 [] a8) (λn=>fC n (bF B).reverse 0 e t e4 e5 [] a7 []):=by
 have I:t.1=8\/t.1=9\/t.1=55\/t.1=56:=cW q
 have D:t.1≠20:=by omega
 have C:t.1≠29:=by omega
 have hlen:t.2.2.2.2.2.2.length=2:=by
  unfold eG at ha
  simp only[aZ]at ha
  have hk:eO t.1=2:=by rcases I with e|e|e|e<;>rw[e]<;>rfl
  have:=ha.2;rw[hk,if_neg (by omega)]at this;have:=cW this;omega
 have hbl:(bF B).length=B.length:=by unfold bF;simp
 have w:∀{x y:Nat->Option iz}{Q:iz->Prop},T x Q->T (λn=>Go.AI.ask (pf n t.1) λP=>aa P (x n) (y n)) Q:=λh=>.ask (tp _) λb hb=>.pos (hb.trans q) h
 obtain⟨U,c⟩:∃r,t.2.2.2.2.2.2[0]?=some r:=⟨_,List.getElem?_eq_getElem (by omega)⟩
 obtain⟨S,j⟩:∃r,t.2.2.2.2.2.2[1]?=some r:=⟨_,List.getElem?_eq_getElem (by omega)⟩
 obtain⟨o,ho,h1,h2⟩:=i 0 B (.inl rfl) U c
 have g0:∀{Q:iz->Prop},T (λn=>sH n (bF B).reverse ((0:Nat):Int) (bF B).reverse e t e4 e5 [] a7 []) Q->T (λn=>fC n (bF B).reverse 0 e t e4 e5 [] a7 []) Q:=λh=>.step qV (.pos (b9 (by omega)) (w (.neg rfl h)))
 cases o with
 |none=>refine⟨none,λu hu=>(by cases hu),?_,g0 (Ff f t hf c h2)⟩;exact .step qS (.pos (b9 (by omega)) (.ask h1 λx hx=>.pos (by grind) (.ret hx)))
 |some u=>
  have z:=ho u rfl
  have O:∀{Q:Cd->Prop},T (λn=>Go.AI.ask (fK n (aS u)) λE=>aa (!E.2.2.2) (some (0,bs [],[],7,m.1,m.2,p)) (mN n (kJ (t.2.1,ae E)::bF B) (t.2.2.2.2.2.2.length:Int) 0 (m.1,m.2) t a5 ([]++[aR (ae (aC (aS u) ((0:Int),m.1,m.2,p)))]) p a8)) Q->T (λn=>oP n (bF B) (t.2.2.2.2.2.2.length:Int) 0 m p t a5 [] a8) Q:=λh=>by refine .step qS (.pos (b9 (by omega)) (.ask h1 λx hx=>?_));have hx:x=aC (aS u) (0,m.1,m.2,p):=hx;subst hx;exact .neg rfl (.fits (by simp) (.pos rfl (.ask (Eu _) λb hb=>.pos (hb.trans q) h)))
  have q1:∀{Q:iz->Prop},T (λn=>Go.AI.ask (jr n (aS u)) λE=>aa (!E) (some (dr e5 ([],[],7))) (fits (([]:List (List AV)).length+((bF B).reverse).length) 64 (Go.AI.ab (KL [u]) 0 λ_=>Go.AI.jU (KL [u]) (0:Int).toNat λR=>Go.AI.ab (gD R 2) 0 λN=>fits ((([]++(bF B).reverse):List (List AV)).length+([(kJ (t.2.1,(ah N 0)))]:List (List AV)).length) 64 (sW n (bF B).reverse ((1:Nat):Int) e t e4 e5 (KL [u]) (([]++(bF B).reverse)++[(kJ (t.2.1,(ah N 0)))]) a7 [])))) Q->T (λn=>fC n (bF B).reverse ((0+1:Nat):Int) e t e4 e5 (KL [u]) a7 []) Q:=λh=>.step qV (.pos (b9 (by omega)) (w (.pos rfl (.gx rfl (.jU (by simp[KL]) λr hr=>by cases hr;exact h)))))
  cases hs:lH u with
  |false=>
   have hno:=vK hs
   have hel:nV u=(0,bs [],[],false):=by simp_all[nV]
   refine⟨none,λu hu=>(by cases hu),O (.ask (ji u) λx hx=>.pos (by grind) (.ret ⟨by grind,by grind⟩)),g0 (zF (K:=[]) f t (by omega) c rfl h2 (q1 (.ask (kQ u) λb hb=>.pos (by grind) (.ret ⟨by show(7:Int)≠0;omega,Nat.zero_le _,rfl⟩))))⟩
  |true=>
   obtain⟨a,rfl⟩:=vI hs
   have J:bd (enc a):=ib z
   obtain⟨X,ho1,h3,h4⟩:=i 1 ((t.2.1,a)::B) (.inr ⟨a,J,rfl⟩) S j
   have F:(bF ((t.2.1,a)::B)).reverse=([]++(bF B).reverse)++[kJ (t.2.1,enc a)]:=by unfold bF;simp
   have q2:∀{Q:iz->Prop},T (λn=>sW n (bF B).reverse ((1:Nat):Int) e t e4 e5 (KL [some (.set a)]) (bF ((t.2.1,a)::B)).reverse a7 []) Q->T (λn=>fC n (bF B).reverse 0 e t e4 e5 [] a7 []) Q:=λh=>g0 (zF (K:=[]) f t (by omega) c rfl h2 (q1 (.ask (kQ (some (.set a))) λb hb=>.neg (by rw[hb];rfl) (.fits (by grind) (.gx rfl (.jU (by simp[KL]) λr hr=>by cases hr;refine .gx (x:=aR (enc a)) rfl (.fits (by grind) ?_);rw[F]at h;exact h))))))
   have p1:∀{Q:Cd->Prop},T (λn=>uO n (bF ((t.2.1,a)::B)) (t.2.2.2.2.2.2.length:Int) ((1:Nat):Int) m t a5 (KL [some (.set a)]) p a8) Q->T (λn=>oP n (bF B) (t.2.2.2.2.2.2.length:Int) 0 m p t a5 [] a8) Q:=λh=>O (.ask (ji (some (.set a))) λx hx=>by subst hx;refine .neg rfl (.step yk ?_);rw[bA (by omega) (by omega)];exact h)
   cases X with
   |none=>refine⟨none,λu hu=>(by cases hu),p1 ?_,q2 (acb f t hf j h4)⟩;exact .step uG (.pos (b9 (by omega)) (.ask h3 λx hx=>.pos (by grind) (.ret hx)))
   |some v=>
    have L:∀x,x∈[some (Ty.set a),v]->bd (aS x):=λx hx=>by
     rcases List.mem_cons.1 hx with rfl|hx
     .exact z
     grind
    obtain⟨o',h⟩:=Fe (l:=[some (.set a),v]) ha (by simp[hlen]) D C (λ_=>⟨a,v,rfl⟩);obtain⟨V,G,Z,Y⟩:=OW (e:=e) f t ht p hp hf a5 a8 e4 e5 a7 B h (by simp[hlen]) (by simp) L D C ((t.2.1,a)::B);refine⟨V,G,p1 ?_,q2 (aaU (K:=[some (.set a)]) f t (by omega) j rfl h4 Y)⟩;refine .step uG (.pos (b9 (by omega)) (.ask h3 λx hx=>?_));have hx:x=aC (aS v) (0,m.1,m.2,p):=hx;subst hx;refine .neg rfl (.fits (by simp[KL]) (.neg rfl (.step yk ?_)));rw[kv 1 (by omega)];exact Z
end
theorem yP{t:b6}{f n k:Nat}(h:dk (f+1) t n=some k):t.2.2.2.2.2.2.length<=2000:=by
 unfold dk at h
 split at h
 .rename_i c
  have:∀(l:Rows)(s s':Nat),l.foldlM (λn r=>dk f (bt r 0) n) s=some s'->s+l.length<=s':=by intro l;induction l with|nil=>grind|cons x l ih=>intro s s' h;rw[List.foldlM_cons]at h;cases e:dk f (bt x 0) s with|none=>grind|some i=>rw[e]at h;have:=ih i s' h;have:=tt e;simp;omega
  have h1:=this _ _ _ h;have:=(xP (inv:=λm=>m<=2000) (λs r s' _ e=>(tt e).1) (by omega) h);omega
 .cases h
section
variable {e m:Rows×Rows}(hE:Bw e m)
include hE
theorem MN(f:Nat)(t:b6)(ht:bd t)(hn:eS t=true)(hc:CT t.2.2.2.2.2.1)(p:Rows)(hp:p.length<=990)(hf:f<=100)(B:Sc)(Y:B.length<=900)(hB:∀x,x∈B->bd (enc x.2))(hlen:t.2.2.2.2.2.2.length<=9999)
 (D:∀k O,(O=B\/∃a,bd (enc a)/\O=(t.2.1,a)::B)->Ce e m f t p k O)(a5:Int×ByteArray)(a8:Rows)(G:Nat->Option iz)
 (J:∀Q:iz->Prop,(t.1=20->∀Lk:Nat->Option KB,(∀R,T (λn=>kP n (bF B).reverse t.2.1 ((B.length:Int)-1) e (0,bs []) []) R->T Lk R)->T (λn=>Go.AI.ask (Lk n) λP=>aa (!P.2.2.2) (some (0,bs [],[],[],6)) (some (ug P ([],0)))) Q)->(t.1=29->T (λn=>Go.AI.ask (rR n e (ae t.2.2.2)) λS=>aa (!S) (some (0,bs [],[],[],6)) (fC n (bF B).reverse 0 e t (0,bs []) (0,bs []) [] [] [])) Q)->(t.1≠20->t.1≠29->T (λn=>fC n (bF B).reverse 0 e t (0,bs []) (0,bs []) [] [] []) Q)->T G Q):
 Bo m p (f+1) (λn=>oP n (bF B) (t.2.2.2.2.2.2.length:Int) 0 m p t a5 [] a8) G:=by
 obtain⟨ha,hy⟩:=IA hn
 have i:(t.1=20\/t.1=29)->t.2.2.2.2.2.2.length=0:=λh=>by
  unfold eG at ha
  simp only[aZ]at ha
  have hk:eO t.1=0:=by rcases h with e|e<;>rw[e]<;>rfl
  grind
 by_cases C:t.1=20
 .have h0:=i (.inl C)
  have hs:bd t.2.1:=gp _ (cq _ ht)
  obtain⟨I,L,K,U⟩:=hE.nm t.2.1 hs
  have hl:∀(B:Sc),(∀x,x∈B->bd (enc x.2))->∀a,jz B t.2.1=some a->bd (enc a):=by intro B;induction B with|nil=>intro _ a h;cases h|cons x B ih=>grind[jz]
  refine⟨((jz B t.2.1).or I).map some,λu hu=>?_,?_,J _ (λ_ Lk N=>.ask (N _ (X4 t.2.1 B (by omega) K)) λx hx=>?_) (λh=>absurd h (by omega)) (λh=>absurd C h)⟩
  .cases hq:jz B t.2.1 with|some a=>rw[hq]at hu;cases hu;exact hl B hB a hq|none=>rw[hq]at hu;cases I with|none=>cases hu|some a=>cases hu;exact U a rfl
  .refine .step qS (.neg (fy (by omega)) (.pos (by grind) (.ask (X3 t.2.1 B) λx hx=>?_)));cases hq:jz B t.2.1 with|some a=>rw[hq]at hx;have hx:x=aC (enc a) true:=hx;subst hx;exact .pos rfl (.ret rfl)|none=>rw[hq]at hx;refine .neg hx ?_;cases I with|none=>exact .et (λr hr=>by grind) λ_=>.ret ⟨by grind,by show p.length<=1000;omega⟩|some a=>obtain⟨r,X,V⟩:=L;exact .et (λr' hr=>by rw[X]at hr;cases hr;rw[V];exact .ret rfl) λhr=>by grind
  .cases hq:(jz B t.2.1).or I with|some a=>rw[hq]at hx;have hx:x=aC (enc a) true:=hx;subst hx;exact .neg rfl (.ret rfl)|none=>rw[hq]at hx;exact .pos (by grind) (.ret ⟨by grind,Nat.zero_le _,rfl⟩)
 by_cases c:t.1=29
 .have h0:=i (.inr c)
  have hk:t.2.2.2.2.2.2=[]:=List.length_eq_zero_iff.1 h0
  unfold kj at hy
  rw[if_pos c]at hy
  simp only[aZ]at hy
  obtain⟨a,j⟩:=DX hy.2 (cW hy.1) hc
  have F:bd (enc a):=j▸GF t ht
  obtain⟨b,L,K⟩:=hE.kn a F (j▸hy.2)
  have w:bd (enc (.set a)):=iX F
  have E:T (λn=>lA n t (KL [])) (rQ (some (some (.set a)))):=by have M:t=(29,t.2):=Prod.ext c rfl;rw[M];refine nO t.2 (by omega) λu v=>.step mI (.neg rfl (.neg rfl (.pos rfl (.ask (fW _) λq hq=>?_))));subst hq;have:ae ((29,t.2):b6).2.2.2=enc a:=j;rw[this];exact .ret rfl
  refine⟨if b=true then j5 (some (some (.set a)))else none,λu hu=>?_,?_,J _ (λh=>absurd h (by omega)) (λ_=>?_) (λ_ h=>absurd c h)⟩
  .split at hu
   .exact EC (λu hu=>by cases hu;exact w) u hu
   .cases hu
  .refine .step qS (.neg (fy (by omega)) (.neg (by grind) (.pos (by grind) ?_)));rw[j];refine .ask (L p) λx hx=>?_;subst hx;cases b with|false=>exact .pos rfl (.ret ⟨by grind,by grind⟩)|true=>refine .neg rfl (.ask (oU a) λy hy=>hy▸.ask (EB _ w) λz hz=>.ret ?_);rw[if_pos rfl];unfold j5;show qh m p (if dj (enc (.set a))=true then _ else _) _;cases e1:dj (enc (.set a))with|true=>rw[hz.1 e1];rfl|false=>exact⟨hz.2 e1,by show p.length<=1000;omega⟩
  .rw[j];refine .ask K λx hx=>?_;subst hx;cases x with|false=>exact .pos rfl (.ret ⟨by grind,Nat.zero_le _,rfl⟩)|true=>rw[if_pos rfl];exact .neg rfl (GR E (λu hu=>by cases hu;exact w) _ _ _ _ _ _ (by omega) _)
 cases hb:fk t.1 with|true=>obtain⟨o,h1,h2,h3⟩:=X6 (e:=e) f t ht p hp hf a5 a8 (0,bs []) (0,bs []) [] B ha hb (by omega) D;exact⟨o,h1,h2,J _ (λh=>absurd h C) (λh=>absurd h c) λ_ _=>h3⟩|false=>obtain⟨o,h1,h2,h3⟩:=X5 (e:=e) f t ht p hp hf a5 a8 (0,bs []) (0,bs []) [] B ha C c hb hlen λk=>D k B (.inl rfl);exact⟨o,h1,h2,J _ (λh=>absurd h C) (λh=>absurd h c) λ_ _=>h3⟩
theorem NJ:∀(f:Nat)(t:b6)(B:Sc)(p:Rows),(∃n k,dk f t n=some k)->gT t->bd t->(∀x,x∈B->bd (enc x.2))->B.length+f<=900->p.length+f<=990->f<=101->Bo m p f (λn=>zq n t (bF B) m p) (λn=>lX n e (bF B).reverse t)
 |0,_,_,_,⟨_,_,h⟩,_,_,_,_,_,_=>by cases h
 |f+1,t,B,p,⟨n,k,h⟩,hc,ht,hB,h1,h2,h3=>by
  obtain⟨hn,hk⟩:=sM h
  cases hc with
  |mk u q=>
   have j:=Bv t ht
   have G:(bF B).length=B.length:=by unfold bF;simp
   obtain⟨o,g1,g2,I⟩:=MN hE f t ht hn u p (by omega) (by omega) B (by omega) hB (by have:=yP h;omega) (λk C z r hr=>by
    have i:=List.mem_of_getElem? hr
    have w:(∀x,x∈C->bd (enc x.2))/\C.length<=B.length+1:=by
     rcases z with rfl|⟨a,ha,rfl⟩
     .grind
     .grind
    obtain⟨o,F,E,D⟩:=NJ f (bt r 0) C (p++[[.sc (.int .i64 (k:Int))]]) (hk r i) (q r i) (nN j i) w.1 (by omega) (by simp;omega) (by omega);exact⟨o,F,MM hr (by omega) rfl E,D⟩) (0,bs []) [] (λn=>lX n e (bF B).reverse t) (λQ q1 q2 q3=>.step WC (.ite (λc=>q1 (aL c) _ λR h=>.step Wo (by grind[bA,bF])) λc=>.ite (λd=>q2 (aL d)) λd=>q3 (aP c) (aP d)));exact⟨o,g1,.step WD g2,I⟩
end
end Go.AI
