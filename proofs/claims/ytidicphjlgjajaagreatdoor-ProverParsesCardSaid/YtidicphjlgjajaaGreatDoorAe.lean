/-
  A part of the proof: AiDraw1 AiDraw2 AiDraw3 AiDraw4 AiDraw5 AiTie AiFrame AiSmall AiMemo.
-/
import Derived.Orders
import Derived.Test.YtidicphjlgjajaaGreatDoorAd
set_option linter.all false

section
namespace Go.AI
section
variable {P:Program}{R:Rec}{cx:Ctx}{ops:Array Oper}
inductive qU(P:Program)(R:Rec)(cx:Ctx)(ops:Array Oper)(kf:dx)(L:Nat->Prop)(o:Oper)(i aL:Nat)(st:aD)(mK:Nat)(ah:aD):Prop|skip(hw:cE ops o st.tm=some false)(hp:st.put cx.tn o.dst dZ=some ah)(ha:mK=if a6 o.op then aL+1 else aL)|mk(v:AV)(h:AHeap)(x:b7)(hw:cE ops o st.tm=some true)(hA:a6 o.op=true)(hr:aU P (eG (tmpsOf o) st.tm) o {ck:=.leaf,next:=aL,floor:=0,wr:=[]}=some (.val v,h))(hg:h.get aL=some x)(hn:h.next=aL+1)(hp:aD.put {st with h:={st.h with ck:=st.h.ck.put aL x}} cx.tn o.dst v=some ah)(ha:mK=aL+1)|look(v:AV)(h:AHeap)(hw:cE ops o st.tm=some true)(hA:a6 o.op=false)(hF:bT o.op=true)(hr:aU P (eG (tmpsOf o) st.tm) o {st.h with ck:=fP st.h (dQ o st.tm)}=some (.val v,h))(hn:h.next=st.h.next)(hp:st.put cx.tn o.dst v=some ah)(ha:mK=aL)(hk:(i,dQ o st.tm)∈kf.fs)|act(v:AV)(cm:bo)(h:AHeap)(hw:cE ops o st.tm=some true)(hA:a6 o.op=false)(hF:bT o.op=false)(hr:dc P R cx (eG (tmpsOf o) st.tm) o .none st.h.inner=some (.val v cm h))(hp:aD.put {st with h:=st.h.outer h} cx.tn o.dst v=some ah)(ha:mK=aL)(hk:(i,h.wr)∈kf.es)|dead(hL:¬L i)(hp:st.put cx.tn o.dst .aO=some ah)(ha:mK=if a6 o.op then aL+1 else aL)
def Trace(P:Program)(R:Rec)(cx:Ctx)(ops:Array Oper)(kf:dx)(L:Nat->Prop)(l:List Oper)(i aL:Nat)(st b:aD):Prop:=∃(T:Nat->aD)(A:Nat->Nat),T i=st/\A i=aL/\T (i+l.length)=b/\∀j o,l[j]?=some o->qU P R cx ops kf L o (i+j) (A (i+j)) (T (i+j)) (A (i+j+1)) (T (i+j+1))
theorem Trace.cons{kf:dx}{L:Nat->Prop}{l:List Oper}{o:Oper}{i aL b:Nat}{st e c:aD}(h1:qU P R cx ops kf L o i aL st b e)(h2:Trace P R cx ops kf L l (i+1) b e c):Trace P R cx ops kf L (o::l) i aL st c:=by
 obtain⟨T,A,t1,t2,h,g⟩:=h2
 refine⟨λj=>if j=i then st else T j,λj=>if j=i then aL else A j,by simp,by simp,?_,?_⟩
 .simp only[aN];rw[if_neg (by omega),<-h];congr 1;omega
 .intro j q f;cases j with|zero=>simp only[List.getElem?_cons_zero,ab]at f;subst f;simp only[Nat.add_zero,if_true];rw[if_neg (by omega),if_neg (by omega),t1,t2];exact h1|succ j=>simp only[List.getElem?_cons_succ]at f;have:=g j q f;show qU P R cx ops kf L q (i+(j+1)) (if i+(j+1)=i then aL else A (i+(j+1))) (if i+(j+1)=i then st else T (i+(j+1))) (if i+(j+1)+1=i then aL else A (i+(j+1)+1)) (if i+(j+1)+1=i then st else T (i+(j+1)+1));rw[if_neg (by omega),if_neg (by omega),if_neg (by omega),if_neg (by omega)];rw[show i+(j+1)=i+1+j by omega];exact this
theorem uc{L:Nat->Prop}:∀(l:List Oper)(i aL:Nat)(k:dx)(st:aD)(kf:dx)(c:aD),eJ P R cx ops l i aL k st=some (kf,c)->
 ((∀x,x∈k.es->x∈kf.es)/\(∀x,x∈k.fs->x∈kf.fs))/\Trace P R cx ops kf L l i aL st c
 |[],i,aL,k,st,kf,c,hr=>by simp only[eJ,ab,an]at hr;obtain⟨rfl,rfl⟩:=hr;exact⟨⟨λ_ h=>h,λ_ h=>h⟩,λ_=>st,λ_=>aL,rfl,rfl,rfl,λj o h=>by simp at h⟩
 |o::l,i,aL,k,st,kf,c,hr=>by
  unfold eJ at hr
  split at hr
  .rename_i hw
   split at hr
   .rename_i e hp;obtain⟨q1,q2⟩:=uc l _ _ _ _ _ _ hr;exact⟨q1,.cons (.skip hw hp rfl) q2⟩
   .cases hr
  .rename_i hw
   split at hr
   .rename_i hA
    split at hr
    .rename_i v h b
     split at hr
     .rename_i x hx
      split at hr
      .rename_i hn
       split at hr
       .rename_i e hp;obtain⟨q1,q2⟩:=uc l _ _ _ _ _ _ hr;exact⟨q1,.cons (.mk v h x hw hA b hx hn hp rfl) q2⟩
       .cases hr
      .cases hr
     .cases hr
    .cases hr
   .rename_i hA
    have hA:a6 o.op=false:=by simpa using hA
    split at hr
    .rename_i hF
     split at hr
     .rename_i v h b
      split at hr
      .rename_i f
       split at hr
       .rename_i e hp;obtain⟨q1,q2⟩:=uc l _ _ _ _ _ _ hr;exact⟨⟨q1.1,λx hx=>q1.2 x (List.mem_cons_of_mem _ hx)⟩,.cons (.look v h hw hA hF b f hp rfl (q1.2 _ (List.mem_cons_self ..))) q2⟩
       .cases hr
      .cases hr
     .cases hr
    .rename_i hF
     have hF:bT o.op=false:=by simpa using hF
     split at hr
     .rename_i v cm h b
      split at hr
      .rename_i e hp;obtain⟨q1,q2⟩:=uc l _ _ _ _ _ _ hr;exact⟨⟨λx hx=>q1.1 x (List.mem_cons_of_mem _ hx),q1.2⟩,.cons (.act v cm h hw hA hF b hp rfl (q1.1 _ (List.mem_cons_self ..))) q2⟩
      .cases hr
     .cases hr
  .cases hr
def uS(o:Oper)(acc:List Nat):Nat:=o.after.foldl (λs e=>if Region.binds .any e then s|||2^e.on|||acc.getD e.on 0 else s) 0
theorem CL:∀(l:List Oper)(acc:List Nat),(∃B,hZ l acc=acc++B/\B.length=l.length)/\∀j o,l[j]?=some o->(hZ l acc).getD (acc.length+j) 0=uS o ((hZ l acc).take (acc.length+j))|[],acc=>⟨⟨[],by simp[hZ],rfl⟩,λj o h=>by simp at h⟩|o::l,acc=>by have e:hZ (o::l) acc=hZ l (acc++[uS o acc]):=rfl;rw[e];obtain⟨⟨B,h1,h2⟩,h3⟩:=CL l (acc++[uS o acc]);refine⟨⟨uS o acc::B,by rw[h1];simp,by simp[h2]⟩,?_⟩;intro j q b;cases j with|zero=>simp only[List.getElem?_cons_zero,ab]at b;subst b;rw[h1];simp|succ j=>simp only[List.getElem?_cons_succ]at b;have:=h3 j q b;simp only[List.length_append,aN,List.length_nil]at this;rw[show acc.length+(j+1)=acc.length+(0+1)+j by omega];exact this
def cu(ops:Array Oper)(i k:Nat):Prop:=((hZ ops.toList []).getD i 0).testBit k=true
theorem H0(acc:List Nat)(k:Nat):∀(es:List Edge)(s:Nat),(es.foldl (λs e=>if Region.binds .any e then s|||2^e.on|||acc.getD e.on 0 else s) s).testBit k=true->
 s.testBit k=true\/∃e,e∈es/\Region.binds .any e=true/\(e.on=k\/(acc.getD e.on 0).testBit k=true)
 |[],s,h=>.inl h
 |e::es,s,h=>by
  simp only[List.foldl_cons]at h
  rcases H0 acc k es _ h with h1|⟨b,h1,h2,h3⟩
  .split at h1
   .rename_i hb
    simp only[Nat.testBit_or,Nat.testBit_two_pow,Bool.or_eq_true,decide_eq_true_eq]at h1
    rcases h1 with(h1|h1)|h1
    .exact .inl h1
    .exact .inr ⟨e,List.mem_cons_self ..,hb,.inl h1⟩
    .exact .inr ⟨e,List.mem_cons_self ..,hb,.inr h1⟩
   .exact .inl h1
  .exact .inr ⟨b,List.mem_cons_of_mem _ h1,h2,h3⟩
theorem cu.direct{i k:Nat}{o:Oper}(ho:ops[i]?=some o)(h:cu ops i k):∃e,e∈o.after/\Region.binds .any e=true/\(e.on=k\/cu ops e.on k):=by
 unfold cu at h
 have hs:=(CL ops.toList []).2 i o (by simpa using ho)
 simp only[List.length_nil,Nat.zero_add]at hs
 rw[hs]at h
 unfold uS at h
 rw[<-Array.foldl_toList]at h
 rcases H0 _ k _ _ h with h1|⟨e,h1,h2,h3⟩
 .simp at h1
 .refine⟨e,by simpa using h1,h2,?_⟩
  rcases h3 with h3|h3
  .exact .inl h3
  .right
   unfold cu
   rw[List.getD_eq_getElem?_getD,List.getElem?_take]at h3
   rw[List.getD_eq_getElem?_getD]
   split at h3
   .exact h3
   .simp at h3
theorem cu.here{i k:Nat}(h:cu ops i k):∃o,ops[i]?=some o:=by
 rcases Nat.lt_or_ge i ops.size with h1|h1
 .exact⟨ops[i],by simp[h1]⟩
 .unfold cu at h;obtain⟨⟨B,h2,h3⟩,_⟩:=CL ops.toList [];rw[h2,List.nil_append,List.getD_eq_getElem?_getD,List.getElem?_eq_none (by rw[h3];simpa using h1)]at h;simp at h
structure Static(ops:Array Oper):Prop where
 back:∀(i:Nat)(o:Oper)(e:Edge),ops[i]?=some o->e∈o.after->Region.binds .any e=true->e.on<i
 guard:∀(i:Nat)(o:Oper)(j:Nat)(b:Bool),ops[i]?=some o->o.guard=some (j,b)->cu ops i j
 one:∀(i k:Nat)(o q:Oper)(d:Tmp),ops[i]?=some o->ops[k]?=some q->q.dst=some d->o.dst=some d->k=i
 use:∀(i k:Nat)(o q:Oper)(d:Tmp),ops[i]?=some o->ops[k]?=some q->q.dst=some d->d∈tmpsOf o->cu ops i k\/cu ops k i
 chain:∀(i k:Nat)(o q:Oper),ops[i]?=some o->ops[k]?=some q->k<i->a6 o.op=false->bT o.op=false->a6 q.op=false->bT q.op=false->cu ops i k
theorem H2(h:ur ops=true):Static ops:=by
 unfold ur at h
 simp only[List.all_eq_true]at h
 have c:∀(i:Nat)(o:Oper),ops[i]?=some o->(o,i)∈ops.toList.zipIdx:=by intro i o ho;rw[List.mem_zipIdx_iff_getElem?];simpa using ho
 have key:∀(i:Nat)(o:Oper),ops[i]?=some o->_:=λi o ho=>h (o,i) (c i o ho)
 refine⟨?_,?_,?_,?_,?_⟩
 .intro i o e ho p hb;have:=key i o ho;simp only[aX]at this;have h1:=this.1.1;rw[Array.all_eq_true]at h1;obtain⟨n,hn,rfl⟩:=Array.mem_iff_getElem.1 p;have:=h1 n hn;rw[hb]at this;simpa using this
 .intro i o j b ho hg;have:=key i o ho;simp only[aX]at this;have h1:=this.1.2;rw[hg]at h1;exact h1
 .intro i k o q d ho l h1 h2
  have:=key i o ho
  simp only[aX]at this
  have h3:=this.2
  rw[List.all_eq_true]at h3
  have h4:=h3 (q,k) (c k q l)
  simp only[aX]at h4
  have g:=h4.1
  rw[h1]at g
  simp only[aX,Bool.or_eq_true]at g
  rcases g.1 with f|f
  .simpa using f
  .rw[h2]at f;simp at f
 .intro i k o q d ho l h1 h2
  have:=key i o ho
  simp only[aX]at this
  have h3:=this.2
  rw[List.all_eq_true]at h3
  have h4:=h3 (q,k) (c k q l)
  simp only[aX]at h4
  have g:=h4.1
  rw[h1]at g
  simp only[aX,Bool.or_eq_true]at g
  rcases g.2 with(f|f)|f
  .simp[h2]at f
  .exact .inl f
  .exact .inr f
 .intro i k o q ho l m w v u t;have:=key i o ho;simp only[aX]at this;have h3:=this.2;rw[List.all_eq_true]at h3;have h4:=h3 (q,k) (c k q l);simp only[aX]at h4;have g:=h4.2;simp only[w,v,u,t,m,decide_true,Bool.not_true,Bool.false_or]at g;exact g
theorem cu.lt(hs:Static ops):∀{i k:Nat},cu ops i k->k<i:=by
 intro i
 induction i using Nat.strongRecOn with
 |ind i ih=>
  intro k h
  obtain⟨o,ho⟩:=h.here
  obtain⟨e,h1,h2,h3⟩:=h.direct ho
  have:=hs.back i o e ho h1 h2
  rcases h3 with h3|h3
  .omega
  .have:=ih e.on this h3;omega
theorem cu.closed(hs:Static ops){S:Nat->Prop}(b:∀i o e,ops[i]?=some o->S i->e∈o.after->Region.binds .any e=true->S e.on):∀{i k:Nat},S i->cu ops i k->S k:=by
 intro i
 induction i using Nat.strongRecOn with
 |ind i ih=>
  intro k hi h
  obtain⟨o,ho⟩:=h.here
  obtain⟨e,h1,h2,h3⟩:=h.direct ho
  have h4:=b i o e ho hi h1 h2
  rcases h3 with rfl|h3
  .exact h4
  .exact ih e.on (hs.back i o e ho h1 h2) h4 h3
theorem cu.ready(hs:Static ops){S:Nat->Prop}(b:∀i o e,ops[i]?=some o->S i->e∈o.after->Region.binds .any e=true->S e.on){i k:Nat}{o:Oper}(ho:ops[i]?=some o)
 (hi:∀e,e∈o.after->Region.binds .any e=true->S e.on)(h:cu ops i k):S k:=by
 obtain⟨e,h1,h2,h3⟩:=h.direct ho
 rcases h3 with rfl|h3
 .exact hi e h1 h2
 .exact cu.closed hs b (hi e h1 h2) h3
theorem H3{kf:dx}(h:oE (hZ ops.toList []) kf=true){i j:Nat}{ids wr:List Nat}(hi:(i,ids)∈kf.fs)(hj:(j,wr)∈kf.es)(h1:¬cu ops i j)(h2:¬cu ops j i):∀o,o∈ids->o∉wr:=by
 unfold oE at h
 rw[List.all_eq_true]at h
 have h3:=h _ hi
 simp only[List.all_eq_true]at h3
 have h4:=h3 _ hj
 simp only[Bool.or_eq_true]at h4
 intro o ho hw
 rcases h4 with(h4|h4)|h4
 .exact h1 h4
 .exact h2 h4
 .have:=h4;rw[List.all_eq_true]at this;have:=this o ho;simp[hw]at this
end
end Go.AI
end

section
namespace Go.AI
def eu(o:Oper):Bool:=!a6 o.op&&!bT o.op
theorem ns{o:Oper}:eu o=true↔a6 o.op=false/\bT o.op=false:=by unfold eu;cases a6 o.op<;>cases bT o.op<;>simp
structure Rgn(P:Program)(R:Rec)(cx:Ctx)(ops:Array Oper)(kf:dx)(L:Nat->Prop)(T:Nat->aD)(A:Nat->Nat)(h0:AHeap):Prop where
 st:Static ops
 tr:∀(i:Nat)(o:Oper),ops[i]?=some o->qU P R cx ops kf L o i (A i) (T i) (A (i+1)) (T (i+1))
 bk:oE (hZ ops.toList []) kf=true
 a0:A 0=h0.next
 t0:(T 0).h={h0 with next:=h0.next+gf ops.toList}nn:∀o,h0.next<=o->o<h0.next+gf ops.toList->h0.get o=none
section
variable {P:Program}{R:Rec}{cx:Ctx}{ops:Array Oper}{kf:dx}{L:Nat->Prop}{T:Nat->aD}{A:Nat->Nat}{h0:AHeap}
theorem fC{i:Nat}{o:Oper}(h:ops[i]?=some o):i<ops.size:=by
 rcases Nat.lt_or_ge i ops.size with h1|h1
 .exact h1
 .rw[Array.getElem?_eq_none h1]at h;cases h
theorem lB{st ah:aD}{tn:Nat}{dst:Option Tmp}{v:AV}(hp:st.put tn dst v=some ah):
 (∀t,dst≠some t->ah.tm.get t=st.tm.get t)/\(∀d,dst=some d->ah.tm.get d=some v/\d<tn):=by
 unfold aD.put at hp
 cases dst with
 |none=>simp only[Option.some.injEq]at hp;subst hp;exact⟨λ_ _=>rfl,λ_ h=>by cases h⟩
 |some d=>
  simp only at hp
  split at hp
  .rename_i hd;simp only[Option.some.injEq]at hp;subst hp;refine⟨λt b=>Tr.a8 _ _ (λe=>b (by rw[e])),λd' e=>?_⟩;simp only[Option.some.injEq]at e;subst e;exact⟨Tr.bS _ _ _,hd⟩
  .cases hp
namespace Rgn
variable (hr:Rgn P R cx ops kf L T A h0)
include hr
theorem FW(i:Nat)(o:Oper)(ho:ops[i]?=some o):∃v,(∀t,o.dst≠some t->(T (i+1)).tm.get t=(T i).tm.get t)/\(∀d,o.dst=some d->(T (i+1)).tm.get d=some v/\d<cx.tn)/\(T (i+1)).cm=(T i).cm/\(T (i+1)).df=(T i).df:=by cases hr.tr i o ho with|skip hw hp ha=>exact⟨_,(lB hp).1,(lB hp).2,(du hp).2.1,(du hp).2.2⟩|mk v h x hw hA b hg hn hp ha=>exact⟨_,(lB hp).1,(lB hp).2,(du hp).2.1,(du hp).2.2⟩|look v h hw hA hF b c hp ha hk=>exact⟨_,(lB hp).1,(lB hp).2,(du hp).2.1,(du hp).2.2⟩|act v cm h hw hA hF b hp ha hk=>exact⟨_,(lB hp).1,(lB hp).2,(du hp).2.1,(du hp).2.2⟩|dead hL hp ha=>exact⟨_,(lB hp).1,(lB hp).2,(du hp).2.1,(du hp).2.2⟩
theorem Kg{t:Tmp}{i:Nat}:∀(d:Nat),i+d<=ops.size->(∀k q,ops[k]?=some q->q.dst=some t->k<i)->(T (i+d)).tm.get t=(T i).tm.get t
 |0,_,_=>rfl
 |d+1,hd,hk=>by
  have b:i+d<ops.size:=by omega
  have ho:ops[i+d]?=some ops[i+d]:=by simp[b]
  obtain⟨v,h1,_⟩:=hr.FW (i+d) _ ho;rw[show i+(d+1)=i+d+1 by omega,h1 t (λe=>by have:=hk _ _ ho e;omega)];exact Kg d (by omega) hk
theorem vm{t:Tmp}{i:Nat}(hi:i<=ops.size)(hk:∀k q,ops[k]?=some q->q.dst=some t->k<i):(T ops.size).tm.get t=(T i).tm.get t:=by have:=hr.Kg (t:=t) (i:=i) (ops.size-i) (by omega) hk;rwa[show i+(ops.size-i)=ops.size by omega]at this
theorem Ri{t:Tmp}(hk:∀(k:Nat)(q:Oper),ops[k]?=some q->q.dst≠some t):(T ops.size).tm.get t=(T 0).tm.get t:=hr.vm (Nat.zero_le _) λk q h1 h2=>absurd h2 (hk k q h1)
theorem IX{t:Tmp}:∀(d:Nat),d<=ops.size->(∀k q,ops[k]?=some q->q.dst=some t->d<=k)->(T d).tm.get t=(T 0).tm.get t
 |0,_,_=>rfl
 |d+1,hd,hk=>by
  have b:d<ops.size:=by omega
  have ho:ops[d]?=some ops[d]:=by simp[b]
  obtain⟨v,h1,_⟩:=hr.FW d _ ho;rw[h1 t (λe=>by have:=hk _ _ ho e;omega)];exact IX d (by omega) λk q h2 h3=>by have:=hk k q h2 h3;omega
theorem opn{i:Nat}{o:Oper}(ho:ops[i]?=some o){t:Tmp}(g:t∈tmpsOf o):
 ((T ops.size).tm.get t=(T i).tm.get t/\∀(k:Nat)(q:Oper),ops[k]?=some q->q.dst=some t->cu ops i k)\/
 ((T 0).tm.get t=(T i).tm.get t/\∀(k:Nat)(q:Oper),ops[k]?=some q->q.dst=some t->cu ops k i):=by
 rcases Classical.em (∃(k:Nat)(q:Oper),ops[k]?=some q/\q.dst=some t)with⟨k,q,hk,f⟩|hn
 .have b:∀(e:Nat)(c:Oper),ops[e]?=some c->c.dst=some t->e=k:=λe c h1 h2=>hr.st.one k e q c t hk h1 h2 f
  rcases hr.st.use i k o q t ho hk f g with h|h
  .refine .inl ⟨hr.vm (Nat.le_of_lt (fC ho)) λe c h1 h2=>?_,λe c h1 h2=>by rw[b e c h1 h2];exact h⟩;rw[b e c h1 h2];exact cu.lt hr.st h
  .refine .inr ⟨(hr.IX i (Nat.le_of_lt (fC ho)) λe c h1 h2=>?_).symm,λe c h1 h2=>by rw[b e c h1 h2];exact h⟩;rw[b e c h1 h2];exact Nat.le_of_lt (cu.lt hr.st h)
 .exact .inl ⟨hr.vm (Nat.le_of_lt (fC ho)) λk q h1 h2=>absurd ⟨k,q,h1,h2⟩ hn,λk q h1 h2=>absurd ⟨k,q,h1,h2⟩ hn⟩
theorem QE{i:Nat}{o:Oper}(ho:ops[i]?=some o):cE ops o (T i).tm=cE ops o (T ops.size).tm:=by
 unfold cE
 cases hg:o.guard with
 |none=>rfl
 |some p=>
  obtain⟨j,want⟩:=p
  simp only
  cases hd:(ops[j]?).bind (·.dst)with
  |none=>rfl
  |some d=>
   simp only
   have hj:=hr.st.guard i o j want ho hg
   have e:=cu.lt hr.st hj
   have:(T ops.size).tm.get d=(T i).tm.get d:=by refine hr.vm (Nat.le_of_lt (fC ho)) λk q h1 h2=>?_;cases b:ops[j]? with|none=>rw[b]at hd;cases hd|some c=>rw[b]at hd;have:=hr.st.one k j q c d h1 b (by simpa using hd) h2;omega
   rw[this]
theorem Ty{i:Nat}{o:Oper}(ho:ops[i]?=some o){b:aD}{v:AV}(hp:b.put cx.tn o.dst v=some (T (i+1))){d:Tmp}(hd:o.dst=some d):(T ops.size).tm.get d=some v/\d<cx.tn:=by have h1:=(lB hp).2 d hd;refine⟨?_,h1.2⟩;rw[<-h1.1];refine hr.vm (fC ho) λk q h2 h3=>?_;have:=hr.st.one i k o q d ho h2 h3 hd;omega
theorem aL(i:Nat)(o:Oper)(ho:ops[i]?=some o):A (i+1)=if a6 o.op then A i+1 else A i:=by cases hr.tr i o ho with|skip hw hp ha=>exact ha|mk v h x hw hA b hg hn hp ha=>rw[ha,hA];rfl|look v h hw hA hF b c hp ha hk=>rw[ha,hA];rfl|act v cm h hw hA hF b hp ha hk=>rw[ha,hA];rfl|dead hL hp ha=>exact ha
theorem Kh:∀(i:Nat),i<=ops.size->A i+gf (ops.toList.drop i)=h0.next+gf ops.toList
 |0,_=>by rw[hr.a0];simp
 |i+1,hi=>by
  have b:i<ops.size:=by omega
  have ho:ops[i]?=some ops[i]:=by simp[b]
  have h1:=Kh i (by omega)
  have hd:ops.toList.drop i=ops[i]::ops.toList.drop (i+1):=by rw[List.drop_eq_getElem_cons (by simpa using b)];simp
  rw[hd]at h1;rw[hr.aL i _ ho];simp only[gf]at h1;split at h1<;>rename_i hA<;>simp only[hA]<;>simp<;>omega
theorem Da{i:Nat}:∀(d:Nat),i+d<=ops.size->A i<=A (i+d)
 |0,_=>Nat.le_refl _
 |d+1,hd=>by
  have b:i+d<ops.size:=by omega
  have ho:ops[i+d]?=some ops[i+d]:=by simp[b]
  have:=Da (i:=i) d (by omega);rw[show i+(d+1)=i+d+1 by omega,hr.aL _ _ ho];split<;>omega
theorem sQ{i:Nat}{o:Oper}(ho:ops[i]?=some o)(hA:a6 o.op=true):h0.next<=A i/\A i<h0.next+gf ops.toList:=by have hi:=fC ho;have h1:=hr.Kh (i+1) (by omega);have h2:=hr.aL i o ho;have h3:=hr.Da (i:=0) i (by omega);rw[hr.a0]at h3;rw[hA]at h2;simp only[if_true]at h2;rw[Nat.zero_add]at h3;omega
theorem zt{i k:Nat}{o q:Oper}(ho:ops[i]?=some o)(b:ops[k]?=some q)(hA:a6 o.op=true)(c:i<k):A i<A k:=by have h2:=hr.aL i o ho;rw[hA]at h2;simp only[if_true]at h2;have hk:=fC b;have h1:=hr.Da (i:=i+1) (k-(i+1)) (by omega);rw[show i+1+(k-(i+1))=k by omega]at h1;omega
theorem Ki{i k:Nat}{o q:Oper}(ho:ops[i]?=some o)(b:ops[k]?=some q)(hA:a6 o.op=true)(hB:a6 q.op=true)(c:A i=A k):i=k:=by
 rcases Nat.lt_trichotomy i k with h|h|h
 .have:=hr.zt ho b hA h;omega
 .exact h
 .have:=hr.zt b ho hB h;omega
end Rgn
def EY(kf:dx)(T:Nat->aD)(A:Nat->Nat)(j:Nat)(o:Oper):Prop:=(a6 o.op=true/\(∀p,p≠A j->(T (j+1)).h.get p=(T j).h.get p)/\(T (j+1)).h.next=(T j).h.next/\(T (j+1)).h.floor=(T j).h.floor/\(T (j+1)).h.wr=(T j).h.wr)\/(a6 o.op=false/\(T (j+1)).h=(T j).h)\/(eu o=true/\∃wr,(j,wr)∈kf.es/\(T j).h.next<=(T (j+1)).h.next/\(∀p,p<(T j).h.next->p∉wr->(T (j+1)).h.get p=(T j).h.get p)/\(∀p,p<(T j).h.next->(T j).h.get p=none->(T (j+1)).h.get p=none))
def Pure(ops:Array Oper)(kf:dx)(T:Nat->aD)(A:Nat->Nat)(m:Nat):Prop:=∀j o,j<m->ops[j]?=some o->EY kf T A j o
theorem Pure.le{m b:Nat}(h:Pure ops kf T A m)(hm:b<=m):Pure ops kf T A b:=λj o hj ho=>h j o (by omega) ho
namespace Rgn
variable (hr:Rgn P R cx ops kf L T A h0)
include hr
theorem eL{j:Nat}{o:Oper}(ho:ops[j]?=some o)(e:eu o=false):EY kf T A j o:=by
 cases hr.tr j o ho with
 |skip hw hp ha=>cases hA:a6 o.op with|true=>exact .inl ⟨hA,λp _=>by rw[(du hp).1],by rw[(du hp).1],by rw[(du hp).1],by rw[(du hp).1]⟩|false=>exact .inr (.inl ⟨hA,(du hp).1⟩)
 |mk v h x hw hA b hg hn hp ha=>exact .inl ⟨hA,λp c=>by rw[(du hp).1];exact Tr.a8 _ _ c,by rw[(du hp).1],by rw[(du hp).1],by rw[(du hp).1]⟩|look v h hw hA hF b f hp ha hk=>exact .inr (.inl ⟨hA,(du hp).1⟩)|act v cm h hw hA hF b hp ha hk=>rw[ns.2 ⟨hA,hF⟩]at e;cases e|dead hL hp ha=>cases hA:a6 o.op with|true=>exact .inl ⟨hA,λp _=>by rw[(du hp).1],by rw[(du hp).1],by rw[(du hp).1],by rw[(du hp).1]⟩|false=>exact .inr (.inl ⟨hA,(du hp).1⟩)
theorem xS{m:Nat}(hm:m<=ops.size)(hp:Pure ops kf T A m){i:Nat}:∀(d:Nat),i+d<=m->(T i).h.next<=(T (i+d)).h.next
 |0,_=>Nat.le_refl _
 |d+1,hd=>by
  have b:i+d<ops.size:=by omega
  have ho:ops[i+d]?=some ops[i+d]:=by simp[b]
  have h1:=xS hm hp (i:=i) d (by omega)
  rw[show i+(d+1)=i+d+1 by omega]
  rcases hp (i+d) _ (by omega) ho with⟨_,_,h2,_⟩|⟨_,h2⟩|⟨_,wr,_,h2,_⟩
  .omega
  .rw[h2];exact h1
  .omega
theorem Db{m:Nat}(hm:m<=ops.size)(hp:Pure ops kf T A m){k:Nat}{o:Oper}(ho:ops[k]?=some o)(hA:a6 o.op=true){j:Nat}(hj:j<=m):A k<(T j).h.next:=by have h1:=hr.xS hm hp (i:=0) j (by omega);rw[Nat.zero_add,hr.t0]at h1;have:=(hr.sQ ho hA).2;simp only at h1;omega
theorem free{m:Nat}(hm:m<=ops.size)(hp:Pure ops kf T A m){k:Nat}{o:Oper}(ho:ops[k]?=some o)(hA:a6 o.op=true):∀(j:Nat),j<=k->j<=m->(T j).h.get (A k)=none
 |0,_,_=>by rw[hr.t0];exact hr.nn _ (hr.sQ ho hA).1 (hr.sQ ho hA).2
 |j+1,hk,hj=>by
  have b:j<ops.size:=by omega
  have c:ops[j]?=some ops[j]:=by simp[b]
  have h1:=free hm hp ho hA j (by omega) (by omega)
  rcases hp j _ (by omega) c with⟨hB,h2,_⟩|⟨_,h2⟩|⟨_,wr,_,_,_,h2⟩
  .rw[h2 _ (λe=>by have:=hr.zt c ho hB (by omega);omega)];exact h1
  .rw[h2];exact h1
  .exact h2 _ (hr.Db hm hp ho hA (by omega)) h1
end Rgn
end
end Go.AI
end

section
namespace Go.AI
theorem OR.yK{g:Gh}{w:World}{o:Nat}{x:b7}(h:∀v,g.B o v=none):OR g w o x:=by cases x with|cells ad AK c fz el ex sh=>exact⟨λv _=>h v,λv _ _ b s n e=>by rw[h v]at e;cases e⟩|map es clock=>intro b s n e;rw[h 0]at e;cases e|kW s pos=>intro b s n e;rw[h 0]at e;cases e|iI m since seen last=>intro b s n e;rw[h 0]at e;cases e|loop st iC fn tn tm ps assign body dd=>intro b s n e;rw[h 0]at e;cases e|cf ds=>intro b s n e;rw[h 0]at e;cases e
structure cT(ops:Array Oper)(T:Nat->aD)(A:Nat->Nat)(tn:Nat)(h0:AHeap)(g0:Gh)(w0:World)(S:Nat->Prop)(q:Nat)(g:Gh)(w:World)(a:Act):Prop where
 ql:q<=ops.size
 ee:∀(j:Nat)(o:Oper),ops[j]?=some o->eu o=true->(S j↔j<q)
 ww:W (T q).h g w
 fr:eC (T q).h g
 early:∀(k:Nat)(o:Oper),ops[k]?=some o->a6 o.op=true->S k->q<=k->∀x,(T (k+1)).h.get (A k)=some x->OR g w (A k) x
 ph:∀(k:Nat)(o:Oper),ops[k]?=some o->a6 o.op=true->¬S k->∀v,g.B (A k) v=none
 kp:∀(k:Nat)(o:Oper),ops[k]?=some o->a6 o.op=true->¬S k->k<q->(T q).h.get (A k)=(T (k+1)).h.get (A k)
 tm:∀t x,(T ops.size).tm.get t=some x->(∀(k:Nat)(o:Oper),ops[k]?=some o->o.dst=some t->S k)->∃v,a.tmps[t]?=some v/\VR g x v
 sz:a.tmps.size=tn
 df:jA g (T 0).df a.defers
 k0:Step h0 g0 w0 (T q).h g w
 lR:∀t x,(T 0).tm.get t=some x->(∀(k:Nat)(o:Oper),ops[k]?=some o->o.dst=some t->¬S k)->∃v,a.tmps[t]?=some v/\VR g x v
section
variable {P:Program}{R:Rec}{cx:Ctx}{ops:Array Oper}{kf:dx}{L:Nat->Prop}{T:Nat->aD}{A:Nat->Nat}{h0:AHeap}{g0:Gh}{w0:World}{S:Nat->Prop}{q:Nat}{g:Gh}{w:World}{a:Act}
theorem Step.eqh{h1 h2:AHeap}(hs:Step h0 g0 w0 h1 g w)(hn:h2.next=h1.next)(h:h2.floor=h1.floor)(f:h2.wr=h1.wr)(hg:∀o,o<h0.next->h2.get o=h1.get o):Step h0 g0 w0 h2 g w where
 le:=hs.le
 bI:=by rw[hn];exact hs.bI
 n9:=by rw[h];exact hs.n9
 wr:=by rw[f];exact hs.wr
 cb:=λo a b c=>by rw[hg o b];exact hs.cb o a b (by rw[<-f];exact c)
 ph:=λo a b=>by rw[hg o a];exact hs.ph o a b
 gone:=λo a b=>by rw[hg o a];exact hs.gone o a b
 je:=λo v x e=>by rw[hn];exact hs.je o v x e
 size:=hs.size
 dC:=hs.dC
 fr:=λb hb hk=>hs.fr b hb (by rw[<-f];exact hk)
 tape:=hs.tape
 os:=hs.os
 out:=hs.out
 gz:=hs.gz
theorem cT.Gn(hr:Rgn P R cx ops kf L T A h0)(hd:cT ops T A cx.tn h0 g0 w0 S q g w a){o:Oper}(ho:ops[q]?=some o)(t:eu o=false):cT ops T A cx.tn h0 g0 w0 S (q+1) g w a:=by
 have eL:=hr.eL ho t
 have v:∀(j:Nat)(o:Oper),ops[j]?=some o->eu o=true->(S j↔j<q+1):=by
  intro j o' b i
  rw[hd.ee j o' b i]
  refine⟨λh=>by omega,λh=>?_⟩
  rcases Nat.lt_or_ge j q with h1|h1
  .exact h1
  .obtain rfl:j=q:=by omega
   rw[ho]at b;simp only[ab]at b;subst b;rw[t]at i;cases i
 rcases eL with⟨hA,h1,h2,h3,h4⟩|⟨hA,h1⟩|⟨h1,_⟩
 .refine⟨fC ho,v,⟨?_,hd.ww.dG,hd.ww.inj,hd.ww.ro,hd.ww.gG,hd.ww.gl⟩,λp hp=>hd.fr p (by rw[<-h2];exact hp),λk o' f c l u=>hd.early k o' f c l (by omega),hd.ph,?_,hd.tm,hd.sz,hd.df,?_,hd.lR⟩
  .intro p x hx
   by_cases e:p=A q
   .subst e
    rcases Classical.em (S q)with n|n
    .exact hd.early q o ho hA n (ak _) x hx
    .exact OR.yK (hd.ph q o ho hA n)
   .rw[h1 p e]at hx;exact hd.ww.obj p x hx
  .intro k o' f c l u
   rcases Nat.lt_or_ge k q with m|m
   .rw[h1 (A k) (λe=>by have:=hr.zt f ho c m;omega)];exact hd.kp k o' f c l m
   .obtain rfl:k=q:=by omega
    rfl
  .exact hd.k0.eqh h2 h3 h4 λp hp=>h1 p (λe=>by have:=(hr.sQ ho hA).1;omega)
 .refine⟨fC ho,v,by rw[h1];exact hd.ww,by rw[h1];exact hd.fr,λk o' f c l u=>hd.early k o' f c l (by omega),hd.ph,?_,hd.tm,hd.sz,hd.df,by rw[h1];exact hd.k0,hd.lR⟩
  intro k o' f c l u
  rcases Nat.lt_or_ge k q with m|m
  .rw[h1];exact hd.kp k o' f c l m
  .obtain rfl:k=q:=by omega
   rfl
 .rw[t]at h1;cases h1
theorem cT.At(hr:Rgn P R cx ops kf L T A h0):∀(d:Nat)(q:Nat),cT ops T A cx.tn h0 g0 w0 S q g w a->q+d<=ops.size->(∀(j:Nat)(o:Oper),ops[j]?=some o->q<=j->j<q+d->eu o=false)->cT ops T A cx.tn h0 g0 w0 S (q+d) g w a
 |0,_,hd,_,_=>hd
 |d+1,q,hd,hn,hk=>by
  have b:q<ops.size:=by omega
  have ho:ops[q]?=some ops[q]:=by simp[b]
  have:=cT.At hr d (q+1) (hd.Gn hr ho (hk q _ ho (ak _) (by omega))) (by omega) (λj o h1 h2 h3=>hk j o h1 (by omega) (by omega));rwa[show q+1+d=q+(d+1)by omega]at this
theorem yL{i:Nat}{o:Oper}(ho:ops[i]?=some o){x:Value}{g':Gh}(b:∀t x,(T 0).tm.get t=some x->(∀(k:Nat)(o:Oper),ops[k]?=some o->o.dst=some t->¬S k)->∃v,a.tmps[t]?=some v/\VR g x v)(hl:g.Le g'):∀t y,(T 0).tm.get t=some y->(∀(k:Nat)(o:Oper),ops[k]?=some o->o.dst=some t->¬(S k\/k=i))->∃u,(a.put o.dst x).tmps[t]?=some u/\VR g' y u:=by intro t y hy hk;obtain⟨u,h1,h2⟩:=b t y hy λk o' h1 h2 h3=>hk k o' h1 h2 (.inl h3);refine⟨u,?_,h2.mono hl⟩;cases hd:o.dst with|none=>exact h1|some d=>have c:d≠t:=λe=>hk i o ho (by rw[hd,e]) (.inr rfl);simp only[Act.put];rw[Array.getElem?_setIfInBounds_ne c];exact h1
theorem zu(hr:Rgn P R cx ops kf L T A h0){i:Nat}{o:Oper}(ho:ops[i]?=some o){c:aD}{v:AV}{x:Value}{g':Gh}(hp:c.put cx.tn o.dst v=some (T (i+1)))(hs:a.tmps.size=cx.tn)
 (b:∀t x,(T ops.size).tm.get t=some x->(∀(k:Nat)(o:Oper),ops[k]?=some o->o.dst=some t->S k)->∃v,a.tmps[t]?=some v/\VR g x v)(hl:g.Le g')(hv:VR g' v x):
 ∀t y,(T ops.size).tm.get t=some y->(∀(k:Nat)(o:Oper),ops[k]?=some o->o.dst=some t->S k\/k=i)->∃u,(a.put o.dst x).tmps[t]?=some u/\VR g' y u:=by
 intro t y hy hk
 cases hd:o.dst with
 |none=>
  obtain⟨u,h1,h2⟩:=b t y hy λk o' h1 h2=>by
   rcases hk k o' h1 h2 with h3|h3
   .exact h3
   .subst h3;rw[ho]at h1;simp only[ab]at h1;subst h1;rw[hd]at h2;cases h2
  exact⟨u,h1,h2.mono hl⟩
 |some d=>
  by_cases e:t=d
  .subst e;obtain⟨h1,h2⟩:=hr.Ty ho hp hd;rw[h1]at hy;simp only[ab]at hy;subst hy;exact⟨x,by simp[Act.put,hs,h2],hv⟩
  .obtain⟨u,h1,h2⟩:=b t y hy λk o' h1 h2=>by
    rcases hk k o' h1 h2 with h3|h3
    .exact h3
    .subst h3;rw[ho]at h1;simp only[ab]at h1;subst h1;rw[hd]at h2;simp only[ab]at h2;exact absurd h2.symm e
   refine⟨u,?_,h2.mono hl⟩;simp only[Act.put];rw[Array.getElem?_setIfInBounds_ne (Ne.symm e)];exact h1
theorem yf{dst:Option Tmp}{x:Value}:(a.put dst x).tmps.size=a.tmps.size:=by cases dst<;>simp[Act.put]
theorem put_defers{dst:Option Tmp}{x:Value}:(a.put dst x).defers=a.defers:=by cases dst<;>rfl
theorem cT.quiet(hr:Rgn P R cx ops kf L T A h0)(hd:cT ops T A cx.tn h0 g0 w0 S q g w a){i:Nat}{o:Oper}(ho:ops[i]?=some o)(c:eu o=false)(hi:¬S i){b:aD}{v:AV}{x:Value}
 (hp:b.put cx.tn o.dst v=some (T (i+1)))(hv:VR g v x):cT ops T A cx.tn h0 g0 w0 (λj=>S j\/j=i) q g w (a.put o.dst x)where
 ql:=hd.ql
 ee:=λj o' h1 h2=>by
  rw[<-hd.ee j o' h1 h2]
  refine⟨λh=>?_,.inl⟩
  rcases h with h|rfl
  .exact h
  .rw[ho]at h1;simp only[ab]at h1;subst h1;rw[c]at h2;cases h2
 ww:=hd.ww
 fr:=hd.fr
 early:=λk o' h1 h2 h3 h4 x hx=>by
  rcases h3 with h3|rfl
  .exact hd.early k o' h1 h2 h3 h4 x hx
  .exact OR.yK (hd.ph k o' h1 h2 hi)
 ph:=λk o' h1 h2 h3=>hd.ph k o' h1 h2 λh=>h3 (.inl h)
 kp:=λk o' h1 h2 h3 h4=>hd.kp k o' h1 h2 (λh=>h3 (.inl h)) h4
 tm:=zu hr ho hp hd.sz hd.tm (.refl g) hv
 sz:=yf.trans hd.sz
 df:=by rw[put_defers];exact hd.df
 lR:=yL ho hd.lR (.refl g);k0:=hd.k0
theorem cT.make(hr:Rgn P R cx ops kf L T A h0)(hd:cT ops T A cx.tn h0 g0 w0 S q g w a)(u:Pure ops kf T A q){i:Nat}{o:Oper}(ho:ops[i]?=some o)(hA:a6 o.op=true)(hi:¬S i){v:AV}{x:Value}{h:AHeap}{y:b7}{g':Gh}{w':World}
 (hg:h.get (A i)=some y)(hn:h.next=A i+1)(hp:aD.put {T i with h:={(T i).h with ck:=(T i).h.ck.put (A i) y}} cx.tn o.dst v=some (T (i+1)))(hv:VR g' v x)
 (hw:W h g' w')(hs:Step {ck:=.leaf,next:=A i,floor:=0,wr:=[]} g w h g' w'):cT ops T A cx.tn h0 g0 w0 (λj=>S j\/j=i) q g' w' (a.put o.dst x):=by
 have I:∀v,g.B (A i) v=none:=hd.ph i o ho hA hi
 have l:∀p,AHeap.get {ck:=.leaf,next:=A i,floor:=0,wr:=[]} p=none:=λp=>by simp[AHeap.get,Tr.get]
 have f:∀p v x,g'.B p v=some x->g.B p v=some x\/p=A i:=by
  intro p v x e
  rcases hs.je p v x e with h1|⟨h1,h2⟩|⟨h1,_⟩
  .exact .inl h1
  .right;simp only at h1;omega
  .exact absurd (l p) h1
 have t:∀b,b<w.heap.size->w'.heap[b]?=w.heap[b]?:=λb hb=>hs.fr b hb λp v s n _=>.inr (l p)
 have m:∀p x,p≠A i->OR g w p x->OR g' w' p x:=λp x hp h1=>h1.move hs.le (λv y e=>(f p v y e).resolve_right hp) (λv b s n e=>t b (hd.ww.dG p v b s n e))
 have hy:OR g' w' (A i) y:=hw.obj _ _ hg
 have C:(T (i+1)).h.get (A i)=some y:=by rw[(du hp).1];exact Tr.bS _ _ _
 have F:A i<(T q).h.next:=hr.Db hd.ql u ho hA (ak _)
 have D:W (T q).h g' w':=by
  refine⟨?_,hw.dG,hw.inj,hw.ro,hw.gG,hw.gl⟩
  intro p z hz
  by_cases e:p=A i
  .subst e
   rcases Nat.lt_or_ge i q with h1|h1
   .rw[hd.kp i o ho hA hi h1,C]at hz;simp only[ab]at hz;subst hz;exact hy
   .rw[hr.free hd.ql u ho hA q h1 (ak _)]at hz;cases hz
  .exact m p z e (hd.ww.obj p z hz)
 refine⟨hd.ql,?_,D,?_,?_,?_,?_,zu hr ho hp hd.sz hd.tm hs.le hv,yf.trans hd.sz,by rw[put_defers];exact hd.df.mono hs.le,?_,yL ho hd.lR hs.le⟩
 .intro j o' h1 h2
  rw[<-hd.ee j o' h1 h2]
  refine⟨λh=>?_,.inl⟩
  rcases h with h|rfl
  .exact h
  .rw[ho]at h1;simp only[ab]at h1;subst h1;rw[(ns.1 h2).1]at hA;cases hA
 .intro p E v
  cases e:g'.B p v with
  |none=>rfl
  |some z=>
   rcases f p v z e with h1|h1
   .rw[hd.fr p E v]at h1;cases h1
   .omega
 .intro k o' h1 h2 h3 h4 z hz
  by_cases e:k=i
  .subst e;rw[C]at hz;simp only[ab]at hz;subst hz;exact hy
  .rcases h3 with h3|h3
   .exact m _ _ (λJ=>e (hr.Ki h1 ho h2 hA J)) (hd.early k o' h1 h2 h3 h4 z hz)
   .exact absurd h3 e
 .intro k o' h1 h2 h3 v
  cases e:g'.B (A k) v with
  |none=>rfl
  |some z=>
   rcases f _ v z e with h4|h4
   .rw[hd.ph k o' h1 h2 (λh=>h3 (.inl h)) v]at h4;cases h4
   .exact absurd (.inr (hr.Ki h1 ho h2 hA h4)) h3
 .exactλk o' h1 h2 h3 h4=>hd.kp k o' h1 h2 (λh=>h3 (.inl h)) h4
 .have c:=hd.k0
  refine⟨c.le.trans hs.le,c.bI,c.n9,c.wr,c.cb,c.ph,c.gone,?_,Nat.le_trans c.size hs.size,?_,?_,hs.tape.trans c.tape,hs.os.trans c.os,hs.out.trans c.out,λG i v hm=>(hs.gz G i v hm).elim (λe=>c.gz G i v e) λe=>.inr (Nat.le_trans c.size e)⟩
  .intro p v z e
   rcases f p v z e with h1|h1
   .exact c.je p v z h1
   .subst h1;exact .inr (.inl ⟨(hr.sQ ho hA).1,F⟩)
  .intro p v b s n e hb;obtain⟨v',s',n',h1⟩:=hs.dC p v b s n e (Nat.lt_of_lt_of_le hb c.size);exact c.dC p v' b s' n' h1 hb
  .intro b hb h1;rw[t b (Nat.lt_of_lt_of_le hb c.size)];exact c.fr b hb h1
end
end Go.AI
end

section
namespace Go.AI
section
variable {P:Program}{R:Rec}{cx:Ctx}{ops:Array Oper}{kf:dx}{L:Nat->Prop}{T:Nat->aD}{A:Nat->Nat}{h0:AHeap}{g0:Gh}{w0:World}{S:Nat->Prop}{q:Nat}{g:Gh}{w:World}{a:Act}
theorem cT.Xf(hr:Rgn P R cx ops kf L T A h0){i:Nat}(hd:cT ops T A cx.tn h0 g0 w0 S i g w a){o:Oper}(ho:ops[i]?=some o)(e:eu o=true){v:AV}{x:Value}
 (hp:(T i).put cx.tn o.dst v=some (T (i+1)))(hv:VR g v x):cT ops T A cx.tn h0 g0 w0 (λj=>S j\/j=i) (i+1) g w (a.put o.dst x):=by
 have c:(T (i+1)).h=(T i).h:=(du hp).1
 have b:∀(k:Nat)(o':Oper),ops[k]?=some o'->a6 o'.op=true->k≠i:=by rintro k o' h1 h2 rfl;rw[ho]at h1;simp only[ab]at h1;subst h1;rw[(ns.1 e).1]at h2;cases h2
 refine⟨fC ho,?_,by rw[c];exact hd.ww,by rw[c];exact hd.fr,?_,λk o' h1 h2 h3=>hd.ph k o' h1 h2 λh=>h3 (.inl h),?_,zu hr ho hp hd.sz hd.tm (.refl g) hv,yf.trans hd.sz,by rw[put_defers];exact hd.df,by rw[c];exact hd.k0,yL ho hd.lR (.refl g)⟩
 .intro j o' h1 h2;rw[hd.ee j o' h1 h2];omega
 .intro k o' h1 h2 h3 h4 y hy
  rcases h3 with h3|h3
  .exact hd.early k o' h1 h2 h3 (by omega) y hy
  .exact absurd h3 (b k o' h1 h2)
 .intro k o' h1 h2 h3 h4;have:=b k o' h1 h2;rw[c];exact hd.kp k o' h1 h2 (λh=>h3 (.inl h)) (by omega)
theorem cT.Ys(hr:Rgn P R cx ops kf L T A h0){i:Nat}(hd:cT ops T A cx.tn h0 g0 w0 S i g w a)(D:eC h0 g0)(m:Pure ops kf T A i){o:Oper}(ho:ops[i]?=some o)(F:eu o=true){u:aD}{v:AV}{x:Value}{g':Gh}{w':World}
 (hp:u.put cx.tn o.dst v=some (T (i+1)))(hv:VR g' v x)(hw:W (T (i+1)).h g' w')(hs:Step (T i).h g w (T (i+1)).h g' w'):
 cT ops T A cx.tn h0 g0 w0 (λj=>S j\/j=i) (i+1) g' w' (a.put o.dst x):=by
 have t:∀(k:Nat)(o':Oper),ops[k]?=some o'->a6 o'.op=true->k≠i:=by rintro k o' h1 h2 rfl;rw[ho]at h1;simp only[ab]at h1;subst h1;rw[(ns.1 F).1]at h2;cases h2
 have l:∀(k:Nat)(o':Oper),ops[k]?=some o'->a6 o'.op=true->A k<(T i).h.next:=λk o' h1 h2=>hr.Db hd.ql m h1 h2 (ak _)
 refine⟨fC ho,?_,hw,hd.fr.step hs,?_,?_,?_,zu hr ho hp hd.sz hd.tm hs.le hv,yf.trans hd.sz,by rw[put_defers];exact hd.df.mono hs.le,hd.k0.trans D hs,yL ho hd.lR hs.le⟩
 .intro j o' h1 h2;rw[hd.ee j o' h1 h2];omega
 .intro k o' h1 h2 h3 h4 y hy
  rcases h3 with h3|h3
  .have C:=hd.early k o' h1 h2 h3 (by omega) y hy
   have c:(T i).h.get (A k)=none:=hr.free hd.ql m h1 h2 i (by omega) (ak _)
   refine C.move hs.le ?_ ?_
   .intro v' z e
    rcases hs.je _ v' z e with f|⟨f,_⟩|⟨f,_⟩
    .exact f
    .have:=l k o' h1 h2;omega
    .exact absurd c f
   .intro v' b s n e;refine hs.fr b (hd.ww.dG _ _ _ _ _ e) λp E J n2 I=>?_;have:=hd.ww.inj _ _ _ _ _ _ _ _ _ I e;subst this;exact .inr c
  .exact absurd h3 (t k o' h1 h2)
 .intro k o' h1 h2 h3 v'
  have h4:=hd.ph k o' h1 h2 (λh=>h3 (.inl h))
  cases e:g'.B (A k) v' with
  |none=>rfl
  |some z=>
   rcases hs.je _ v' z e with f|⟨f,_⟩|⟨_,E,f⟩
   .rw[h4]at f;cases f
   .have:=l k o' h1 h2;omega
   .exact absurd (h4 E) f
 .intro k o' h1 h2 h3 h4;have f:=t k o' h1 h2;have G:=hd.ph k o' h1 h2 (λh=>h3 (.inl h));rw[hs.ph (A k) (l k o' h1 h2) G];exact hd.kp k o' h1 h2 (λh=>h3 (.inl h)) (by omega)
theorem xT(h:AHeap):∀(ids:List Nat)(p:Nat)(x:b7),(fP h ids).get p=some x->p∈ids/\p<h.next/\h.get p=some x
 |[],p,x,e=>by simp[fP,Tr.get]at e
 |o::os,p,x,e=>by
  have ih:=xT h os p x
  unfold fP at e
  split at e
  .rename_i c
   split at e
   .rename_i y hy
    rw[Tr.p7]at e
    split at e
    .rename_i b;subst b;simp only[ab]at e;subst e;exact⟨List.mem_cons_self ..,c,hy⟩
    .obtain⟨h1,h2⟩:=ih e;exact⟨List.mem_cons_of_mem _ h1,h2⟩
   .obtain⟨h1,h2⟩:=ih e;exact⟨List.mem_cons_of_mem _ h1,h2⟩
  .obtain⟨h1,h2⟩:=ih e;exact⟨List.mem_cons_of_mem _ h1,h2⟩
theorem cT.looks(hr:Rgn P R cx ops kf L T A h0)(hd:cT ops T A cx.tn h0 g0 w0 S q g w a)(C:∀(i:Nat)(o:Oper)(e:Edge),ops[i]?=some o->S i->e∈o.after->Region.binds .any e=true->S e.on)
 {i:Nat}{o:Oper}(l:Pure ops kf T A i)(j:Pure ops kf T A q)(ho:ops[i]?=some o)(hi:¬S i)(m:∀e,e∈o.after->Region.binds .any e=true->S e.on)
 {ids:List Nat}(hk:(i,ids)∈kf.fs):W {(T i).h with ck:=fP (T i).h ids} g w:=by
 refine⟨?_,hd.ww.dG,hd.ww.inj,hd.ww.ro,hd.ww.gG,hd.ww.gl⟩
 intro p x hx
 obtain⟨h1,h2,h3⟩:=xT _ _ _ _ hx
 have t:=fC ho
 rcases Nat.lt_or_ge i q with n|n
 .
  have key:∀d,i+d<=q->(T (i+d)).h.get p=some x:=by
   intro d
   induction d with
   |zero=>intro _;exact h3
   |succ d ih=>
    intro u
    have ih:=ih (by omega)
    have k:i+d<ops.size:=by have:=hd.ql;omega
    have f:ops[i+d]?=some ops[i+d]:=by simp[k]
    rw[show i+(d+1)=i+d+1 by omega]
    rcases j (i+d) _ (by omega) f with⟨hA,h4,_⟩|⟨_,h4⟩|⟨z,wr,h4,_,B,_⟩
    .rw[h4 p ?_]
     .exact ih
     .intro e;rw[e,hr.free hd.ql j f hA (i+d) (ak _) (by omega)]at ih;cases ih
    .rw[h4];exact ih
    .rw[B p ?_ ?_]
     .exact ih
     .have:=hr.xS hd.ql j (i:=i) d (by omega);omega
     .refine H3 hr.bk hk h4 ?_ ?_ p h1
      .intro b;have:=cu.lt hr.st b;omega
      .intro b;have c:S (i+d):=(hd.ee _ _ f z).2 (by omega);exact hi (cu.closed hr.st C c b)
  have:=key (q-i) (by omega);rw[show i+(q-i)=q by omega]at this;exact hd.ww.obj p x this
 .have key:∀d,q+d<=i->∀y,(T (q+d)).h.get p=some y->OR g w p y:=by
   intro d
   induction d with
   |zero=>intro _ y hy;exact hd.ww.obj p y hy
   |succ d ih=>
    intro u y hy
    have ih:=ih (by omega)
    have k:q+d<ops.size:=by omega
    have f:ops[q+d]?=some ops[q+d]:=by simp[k]
    rw[show q+(d+1)=q+d+1 by omega]at hy
    rcases l (q+d) _ (by omega) f with⟨hA,h4,_⟩|⟨_,h4⟩|⟨z,wr,h4,_,B,_⟩
    .by_cases e:p=A (q+d)
     .subst e
      rcases Classical.em (S (q+d))with c|c
      .exact hd.early _ _ f hA c (by omega) y hy
      .exact OR.yK (hd.ph _ _ f hA c)
     .rw[h4 p e]at hy;exact ih y hy
    .rw[h4]at hy;exact ih y hy
    .rcases Nat.lt_or_ge p (T (q+d)).h.next with D|D
     .rw[B p D ?_]at hy
      .exact ih y hy
      .refine H3 hr.bk hk h4 ?_ ?_ p h1
       .intro b;have c:=cu.ready hr.st C ho m b;have:=(hd.ee _ _ f z).1 c;omega
       .intro b;have:=cu.lt hr.st b;omega
     .have E:=hr.xS (Nat.le_of_lt t) l (i:=q) d (by omega);exact OR.yK λv=>hd.fr p (by omega) v
  have:=key (i-q) (by omega) x;rw[show q+(i-q)=i by omega]at this;exact this h3
theorem cT.MD(hr:Rgn P R cx ops kf L T A h0)(hd:cT ops T A cx.tn h0 g0 w0 S q g w a){i:Nat}{o:Oper}(ho:ops[i]?=some o)(c:∀k,cu ops i k->S k)(b:∀k,cu ops k i->¬S k):
 ∀x,VR g (eG (tmpsOf o) (T i).tm x) (a.eval x):=by
 intro x
 cases x with
 |tmp t=>
  show VR g (if(tmpsOf o).contains t then(match(T i).tm.get t with|some v=>v|none=>.aO)else .aO) (a.tmps.getD t undef)
  split
  .rename_i hc
   have j:t∈tmpsOf o:=by simpa using hc
   cases hx:(T i).tm.get t with
   |none=>exact .aO _
   |some v=>
    have:∃u,a.tmps[t]?=some u/\VR g v u:=by
     rcases hr.opn ho j with⟨e,h⟩|⟨e,h⟩
     .exact hd.tm t v (e.trans hx) λk o' h1 h2=>c k (h k o' h1 h2)
     .exact hd.lR t v (e.trans hx) λk o' h1 h2=>b k (h k o' h1 h2)
    obtain⟨u,h1,h2⟩:=this;rw[Array.getD_eq_getD_getElem?,h1];exact h2
  .exact .aO _|const v=>exact VR.bn v|global n=>exact .sc _|func f=>exact .sc _
theorem cT.want(hr:Rgn P R cx ops kf L T A h0)(hd:cT ops T A cx.tn h0 g0 w0 S q g w a){i:Nat}{o:Oper}(ho:ops[i]?=some o)(f:∀k,cu ops i k->S k){b:Bool}
 (hw:cE ops o (T i).tm=some b):Region.wanted o (yielded ops a.tmps)=b:=by
 rw[hr.QE ho]at hw
 unfold cE at hw
 unfold Region.wanted
 cases hg:o.guard with
 |none=>rw[hg]at hw;simpa using hw
 |some p=>
  obtain⟨j,want⟩:=p
  rw[hg]at hw
  simp only at hw⊢
  unfold yielded
  cases c:(ops[j]?).bind (·.dst)with
  |none=>rw[c]at hw;cases hw
  |some d=>
   rw[c]at hw
   simp only at hw
   have hj:S j:=f j (hr.st.guard i o j want ho hg)
   cases h:(T ops.size).tm.get d with
   |none=>rw[h]at hw;cases hw
   |some v=>
    rw[h]at hw
    obtain⟨u,h1,h2⟩:=hd.tm d v h λk o' h1 h2=>by cases e:ops[j]? with|none=>rw[e]at c;cases c|some l=>rw[e]at c;rw[hr.st.one j k l o' d e h1 h2 (by simpa using c)];exact hj
    simp only[Option.bind_some,h1]
    split at hw
    .rename_i q e;simp only[ab]at e;subst e;cases h2;simp at hw⊢;rw[<-hw];try(cases q<;>cases want<;>rfl)
    .rename_i q e;simp only[ab]at e;subst e;obtain⟨cs,rfl,_⟩:=VR.fZ.1 h2;simp at hw;subst hw;rfl
    .cases hw
end
end Go.AI
end

section
namespace Go.AI
section
variable {P:Program}{R:Rec}{cx:Ctx}{ops:Array Oper}{kf:dx}{L:Nat->Prop}{T:Nat->aD}{A:Nat->Nat}{h0:AHeap}{g0:Gh}{w0:World}{S:Nat->Prop}{q:Nat}{g:Gh}{w:World}{a:Act}
def uT(ops:Array Oper)(S:Nat->Prop):Prop:=∀(i:Nat)(o:Oper)(e:Edge),ops[i]?=some o->S i->e∈o.after->Region.binds .any e=true->S e.on
theorem cT.one(hP:cZ P)(hR:dS P R)(hr:Rgn P R cx ops kf L T A h0)(hd:cT ops T A cx.tn h0 g0 w0 S q g w a)(X:eC h0 g0)(Q:uT ops S){i:Nat}{o:Oper}
 (I:Pure ops kf T A i)(G:Pure ops kf T A q)(ho:ops[i]?=some o)(hLi:L i)(hi:¬S i)(F:∀e,e∈o.after->Region.binds .any e=true->S e.on){b:Frame}(hc:lM g0 cx b)(cs:List Frame)(k:List Item)(rest:List Nat):
 ∃g' w' a' U,cT ops T A cx.tn h0 g0 w0 (λj=>S j\/j=i) U g' w' a'/\(U=q\/U=i+1)/\EY kf T A i o/\Steps P (lone (aw b a (.inRegion ops (i::rest)::k)) cs w) (lone (aw b a' (.inRegion ops rest::k)) cs w'):=by
 have l:∀j,cu ops i j->S j:=λj h=>cu.ready hr.st Q ho F h
 have D:∀j,cu ops j i->¬S j:=by intro j h hj;obtain⟨o',J⟩:=cu.here h;exact hi (cu.ready hr.st Q J (λe h1 h2=>Q j o' e J hj h1 h2) h)
 have t:=hd.MD hr ho l D
 have E:eu o=true->cT ops T A cx.tn h0 g0 w0 S i g w a:=by
  intro m
  have hqi:q<=i:=by
   rcases Nat.lt_or_ge i q with h|h
   .exact absurd ((hd.ee i o ho m).2 h) hi
   .exact h
  have:=cT.At hr (i-q) q hd (by have:=fC ho;omega) (λj o' h1 h2 h3=>by cases O:eu o' with|false=>rfl|true=>have N:=ns.1 m;have M:=ns.1 O;have Z:=l j (hr.st.chain i j o o' ho h1 (by omega) N.1 N.2 M.1 M.2);have:=(hd.ee j o' h1 O).1 Z;omega);rwa[show q+(i-q)=i by omega]at this
 cases hr.tr i o ho with
 |dead hL hp ha=>exact absurd hLi hL
 |skip hw hp ha=>have f:=hd.want hr ho l hw;have eL:=GX (P:=P) (b:=b) (a:=a) (k:=k) (cs:=cs) (w:=w) (ops:=ops) (i:=i) (rest:=rest) (by simp[ho,f]);rw[ho]at eL;cases m:eu o with|false=>exact⟨g,w,_,q,hd.quiet hr ho m hi hp VR.undef,.inl rfl,hr.eL ho m,.one eL⟩|true=>exact⟨g,w,_,i+1,(E m).Xf hr ho m hp VR.undef,.inr rfl,.inr (.inl ⟨(ns.1 m).1,(du hp).1⟩),.one eL⟩
 |mk v h x hw hA n hg hn hp ha=>
  have f:=hd.want hr ho l hw
  have m:eu o=false:=by unfold eu;rw[hA];rfl
  have C:lr b o:=.inr λc e=>by rw[e]at hA;simp[a6]at hA
  have Y:W {ck:=.leaf,next:=A i,floor:=0,wr:=[]} g w:=⟨λp y hy=>by simp[AHeap.get,Tr.get]at hy,hd.ww.dG,hd.ww.inj,hd.ww.ro,hd.ww.gG,hd.ww.gl⟩;obtain⟨g',w',y,h1,h2,h3,h4⟩:=oL hP Y (hd.ph i o ho hA hi) t n;exact⟨g',w',_,q,hd.make hr G ho hA hi hg hn hp h2 h3 h4,.inl rfl,hr.eL ho m,.one (Cr ho f C h1)⟩
 |look v h hw hA hF n V hp ha hk=>
  have f:=hd.want hr ho l hw
  have m:eu o=false:=by unfold eu;rw[hF];simp
  have C:lr b o:=.inr λc e=>by rw[e]at hF;simp[bT]at hF
  obtain⟨y,h1,h2⟩:=Sb hF (hd.looks hr Q I G ho hi F hk) t n V;exact⟨g,w,_,q,hd.quiet hr ho m hi hp h2,.inl rfl,hr.eL ho m,.one (Cr ho f C h1)⟩
 |act v cm h hw hA hF n hp ha hk=>
  have f:=hd.want hr ho l hw
  have m:eu o=true:=ns.2 ⟨hA,hF⟩
  have z:=E m
  obtain⟨g',w',y,aP,h1,h2,h3,h4,_,_,h5⟩:=C9 (ops:=ops) (i:=i) (rest:=rest) (k:=k) (cs:=cs) (b:=b) (a:=a) hP hR n z.ww.inner z.fr.inner (hc.mono hd.k0.le) t trivial ho f
  obtain rfl:aP=cs:=h4.1 rfl
  obtain⟨h6,h7⟩:=yd z.fr h1 h2
  have K:(T (i+1)).h=(T i).h.outer h:=(du hp).1
  refine⟨g',w',_,i+1,z.Ys hr X I ho m hp h3 (by rw[K];exact h7) (by rw[K];exact h6),.inr rfl,.inr (.inr ⟨m,h.wr,hk,?_,?_,?_⟩),h5⟩
  .rw[K];exact h1.bI
  .intro p u B;rw[K];exact h1.cb p u u B
  .intro p u B;rw[K];exact h1.gone p u B
theorem Rgn.start(hr:Rgn P R cx ops kf L T A h0)(hw:W h0 g w)(hf:eC h0 g)(e:TR g (T 0).tm a.tmps)(hs:a.tmps.size=cx.tn)(b:jA g (T 0).df a.defers)(c:∀j,¬S j):
 cT ops T A cx.tn h0 g w S 0 g w a where
 ql:=Nat.zero_le _
 ee:=λj o _ _=>⟨λh=>absurd h (c j),λh=>by omega⟩
 ww:=hw.congr λo=>by rw[hr.t0];rfl
 fr:=λp hp v=>hf p (by rw[hr.t0]at hp;simp only at hp;omega) v
 early:=λk o _ _ h=>absurd h (c k)
 ph:=λk o h1 h2 _ v=>hf _ (hr.sQ h1 h2).1 v
 kp:=λk o _ _ _ h=>by omega
 tm:=λt x hx hk=>by rw[hr.Ri λk q h1 h2=>c k (hk k q h1 h2)]at hx;exact e t x hx
 sz:=hs
 df:=b
 lR:=λt x hx _=>e t x hx
 k0:=by rw[hr.t0];exact{Step.refl h0 g w with bI:=Nat.le_add_right _ _,cb:=λ_ _ _ _=>rfl,ph:=λ_ _ _=>rfl,gone:=λ_ _ h=>h,je:=λ_ _ _ h=>.inl h,fr:=λ_ _ _=>rfl}
theorem Rgn.pure(hP:cZ P)(hR:dS P R)(hr:Rgn P R cx ops kf L T A h0)(hL:∀i,L i)(hw:W h0 g w)(hf:eC h0 g)(l:TR g (T 0).tm a.tmps)(hs:a.tmps.size=cx.tn)(f:jA g (T 0).df a.defers){b:Frame}(hc:lM g cx b):
 ∀m,m<=ops.size->Pure ops kf T A m/\∃g' w' a' h,h<=m/\cT ops T A cx.tn h0 g w (λj=>j<m) h g' w' a'
 |0,_=>⟨λj o hj _=>by omega,g,w,a,0,ak _,hr.start hw hf l hs f λj=>by omega⟩
 |m+1,hm=>by
  obtain⟨h1,g',w',a',h,h2,h3⟩:=Rgn.pure hP hR hr hL hw hf l hs f hc m (by omega)
  have k:m<ops.size:=by omega
  have ho:ops[m]?=some ops[m]:=by simp[k]
  obtain⟨g2,p,u,q2,h4,v,t,_⟩:=h3.one hP hR hr hf (λi o e h1 h2 h3 h4=>by have:=hr.st.back i o e h1 h3 h4;omega) h1 (h1.le h2) ho (hL _) (by omega) (λe h1 h2=>hr.st.back m _ e ho h1 h2) hc [] [] []
  refine⟨λj o hj c=>?_,g2,p,u,q2,by omega,?_⟩
  .rcases Nat.lt_or_ge j m with n|n
   .exact h1 j o n c
   .obtain rfl:j=m:=by omega
    rw[ho]at c;simp only[ab]at c;subst c;exact t
  .have:(λj=>j<m\/j=m)=(λj=>j<m+1):=by funext j;apply propext;omega
   rw[<-this];exact h4
theorem Kj(J:Static ops){fuel t:Nat}{listed:Array Bool}(I:listed.size=ops.size)(F:listed.toList.count false=fuel+1)(Q:uT ops (λj=>listed[j]?=some true)):
 ∃(i:Nat)(o:Oper)(t':Nat),Region.linearise.go .any ops (fuel+1) t listed []=i::Region.linearise.go .any ops fuel t' (listed.setIfInBounds i true) []/\ops[i]?=some o/\¬listed[i]?=some true/\(∀e,e∈o.after->Region.binds .any e=true->listed[e.on]?=some true)/\(listed.setIfInBounds i true).toList.count false=fuel/\(λj:Nat=>listed[j]?=some true\/j=i)=(λj:Nat=>(listed.setIfInBounds i true)[j]?=some true)/\uT ops (λj=>(listed.setIfInBounds i true)[j]?=some true):=by
 have b:∀i:Nat,i∈Region.ready .any ops listed->∃o,ops[i]?=some o/\listed[i]?=some false/\∀e,e∈o.after->Region.binds .any e=true->listed[e.on]?=some true:=by
  intro i hi
  unfold Region.ready at hi
  simp only[List.mem_filter,List.mem_range,aX]at hi
  obtain⟨h1,h2,h3⟩:=hi
  have ho:ops[i]?=some ops[i]:=by simp[h1]
  refine⟨ops[i],ho,?_,?_⟩
  .have hl:i<listed.size:=by omega
   cases hv:listed[i]with|false=>simp[hl,hv]|true=>simp[hl,hv]at h2
  .intro e O hb
   rw[ho]at h3
   simp only[Option.map_some,Option.getD_some,Array.all_eq_true]at h3
   obtain⟨n,hn,rfl⟩:=Array.mem_iff_getElem.1 O
   have h4:=h3 n hn
   rw[hb]at h4
   simp only[Bool.not_true,Bool.false_or]at h4
   rcases Nat.lt_or_ge (ops[i].after[n]).on listed.size with p|p
   .rw[Array.getD_eq_getD_getElem?]at h4;simp only[p,getElem?_pos,Option.getD_some]at h4⊢;rw[h4]
   .rw[Array.getD_eq_getD_getElem?,Array.getElem?_eq_none p]at h4;simp at h4
 have m:Region.ready .any ops listed≠[]:=by
  intro B
  have C:false∈listed.toList:=List.count_pos_iff.1 (by omega)
  have hex:∃j:Nat,listed[j]?=some false:=by
   obtain⟨j,hj,O⟩:=List.mem_iff_getElem.1 C
   have M:j<listed.size:=by simpa using hj
   have N:listed[j]=false:=by simpa using O
   exact⟨j,by simp[M,N]⟩
  have c:∀n:Nat,(∃j:Nat,j<n/\listed[j]?=some false)->False:=by
   intro n
   induction n with
   |zero=>rintro⟨j,hj,_⟩;omega
   |succ n u=>
    rintro⟨j,hj,f⟩
    rcases Nat.lt_or_ge j n with h1|h1
    .exact u ⟨j,h1,f⟩
    .obtain rfl:j=n:=by omega
     have V:j<listed.size:=by
      rcases Nat.lt_or_ge j listed.size with h2|h2
      .exact h2
      .rw[Array.getElem?_eq_none h2]at f;cases f
     have ho:ops[j]?=some ops[j]:=by simp[show j<ops.size by omega]
     have D:j∈Region.ready .any ops listed:=by
      unfold Region.ready
      simp only[List.mem_filter,List.mem_range,aX]
      refine⟨by omega,?_,?_⟩
      .rw[Array.getD_eq_getD_getElem?,f];rfl
      .rw[ho]
       simp only[Option.map_some,Option.getD_some,Array.all_eq_true]
       intro n hn
       cases hb:Region.binds .any ops[j].after[n]with
       |false=>rfl
       |true=>
        have K:=J.back j _ _ ho (Array.getElem_mem hn) hb
        have l:(ops[j].after[n]).on<listed.size:=by omega
        simp only[Bool.not_true,Bool.false_or];rw[Array.getD_eq_getD_getElem?];simp only[l,getElem?_pos,Option.getD_some];cases hv:listed[(ops[j].after[n]).on]with|true=>rfl|false=>exact(u ⟨_,K,by simp[l,hv]⟩).elim
     rw[B]at D;cases D
  obtain⟨j,hj⟩:=hex;exact c (j+1) ⟨j,by omega,hj⟩
 have z:0<(Region.ready .any ops listed).length:=List.length_pos_iff.2 m
 simp only[Region.linearise.go]
 change∃(i:Nat)(o:Oper)(t':Nat),(match(Region.ready .any ops listed)[t%(Region.ready .any ops listed).length]? with|some i=>Region.linearise.go .any ops fuel (t/(Region.ready .any ops listed).length) (listed.setIfInBounds i true) [i]|none=>[].reverse)=i::Region.linearise.go .any ops fuel t' (listed.setIfInBounds i true) []/\_
 cases hi:(Region.ready .any ops listed)[t%(Region.ready .any ops listed).length]? with
 |none=>have:=Nat.mod_lt t z;rw[List.getElem?_eq_none_iff]at hi;omega
 |some i=>
  simp only[]
  rw[linearise_go_acc,List.reverse_singleton,List.singleton_append]
  obtain⟨o,ho,E,v⟩:=b i (List.mem_of_getElem? hi)
  have k:i<listed.size:=by rw[I];exact fC ho
  have G:(λj:Nat=>listed[j]?=some true\/j=i)=(λj:Nat=>(listed.setIfInBounds i true)[j]?=some true):=by
   funext j
   apply propext
   by_cases e:j=i
   .subst e;simp[k]
   .rw[Array.getElem?_setIfInBounds_ne (Ne.symm e)];exact⟨λh=>h.resolve_right e,.inl⟩
  refine⟨i,o,_,rfl,ho,by rw[E];simp,v,?_,G,?_⟩
  .have hv:listed[i]=false:=by simpa[k]using E
   have:listed.toList[i]'(by simpa using k)=false:=by simpa using hv
   rw[Array.toList_setIfInBounds,List.count_set (by simpa using k),this,F];simp
  .rw[<-G]
   intro j o' e h3 h4 p U
   rcases h4 with h4|rfl
   .exact .inl (Q j o' e h3 h4 p U)
   .rw[ho]at h3;simp only[ab]at h3;subst h3;exact .inl (v e p U)
theorem Tz(hP:cZ P)(hR:dS P R)(hr:Rgn P R cx ops kf L T A h0)(hL:∀i,L i)(B:eC h0 g0)(l:Pure ops kf T A ops.size){b:Frame}(hc:lM g0 cx b)(cs:List Frame)(k:List Item):
 ∀(fuel t:Nat)(listed:Array Bool)(q:Nat)(g:Gh)(w:World)(a:Act),listed.size=ops.size->listed.toList.count false=fuel->uT ops (λj=>listed[j]?=some true)->cT ops T A cx.tn h0 g0 w0 (λj=>listed[j]?=some true) q g w a->∃(n:Nat->Prop)(p:Nat)(g':Gh)(w':World)(a':Act),cT ops T A cx.tn h0 g0 w0 n p g' w' a'/\(∀j,j<ops.size->n j)/\Steps P (lone (aw b a (.inRegion ops (Region.linearise.go .any ops fuel t listed [])::k)) cs w) (lone (aw b a' (.inRegion ops []::k)) cs w'):=by
 intro fuel
 induction fuel with
 |zero=>
  intro t listed q g w a e c h hd
  refine⟨_,q,g,w,a,hd,?_,?_⟩
  .intro j hj
   have z:j<listed.size:=by omega
   have v:=List.count_eq_zero.1 c;cases hv:listed[j]with|true=>simp[z,hv]|false=>exact absurd (by rw[<-hv];simp) v
  .simp only[Region.linearise.go,List.reverse_nil];exact .refl _ _|succ fuel ih=>intro t listed q g w a e c h hd;obtain⟨i,o,t',F,ho,hi,u,f,C,m⟩:=Kj (t:=t) hr.st e c h;obtain⟨E,w1,G,q1,h1,_,_,h2⟩:=hd.one hP hR hr B h (l.le (Nat.le_of_lt (fC ho))) (l.le hd.ql) ho (hL i) hi u hc cs k (Region.linearise.go .any ops fuel t' (listed.setIfInBounds i true) []);rw[C]at h1;obtain⟨n,p,g',w',a',h3,h4,D⟩:=ih t' (listed.setIfInBounds i true) q1 E w1 G (by simp[e]) f m h1;exact⟨n,p,g',w',a',h3,h4,by rw[F];exact Steps.trans h2 D⟩
theorem U9(hP:cZ P)(hR:dS P R)(hr:Rgn P R cx ops kf L T A h0)(K:eC h0 g0){m:Nat}{o:Oper}{v:AV}{h:AHeap}(hm:ops[m]?=some o)(hL:∀j,j<m->L j)(F:Pure ops kf T A m)
 (Y:∀(j:Nat)(p:Oper),j<m->ops[j]?=some p->eu p=false)(hde:∀(j:Nat),m<j->j<ops.size->cu ops j m)(hE:eu o=true)(hw:cE ops o (T m).tm=some true)
 (G:dc P R cx (eG (tmpsOf o) (T m).tm) o .none (T m).h.inner=some (.aB v h)){b:Frame}(hc:lM g0 cx b)(cs:List Frame)(k:List Item):
 ∀(fuel t:Nat)(listed:Array Bool)(q:Nat)(g:Gh)(w:World)(a:Act),listed.size=ops.size->listed.toList.count false=fuel->uT ops (λj=>listed[j]?=some true)->(∀j:Nat,listed[j]?=some true->j<m)->q<=m->cT ops T A cx.tn h0 g0 w0 (λj=>listed[j]?=some true) q g w a->∃(g':Gh)(w':World)(a':Act)(x:Value)(todo:List Item),Step h0 g0 w0 ((T m).h.outer h) g' w'/\W ((T m).h.outer h) g' w'/\a'.tmps.size=cx.tn/\jA g' (T 0).df a'.defers/\VR g' v x/\Steps P (lone (aw b a (.inRegion ops (Region.linearise.go .any ops fuel t listed [])::k)) cs w) (lone {aw b a' todo with mode:=.panicking [{v:=x,recovered:=false}]} cs w'):=by
 intro fuel
 induction fuel with
 |zero=>
  intro t listed q g w a u l f z hq hd
  have Z:m<listed.size:=by rw[u];exact fC hm
  have X:=List.count_eq_zero.1 l;cases hv:listed[m]with|true=>exact absurd (z m (by simp[Z,hv])) (Nat.lt_irrefl m)|false=>exact absurd (by rw[<-hv];simp) X
 |succ fuel ih=>
  intro t listed q g w a u l f z hq hd
  obtain⟨i,o',t',e1,ho,hi,E,D,N,M⟩:=Kj (t:=t) hr.st u l f
  have n:∀j,cu ops i j->listed[j]?=some true:=λj h=>cu.ready hr.st f ho E h
  rcases Nat.lt_trichotomy i m with h1|h1|h1
  .obtain⟨g1,w1,a1,q1,h2,h3,_,h4⟩:=hd.one hP hR hr K f (F.le (Nat.le_of_lt h1)) (F.le hq) ho (hL i h1) hi E hc cs k (Region.linearise.go .any ops fuel t' (listed.setIfInBounds i true) []);rw[N]at h2;obtain⟨g',w',a',x,todo,V,U,Q,O,r5,r6⟩:=ih t' (listed.setIfInBounds i true) q1 g1 w1 a1 (by simp[u]) D M (λj hj=>by
   rw[<-show _=((listed.setIfInBounds i true)[j]?=some true)from congrFun N j]at hj
   rcases hj with hj|rfl
   .exact z j hj
   .exact h1) (by rcases h3 with h3|h3<;>omega) h2;exact⟨g',w',a',x,todo,V,U,Q,O,r5,by rw[e1];exact Steps.trans h4 r6⟩
  .subst h1
   rw[hm]at ho
   simp only[ab]at ho;subst ho
   have C:∀j,cu ops j i->¬listed[j]?=some true:=by intro j h hj;obtain⟨o',J⟩:=cu.here h;exact hi (cu.ready hr.st f J (λe h1 h2=>f j o' e J hj h1 h2) h)
   have I:=hd.MD hr hm n C;have B:=hd.want hr hm n hw;have c:=cT.At hr (i-q) q hd (by have:=fC hm;omega) (λj o' h1 h2 h3=>Y j o' (by omega) h1);rw[show q+(i-q)=i by omega]at c;obtain⟨g',w',x,todo,V,U,Q,O⟩:=C9 (ops:=ops) (i:=i) (rest:=Region.linearise.go .any ops fuel t' (listed.setIfInBounds i true) []) (k:=k) (cs:=cs) (b:=b) (a:=a) hP hR G c.ww.inner c.fr.inner (hc.mono c.k0.le) I trivial hm B;obtain⟨h6,h7⟩:=yd c.fr V U;exact⟨g',w',a,x,todo,c.k0.trans K h6,h7,c.sz,c.df.mono h6.le,Q,by rw[e1];exact O⟩
  .exact absurd (z m (n m (hde i h1 (fC ho)))) (Nat.lt_irrefl m)
theorem Rgn.Dc(hr:Rgn P R cx ops kf L T A h0):∀(i:Nat),i<=ops.size->(T i).cm=(T 0).cm/\(T i).df=(T 0).df
 |0,_=>⟨rfl,rfl⟩
 |i+1,hi=>by
  have ho:ops[i]?=some ops[i]:=by simp[show i<ops.size by omega]
  obtain⟨v,_,_,h1,h2⟩:=hr.FW i _ ho;obtain⟨h3,h4⟩:=Rgn.Dc hr i (by omega);exact⟨h1.trans h3,h2.trans h4⟩
theorem Dd{h:AHeap}:∀(n o:Nat),sY h n o=true->∀p,o<=p->p<o+n->h.get p=none
 |0,o,_,p,h1,h2=>by omega
 |n+1,o,hn,p,h1,h2=>by
  simp only[sY,aX]at hn
  by_cases e:p=o
  .subst e;simpa using hn.1
  .exact Dd n (o+1) hn.2 p (by omega) (by omega)
def nT(ops:Array Oper)(n:Nat):Nat->Nat|0=>n|i+1=>match ops[i]? with|some o=>if a6 o.op then nT ops n i+1 else nT ops n i|none=>nT ops n i
theorem Kk{st:aD}{tn:Nat}{d:Option Tmp}(h:vx tn d=true)(v:AV):∃ah,st.put tn d v=some ah:=by
 cases d with
 |none=>exact⟨_,rfl⟩
 |some d=>
  have h:d<tn:=by simpa[vx]using h
  exact⟨_,if_pos h⟩
theorem G6{L:Nat->Prop}{b:List Nat}{m:Nat}:∀{l:List Oper}{i:Nat}{st:aD},sf cx.tn b m l i=true->(∀j,i<=j->¬L j)->
 ∃T:Nat->aD,T i=st/\(∀(j:Nat)(o:Oper)(kf:dx)(n:Nat),l[j]?=some o->qU P R cx ops kf L o (i+j) n (T (i+j)) (if a6 o.op then n+1 else n) (T (i+j+1)))/\(∀j,j<l.length->(b.getD (i+j) 0).testBit m=true)
 |[],i,st,_,_=>⟨λ_=>st,rfl,λj o _ _ h=>by simp at h,λj h=>by simp at h⟩
 |o::l,i,st,h,hL=>by
  simp only[sf,aX]at h
  obtain⟨e,h1⟩:=Kk (st:=st) h.1.2 .aO
  obtain⟨T,t1,t2,f⟩:=G6 (L:=L) (st:=e) h.2 λj hj=>hL j (by omega)
  refine⟨λj=>if j=i then st else T j,by simp,λj q kf n c=>?_,λj hj=>?_⟩
  .cases j with|zero=>simp only[List.getElem?_cons_zero,ab]at c;subst c;simp only[Nat.add_zero,if_true];rw[if_neg (show¬i+1=i by omega),t1];exact .dead (hL i (ak _)) h1 rfl|succ j=>simp only[List.getElem?_cons_succ]at c;have:=t2 j q kf n c;simp only[show i+(j+1)=i+1+j by omega];rw[if_neg (show¬i+1+j=i by omega),if_neg (show¬i+1+j+1=i by omega)];exact this
  .cases j with|zero=>exact h.1.1|succ j=>have:=f j (by simpa using hj);rw[show i+(j+1)=i+1+j by omega];exact this
def NG(P:Program)(R:Rec)(cx:Ctx)(ops:Array Oper)(b:List Nat)(l:List Oper)(i:Nat)(st:aD)(r:bM×aD):Prop:=∃(T:Nat->aD)(m:Nat)(o:Oper)(v:AV)(h:AHeap),T i=st/\i<=m/\l[m-i]?=some o/\(∀(j:Nat)(q:Oper)(kf:dx)(n:Nat),l[j]?=some q->(i+j,dQ q (T (i+j)).tm)∈kf.fs->qU P R cx ops kf (λj=>j<m) q (i+j) n (T (i+j)) (if a6 q.op then n+1 else n) (T (i+j+1)))/\(∀(j:Nat)(q:Oper),j<m-i->l[j]?=some q->eu q=false)/\(∀j,m-i<j->j<l.length->(b.getD (i+j) 0).testBit m=true)/\eu o=true/\cE ops o (T m).tm=some true/\dc P R cx (eG (tmpsOf o) (T m).tm) o .none (T m).h.inner=some (.aB v h)/\r=(.panic v,{T m with tm:=.leaf,h:=(T m).h.outer h})
theorem GZ{b:List Nat}:∀{l:List Oper}{i:Nat}{st:aD}{r:bM×aD},ff P R cx ops b l i st=some r->NG P R cx ops b l i st r
 |[],i,st,r,hr=>by simp[ff]at hr
 |o::l,i,st,r,hr=>by
  have cons:∀(c:aD),eu o=false->ff P R cx ops b l (i+1) c=some r->(∀(kf:dx)(L:Nat->Prop)(n:Nat),(i,dQ o st.tm)∈kf.fs->qU P R cx ops kf L o i n st (if a6 o.op then n+1 else n) c)->NG P R cx ops b (o::l) i st r:=λc G h1 h2=>by
   obtain⟨T,m,o',v,h,t1,t2,p,F,t5,E,D,C,B,t⟩:=GZ h1
   refine⟨λj=>if j=i then st else T j,m,o',v,h,by simp,by omega,?_,λj q kf n e hk=>?_,λj q hj e=>?_,λj h1 h2=>?_,D,?_,?_,?_⟩
   .rw[show m-i=m-(i+1)+1 by omega];simpa using p
   .cases j with|zero=>simp only[List.getElem?_cons_zero,ab]at e;subst e;simp only[Nat.add_zero,if_true]at hk⊢;rw[if_neg (show¬i+1=i by omega),t1];exact h2 kf _ n hk|succ j=>simp only[List.getElem?_cons_succ]at e;simp only[show i+(j+1)=i+1+j by omega]at hk⊢;rw[if_neg (show¬i+1+j=i by omega)]at hk;rw[if_neg (show¬i+1+j=i by omega),if_neg (show¬i+1+j+1=i by omega)];exact F j q kf n e hk
   .cases j with|zero=>simp only[List.getElem?_cons_zero,ab]at e;subst e;exact G|succ j=>exact t5 j q (by omega) (by simpa using e)
   .cases j with|zero=>omega|succ j=>rw[show i+(j+1)=i+1+j by omega];exact E j (by omega) (by simpa using h2)
   .simp only;rw[if_neg (show¬m=i by omega)];exact C
   .simp only;rw[if_neg (show¬m=i by omega)];exact B
   .simp only;rw[if_neg (show¬m=i by omega)];exact t
  rw[ff]at hr
  split at hr
  .rename_i hw
   split at hr
   .rename_i z
    split at hr
    .rename_i c hp;exact cons c (by unfold eu;revert z;cases a6 o.op<;>cases bT o.op<;>simp) hr λkf L n _=>.skip hw hp rfl
    .cases hr
   .cases hr
  .rename_i hw
   split at hr
   .cases hr
   .rename_i hA
    have hA:a6 o.op=false:=by simpa using hA
    split at hr
    .rename_i hF
     split at hr
     .rename_i v h f
      split at hr
      .rename_i u
       split at hr
       .rename_i c hp;exact cons c (by unfold eu;rw[hF];simp) hr λkf L n hk=>.look v h hw hA hF f u hp (by rw[hA];rfl) hk
       .cases hr
      .cases hr
     .cases hr
    .rename_i hF
     have hF:bT o.op=false:=by simpa using hF
     split at hr
     .rename_i v h f
      split at hr
      .rename_i hc
       simp only[aX]at hc
       cases hr
       obtain⟨c,k⟩:=Kk (st:=st) hc.2 .aO
       obtain⟨T,t1,t2,p⟩:=G6 (P:=P) (R:=R) (ops:=ops) (L:=λj=>j<i) (st:=c) hc.1 λj hj=>by omega
       refine⟨λj=>if j=i then st else T j,i,o,v,h,by simp,ak _,by simp,λj q kf n e _=>?_,λj q hj _=>by omega,λj h1 h2=>?_,ns.2 ⟨hA,hF⟩,by simpa using hw,by simpa using f,by simp⟩
       .cases j with|zero=>simp only[List.getElem?_cons_zero,ab]at e;subst e;simp only[Nat.add_zero,if_true];rw[if_neg (show¬i+1=i by omega),t1];exact .dead (Nat.lt_irrefl i) k rfl|succ j=>simp only[List.getElem?_cons_succ]at e;have:=t2 j q kf n e;simp only[show i+(j+1)=i+1+j by omega];rw[if_neg (show¬i+1+j=i by omega),if_neg (show¬i+1+j+1=i by omega)];exact this
       .cases j with|zero=>omega|succ j=>have:=p j (by simpa using h2);rw[show i+(j+1)=i+1+j by omega];exact this
      .cases hr
     .cases hr
  .cases hr
theorem TG(hP:cZ P)(hR:dS P R):Ls P R:=by
 intro cx id ops st ex ah hr g w b a k cs hw hf hc ha I
 unfold ot at hr
 split at hr
 .rename_i n
  simp only[aX]at n
  split at hr
  .rename_i kf U E
   split at hr
   .rename_i X
    simp only[ab,an]at hr
    obtain⟨rfl,rfl⟩:=hr
    obtain⟨_,T,A,t1,t2,Q,O⟩:=uc (L:=λ_=>True) _ _ _ _ _ _ _ E
    have c:Rgn P R cx ops kf (λ_=>True) T A st.h:=⟨H2 n.1,λi o ho=>by have:=O i o (by simpa using ho);simpa using this,X,t2,by rw[t1],Dd _ _ n.2⟩
    have gY:T ops.size=U:=by rw[<-Q];simp
    have l:(T 0).tm=st.tm/\(T 0).df=st.df/\(T 0).cm=st.cm:=by rw[t1];exact⟨rfl,rfl,rfl⟩
    have u:=hw.drew (w.drawn+1)
    have z:TR g (T 0).tm a.tmps:=by rw[l.1];exact ha.tm
    have B:jA g (T 0).df a.defers:=by rw[l.2.1];exact ha.df
    obtain⟨W,_⟩:=c.pure (a:=a) hP hR (λ_=>trivial) u hf z ha.size B hc ops.size (ak _)
    have f:∀j:Nat,¬(Array.replicate ops.size false)[j]?=some true:=by intro j hj;rw[Array.getElem?_replicate]at hj;split at hj<;>simp at hj
    obtain⟨S',M,g',w',a',h1,h2,h3⟩:=Tz hP hR c (λ_=>trivial) hf W hc cs k ops.size (w.tape w.drawn (.order b.fn id)) (Array.replicate ops.size false) 0 g {w with drawn:=w.drawn+1} a (by simp) (by simp) (λj o e _ h=>absurd h (f j)) (c.start u hf z ha.size B f);have h4:=cT.At c (ops.size-M) M h1 (by have:=h1.ql;omega) (λj o ho Y N=>by cases hE:eu o with|false=>rfl|true=>have:=(h1.ee j o ho hE).1 (h2 j (fC ho));omega);rw[show M+(ops.size-M)=ops.size by have:=h1.ql;omega]at h4;obtain⟨C,K⟩:=c.Dc ops.size (ak _);rw[gY]at C K;have Y:=h4.ww;have N:=h4.k0;have h7:=h4.tm;rw[gY]at Y N h7;refine⟨g',w',a',cs,(Step.drew st.h g w (w.drawn+1)).trans hf N,Y,⟨λt x hx=>h7 t x hx λk o ho _=>h2 k (fC ho),h4.sz,by rw[K];exact h4.df⟩,.refl _ _,by rw[C,l.2.2];exact I.mono N.le,by rw[C,l.2.2];exactλe=>e,?_⟩;refine Steps.head GC (Steps.trans ?_ (.one (GG (ops:=ops))));simp only[Region.schedule,hP.mixed,Bool.true_or,if_true,Region.linearise];exact h3
   .cases hr
  .obtain⟨T,m,o,v,h,t1,t2,Q,O,t5,t6,t7,t8,t9,D⟩:=GZ hr
   rw[an]at D
   obtain⟨rfl,rfl⟩:=D
   have hm:ops[m]?=some o:=by simpa using Q
   have V:=fC hm
   generalize J:({es:=[],fs:=(List.range ops.size).map λj=>(j,dQ (ops.toList.getD j default) (T j).tm)}:dx)=kf
   have c:Rgn P R cx ops kf (λj=>j<m) T (nT ops st.h.next) st.h:=by
    refine⟨H2 n.1,λi o' ho=>?_,by subst J;unfold oE;simp,rfl,by rw[t1],Dd _ _ n.2⟩
    have hi:=fC ho
    have F:ops.toList[i]?=some o':=by simpa using ho
    have e:nT ops st.h.next (i+1)=if a6 o'.op then nT ops st.h.next i+1 else nT ops st.h.next i:=by simp only[nT,ho]
    have:=O i o' kf (nT ops st.h.next i) F (by subst J;simp only[List.mem_map,List.mem_range];exact⟨i,hi,by rw[List.getD_eq_getElem?_getD,F];simp⟩);rw[e];simpa using this
   have l:(T 0).tm=st.tm/\(T 0).df=st.df/\(T 0).cm=st.cm:=by rw[t1];exact⟨rfl,rfl,rfl⟩
   have u:=hw.drew (w.drawn+1)
   have z:TR g (T 0).tm a.tmps:=by rw[l.1];exact ha.tm
   have B:jA g (T 0).df a.defers:=by rw[l.2.1];exact ha.df
   have G:∀(j:Nat)(p:Oper),j<m->ops[j]?=some p->eu p=false:=λj p h1 h2=>t5 j p (by simpa using h1) (by simpa using h2)
   have f:∀j:Nat,¬(Array.replicate ops.size false)[j]?=some true:=by intro j hj;rw[Array.getElem?_replicate]at hj;split at hj<;>simp at hj
   obtain⟨g',w',a',x,todo,C,K,r3,r4,r5,r6⟩:=U9 hP hR c hf hm (λj hj=>hj) (λj p h1 h2=>c.eL h2 (G j p h1 h2)) G (λj h1 h2=>by have:=t6 j (by omega) (by simpa using h2);simpa[cu]using this) t7 t8 t9 hc cs k ops.size (w.tape w.drawn (.order b.fn id)) (Array.replicate ops.size false) 0 g {w with drawn:=w.drawn+1} a (by simp) (by simp) (λj o e _ h=>absurd h (f j)) (λj hj=>absurd hj (f j)) (Nat.zero_le _) (c.start u hf z ha.size B f)
   obtain⟨Z,r8⟩:=c.Dc m (Nat.le_of_lt V)
   refine⟨g',w',a',cs,(Step.drew st.h g w (w.drawn+1)).trans hf C,K,⟨λt x hx=>by simp[Tr.get]at hx,r3,by show jA g' (T m).df _;rw[r8];exact r4⟩,.refl _ _,?_,?_,todo,x,r5,?_⟩
   .show gV g' (T m).cm cs;rw[Z,l.2.2];exact I.mono C.le
   .show st.cm=.none->(T m).cm=.none;rw[Z,l.2.2];exactλe=>e
   refine Steps.head GC ?_;simp only[Region.schedule,hP.mixed,Bool.true_or,if_true,Region.linearise];exact r6
 .cases hr
end
end Go.AI
end

section
namespace Go.AI
section
variable {P:Program}{R:Rec}
theorem Df:dS P Rec.zero:=⟨λ_ _ _ _ _ _ h=>(by cases h),λ_ _ _ _ _ _ _ _ h=>(by cases h),λ_ _ _ _ _ h=>(by cases h),λ_ _ _ _ _ h=>(by cases h)⟩
theorem oB(hP:cZ P)(hR:dS P R):nA P R:=λ_ c st ex ah h=>Qe hP hR (TG hP hR) (Sa hP hR) c st ex ah h
theorem IY(hP:cZ P)(hR:dS P R):dS P (Rec.succ P R)where
 call:=λ_ _ _ _ _ _ h=>Tw hP hR (oB hP hR) h
 vR:=λ_ _ _ _ _ _ _ hn h=>R9 hP hR (oB hP hR) hn h
 loop:=λ_ _ _ _ _ h=>Kf hR (oB hP hR) h
 round:=λ_ _ _ _ _ h=>IV (oB hP hR) h
theorem Lt(hP:cZ P):∀n,dS P (E8 P n)|0=>Df|n+1=>IY hP (Lt hP n)
end
end Go.AI
end

section
namespace Go.AI
def chunks(sz:Nat):Nat->List AV->List (List AV)|0,_=>[]|n+1,l=>l.take sz::chunks sz n (l.drop sz)
mutual
def snap(h:AHeap):Nat->AV->Option AV
 |0,_=>none
 |n+1,v=>match v with
  |.sl o ad m off sz len _=>
   if sz=0 then none else
   match dp h o ad m off (len*sz)with
   |some cs=>match fq h n cs with|some l=>some (.aG (chunks sz len l) sz)|none=>none
   |none=>none
  |.agg cs=>match fq h n cs with|some l=>some (.agg l)|none=>none
  |.tuple cs=>match fq h n cs with|some l=>some (.tuple l)|none=>none
  |.sc v=>some (.sc v)|.aG r s=>some (.aG r s)|.cq=>some .cq|.aO=>some .aO|_=>none
def fq(h:AHeap):Nat->List AV->Option (List AV)|_,[]=>some []|0,_::_=>none|n+1,x::xs=>match snap h n x,fq h n xs with|some y,some ys=>some (y::ys)|_,_=>none
end
theorem chunks_flatten(sz:Nat):∀(n:Nat)(l:List AV),l.length=n*sz->(chunks sz n l).flatten=l|0,l,h=>by simp at h;simp[chunks,h]|n+1,l,h=>by rw[chunks,List.flatten_cons,chunks_flatten sz n _ (by rw[List.length_drop,h,Nat.add_mul];omega)];exact List.take_append_drop sz l
theorem xr(sz:Nat):∀(n:Nat)(l:List AV),(chunks sz n l).length=n|0,_=>rfl|n+1,l=>by simp[chunks,xr sz n]
theorem Hz(sz:Nat):∀(n:Nat)(l:List AV),l.length=n*sz->∀r,r∈chunks sz n l->r.length=sz
 |0,_,_,r,hr=>by simp[chunks]at hr
 |n+1,l,h,r,hr=>by
  rw[chunks]at hr
  rcases List.mem_cons.1 hr with rfl|hr
  .rw[List.length_take,h,Nat.add_mul];omega
  .exact Hz sz n _ (by rw[List.length_drop,h,Nat.add_mul];omega) r hr
theorem G7{h:AHeap}:∀{n:Nat}{xs ys:List AV},fq h n xs=some ys->ys.length=xs.length
 |_,[],ys,e=>by simp[fq]at e;subst e;rfl
 |0,x::xs,ys,e=>by simp[fq]at e
 |n+1,x::xs,ys,e=>by
  rw[fq]at e
  split at e
  .rename_i h1 h2;simp only[ab]at e;subst e;simp[G7 h2]
  .cases e
mutual
theorem Rj{h:AHeap}:∀{n:Nat}{x y:AV},snap h n x=some y->eQ y=true
 |0,_,_,e=>by simp[snap]at e
 |n+1,x,y,e=>by
  cases x<;>simp only[snap]at e<;>try(first|(cases e;done)|(simp only[ab]at e;subst e;rfl))
  .split at e
   .cases e
   .split at e
    .split at e
     .simp only[ab]at e;subst e;rfl
     .cases e
    .cases e
  .split at e
   .rename_i l hl;simp only[ab]at e;subst e;simp only[eQ];exact xK hl
   .cases e
  .split at e
   .rename_i l hl;simp only[ab]at e;subst e;simp only[eQ];exact xK hl
   .cases e
theorem xK{h:AHeap}:∀{n:Nat}{xs ys:List AV},fq h n xs=some ys->ej ys=true
 |_,[],ys,e=>by simp[fq]at e;subst e;rfl
 |0,x::xs,ys,e=>by simp[fq]at e
 |n+1,x::xs,ys,e=>by
  rw[fq]at e
  split at e
  .rename_i h1 h2;simp only[ab]at e;subst e;simp only[ej,aX];exact⟨Rj h1,xK h2⟩
  .cases e
end
mutual
theorem PZ{h h':AHeap}:∀(n:Nat){x y:AV},eQ x=true->snap h n x=some y->snap h' n x=some y
 |0,_,_,_,e=>by simp[snap]at e
 |n+1,x,y,hf,e=>by
  cases x<;>simp only[snap]at e⊢<;>try(first|exact e|(cases e;done)|(simp[eQ]at hf;done))
  .split at e
   .rename_i l hl;rw[Cd n (by simpa[eQ]using hf) hl];exact e
   .cases e
  .split at e
   .rename_i l hl;rw[Cd n (by simpa[eQ]using hf) hl];exact e
   .cases e
theorem Cd{h h':AHeap}:∀(n:Nat){xs ys:List AV},ej xs=true->fq h n xs=some ys->fq h' n xs=some ys
 |_,[],ys,_,e=>by simp[fq]at e⊢;exact e
 |0,x::xs,ys,_,e=>by simp[fq]at e
 |n+1,x::xs,ys,hf,e=>by
  simp only[ej,aX]at hf
  rw[fq]at e⊢
  split at e
  .rename_i h1 h2;rw[PZ n hf.1 h1,Cd n hf.2 h2];exact e
  .cases e
end
section
variable {P:Program}{h:AHeap}{g g2:Gh}{w:World}
mutual
theorem Kl(hw:W h g w)(hm:∀b i v,g.M b i=some v->g2.M b i=some v)(hb:∀o v b s n i u,g.B o v=some (b,s,n)->w.cell? ⟨b,i,none⟩=some u->g2.M b i=some u):
 ∀{n:Nat}{x y:AV}{v:Value},snap h n x=some y->VR g x v->VR g2 y v
 |0,_,_,_,e,_=>by simp[snap]at e
 |n+1,x,y,v,e,hr=>by
  cases x<;>simp only[snap]at e<;>try(cases e;done)
  case aO=>simp only[ab]at e;subst e;exact .aO _
  case sc=>simp only[ab]at e;subst e;cases hr;exact .sc _
  case cq=>simp only[ab]at e;subst e;cases hr;exact .cq _ _
  case aG=>simp only[ab]at e;subst e;exact VR.free hm hr rfl
  case agg cs=>
   split at e
   .rename_i l hl;simp only[ab]at e;subst e;obtain⟨a,rfl,ha⟩:=VR.lq.1 hr;exact VR.lq.2 ⟨a,rfl,uK hw hm hb hl ha⟩
   .cases e
  case tuple cs=>
   split at e
   .rename_i l hl;simp only[ab]at e;subst e;obtain⟨a,rfl,ha⟩:=VR.fZ.1 hr;exact VR.fZ.2 ⟨a,rfl,uK hw hm hb hl ha⟩
   .cases e
  case sl o ad m off sz len cap=>
   split at e
   .cases e
   .rename_i hz
    split at e
    .rename_i cs eY
     split at e
     .rename_i l hl
      simp only[ab]at e;subst e
      cases hr with
      |sl hB p1 p2 p3=>
       rename_i b s c
       obtain⟨vs,q1,q2,q3,_⟩:=pR hw eY hB
       have hlen:l.length=len*sz:=by rw[G7 hl,q1.length,q2]
       have rl:=uK hw hm hb hl q1
       have key:VR g2 (.aG (chunks sz len l) sz) (.slice (some ⟨b,off,none⟩) (chunks sz len l).length c):=by
        refine .aG (b:=b) (off:=off) (c:=c) (Hz sz len l hlen) (by rw[chunks_flatten sz len l hlen];exact xK hl) ?_
        rw[chunks_flatten sz len l hlen,xr]
        refine .b9 (λi=>vs.getD i .nilIface) ?_ ?_ hlen p2 (by simp)
        .intro i x hx
         have hi:i<vs.length:=by
          have:=rl.length
          rcases Nat.lt_or_ge i vs.length with a|a
          .exact a
          .rw[List.getElem?_eq_none (by omega)]at hx;cases hx
         have:=q3 i vs[i] (by rw[List.getElem?_eq_getElem hi]);rw[show vs.getD i .nilIface=vs[i]by simp[List.getD,List.getElem?_eq_getElem hi]];exact hb _ _ _ _ _ _ _ hB this
        .intro i x hx
         have hi:i<vs.length:=by
          have:=rl.length
          rcases Nat.lt_or_ge i vs.length with a|a
          .exact a
          .rw[List.getElem?_eq_none (by omega)]at hx;cases hx
         rw[show vs.getD i .nilIface=vs[i]by simp[List.getD,List.getElem?_eq_getElem hi]];exact rl.get i x vs[i] hx (List.getElem?_eq_getElem hi)
       rw[xr]at key;exact key
     .cases e
    .cases e
theorem uK(hw:W h g w)(hm:∀b i v,g.M b i=some v->g2.M b i=some v)(hb:∀o v b s n i u,g.B o v=some (b,s,n)->w.cell? ⟨b,i,none⟩=some u->g2.M b i=some u):
 ∀{n:Nat}{xs ys:List AV}{vs:List Value},fq h n xs=some ys->aE g xs vs->aE g2 ys vs
 |_,[],ys,vs,e,hr=>by simp[fq]at e;subst e;cases vs with|nil=>trivial|cons _ _=>exact hr.elim
 |0,x::xs,ys,_,e,_=>by simp[fq]at e
 |n+1,x::xs,ys,vs,e,hr=>by
  cases vs with
  |nil=>exact hr.elim
  |cons v vs=>
   rw[fq]at e
   split at e
   .rename_i h1 h2;simp only[ab]at e;subst e;exact⟨Kl hw hm hb h1 hr.1,uK hw hm hb h2 hr.2⟩
   .cases e
end
theorem aE.free(hm:∀b i v,g.M b i=some v->g2.M b i=some v):∀{xs:List AV}{vs:List Value},ej xs=true->aE g xs vs->aE g2 xs vs|[],[],_,_=>trivial|x::xs,v::vs,e,h=>by simp only[ej,aX]at e;exact⟨VR.free hm h.1 e.1,aE.free hm e.2 h.2⟩|[],_::_,_,h=>h.elim|_::_,[],_,h=>h.elim
theorem H4{f:FuncId}{args:List AV}{v v':AV}{h1:AHeap}{n:Nat}(hc:dq P f args h0 (.ret v) h1)(ha:ej args=true)(hs:snap h1 n v=some v')(h:AHeap):dq P f args h (.ret v') h:=by
 intro g w vs hw hf hv
 let z:Gh:=⟨λ_ _=>none,g.M⟩
 have t:W h0 z w:=⟨λo x e=>(by simp[h0,AHeap.get,Tr.get]at e),λ_ _ _ _ _ e=>(by cases e),λ_ _ _ _ _ _ _ _ _ e=>(by cases e),hw.ro,λ_ _ _ _ _ _ _ _ e=>(by cases e),hw.gl⟩
 refine(hc z w vs t (λ_ _ _=>rfl) (aE.free (g:=g) (g2:=z) (λ_ _ _ e=>e) ha hv)).mono ?_
 rintro e w'⟨g',st,m,ho⟩
 have hold:∀b,b<w.heap.size->w'.heap[b]?=w.heap[b]?:=λb hb=>st.fr b hb λo v s n e=>by cases e
 let g2:Gh:=⟨g.B,λb i=>if w.heap.size<=b then w'.cell? ⟨b,i,none⟩else g.M b i⟩
 have k:∀b i v,g.M b i=some v->g2.M b i=some v:=by intro b i v hm;have:=(hw.ro b i v hm).2;show(if w.heap.size<=b then _ else _)=_;rw[if_neg (by omega)];exact hm
 have q:g.Le g2:=⟨λ_ _ _ e=>e,k⟩
 have p:=st.size
 have j:=hw.same p hold
 refine⟨g2,⟨q,ak _,rfl,λ_ h=>h,λ_ _ _ _=>rfl,λ_ _ _=>rfl,λ_ _ h=>h,λ_ _ _ h=>.inl h,p,λo v b s n e _=>⟨v,s,n,e⟩,λb hb _=>hold b hb,st.tape,st.os,st.out,?_⟩,?_,?_⟩
 .intro b i v hm
  by_cases hb:w.heap.size<=b
  .exact .inr hb
  .have c:(if w.heap.size<=b then w'.cell? ⟨b,i,none⟩else g.M b i)=some v:=hm;rw[if_neg hb]at c;exact .inl c
 .refine⟨λo x hx=>(j.obj o x hx).move q (λ_ _ e=>e) (λ_ _ _ _ _=>rfl),j.dG,j.inj,?_,?_,j.oK (λ_ _ _=>rfl) k⟩
  .intro b i v hm
   have c:(if w.heap.size<=b then w'.cell? ⟨b,i,none⟩else g.M b i)=some v:=hm
   by_cases hb:w.heap.size<=b
   .rw[if_pos hb]at c
    refine⟨c,?_⟩
    rcases Nat.lt_or_ge b w'.heap.size with a|a
    .exact a
    .exfalso;have hn:w'.heap[b]?=none:=Array.getElem?_eq_none a;unfold World.cell? at c;simp[hn]at c
   .rw[if_neg hb]at c;exact j.ro b i v c
  .intro b i u hm o v s n e;have c:(if w.heap.size<=b then w'.cell? ⟨b,i,none⟩else g.M b i)=some u:=hm;have hb:=hw.dG o v b s n e;rw[if_neg (by omega)]at c;exact hw.gG b i u c o v s n e
 .cases e with
  |returned x=>
   refine Kl (g:=g') (g2:=g2) m ?_ ?_ hs ho
   .intro b i v hm
    rcases st.gz b i v hm with h1|h1
    .exact k b i v h1
    .show(if w.heap.size<=b then _ else _)=_;rw[if_pos h1];exact(m.ro b i v hm).1
   .intro o v b s n i u hB l
    have hb:w.heap.size<=b:=by
     rcases Nat.lt_or_ge b w.heap.size with a|a
     .obtain⟨_,_,_,e⟩:=st.dC o v b s n hB a;cases e
     .exact a
    show(if w.heap.size<=b then _ else _)=_;rw[if_pos hb];exact l|panicked _=>exact ho.elim|outgrown=>exact ho.elim
end
end Go.AI
end

section
namespace Go.AI
theorem HA(bs:ByteArray):∀(d i:Nat)(r:List UInt8),bs.size-i=d->i<=bs.size->ByteArray.toList.loop bs i r=r.reverse++bs.data.toList.drop i
 |0,i,r,h,hi=>by
  rw[ByteArray.toList.loop]
  rw[if_neg (by omega)]
  have:i=bs.data.toList.length:=by
   have:bs.data.toList.length=bs.size:=by simp
   omega
  rw[this];simp
 |d+1,i,r,h,hi=>by
  rw[ByteArray.toList.loop]
  have b:i<bs.size:=by omega
  rw[if_pos b,HA bs d (i+1) _ (by omega) (by omega)]
  have c:i<bs.data.toList.length:=by simpa using b
  rw[List.drop_eq_getElem_cons c]
  have:bs.get! i=bs.data.toList[i]:=by have hs:i<bs.data.size:=b;simp only[ByteArray.get!,Array.getElem_toList];exact getElem!_pos bs.data i hs
  rw[this];simp
theorem rD(bs:ByteArray):bs.toList=bs.data.toList:=by rw[ByteArray.toList,HA bs bs.size 0 [] (by omega) (by omega)];simp
theorem Rk{a b:ByteArray}(h:a.toList=b.toList):a=b:=by rw[rD,rD]at h;cases a;cases b;simp only[ByteArray.mk.injEq];exact Array.ext' h
theorem adj{a b:ByteArray}:a.toList=b.toList↔a=b:=⟨Rk,λh=>by rw[h]⟩
theorem adk(s:ByteArray)(i:Nat):s[i]?=s.data.toList[i]?:=by
 rcases Nat.lt_or_ge i s.size with h|h
 .have h':i<s.data.size:=h;rw[getElem?_pos s i h,List.getElem?_eq_getElem (by simpa using h)];simp[ByteArray.getElem_eq_getElem_data]
 .rw[getElem?_neg s i (by omega),List.getElem?_eq_none (by simpa using h)]
theorem bV(s:ByteArray):s.data.toList.length=s.size:=by simp
section
variable {P:Program}
theorem QF{t:TypeId}{s:ByteArray}{lo hi:Option AV}{l u:Nat}(g:P.underlying t=some .string)(b:e7 lo 0=some l)(f:e7 hi s.size=some u)(c:l<=u/\u<=s.size):
 i6 P t (.sc (.string s)) lo hi none=some (.sc (.string (s.extract l u))):=by
 unfold i6
 simp only[g,b,f]
 rw[if_pos c,CH]
 have e:(⟨⟨(s.data.toList.drop l).take (u-l)⟩⟩:ByteArray)=s.extract l u:=by apply ByteArray.ext;apply Array.ext';simp[List.take_drop]
 rw[e]
end
theorem Hi{sz:Nat}:∀{rows:List (List AV)},(∀r,r∈rows->r.length=sz)->chunks sz rows.length rows.flatten=rows
 |[],_=>rfl
 |r::rows,h=>by
  have h1:=h r (by simp)
  simp only[aN,chunks,List.flatten_cons]
  rw[<-h1,List.take_left',List.drop_left',h1,Hi λq b=>h q (by simp[b])]
  .rfl
  .rfl
end Go.AI
end

section
namespace Go.AI
theorem RH{P:Program}{f:FuncId}{args c:List AV}{v:Value}{h1:AHeap}{n:Nat}(hc:dq P f c h0 (.ret (.sc v)) h1)(h:AHeap)(hs:fq h n args=some c):dq P f args h (.ret (.sc v)) h:=by
 intro g w vs hw hf hv
 let k:Gh:=⟨λ_ _=>none,λb i=>w.cell? ⟨b,i,none⟩⟩
 have j:∀b i u,w.cell? ⟨b,i,none⟩=some u->b<w.heap.size:=by
  intro b i u hm
  rcases Nat.lt_or_ge b w.heap.size with a|a
  .exact a
  .exfalso;have hn:w.heap[b]?=none:=Array.getElem?_eq_none a;unfold World.cell? at hm;simp[hn]at hm
 have l:W h0 k w:=⟨λo x e=>(by simp[h0,AHeap.get,Tr.get]at e),λ_ _ _ _ _ e=>(by cases e),λ_ _ _ _ _ _ _ _ _ e=>(by cases e),λb i u hm=>⟨hm,j b i u hm⟩,λ_ _ _ _ _ _ _ _ e=>(by cases e),hw.oK (λ_ _ _=>rfl) (λb i v e=>(hw.ro b i v e).1)⟩
 have m:aE k c vs:=uK (g2:=k) hw (λb i u hm=>(hw.ro b i u hm).1) (λ_ _ _ _ _ _ _ _ hm=>hm) hs hv
 refine(hc k w vs l (λ_ _ _=>rfl) m).mono ?_
 rintro e w'⟨g',st,p,ho⟩
 have hold:∀b,b<w.heap.size->w'.heap[b]?=w.heap[b]?:=λb hb=>st.fr b hb λo v s n e=>by cases e
 refine⟨g,⟨.refl g,ak _,rfl,λ_ h=>h,λ_ _ _ _=>rfl,λ_ _ _=>rfl,λ_ _ h=>h,λ_ _ _ h=>.inl h,st.size,λo v b s n e _=>⟨v,s,n,e⟩,λb hb _=>hold b hb,st.tape,st.os,st.out,λ_ _ _ h=>.inl h⟩,hw.same st.size hold,?_⟩;cases e with|returned x=>cases ho;exact .sc _|panicked _=>exact ho.elim|outgrown=>exact ho.elim
def tp:List UInt8->List UInt8->Bool
 |[],[]=>true
 |a::az,b::bs=>match Nat.beq a.toNat b.toNat with|true=>tp az bs|false=>false
 |_,_=>false
theorem JI:∀{a b:List UInt8},tp a b=true->a=b
 |[],[],_=>rfl
 |[],_::_,h=>by simp[tp]at h
 |_::_,[],h=>by simp[tp]at h
 |a::az,b::bs,h=>by
  unfold tp at h
  split at h
  .rename_i e;rw[UInt8.toNat_inj.1 (Nat.eq_of_beq_eq_true e),JI h]
  .cases h
def Bs:Value->Value->Bool
 |.int .i64 n,.int .i64 m=>match n,m with|.ofNat a,.ofNat b=>Nat.beq a b|_,_=>false
 |.string a,.string b=>tp a.data.toList b.data.toList
 |.slice none 0 0,.slice none 0 0=>true
 |.bool a,.bool b=>match a,b with|true,true=>true|false,false=>true|_,_=>false
 |_,_=>false
theorem KS{a b:Value}(h:Bs a b=true):a=b:=by
 unfold Bs at h
 split at h
 .split at h
  .rw[Nat.eq_of_beq_eq_true h]
  .cases h
 .rename_i a b;have:=JI h;obtain⟨⟨a⟩⟩:=a;obtain⟨⟨b⟩⟩:=b;simp at this;rw[this]
 .rfl
 .split at h
  .rfl
  .rfl
  .cases h
 .cases h
mutual
def iH:AV->AV->Bool
 |.sc a,.sc b=>Bs a b
 |.agg a,.agg b=>o2 a b
 |.aG r s,.aG r' s'=>match Nat.beq s s' with|true=>sX r r'|false=>false
 |_,_=>false
def o2:List AV->List AV->Bool
 |[],[]=>true
 |a::az,b::bs=>match iH a b with|true=>o2 az bs|false=>false
 |_,_=>false
def sX:List (List AV)->List (List AV)->Bool
 |[],[]=>true
 |a::az,b::bs=>match o2 a b with|true=>sX az bs|false=>false
 |_,_=>false
end
mutual
theorem Uu:∀(a b:AV),iH a b=true->a=b
 |.sc a,b,h=>by
  cases b<;>simp only[iH]at h<;>try(cases h;done)
  rw[KS h]
 |.agg a,b,h=>by
  cases b<;>simp only[iH]at h<;>try(cases h;done)
  rw[yy _ _ h]
 |.aG r s,b,h=>by
  cases b<;>simp only[iH]at h<;>try(cases h;done)
  split at h
  .rename_i e;rw[Iv _ _ h,Nat.eq_of_beq_eq_true e]
  .cases h|.aO,b,h=>by simp[iH]at h|.ref _ _ _ _,b,h=>by simp[iH]at h|.sl _ _ _ _ _ _ _,b,h=>by simp[iH]at h|.cq,b,h=>by simp[iH]at h|.cH _,b,h=>by simp[iH]at h|.b9 _ _ _ _,b,h=>by simp[iH]at h|.map _,b,h=>by simp[iH]at h|.func _ _ _,b,h=>by simp[iH]at h|.e9 _,b,h=>by simp[iH]at h|.iface _ _,b,h=>by simp[iH]at h|.tuple _,b,h=>by simp[iH]at h
theorem yy:∀(a b:List AV),o2 a b=true->a=b
 |[],[],_=>rfl
 |[],_::_,h=>by simp[o2]at h
 |_::_,[],h=>by simp[o2]at h
 |a::az,b::bs,h=>by
  simp only[o2]at h
  split at h
  .rename_i e;rw[Uu _ _ e,yy _ _ h]
  .cases h
theorem Iv:∀(a b:List (List AV)),sX a b=true->a=b
 |[],[],_=>rfl
 |[],_::_,h=>by simp[sX]at h
 |_::_,[],h=>by simp[sX]at h
 |a::az,b::bs,h=>by
  simp only[sX]at h
  split at h
  .rename_i e;rw[yy _ _ e,Iv _ _ h]
  .cases h
end
structure kM where
 f:FuncId
 args:List AV
 v:Value
def tq(f:FuncId)(args:List AV)(h:AHeap):List kM->Option Value|[]=>none|k::ks=>match Nat.beq k.f f with|true=>(match fq h 1000 args with|some a=>(match o2 a k.args with|true=>some k.v|false=>tq f args h ks)|none=>tq f args h ks)|false=>tq f args h ks
def Rec.Bt(iQ:List kM)(R:Rec):Rec:={R with call:=λkind f args cm h=>match kind,cm with|.normal,.none=>(match tq f args h iQ with|some v=>some (.ret (.sc v),.none,h)|none=>R.call .normal f args .none h)|k,c=>R.call k f args c h}
def sB(P:Program)(iQ:List kM):Prop:=∀k,k∈iQ->∃h1,dq P k.f k.args h0 (.ret (.sc k.v)) h1
theorem JJ{P:Program}{f:FuncId}{args:List AV}{h:AHeap}{v:Value}:∀{iQ:List kM},sB P iQ->tq f args h iQ=some v->dq P f args h (.ret (.sc v)) h
 |[],_,e=>by cases e
 |k::ks,hk,e=>by
  have ih:=λe=>JJ (P:=P) (f:=f) (args:=args) (h:=h) (v:=v) (iQ:=ks) (λx hx=>hk x (List.mem_cons_of_mem _ hx)) e
  unfold tq at e
  split at e
  .rename_i hf
   split at e
   .rename_i a ha
    split at e
    .rename_i b;simp only[ab]at e;obtain⟨h1,hc⟩:=hk k (List.mem_cons_self ..);rw[<-yy _ _ b,Nat.eq_of_beq_eq_true hf,e]at hc;exact RH hc h ha
    .exact ih e
   .exact ih e
  .exact ih e
theorem Uv{P:Program}{iQ:List kM}{R:Rec}(hk:sB P iQ)(hR:dS P R):dS P (R.Bt iQ)where
 call:=λf args h out aW h' e=>by
  simp only[Rec.Bt]at e
  split at e
  .rename_i v hv;simp only[ab,an]at e;obtain⟨rfl,_,rfl⟩:=e;exact JJ hk hv
  .exact hR.call _ _ _ _ _ _ e
 vR:=λf args cm h out aW h' hn e=>hR.vR f args cm h out aW h' hn (by simp only[Rec.Bt]at e;exact e)
 loop:=hR.loop
 round:=hR.round
def pw(P:Program)(iQ:List kM):Nat->Rec|0=>Rec.zero|n+1=>(Rec.succ P (pw P iQ n)).Bt iQ
theorem qf{P:Program}{iQ:List kM}(hP:cZ P)(hk:sB P iQ):∀n,dS P (pw P iQ n)|0=>Df|n+1=>Uv hk (IY hP (qf hP hk n))
def oQ(R:Rec)(f:FuncId)(args:List AV)(v:Value):Bool:=match R.call .normal f args .none h0 with|some (.ret (.sc u),_,_)=>Bs u v|_=>false
theorem rQ{P:Program}{R:Rec}(hR:dS P R){f:FuncId}{args:List AV}{v:Value}(h:oQ R f args v=true):∃h1,dq P f args h0 (.ret (.sc v)) h1:=by
 unfold oQ at h
 split at h
 .rename_i u cm h1 e;have:=KS h;subst this;exact⟨h1,hR.call _ _ _ _ _ _ e⟩
 .cases h
end Go.AI
end
