/- A part of the proof. -/
import Derived.Below
import Derived.Sort.KeysCollected
import Derived.Test.YtkdhoflcgphcjaaGreatDoorAd
set_option linter.all false

section
namespace Go.AI
section
variable {P:Program}{R:Rec}{cx:Ctx}{ops:Array Oper}
inductive me(P:Program)(R:Rec)(cx:Ctx)(ops:Array Oper)(kf:bY)(L:Nat->Prop)(o:Oper)(i aj:Nat)(st:av)(gh:Nat)(st':av):Prop|skip(hw:cf ops o st.tm=some false)(hp:st.put cx.tn o.dst dm=some st')(ha:gh=if aX o.op then aj+1 else aj)|mk(v:AV)(h:AHeap)(x:bT)(hw:cf ops o st.tm=some true)(hA:aX o.op=true)(hr:aJ P (cX (tmpsOf o) st.tm) o {bU:=.leaf,next:=aj,floor:=0,wr:=[]}=some (.val v,h))(hg:h.get aj=some x)(hn:h.next=aj+1)(hp:av.put {st with h:={st.h with bU:=st.h.bU.put aj x}} cx.tn o.dst v=some st')(ha:gh=aj+1)|look(v:AV)(h:AHeap)(hw:cf ops o st.tm=some true)(hA:aX o.op=false)(hF:bN o.op=true)(hr:aJ P (cX (tmpsOf o) st.tm) o {st.h with bU:=eR st.h (de o st.tm)}=some (.val v,h))(hn:h.next=st.h.next)(hp:st.put cx.tn o.dst v=some st')(ha:gh=aj)(hk:(i,de o st.tm)∈kf.fs)|act(v:AV)(cm:bu)(h:AHeap)(hw:cf ops o st.tm=some true)(hA:aX o.op=false)(hF:bN o.op=false)(hr:cu P R cx (cX (tmpsOf o) st.tm) o .none st.h.inner=some (.val v cm h))(hp:av.put {st with h:=st.h.outer h} cx.tn o.dst v=some st')(ha:gh=aj)(hk:(i,h.wr)∈kf.es)|dead(hL:¬L i)(hp:st.put cx.tn o.dst .aA=some st')(ha:gh=if aX o.op then aj+1 else aj)
def Trace(P:Program)(R:Rec)(cx:Ctx)(ops:Array Oper)(kf:bY)(L:Nat->Prop)(l:List Oper)(i aj:Nat)(st c:av):Prop:=∃(T:Nat->av)(A:Nat->Nat),T i=st/\A i=aj/\T (i+l.length)=c/\∀j o,l[j]?=some o->me P R cx ops kf L o (i+j) (A (i+j)) (T (i+j)) (A (i+j+1)) (T (i+j+1))
theorem Trace.cons{kf:bY}{L:Nat->Prop}{l:List Oper}{o:Oper}{i aj c:Nat}{st p m:av}(h1:me P R cx ops kf L o i aj st c p)(h2:Trace P R cx ops kf L l (i+1) c p m):Trace P R cx ops kf L (o::l) i aj st m:=by
 obtain⟨T,A,t1,t2,u,q⟩:=h2
 refine⟨λj=>if j=i then st else T j,λj=>if j=i then aj else A j,by simp,by simp,?_,?_⟩
 .grind
 grind
theorem sy{L:Nat->Prop}:∀(l:List Oper)(i aj:Nat)(k:bY)(st:av)(kf:bY)(m:av),ey P R cx ops l i aj k st=some (kf,m)->
 ((∀x,x∈k.es->x∈kf.es)/\(∀x,x∈k.fs->x∈kf.fs))/\Trace P R cx ops kf L l i aj st m
 |[],i,aj,k,st,kf,m,hr=>by simp only[ey,an,aV]at hr;obtain⟨rfl,rfl⟩:=hr;exact⟨⟨λ_ h=>h,λ_ h=>h⟩,λ_=>st,λ_=>aj,rfl,rfl,rfl,λj o h=>by simp at h⟩
 |o::l,i,aj,k,st,kf,m,hr=>by
  unfold ey at hr
  split at hr
  .rename_i hw
   split at hr
   .rename_i p hp;obtain⟨q1,q2⟩:=sy l _ _ _ _ _ _ hr;exact⟨q1,.cons (.skip hw hp rfl) q2⟩
   .cases hr
  .rename_i hw
   split at hr
   .rename_i hA
    split at hr
    .rename_i v h c
     split at hr
     .rename_i x hx
      split at hr
      .rename_i hn
       split at hr
       .rename_i p hp;obtain⟨q1,q2⟩:=sy l _ _ _ _ _ _ hr;exact⟨q1,.cons (.mk v h x hw hA c hx hn hp rfl) q2⟩
       .cases hr
      .cases hr
     .cases hr
    .cases hr
   .rename_i hA
    have hA:aX o.op=false:=by simpa using hA
    split at hr
    .rename_i hF
     split at hr
     .rename_i v h c
      split at hr
      .rename_i q
       split at hr
       .rename_i p hp;obtain⟨q1,q2⟩:=sy l _ _ _ _ _ _ hr;exact⟨⟨q1.1,λx hx=>q1.2 x (List.mem_cons_of_mem _ hx)⟩,.cons (.look v h hw hA hF c q hp rfl (q1.2 _ (List.mem_cons_self ..))) q2⟩
       .cases hr
      .cases hr
     .cases hr
    .rename_i hF
     have hF:bN o.op=false:=by simpa using hF
     split at hr
     .rename_i v cm h c
      split at hr
      .rename_i p hp;obtain⟨q1,q2⟩:=sy l _ _ _ _ _ _ hr;exact⟨⟨λx hx=>q1.1 x (List.mem_cons_of_mem _ hx),q1.2⟩,.cons (.act v cm h hw hA hF c hp rfl (q1.1 _ (List.mem_cons_self ..))) q2⟩
      .cases hr
     .cases hr
  .cases hr
def sR(o:Oper)(c:List Nat):Nat:=o.after.foldl (λs e=>if Region.binds .any e then s|||2^e.on|||c.getD e.on 0 else s) 0
theorem xE:∀(l:List Oper)(c:List Nat),(∃B,eh l c=c++B/\B.length=l.length)/\∀j o,l[j]?=some o->(eh l c).getD (c.length+j) 0=sR o ((eh l c).take (c.length+j))|[],c=>⟨⟨[],by simp[eh],rfl⟩,λj o h=>by simp at h⟩|o::l,c=>by have e:eh (o::l) c=eh l (c++[sR o c]):=rfl;rw[e];obtain⟨⟨B,h1,h2⟩,h3⟩:=xE l (c++[sR o c]);refine⟨⟨sR o c::B,by grind,by simp[h2]⟩,?_⟩;intro j q hq;cases j with|zero=>grind|succ j=>simp only[List.getElem?_cons_succ]at hq;have:=h3 j q hq;simp only[List.length_append,kx,List.length_nil]at this;grind
def bZ(ops:Array Oper)(i k:Nat):Prop:=((eh ops.toList []).getD i 0).testBit k=true
theorem IU(c:List Nat)(k:Nat):∀(es:List Edge)(s:Nat),(es.foldl (λs e=>if Region.binds .any e then s|||2^e.on|||c.getD e.on 0 else s) s).testBit k=true->
 s.testBit k=true\/∃e,e∈es/\Region.binds .any e=true/\(e.on=k\/(c.getD e.on 0).testBit k=true)
 |[],s,h=>.inl h
 |e::es,s,h=>by
  simp only[List.foldl_cons]at h
  rcases IU c k es _ h with h1|⟨i,h1,h2,h3⟩
  .grind
  grind
theorem bZ.direct{i k:Nat}{o:Oper}(ho:ops[i]?=some o)(h:bZ ops i k):∃e,e∈o.after/\Region.binds .any e=true/\(e.on=k\/bZ ops e.on k):=by
 unfold bZ at h
 have hs:=(xE ops.toList []).2 i o (by grind)
 simp only[List.length_nil,Nat.zero_add]at hs
 rw[hs]at h
 unfold sR at h
 rw[<-Array.foldl_toList]at h
 rcases IU _ k _ _ h with h1|⟨e,h1,h2,h3⟩
 .simp at h1
 grind[bZ]
theorem bZ.here{i k:Nat}(h:bZ ops i k):∃o,ops[i]?=some o:=by
 rcases Nat.lt_or_ge i ops.size with h1|h1
 .simp_all
 .unfold bZ at h;obtain⟨⟨B,h2,h3⟩,_⟩:=xE ops.toList [];grind
structure Static(ops:Array Oper):Prop where
 back:∀(i:Nat)(o:Oper)(e:Edge),ops[i]?=some o->e∈o.after->Region.binds .any e=true->e.on<i
 guard:∀(i:Nat)(o:Oper)(j:Nat)(b:Bool),ops[i]?=some o->o.guard=some (j,b)->bZ ops i j
 one:∀(i k:Nat)(o q:Oper)(d:Tmp),ops[i]?=some o->ops[k]?=some q->q.dst=some d->o.dst=some d->k=i
 use:∀(i k:Nat)(o q:Oper)(d:Tmp),ops[i]?=some o->ops[k]?=some q->q.dst=some d->d∈tmpsOf o->bZ ops i k\/bZ ops k i
 chain:∀(i k:Nat)(o q:Oper),ops[i]?=some o->ops[k]?=some q->k<i->aX o.op=false->bN o.op=false->aX q.op=false->bN q.op=false->bZ ops i k
theorem CK(h:uB ops=true):Static ops:=by
 unfold uB at h
 simp only[List.all_eq_true]at h
 have c:∀(i:Nat)(o:Oper),ops[i]?=some o->(o,i)∈ops.toList.zipIdx:=by intro i o ho;rw[List.mem_zipIdx_iff_getElem?];simpa using ho
 have key:∀(i:Nat)(o:Oper),ops[i]?=some o->_:=λi o ho=>h (o,i) (c i o ho)
 refine⟨?_,?_,?_,?_,?_⟩
 .intro i o e ho he hb;have:=key i o ho;simp only[aZ]at this;have h1:=this.1.1;rw[Array.all_eq_true]at h1;obtain⟨n,hn,rfl⟩:=Array.mem_iff_getElem.1 he;grind
 .intro i o j b ho hg;have:=key i o ho;simp only[aZ]at this;have h1:=this.1.2;rw[hg]at h1;exact h1
 .intro i k o q d ho hq h1 h2;have:=key i o ho;simp only[aZ]at this;have h3:=this.2;rw[List.all_eq_true]at h3;have h4:=h3 (q,k) (c k q hq);grind
 .intro i k o q d ho hq h1 h2
  have:=key i o ho
  simp only[aZ]at this
  have h3:=this.2
  rw[List.all_eq_true]at h3
  have h4:=h3 (q,k) (c k q hq)
  simp only[aZ]at h4
  have h5:=h4.1
  rw[h1]at h5
  simp only[aZ,Bool.or_eq_true]at h5
  rcases h5.2 with(h6|h6)|h6
  .simp[h2]at h6
  .exact .inl h6
  .exact .inr h6
 .intro i k o q ho hq m z w u p;have:=key i o ho;simp only[aZ]at this;have h3:=this.2;rw[List.all_eq_true]at h3;have h4:=h3 (q,k) (c k q hq);simp only[aZ]at h4;have h5:=h4.2;simp only[z,w,u,p,m,decide_true,Bool.not_true,Bool.false_or]at h5;exact h5
theorem bZ.lt(hs:Static ops):∀{i k:Nat},bZ ops i k->k<i:=by intro i;induction i using Nat.strongRecOn with|ind i ih=>intro k h;obtain⟨o,ho⟩:=h.here;obtain⟨e,h1,h2,h3⟩:=h.direct ho;have:=hs.back i o e ho h1 h2;grind
theorem bZ.closed(hs:Static ops){S:Nat->Prop}(c:∀i o e,ops[i]?=some o->S i->e∈o.after->Region.binds .any e=true->S e.on):∀{i k:Nat},S i->bZ ops i k->S k:=by
 intro i
 induction i using Nat.strongRecOn with
 |ind i ih=>
  intro k hi h
  obtain⟨o,ho⟩:=h.here
  obtain⟨e,h1,h2,h3⟩:=h.direct ho
  have h4:=c i o e ho hi h1 h2
  rcases h3 with rfl|h3
  .exact h4
  .exact ih e.on (hs.back i o e ho h1 h2) h4 h3
theorem bZ.ready(hs:Static ops){S:Nat->Prop}(c:∀i o e,ops[i]?=some o->S i->e∈o.after->Region.binds .any e=true->S e.on){i k:Nat}{o:Oper}(ho:ops[i]?=some o)
 (hi:∀e,e∈o.after->Region.binds .any e=true->S e.on)(h:bZ ops i k):S k:=by
 obtain⟨e,h1,h2,h3⟩:=h.direct ho
 rcases h3 with rfl|h3
 .grind
 .exact bZ.closed hs c (hi e h1 h2) h3
theorem IV{kf:bY}(h:mU (eh ops.toList []) kf=true){i j:Nat}{ids wr:List Nat}(hi:(i,ids)∈kf.fs)(hj:(j,wr)∈kf.es)(h1:¬bZ ops i j)(h2:¬bZ ops j i):∀o,o∈ids->o∉wr:=by
 unfold mU at h
 rw[List.all_eq_true]at h
 have h3:=h _ hi
 simp only[List.all_eq_true]at h3
 have h4:=h3 _ hj
 simp only[Bool.or_eq_true]at h4
 intro o ho hw
 rcases h4 with(h4|h4)|h4
 .exact h1 h4
 .exact h2 h4
 grind
end
end Go.AI
end

section
namespace Go.AI
def dC(o:Oper):Bool:=!aX o.op&&!bN o.op
theorem je{o:Oper}:dC o=true↔aX o.op=false/\bN o.op=false:=by simp_all[dC,aX,bN]
structure Rgn(P:Program)(R:Rec)(cx:Ctx)(ops:Array Oper)(kf:bY)(L:Nat->Prop)(T:Nat->av)(A:Nat->Nat)(h0:AHeap):Prop where
 st:Static ops
 tr:∀(i:Nat)(o:Oper),ops[i]?=some o->me P R cx ops kf L o i (A i) (T i) (A (i+1)) (T (i+1))
 bk:mU (eh ops.toList []) kf=true
 a0:A 0=h0.next
 t0:(T 0).h={h0 with next:=h0.next+eB ops.toList}nn:∀o,h0.next<=o->o<h0.next+eB ops.toList->h0.get o=none
section
variable {P:Program}{R:Rec}{cx:Ctx}{ops:Array Oper}{kf:bY}{L:Nat->Prop}{T:Nat->av}{A:Nat->Nat}{h0:AHeap}
theorem fx{i:Nat}{o:Oper}(h:ops[i]?=some o):i<ops.size:=by grind
theorem kG{st st':av}{tn:Nat}{dst:Option Tmp}{v:AV}(hp:st.put tn dst v=some st'):(∀t,dst≠some t->st'.tm.get t=st.tm.get t)/\(∀d,dst=some d->st'.tm.get d=some v/\d<tn):=by unfold av.put at hp;grind[Option.some.injEq,Tr.aB,Tr.aQ]
namespace Rgn
variable (hr:Rgn P R cx ops kf L T A h0)
include hr
theorem FC(i:Nat)(o:Oper)(ho:ops[i]?=some o):∃v,(∀t,o.dst≠some t->(T (i+1)).tm.get t=(T i).tm.get t)/\(∀d,o.dst=some d->(T (i+1)).tm.get d=some v/\d<cx.tn)/\(T (i+1)).cm=(T i).cm/\(T (i+1)).df=(T i).df:=by cases hr.tr i o ho with|skip hw hp ha=>exact⟨_,(kG hp).1,(kG hp).2,(cU hp).2.1,(cU hp).2.2⟩|mk v h x hw hA c hg hn hp ha=>exact⟨_,(kG hp).1,(kG hp).2,(cU hp).2.1,(cU hp).2.2⟩|look v h hw hA hF c j hp ha hk=>exact⟨_,(kG hp).1,(kG hp).2,(cU hp).2.1,(cU hp).2.2⟩|act v cm h hw hA hF c hp ha hk=>exact⟨_,(kG hp).1,(kG hp).2,(cU hp).2.1,(cU hp).2.2⟩|dead hL hp ha=>exact⟨_,(kG hp).1,(kG hp).2,(cU hp).2.1,(cU hp).2.2⟩
theorem KK{t:Tmp}{i:Nat}:∀(d:Nat),i+d<=ops.size->(∀k q,ops[k]?=some q->q.dst=some t->k<i)->(T (i+d)).tm.get t=(T i).tm.get t
 |0,_,_=>rfl
 |d+1,hd,hk=>by
  have c:i+d<ops.size:=by omega
  have ho:ops[i+d]?=some ops[i+d]:=by simp[c]
  obtain⟨v,h1,_⟩:=hr.FC (i+d) _ ho;rw[show i+(d+1)=i+d+1 by omega,h1 t (λe=>by have:=hk _ _ ho e;omega)];exact KK d (by omega) hk
theorem vf{t:Tmp}{i:Nat}(hi:i<=ops.size)(hk:∀k q,ops[k]?=some q->q.dst=some t->k<i):(T ops.size).tm.get t=(T i).tm.get t:=by have:=hr.KK (t:=t) (i:=i) (ops.size-i) (by omega) hk;grind
theorem Sk{t:Tmp}(hk:∀(k:Nat)(q:Oper),ops[k]?=some q->q.dst≠some t):(T ops.size).tm.get t=(T 0).tm.get t:=hr.vf (Nat.zero_le _) λk q h1 h2=>absurd h2 (hk k q h1)
theorem JG{t:Tmp}:∀(d:Nat),d<=ops.size->(∀k q,ops[k]?=some q->q.dst=some t->d<=k)->(T d).tm.get t=(T 0).tm.get t
 |0,_,_=>rfl
 |d+1,hd,hk=>by
  have c:d<ops.size:=by omega
  have ho:ops[d]?=some ops[d]:=by simp[c]
  obtain⟨v,h1,_⟩:=hr.FC d _ ho;rw[h1 t (λe=>by have:=hk _ _ ho e;omega)];exact JG d (by omega) λk q h2 h3=>by have:=hk k q h2 h3;omega
theorem opn{i:Nat}{o:Oper}(ho:ops[i]?=some o){t:Tmp}(ht:t∈tmpsOf o):
 ((T ops.size).tm.get t=(T i).tm.get t/\∀(k:Nat)(q:Oper),ops[k]?=some q->q.dst=some t->bZ ops i k)\/
 ((T 0).tm.get t=(T i).tm.get t/\∀(k:Nat)(q:Oper),ops[k]?=some q->q.dst=some t->bZ ops k i):=by
 rcases Classical.em (∃(k:Nat)(q:Oper),ops[k]?=some q/\q.dst=some t)with⟨k,q,hk,hq⟩|hn
 .have j:∀(k':Nat)(c:Oper),ops[k']?=some c->c.dst=some t->k'=k:=λk' c h1 h2=>hr.st.one k k' q c t hk h1 h2 hq
  rcases hr.st.use i k o q t ho hk hq ht with h|h
  .refine .inl ⟨hr.vf (Nat.le_of_lt (fx ho)) λk' c h1 h2=>?_,λk' c h1 h2=>by grind⟩;rw[j k' c h1 h2];exact bZ.lt hr.st h
  .refine .inr ⟨(hr.JG i (Nat.le_of_lt (fx ho)) λk' c h1 h2=>?_).symm,λk' c h1 h2=>by grind⟩;rw[j k' c h1 h2];exact Nat.le_of_lt (bZ.lt hr.st h)
 .exact .inl ⟨hr.vf (Nat.le_of_lt (fx ho)) λk q h1 h2=>absurd ⟨k,q,h1,h2⟩ hn,λk q h1 h2=>absurd ⟨k,q,h1,h2⟩ hn⟩
theorem RS{i:Nat}{o:Oper}(ho:ops[i]?=some o):cf ops o (T i).tm=cf ops o (T ops.size).tm:=by
 unfold cf
 cases hg:o.guard with
 |none=>rfl
 |some p=>
  obtain⟨j,want⟩:=p
  simp only
  cases hd:(ops[j]?).bind (·.dst)with
  |none=>rfl
  |some d=>
   simp only
   have hj:=hr.st.guard i o j want ho hg
   have m:=bZ.lt hr.st hj
   have:(T ops.size).tm.get d=(T i).tm.get d:=by refine hr.vf (Nat.le_of_lt (fx ho)) λk q h1 h2=>?_;cases hq:ops[j]? with|none=>grind|some c=>rw[hq]at hd;have:=hr.st.one k j q c d h1 hq (by grind) h2;omega
   rw[this]
theorem UW{i:Nat}{o:Oper}(ho:ops[i]?=some o){c:av}{v:AV}(hp:c.put cx.tn o.dst v=some (T (i+1))){d:Tmp}(hd:o.dst=some d):(T ops.size).tm.get d=some v/\d<cx.tn:=by have h1:=(kG hp).2 d hd;refine⟨?_,h1.2⟩;rw[<-h1.1];refine hr.vf (fx ho) λk q h2 h3=>?_;have:=hr.st.one i k o q d ho h2 h3 hd;omega
theorem aj(i:Nat)(o:Oper)(ho:ops[i]?=some o):A (i+1)=if aX o.op then A i+1 else A i:=by cases hr.tr i o ho with|skip hw hp ha=>exact ha|mk v h x hw hA c hg hn hp ha=>grind|look v h hw hA hF c j hp ha hk=>grind|act v cm h hw hA hF c hp ha hk=>grind|dead hL hp ha=>exact ha
theorem KM:∀(i:Nat),i<=ops.size->A i+eB (ops.toList.drop i)=h0.next+eB ops.toList
 |0,_=>by rw[hr.a0];simp
 |i+1,hi=>by
  have c:i<ops.size:=by omega
  have ho:ops[i]?=some ops[i]:=by simp[c]
  have h1:=KM i (by omega)
  have hd:ops.toList.drop i=ops[i]::ops.toList.drop (i+1):=by rw[List.drop_eq_getElem_cons (by simpa using c)];simp
  rw[hd]at h1;rw[hr.aj i _ ho];simp only[eB]at h1;split at h1<;>rename_i hA<;>simp only[hA]<;>simp<;>omega
theorem Da{i:Nat}:∀(d:Nat),i+d<=ops.size->A i<=A (i+d)
 |0,_=>Nat.le_refl _
 |d+1,hd=>by
  have c:i+d<ops.size:=by omega
  have ho:ops[i+d]?=some ops[i+d]:=by simp[c]
  have:=Da (i:=i) d (by omega);rw[show i+(d+1)=i+d+1 by omega,hr.aj _ _ ho];split<;>omega
theorem td{i:Nat}{o:Oper}(ho:ops[i]?=some o)(hA:aX o.op=true):h0.next<=A i/\A i<h0.next+eB ops.toList:=by have hi:=fx ho;have h1:=hr.KM (i+1) (by omega);have h2:=hr.aj i o ho;have h3:=hr.Da (i:=0) i (by omega);rw[hr.a0]at h3;grind
theorem yW{i k:Nat}{o q:Oper}(ho:ops[i]?=some o)(hq:ops[k]?=some q)(hA:aX o.op=true)(c:i<k):A i<A k:=by have h2:=hr.aj i o ho;rw[hA]at h2;simp only[if_true]at h2;have hk:=fx hq;have h1:=hr.Da (i:=i+1) (k-(i+1)) (by omega);grind
theorem KN{i k:Nat}{o q:Oper}(ho:ops[i]?=some o)(hq:ops[k]?=some q)(hA:aX o.op=true)(hB:aX q.op=true)(he:A i=A k):i=k:=by
 rcases Nat.lt_trichotomy i k with h|h|h
 .have:=hr.yW ho hq hA h;omega
 .exact h
 .have:=hr.yW hq ho hB h;omega
end Rgn
def EO(kf:bY)(T:Nat->av)(A:Nat->Nat)(j:Nat)(o:Oper):Prop:=(aX o.op=true/\(∀p,p≠A j->(T (j+1)).h.get p=(T j).h.get p)/\(T (j+1)).h.next=(T j).h.next/\(T (j+1)).h.floor=(T j).h.floor/\(T (j+1)).h.wr=(T j).h.wr)\/(aX o.op=false/\(T (j+1)).h=(T j).h)\/(dC o=true/\∃wr,(j,wr)∈kf.es/\(T j).h.next<=(T (j+1)).h.next/\(∀p,p<(T j).h.next->p∉wr->(T (j+1)).h.get p=(T j).h.get p)/\(∀p,p<(T j).h.next->(T j).h.get p=none->(T (j+1)).h.get p=none))
def Pure(ops:Array Oper)(kf:bY)(T:Nat->av)(A:Nat->Nat)(m:Nat):Prop:=∀j o,j<m->ops[j]?=some o->EO kf T A j o
theorem Pure.le{m c:Nat}(h:Pure ops kf T A m)(hm:c<=m):Pure ops kf T A c:=λj o hj ho=>h j o (by omega) ho
namespace Rgn
variable (hr:Rgn P R cx ops kf L T A h0)
include hr
theorem dY{j:Nat}{o:Oper}(ho:ops[j]?=some o)(hE:dC o=false):EO kf T A j o:=by
 cases hr.tr j o ho with
 |skip hw hp ha=>cases hA:aX o.op with|true=>exact .inl ⟨hA,λp _=>by rw[(cU hp).1],by rw[(cU hp).1],by rw[(cU hp).1],by rw[(cU hp).1]⟩|false=>exact .inr (.inl ⟨hA,(cU hp).1⟩)
 |mk v h x hw hA c hg hn hp ha=>exact .inl ⟨hA,λp i=>by rw[(cU hp).1];exact Tr.aB _ _ i,by rw[(cU hp).1],by rw[(cU hp).1],by rw[(cU hp).1]⟩|look v h hw hA hF c m hp ha hk=>exact .inr (.inl ⟨hA,(cU hp).1⟩)|act v cm h hw hA hF c hp ha hk=>rw[je.2 ⟨hA,hF⟩]at hE;cases hE|dead hL hp ha=>cases hA:aX o.op with|true=>exact .inl ⟨hA,λp _=>by rw[(cU hp).1],by rw[(cU hp).1],by rw[(cU hp).1],by rw[(cU hp).1]⟩|false=>exact .inr (.inl ⟨hA,(cU hp).1⟩)
theorem xF{m:Nat}(hm:m<=ops.size)(hp:Pure ops kf T A m){i:Nat}:∀(d:Nat),i+d<=m->(T i).h.next<=(T (i+d)).h.next
 |0,_=>Nat.le_refl _
 |d+1,hd=>by
  have c:i+d<ops.size:=by omega
  have ho:ops[i+d]?=some ops[i+d]:=by grind
  have h1:=xF hm hp (i:=i) d (by omega)
  rw[show i+(d+1)=i+d+1 by omega]
  rcases hp (i+d) _ (by omega) ho with⟨_,_,h2,_⟩|⟨_,h2⟩|⟨_,wr,_,h2,_⟩
  .omega
  .grind
  .omega
theorem Db{m:Nat}(hm:m<=ops.size)(hp:Pure ops kf T A m){k:Nat}{o:Oper}(ho:ops[k]?=some o)(hA:aX o.op=true){j:Nat}(hj:j<=m):A k<(T j).h.next:=by have h1:=hr.xF hm hp (i:=0) j (by omega);rw[Nat.zero_add,hr.t0]at h1;have:=(hr.td ho hA).2;grind
theorem free{m:Nat}(hm:m<=ops.size)(hp:Pure ops kf T A m){k:Nat}{o:Oper}(ho:ops[k]?=some o)(hA:aX o.op=true):∀(j:Nat),j<=k->j<=m->(T j).h.get (A k)=none
 |0,_,_=>by rw[hr.t0];exact hr.nn _ (hr.td ho hA).1 (hr.td ho hA).2
 |j+1,hk,hj=>by
  have c:j<ops.size:=by omega
  have hq:ops[j]?=some ops[j]:=by simp[c]
  have h1:=free hm hp ho hA j (by omega) (by omega)
  rcases hp j _ (by omega) hq with⟨hB,h2,_⟩|⟨_,h2⟩|⟨_,wr,_,_,_,h2⟩
  .rw[h2 _ (λe=>by have:=hr.yW hq ho hB (by omega);omega)];exact h1
  .rw[h2];exact h1
  .exact h2 _ (hr.Db hm hp ho hA (by omega)) h1
end Rgn
end
end Go.AI
end

section
namespace Go.AI
theorem OR.yy{g:Gh}{w:World}{o:Nat}{x:bT}(h:∀v,g.B o v=none):OR g w o x:=by cases x with|cells ver Az c fz el ex sh=>exact⟨λv _=>h v,λv _ _ b s n e=>by grind⟩|map es clock=>intro b s n e;grind|j7 s pos=>intro b s n e;grind|gY m since seen last=>intro b s n e;grind|loop st gW fn tn tm ps assign body dd=>intro b s n e;grind|b8 ds=>intro b s n e;grind
structure cK(ops:Array Oper)(T:Nat->av)(A:Nat->Nat)(tn:Nat)(h0:AHeap)(g0:Gh)(w0:World)(S:Nat->Prop)(q:Nat)(g:Gh)(w:World)(a:Act):Prop where
 ql:q<=ops.size
 ee:∀(j:Nat)(o:Oper),ops[j]?=some o->dC o=true->(S j↔j<q)
 ww:W (T q).h g w
 fr:dP (T q).h g
 early:∀(k:Nat)(o:Oper),ops[k]?=some o->aX o.op=true->S k->q<=k->∀x,(T (k+1)).h.get (A k)=some x->OR g w (A k) x
 ph:∀(k:Nat)(o:Oper),ops[k]?=some o->aX o.op=true->¬S k->∀v,g.B (A k) v=none
 kp:∀(k:Nat)(o:Oper),ops[k]?=some o->aX o.op=true->¬S k->k<q->(T q).h.get (A k)=(T (k+1)).h.get (A k)
 tm:∀t x,(T ops.size).tm.get t=some x->(∀(k:Nat)(o:Oper),ops[k]?=some o->o.dst=some t->S k)->∃v,a.tmps[t]?=some v/\VR g x v
 sz:a.tmps.size=tn
 df:iN g (T 0).df a.defers
 ka:Step h0 g0 w0 (T q).h g w
 lI:∀t x,(T 0).tm.get t=some x->(∀(k:Nat)(o:Oper),ops[k]?=some o->o.dst=some t->¬S k)->∃v,a.tmps[t]?=some v/\VR g x v
section
variable {P:Program}{R:Rec}{cx:Ctx}{ops:Array Oper}{kf:bY}{L:Nat->Prop}{T:Nat->av}{A:Nat->Nat}{h0:AHeap}{g0:Gh}{w0:World}{S:Nat->Prop}{q:Nat}{g:Gh}{w:World}{a:Act}
theorem Step.eqh{h1 h2:AHeap}(hs:Step h0 g0 w0 h1 g w)(hn:h2.next=h1.next)(j:h2.floor=h1.floor)(i:h2.wr=h1.wr)(hg:∀o,o<h0.next->h2.get o=h1.get o):Step h0 g0 w0 h2 g w where
 le:=hs.le
 gj:=by rw[hn];exact hs.gj
 nS:=by rw[j];exact hs.nS
 wr:=by rw[i];exact hs.wr
 b0:=λo a b c=>by rw[hg o b];exact hs.b0 o a b (by grind)
 ph:=λo a b=>by rw[hg o a];exact hs.ph o a b
 gone:=λo a b=>by rw[hg o a];exact hs.gone o a b
 ij:=λo v x e=>by rw[hn];exact hs.ij o v x e
 size:=hs.size
 old:=hs.old
 fr:=λb hb hk=>hs.fr b hb (by grind)
 tape:=hs.tape
 os:=hs.os
 out:=hs.out
 fI:=hs.fI
theorem cK.adv(hr:Rgn P R cx ops kf L T A h0)(hd:cK ops T A cx.tn h0 g0 w0 S q g w a){o:Oper}(ho:ops[q]?=some o)(hE:dC o=false):cK ops T A cx.tn h0 g0 w0 S (q+1) g w a:=by
 have dY:=hr.dY ho hE
 have he:∀(j:Nat)(o:Oper),ops[j]?=some o->dC o=true->(S j↔j<q+1):=by
  intro j o' m z
  rw[hd.ee j o' m z]
  refine⟨λh=>by omega,λh=>?_⟩
  rcases Nat.lt_or_ge j q with h1|h1
  .exact h1
  .grind
 rcases dY with⟨hA,h1,h2,h3,h4⟩|⟨hA,h1⟩|⟨h1,_⟩
 .refine⟨fx ho,he,⟨?_,hd.ww.cR,hd.ww.inj,hd.ww.ro,hd.ww.eU,hd.ww.gl⟩,λp hp=>hd.fr p (by grind),λk o' h5 h6 c C=>hd.early k o' h5 h6 c (by omega),hd.ph,?_,hd.tm,hd.sz,hd.df,?_,hd.lI⟩
  .intro p x hx
   by_cases e:p=A q
   .subst e
    rcases Classical.em (S q)with u|u
    .exact hd.early q o ho hA u (ao _) x hx
    .exact OR.yy (hd.ph q o ho hA u)
   .rw[h1 p e]at hx;exact hd.ww.obj p x hx
  .intro k o' h5 h6 c C
   rcases Nat.lt_or_ge k q with i|i
   .rw[h1 (A k) (λe=>by have:=hr.yW h5 ho h6 i;omega)];exact hd.kp k o' h5 h6 c i
   grind
  .exact hd.ka.eqh h2 h3 h4 λp hp=>h1 p (λe=>by have:=(hr.td ho hA).1;omega)
 .refine⟨fx ho,he,by rw[h1];exact hd.ww,by rw[h1];exact hd.fr,λk o' h5 h6 c C=>hd.early k o' h5 h6 c (by omega),hd.ph,?_,hd.tm,hd.sz,hd.df,by rw[h1];exact hd.ka,hd.lI⟩
  intro k o' h5 h6 c C
  rcases Nat.lt_or_ge k q with i|i
  .rw[h1];exact hd.kp k o' h5 h6 c i
  grind
 grind
theorem cK.zP(hr:Rgn P R cx ops kf L T A h0):∀(d:Nat)(q:Nat),cK ops T A cx.tn h0 g0 w0 S q g w a->q+d<=ops.size->(∀(j:Nat)(o:Oper),ops[j]?=some o->q<=j->j<q+d->dC o=false)->cK ops T A cx.tn h0 g0 w0 S (q+d) g w a
 |0,_,hd,_,_=>hd
 |d+1,q,hd,hn,hk=>by
  have c:q<ops.size:=by omega
  have ho:ops[q]?=some ops[q]:=by grind
  have:=cK.zP hr d (q+1) (hd.adv hr ho (hk q _ ho (ao _) (by omega))) (by omega) (λj o h1 h2 h3=>hk j o h1 (by omega) (by omega));grind
theorem yz{i:Nat}{o:Oper}(ho:ops[i]?=some o){x:Value}{g':Gh}(c:∀t x,(T 0).tm.get t=some x->(∀(k:Nat)(o:Oper),ops[k]?=some o->o.dst=some t->¬S k)->∃v,a.tmps[t]?=some v/\VR g x v)(hl:g.Le g'):∀t y,(T 0).tm.get t=some y->(∀(k:Nat)(o:Oper),ops[k]?=some o->o.dst=some t->¬(S k\/k=i))->∃u,(a.put o.dst x).tmps[t]?=some u/\VR g' y u:=by intro t y hy hk;obtain⟨u,h1,h2⟩:=c t y hy λk o' h1 h2 h3=>hk k o' h1 h2 (.inl h3);refine⟨u,?_,h2.mono hl⟩;cases hd:o.dst with|none=>exact h1|some d=>grind[Array.getElem?_setIfInBounds_ne,Act.put]
theorem yX(hr:Rgn P R cx ops kf L T A h0){i:Nat}{o:Oper}(ho:ops[i]?=some o){j:av}{v:AV}{x:Value}{g':Gh}(hp:j.put cx.tn o.dst v=some (T (i+1)))(hs:a.tmps.size=cx.tn)
 (c:∀t x,(T ops.size).tm.get t=some x->(∀(k:Nat)(o:Oper),ops[k]?=some o->o.dst=some t->S k)->∃v,a.tmps[t]?=some v/\VR g x v)(hl:g.Le g')(hv:VR g' v x):
 ∀t y,(T ops.size).tm.get t=some y->(∀(k:Nat)(o:Oper),ops[k]?=some o->o.dst=some t->S k\/k=i)->∃u,(a.put o.dst x).tmps[t]?=some u/\VR g' y u:=by
 intro t y hy hk
 cases hd:o.dst with
 |none=>
  obtain⟨u,h1,h2⟩:=c t y hy λk o' h1 h2=>by grind
  exact⟨u,h1,h2.mono hl⟩
 |some d=>
  by_cases e:t=d
  .subst e;obtain⟨h1,h2⟩:=hr.UW ho hp hd;simp_all[an,Act.put]
  .obtain⟨u,h1,h2⟩:=c t y hy λk o' h1 h2=>by grind
   refine⟨u,?_,h2.mono hl⟩;simp_all[Array.getElem?_setIfInBounds_ne,Ne.symm,Act.put]
theorem xW{dst:Option Tmp}{x:Value}:(a.put dst x).tmps.size=a.tmps.size:=by cases dst<;>simp[Act.put]
theorem put_defers{dst:Option Tmp}{x:Value}:(a.put dst x).defers=a.defers:=by cases dst<;>rfl
theorem cK.quiet(hr:Rgn P R cx ops kf L T A h0)(hd:cK ops T A cx.tn h0 g0 w0 S q g w a){i:Nat}{o:Oper}(ho:ops[i]?=some o)(hE:dC o=false)(hi:¬S i){c:av}{v:AV}{x:Value}
 (hp:c.put cx.tn o.dst v=some (T (i+1)))(hv:VR g v x):cK ops T A cx.tn h0 g0 w0 (λj=>S j\/j=i) q g w (a.put o.dst x)where
 ql:=hd.ql
 ee:=λj o' h1 h2=>by rw[<-hd.ee j o' h1 h2];grind
 ww:=hd.ww
 fr:=hd.fr
 early:=λk o' h1 h2 h3 h4 x hx=>by
  rcases h3 with h3|rfl
  .exact hd.early k o' h1 h2 h3 h4 x hx
  .exact OR.yy (hd.ph k o' h1 h2 hi)
 ph:=λk o' h1 h2 h3=>hd.ph k o' h1 h2 λh=>h3 (.inl h)
 kp:=λk o' h1 h2 h3 h4=>hd.kp k o' h1 h2 (λh=>h3 (.inl h)) h4
 tm:=yX hr ho hp hd.sz hd.tm (.refl g) hv
 sz:=xW.trans hd.sz
 df:=by rw[put_defers];exact hd.df
 lI:=yz ho hd.lI (.refl g);ka:=hd.ka
theorem cK.make(hr:Rgn P R cx ops kf L T A h0)(hd:cK ops T A cx.tn h0 g0 w0 S q g w a)(E:Pure ops kf T A q){i:Nat}{o:Oper}(ho:ops[i]?=some o)(hA:aX o.op=true)(hi:¬S i){v:AV}{x:Value}{h:AHeap}{y:bT}{g':Gh}{w':World}
 (hg:h.get (A i)=some y)(hn:h.next=A i+1)(hp:av.put {T i with h:={(T i).h with bU:=(T i).h.bU.put (A i) y}} cx.tn o.dst v=some (T (i+1)))(hv:VR g' v x)
 (hw:W h g' w')(hs:Step {bU:=.leaf,next:=A i,floor:=0,wr:=[]} g w h g' w'):cK ops T A cx.tn h0 g0 w0 (λj=>S j\/j=i) q g' w' (a.put o.dst x):=by
 have M:∀v,g.B (A i) v=none:=hd.ph i o ho hA hi
 have C:∀p,AHeap.get {bU:=.leaf,next:=A i,floor:=0,wr:=[]} p=none:=λp=>by simp[AHeap.get,Tr.get]
 have m:∀p v x,g'.B p v=some x->g.B p v=some x\/p=A i:=by
  intro p v x e
  rcases hs.ij p v x e with h1|⟨h1,h2⟩|⟨h1,_⟩
  .grind
  .grind
  .grind
 have D:∀b,b<w.heap.size->w'.heap[b]?=w.heap[b]?:=λb hb=>hs.fr b hb λp v s n _=>.inr (C p)
 have u:∀p x,p≠A i->OR g w p x->OR g' w' p x:=λp x hp h1=>h1.move hs.le (λv y e=>(m p v y e).resolve_right hp) (λv b s n e=>D b (hd.ww.cR p v b s n e))
 have hy:OR g' w' (A i) y:=hw.obj _ _ hg
 have I:(T (i+1)).h.get (A i)=some y:=by rw[(cU hp).1];exact Tr.aQ _ _ _
 have J:A i<(T q).h.next:=hr.Db hd.ql E ho hA (ao _)
 have F:W (T q).h g' w':=by
  refine⟨?_,hw.cR,hw.inj,hw.ro,hw.eU,hw.gl⟩
  intro p z hz
  by_cases e:p=A i
  .subst e
   rcases Nat.lt_or_ge i q with h1|h1
   .rw[hd.kp i o ho hA hi h1,I]at hz;grind
   .rw[hr.free hd.ql E ho hA q h1 (ao _)]at hz;cases hz
  .exact u p z e (hd.ww.obj p z hz)
 refine⟨hd.ql,?_,F,?_,?_,?_,?_,yX hr ho hp hd.sz hd.tm hs.le hv,xW.trans hd.sz,by rw[put_defers];exact hd.df.mono hs.le,?_,yz ho hd.lI hs.le⟩
 .intro j o' h1 h2
  rw[<-hd.ee j o' h1 h2]
  refine⟨λh=>?_,.inl⟩
  rcases h with h|rfl
  .exact h
  .rw[ho]at h1;cases h1;rw[(je.1 h2).1]at hA;cases hA
 .intro p G v
  cases e:g'.B p v with
  |none=>rfl
  |some z=>
   rcases m p v z e with h1|h1
   .rw[hd.fr p G v]at h1;cases h1
   .omega
 .intro k o' h1 h2 h3 h4 z hz
  by_cases e:k=i
  .grind
  .rcases h3 with h3|h3
   .exact u _ _ (λN=>e (hr.KN h1 ho h2 hA N)) (hd.early k o' h1 h2 h3 h4 z hz)
   grind
 .intro k o' h1 h2 h3 v
  cases e:g'.B (A k) v with
  |none=>rfl
  |some z=>
   rcases m _ v z e with h4|h4
   .rw[hd.ph k o' h1 h2 (λh=>h3 (.inl h)) v]at h4;cases h4
   .exact absurd (.inr (hr.KN h1 ho h2 hA h4)) h3
 .exactλk o' h1 h2 h3 h4=>hd.kp k o' h1 h2 (λh=>h3 (.inl h)) h4
 .have c:=hd.ka
  refine⟨c.le.trans hs.le,c.gj,c.nS,c.wr,c.b0,c.ph,c.gone,?_,Nat.le_trans c.size hs.size,?_,?_,hs.tape.trans c.tape,hs.os.trans c.os,hs.out.trans c.out,λK i v hm=>(hs.fI K i v hm).elim (λe=>c.fI K i v e) λe=>.inr (Nat.le_trans c.size e)⟩
  .intro p v z e
   rcases m p v z e with h1|h1
   .exact c.ij p v z h1
   .subst h1;exact .inr (.inl ⟨(hr.td ho hA).1,J⟩)
  .intro p v b s n e hb;obtain⟨v',s',n',h1⟩:=hs.old p v b s n e (Nat.lt_of_lt_of_le hb c.size);exact c.old p v' b s' n' h1 hb
  .intro b hb h1;rw[D b (Nat.lt_of_lt_of_le hb c.size)];exact c.fr b hb h1
end
end Go.AI
end

section
namespace Go.AI
section
variable {P:Program}{R:Rec}{cx:Ctx}{ops:Array Oper}{kf:bY}{L:Nat->Prop}{T:Nat->av}{A:Nat->Nat}{h0:AHeap}{g0:Gh}{w0:World}{S:Nat->Prop}{q:Nat}{g:Gh}{w:World}{a:Act}
theorem cK.Yt(hr:Rgn P R cx ops kf L T A h0){i:Nat}(hd:cK ops T A cx.tn h0 g0 w0 S i g w a){o:Oper}(ho:ops[i]?=some o)(hE:dC o=true){v:AV}{x:Value}
 (hp:(T i).put cx.tn o.dst v=some (T (i+1)))(hv:VR g v x):cK ops T A cx.tn h0 g0 w0 (λj=>S j\/j=i) (i+1) g w (a.put o.dst x):=by
 have c:(T (i+1)).h=(T i).h:=(cU hp).1
 have m:∀(k:Nat)(o':Oper),ops[k]?=some o'->aX o'.op=true->k≠i:=by rintro k o' h1 h2 rfl;rw[ho]at h1;cases h1;rw[(je.1 hE).1]at h2;cases h2
 refine⟨fx ho,?_,by rw[c];exact hd.ww,by rw[c];exact hd.fr,?_,λk o' h1 h2 h3=>hd.ph k o' h1 h2 λh=>h3 (.inl h),?_,yX hr ho hp hd.sz hd.tm (.refl g) hv,xW.trans hd.sz,by rw[put_defers];exact hd.df,by rw[c];exact hd.ka,yz ho hd.lI (.refl g)⟩
 .intro j o' h1 h2;rw[hd.ee j o' h1 h2];omega
 .intro k o' h1 h2 h3 h4 y hy
  rcases h3 with h3|h3
  .exact hd.early k o' h1 h2 h3 (by omega) y hy
  grind
 .intro k o' h1 h2 h3 h4;have:=m k o' h1 h2;rw[c];exact hd.kp k o' h1 h2 (λh=>h3 (.inl h)) (by omega)
theorem cK.abj(hr:Rgn P R cx ops kf L T A h0){i:Nat}(hd:cK ops T A cx.tn h0 g0 w0 S i g w a)(F:dP h0 g0)(c:Pure ops kf T A i){o:Oper}(ho:ops[i]?=some o)(hE:dC o=true){m:av}{v:AV}{x:Value}{g':Gh}{w':World}
 (hp:m.put cx.tn o.dst v=some (T (i+1)))(hv:VR g' v x)(hw:W (T (i+1)).h g' w')(hs:Step (T i).h g w (T (i+1)).h g' w'):
 cK ops T A cx.tn h0 g0 w0 (λj=>S j\/j=i) (i+1) g' w' (a.put o.dst x):=by
 have D:∀(k:Nat)(o':Oper),ops[k]?=some o'->aX o'.op=true->k≠i:=by rintro k o' h1 h2 rfl;rw[ho]at h1;cases h1;rw[(je.1 hE).1]at h2;cases h2
 have E:∀(k:Nat)(o':Oper),ops[k]?=some o'->aX o'.op=true->A k<(T i).h.next:=λk o' h1 h2=>hr.Db hd.ql c h1 h2 (ao _)
 refine⟨fx ho,?_,hw,hd.fr.step hs,?_,?_,?_,yX hr ho hp hd.sz hd.tm hs.le hv,xW.trans hd.sz,by rw[put_defers];exact hd.df.mono hs.le,hd.ka.trans F hs,yz ho hd.lI hs.le⟩
 .intro j o' h1 h2;rw[hd.ee j o' h1 h2];omega
 .intro k o' h1 h2 h3 h4 y hy
  rcases h3 with h3|h3
  .have u:=hd.early k o' h1 h2 h3 (by omega) y hy
   have C:(T i).h.get (A k)=none:=hr.free hd.ql c h1 h2 i (by omega) (ao _)
   refine u.move hs.le ?_ ?_
   .intro v' z e
    rcases hs.ij _ v' z e with h5|⟨h5,_⟩|⟨h5,_⟩
    .exact h5
    .grind
    grind
   .intro v' b s n e;refine hs.fr b (hd.ww.cR _ _ _ _ _ e) λp G I J e2=>?_;have:=hd.ww.inj _ _ _ _ _ _ _ _ _ e2 e;grind
  grind
 .intro k o' h1 h2 h3 v'
  have h4:=hd.ph k o' h1 h2 (λh=>h3 (.inl h))
  cases e:g'.B (A k) v' with
  |none=>rfl
  |some z=>
   rcases hs.ij _ v' z e with h5|⟨h5,_⟩|⟨_,G,h5⟩
   .grind
   .grind
   grind
 .intro k o' h1 h2 h3 h4;have h5:=D k o' h1 h2;have h6:=hd.ph k o' h1 h2 (λh=>h3 (.inl h));rw[hs.ph (A k) (E k o' h1 h2) h6];exact hd.kp k o' h1 h2 (λh=>h3 (.inl h)) (by omega)
theorem xG(h:AHeap):∀(ids:List Nat)(p:Nat)(x:bT),(eR h ids).get p=some x->p∈ids/\p<h.next/\h.get p=some x
 |[],p,x,e=>by simp[eR,Tr.get]at e
 |o::os,p,x,e=>by
  have ih:=xG h os p x
  unfold eR at e
  split at e
  .rename_i i
   split at e
   .rename_i y hy
    rw[Tr.qH]at e
    split at e
    .rename_i c;subst c;simp only[an]at e;subst e;exact⟨List.mem_cons_self ..,i,hy⟩
    .obtain⟨h1,h2⟩:=ih e;exact⟨List.mem_cons_of_mem _ h1,h2⟩
   .obtain⟨h1,h2⟩:=ih e;exact⟨List.mem_cons_of_mem _ h1,h2⟩
  .obtain⟨h1,h2⟩:=ih e;exact⟨List.mem_cons_of_mem _ h1,h2⟩
theorem cK.looks(hr:Rgn P R cx ops kf L T A h0)(hd:cK ops T A cx.tn h0 g0 w0 S q g w a)(G:∀(i:Nat)(o:Oper)(e:Edge),ops[i]?=some o->S i->e∈o.after->Region.binds .any e=true->S e.on)
 {i:Nat}{o:Oper}(u:Pure ops kf T A i)(m:Pure ops kf T A q)(ho:ops[i]?=some o)(hi:¬S i)(z:∀e,e∈o.after->Region.binds .any e=true->S e.on)
 {ids:List Nat}(hk:(i,ids)∈kf.fs):W {(T i).h with bU:=eR (T i).h ids} g w:=by
 refine⟨?_,hd.ww.cR,hd.ww.inj,hd.ww.ro,hd.ww.eU,hd.ww.gl⟩
 intro p x hx
 obtain⟨h1,h2,h3⟩:=xG _ _ _ _ hx
 have E:=fx ho
 rcases Nat.lt_or_ge i q with D|D
 .
  have key:∀d,i+d<=q->(T (i+d)).h.get p=some x:=by
   intro d
   induction d with
   |zero=>grind
   |succ d ih=>
    intro F
    have ih:=ih (by omega)
    have C:i+d<ops.size:=by have:=hd.ql;omega
    have hq:ops[i+d]?=some ops[i+d]:=by grind
    rw[show i+(d+1)=i+d+1 by omega]
    rcases m (i+d) _ (by omega) hq with⟨hA,h4,_⟩|⟨_,h4⟩|⟨hE,wr,h4,_,h5,_⟩
    .rw[h4 p ?_]
     .exact ih
     .intro e;rw[e,hr.free hd.ql m hq hA (i+d) (ao _) (by omega)]at ih;cases ih
    .grind
    .rw[h5 p ?_ ?_]
     .exact ih
     .have:=hr.xF hd.ql m (i:=i) d (by omega);omega
     .refine IV hr.bk hk h4 ?_ ?_ p h1
      .intro c;have:=bZ.lt hr.st c;omega
      .intro c;have j:S (i+d):=(hd.ee _ _ hq hE).2 (by omega);exact hi (bZ.closed hr.st G j c)
  have:=key (q-i) (by omega);rw[show i+(q-i)=q by omega]at this;exact hd.ww.obj p x this
 .have key:∀d,q+d<=i->∀y,(T (q+d)).h.get p=some y->OR g w p y:=by
   intro d
   induction d with
   |zero=>intro _ y hy;exact hd.ww.obj p y hy
   |succ d ih=>
    intro F y hy
    have ih:=ih (by omega)
    have C:q+d<ops.size:=by omega
    have hq:ops[q+d]?=some ops[q+d]:=by grind
    rw[show q+(d+1)=q+d+1 by omega]at hy
    rcases u (q+d) _ (by omega) hq with⟨hA,h4,_⟩|⟨_,h4⟩|⟨hE,wr,h4,_,h5,_⟩
    .by_cases e:p=A (q+d)
     .subst e
      rcases Classical.em (S (q+d))with j|j
      .exact hd.early _ _ hq hA j (by omega) y hy
      .exact OR.yy (hd.ph _ _ hq hA j)
     grind
    .grind
    .rcases Nat.lt_or_ge p (T (q+d)).h.next with h6|h6
     .rw[h5 p h6 ?_]at hy
      .grind
      .refine IV hr.bk hk h4 ?_ ?_ p h1
       .intro c;have j:=bZ.ready hr.st G ho z c;have:=(hd.ee _ _ hq hE).1 j;omega
       .intro c;have:=bZ.lt hr.st c;omega
     .have I:=hr.xF (Nat.le_of_lt E) u (i:=q) d (by omega);exact OR.yy λv=>hd.fr p (by omega) v
  have:=key (i-q) (by omega) x;grind
theorem cK.M7(hr:Rgn P R cx ops kf L T A h0)(hd:cK ops T A cx.tn h0 g0 w0 S q g w a){i:Nat}{o:Oper}(ho:ops[i]?=some o)(j:∀k,bZ ops i k->S k)(c:∀k,bZ ops k i->¬S k):
 ∀x,VR g (cX (tmpsOf o) (T i).tm x) (a.eval x):=by
 intro x
 cases x with
 |tmp t=>
  show VR g (if(tmpsOf o).contains t then(match(T i).tm.get t with|some v=>v|none=>.aA)else .aA) (a.tmps.getD t undef)
  split
  .rename_i hc
   have ht:t∈tmpsOf o:=by grind
   cases hx:(T i).tm.get t with
   |none=>exact .aA _
   |some v=>
    have:∃u,a.tmps[t]?=some u/\VR g v u:=by
     rcases hr.opn ho ht with⟨e,h⟩|⟨e,h⟩
     .exact hd.tm t v (e.trans hx) λk o' h1 h2=>j k (h k o' h1 h2)
     .exact hd.lI t v (e.trans hx) λk o' h1 h2=>c k (h k o' h1 h2)
    obtain⟨u,h1,h2⟩:=this;simp_all
  .exact .aA _|const v=>exact VR.bh v|global n=>exact .sc _|func f=>exact .sc _
theorem cK.want(hr:Rgn P R cx ops kf L T A h0)(hd:cK ops T A cx.tn h0 g0 w0 S q g w a){i:Nat}{o:Oper}(ho:ops[i]?=some o)(m:∀k,bZ ops i k->S k){b:Bool}
 (hw:cf ops o (T i).tm=some b):Region.wanted o (yielded ops a.tmps)=b:=by
 rw[hr.RS ho]at hw
 unfold cf at hw
 unfold Region.wanted
 cases hg:o.guard with
 |none=>rw[hg]at hw;simpa using hw
 |some p=>
  obtain⟨j,want⟩:=p
  rw[hg]at hw
  simp only at hw⊢
  unfold yielded
  cases c:(ops[j]?).bind (·.dst)with
  |none=>rw[c]at hw;cases hw
  |some d=>
   rw[c]at hw
   simp only at hw
   have hj:S j:=m j (hr.st.guard i o j want ho hg)
   cases ht:(T ops.size).tm.get d with
   |none=>rw[ht]at hw;cases hw
   |some v=>
    rw[ht]at hw
    obtain⟨u,h1,h2⟩:=hd.tm d v ht λk o' h1 h2=>by cases hq:ops[j]? with|none=>rw[hq]at c;cases c|some z=>rw[hq]at c;rw[hr.st.one j k z o' d hq h1 h2 (by simpa using c)];exact hj
    simp only[Option.bind_some,h1]
    split at hw
    .rename_i q hq;simp only[an]at hq;subst hq;cases h2;simp at hw⊢;rw[<-hw];try(cases q<;>cases want<;>rfl)
    .rename_i q hq;simp only[an]at hq;subst hq;obtain⟨cs,rfl,_⟩:=VR.eo.1 h2;simp at hw;subst hw;rfl
    .cases hw
end
end Go.AI
end

section
namespace Go.AI
section
variable {P:Program}{R:Rec}{cx:Ctx}{ops:Array Oper}{kf:bY}{L:Nat->Prop}{T:Nat->av}{A:Nat->Nat}{h0:AHeap}{g0:Gh}{w0:World}{S:Nat->Prop}{q:Nat}{g:Gh}{w:World}{a:Act}
def uZ(ops:Array Oper)(S:Nat->Prop):Prop:=∀(i:Nat)(o:Oper)(e:Edge),ops[i]?=some o->S i->e∈o.after->Region.binds .any e=true->S e.on
theorem cK.one(hP:ProgOK P)(hR:cv P R)(hr:Rgn P R cx ops kf L T A h0)(hd:cK ops T A cx.tn h0 g0 w0 S q g w a)(hf0:dP h0 g0)(X:uZ ops S){i:Nat}{o:Oper}
 (N:Pure ops kf T A i)(M:Pure ops kf T A q)(ho:ops[i]?=some o)(Pn:L i)(hi:¬S i)(K:∀e,e∈o.after->Region.binds .any e=true->S e.on){b:Frame}(hc:ll g0 cx b)(cs:List Frame)(k:List Item)(rest:List Nat):
 ∃g' w' a' Y,cK ops T A cx.tn h0 g0 w0 (λj=>S j\/j=i) Y g' w' a'/\(Y=q\/Y=i+1/\dC o=true)/\EO kf T A i o/\Steps P (lone (aq b a (.inRegion ops (i::rest)::k)) cs w) (lone (aq b a' (.inRegion ops rest::k)) cs w'):=by
 have u:∀j,bZ ops i j->S j:=λj h=>bZ.ready hr.st X ho K h
 have I:∀j,bZ ops j i->¬S j:=by intro j h hj;obtain⟨o',O⟩:=bZ.here h;exact hi (bZ.ready hr.st X O (λe h1 h2=>X j o' e O hj h1 h2) h)
 have C:=hd.M7 hr ho u I
 have J:dC o=true->cK ops T A cx.tn h0 g0 w0 S i g w a:=by
  intro hE
  have hqi:q<=i:=by
   rcases Nat.lt_or_ge i q with h|h
   .exact absurd ((hd.ee i o ho hE).2 h) hi
   .exact h
  have:=cK.zP hr (i-q) q hd (by grind) (λj o' h1 h2 h3=>by cases V:dC o' with|false=>rfl|true=>have U:=je.1 hE;have Q:=je.1 V;have GY:=u j (hr.st.chain i j o o' ho h1 (by omega) U.1 U.2 Q.1 Q.2);have:=(hd.ee j o' h1 V).1 GY;omega);grind
 cases hr.tr i o ho with
 |dead hL hp ha=>grind
 |skip hw hp ha=>have m:=hd.want hr ho u hw;have dY:=Hy (P:=P) (b:=b) (a:=a) (k:=k) (cs:=cs) (w:=w) (ops:=ops) (i:=i) (rest:=rest) (by grind);rw[ho]at dY;cases hE:dC o with|false=>exact⟨g,w,_,q,hd.quiet hr ho hE hi hp VR.undef,.inl rfl,hr.dY ho hE,.one dY⟩|true=>exact⟨g,w,_,i+1,(J hE).Yt hr ho hE hp VR.undef,.inr ⟨rfl,rfl⟩,.inr (.inl ⟨(je.1 hE).1,(cU hp).1⟩),.one dY⟩
 |mk v h x hw hA z hg hn hp ha=>
  have m:=hd.want hr ho u hw
  have hE:dC o=false:=by unfold dC;rw[hA];rfl
  have G:kB b o:=.inr λc e=>by rw[e]at hA;simp[aX]at hA
  have hWe:W {bU:=.leaf,next:=A i,floor:=0,wr:=[]} g w:=⟨λp y hy=>by simp[AHeap.get,Tr.get]at hy,hd.ww.cR,hd.ww.inj,hd.ww.ro,hd.ww.eU,hd.ww.gl⟩;obtain⟨g',w',y,h1,h2,h3,h4⟩:=oJ hP hWe (hd.ph i o ho hA hi) C z;exact⟨g',w',_,q,hd.make hr M ho hA hi hg hn hp h2 h3 h4,.inl rfl,hr.dY ho hE,.one (Cq ho m G h1)⟩
 |look v h hw hA hF z Z hp ha hk=>
  have m:=hd.want hr ho u hw
  have hE:dC o=false:=by unfold dC;rw[hF];simp
  have G:kB b o:=.inr λc e=>by rw[e]at hF;simp[bN]at hF
  obtain⟨y,h1,h2⟩:=S9 hF (hd.looks hr X N M ho hi K hk) C z Z;exact⟨g,w,_,q,hd.quiet hr ho hE hi hp h2,.inl rfl,hr.dY ho hE,.one (Cq ho m G h1)⟩
 |act v cm h hw hA hF z hp ha hk=>
  have m:=hd.want hr ho u hw
  have hE:dC o=true:=je.2 ⟨hA,hF⟩
  have E:=J hE
  obtain⟨g',w',y,aH,h1,h2,h3,h4,_,_,h5⟩:=C9 (ops:=ops) (i:=i) (rest:=rest) (k:=k) (cs:=cs) (b:=b) (a:=a) hP hR z E.ww.inner E.fr.inner (hc.mono hd.ka.le) C trivial ho m
  obtain rfl:aH=cs:=h4.1 rfl
  obtain⟨h6,h7⟩:=xV E.fr h1 h2
  have hh:(T (i+1)).h=(T i).h.outer h:=(cU hp).1
  refine⟨g',w',_,i+1,E.abj hr hf0 N ho hE hp h3 (by grind) (by grind),.inr ⟨rfl,hE⟩,.inr (.inr ⟨hE,h.wr,hk,?_,?_,?_⟩),h5⟩
  .rw[hh];exact h1.gj
  .intro p D F;rw[hh];exact h1.b0 p D D F
  .intro p D F;rw[hh];exact h1.gone p D F
theorem Rgn.start(hr:Rgn P R cx ops kf L T A h0)(hw:W h0 g w)(hf:dP h0 g)(ht:TR g (T 0).tm a.tmps)(hs:a.tmps.size=cx.tn)(c:iN g (T 0).df a.defers)(i:∀j,¬S j):
 cK ops T A cx.tn h0 g w S 0 g w a where
 ql:=Nat.zero_le _
 ee:=λj o _ _=>⟨λh=>absurd h (i j),λh=>by omega⟩
 ww:=hw.congr λo=>by rw[hr.t0];rfl
 fr:=λp hp v=>hf p (by rw[hr.t0]at hp;grind) v
 early:=λk o _ _ h=>absurd h (i k)
 ph:=λk o h1 h2 _ v=>hf _ (hr.td h1 h2).1 v
 kp:=λk o _ _ _ h=>by omega
 tm:=λt x hx hk=>by rw[hr.Sk λk q h1 h2=>i k (hk k q h1 h2)]at hx;exact ht t x hx
 sz:=hs
 df:=c
 lI:=λt x hx _=>ht t x hx
 ka:=by rw[hr.t0];exact{Step.refl h0 g w with gj:=Nat.le_add_right _ _,b0:=λ_ _ _ _=>rfl,ph:=λ_ _ _=>rfl,gone:=λ_ _ h=>h,ij:=λ_ _ _ h=>.inl h,fr:=λ_ _ _=>rfl}
theorem Ig(c:List Nat)(k:Nat):∀(es:List Edge)(s:Nat),(s.testBit k=true\/∃e,e∈es/\Region.binds .any e=true/\(e.on=k\/(c.getD e.on 0).testBit k=true))->(es.foldl (λs e=>if Region.binds .any e then s|||2^e.on|||c.getD e.on 0 else s) s).testBit k=true|[],s,h=>by grind|e::es,s,h=>by simp only[List.foldl_cons];refine Ig c k es _ ?_;grind
theorem bZ.make(hs:Static ops){i k:Nat}{o:Oper}{e:Edge}(ho:ops[i]?=some o)(h1:e∈o.after)(h2:Region.binds .any e=true)(h3:e.on=k\/bZ ops e.on k):bZ ops i k:=by have c:=hs.back i o e ho h1 h2;unfold bZ;have hq:=(xE ops.toList []).2 i o (by grind);simp only[List.length_nil,Nat.zero_add]at hq;rw[hq];unfold sR;rw[<-Array.foldl_toList];refine Ig _ k _ _ (.inr ⟨e,by grind,h2,?_⟩);simp_all[List.getD_eq_getElem?_getD,List.getElem?_take,if_pos,bZ]
structure Live(ops:Array Oper)(L:Nat->Prop):Prop where
 cl:∀(i:Nat)(o:Oper)(e:Edge),ops[i]?=some o->L i->e∈o.after->Region.binds .any e=true->L e.on
 ee:∀(i j:Nat)(o q:Oper),ops[i]?=some o->ops[j]?=some q->dC o=true->dC q=true->i<j->L j->L i
theorem Rgn.pure(hP:ProgOK P)(E:cv P R)(hr:Rgn P R cx ops kf L T A h0)(hL:Live ops L)(F:∀(i:Nat)(o:Oper),ops[i]?=some o->¬L i->(T (i+1)).h=(T i).h)(hw:W h0 g w)(hf:dP h0 g)(ht:TR g (T 0).tm a.tmps)(hs:a.tmps.size=cx.tn)(u:iN g (T 0).df a.defers){b:Frame}(hc:ll g cx b):
 ∀m,m<=ops.size->Pure ops kf T A m/\∃g' w' a' C,C<=m/\cK ops T A cx.tn h0 g w (λj=>j<m/\L j) C g' w' a'
 |0,_=>⟨λj o hj _=>by omega,g,w,a,0,ao _,hr.start hw hf ht hs u λj h=>by omega⟩
 |m+1,hm=>by
  obtain⟨h1,g',w',a',C,h2,h3⟩:=Rgn.pure hP E hr hL F hw hf ht hs u hc m (by omega)
  have D:m<ops.size:=by omega
  have ho:ops[m]?=some ops[m]:=by simp[D]
  by_cases p:L m
  .obtain⟨g2,w2,G,q2,h4,h5,h6,_⟩:=h3.one hP E hr hf (λi o e h1 h2 h3 h4=>⟨by have:=hr.st.back i o e h1 h3 h4;omega,hL.cl i o e h1 h2.2 h3 h4⟩) h1 (h1.le h2) ho p (by omega) (λe h1 h2=>⟨hr.st.back m _ e ho h1 h2,hL.cl m _ e ho p h1 h2⟩) hc [] [] []
   refine⟨λj o hj c=>?_,g2,w2,G,q2,by grind,?_⟩
   .rcases Nat.lt_or_ge j m with z|z
    .exact h1 j o z c
    grind
   grind
  .refine⟨λj o hj c=>?_,g',w',a',C,by omega,?_⟩
   .rcases Nat.lt_or_ge j m with z|z
    .exact h1 j o z c
    .obtain rfl:j=m:=by omega
     cases hE:dC o with|false=>exact hr.dY c hE|true=>exact .inr (.inl ⟨(je.1 hE).1,F j o c p⟩)
   grind
theorem KO(E:Static ops){c t:Nat}{listed:Array Bool}(D:listed.size=ops.size)(M:listed.toList.count false=c+1)(G:uZ ops (λj=>listed[j]?=some true)):
 ∃(i:Nat)(o:Oper)(t':Nat),Region.linearise.go .any ops (c+1) t listed []=i::Region.linearise.go .any ops c t' (listed.setIfInBounds i true) []/\ops[i]?=some o/\¬listed[i]?=some true/\(∀e,e∈o.after->Region.binds .any e=true->listed[e.on]?=some true)/\(listed.setIfInBounds i true).toList.count false=c/\(λj:Nat=>listed[j]?=some true\/j=i)=(λj:Nat=>(listed.setIfInBounds i true)[j]?=some true)/\uZ ops (λj=>(listed.setIfInBounds i true)[j]?=some true):=by
 have m:∀i:Nat,i∈Region.ready .any ops listed->∃o,ops[i]?=some o/\listed[i]?=some false/\∀e,e∈o.after->Region.binds .any e=true->listed[e.on]?=some true:=by
  intro i hi
  unfold Region.ready at hi
  simp only[List.mem_filter,List.mem_range,aZ]at hi
  obtain⟨h1,h2,h3⟩:=hi
  have ho:ops[i]?=some ops[i]:=by simp[h1]
  refine⟨ops[i],ho,?_,?_⟩
  .simp_all
  .intro e he hb
   rw[ho]at h3
   simp only[Option.map_some,Option.getD_some,Array.all_eq_true]at h3
   obtain⟨n,hn,rfl⟩:=Array.mem_iff_getElem.1 he
   have h4:=h3 n hn
   rw[hb]at h4
   simp only[Bool.not_true,Bool.false_or]at h4
   rcases Nat.lt_or_ge (ops[i].after[n]).on listed.size with h5|h5
   .rw[Array.getD_eq_getD_getElem?]at h4;simp only[h5,getElem?_pos,Option.getD_some]at h4⊢;rw[h4]
   grind
 have u:Region.ready .any ops listed≠[]:=by
  intro J
  have z:false∈listed.toList:=List.count_pos_iff.1 (by omega)
  have hex:∃j:Nat,listed[j]?=some false:=by
   obtain⟨j,hj,he⟩:=List.mem_iff_getElem.1 z
   have V:j<listed.size:=by simpa using hj
   have he':listed[j]=false:=by simpa using he
   exact⟨j,by grind⟩
  have p:∀n:Nat,(∃j:Nat,j<n/\listed[j]?=some false)->False:=by
   intro n
   induction n with
   |zero=>grind
   |succ n N=>
    rintro⟨j,hj,U⟩
    rcases Nat.lt_or_ge j n with h1|h1
    .grind
    .obtain rfl:j=n:=by omega
     have Q:j<listed.size:=by
      rcases Nat.lt_or_ge j listed.size with h2|h2
      .exact h2
      .grind
     have ho:ops[j]?=some ops[j]:=by simp[show j<ops.size by omega]
     have X:j∈Region.ready .any ops listed:=by
      unfold Region.ready
      simp only[List.mem_filter,List.mem_range,aZ]
      refine⟨by omega,?_,?_⟩
      .simp_all
      .rw[ho]
       simp only[Option.map_some,Option.getD_some,Array.all_eq_true]
       intro n hn
       cases hb:Region.binds .any ops[j].after[n]with
       |false=>rfl
       |true=>
        have O:=E.back j _ _ ho (Array.getElem_mem hn) hb
        have K:(ops[j].after[n]).on<listed.size:=by omega
        simp only[Bool.not_true,Bool.false_or];rw[Array.getD_eq_getD_getElem?];grind
     grind
  obtain⟨j,hj⟩:=hex;exact p (j+1) ⟨j,by omega,hj⟩
 have I:0<(Region.ready .any ops listed).length:=List.length_pos_iff.2 u
 simp only[Region.linearise.go]
 change∃(i:Nat)(o:Oper)(t':Nat),(match(Region.ready .any ops listed)[t%(Region.ready .any ops listed).length]? with|some i=>Region.linearise.go .any ops c (t/(Region.ready .any ops listed).length) (listed.setIfInBounds i true) [i]|none=>[].reverse)=i::Region.linearise.go .any ops c t' (listed.setIfInBounds i true) []/\_
 cases hi:(Region.ready .any ops listed)[t%(Region.ready .any ops listed).length]? with
 |none=>simp_all[Nat.mod_lt,List.getElem?_eq_none_iff]
 |some i=>
  simp only[]
  rw[linearise_go_acc,List.reverse_singleton,List.singleton_append]
  obtain⟨o,ho,Z,F⟩:=m i (List.mem_of_getElem? hi)
  have Y:i<listed.size:=by rw[D];exact fx ho
  have C:(λj:Nat=>listed[j]?=some true\/j=i)=(λj:Nat=>(listed.setIfInBounds i true)[j]?=some true):=by
   funext j
   apply propext
   by_cases e:j=i
   .grind
   .grind
  refine⟨i,o,_,rfl,ho,by grind,F,?_,C,?_⟩
  .grind
  .rw[<-C]
   intro j o' e h3 h4 h5 h6
   rcases h4 with h4|rfl
   .exact .inl (G j o' e h3 h4 h5 h6)
   grind
theorem UX(hP:ProgOK P)(N:cv P R)(hr:Rgn P R cx ops kf L T A h0)(hL:∀i,L i)(F:dP h0 g0)(C:Pure ops kf T A ops.size){b:Frame}(hc:ll g0 cx b)(cs:List Frame)(k:List Item):
 ∀(c t:Nat)(listed:Array Bool)(q:Nat)(g:Gh)(w:World)(a:Act),listed.size=ops.size->listed.toList.count false=c->uZ ops (λj=>listed[j]?=some true)->cK ops T A cx.tn h0 g0 w0 (λj=>listed[j]?=some true) q g w a->∃(I:Nat->Prop)(J:Nat)(g':Gh)(w':World)(a':Act),cK ops T A cx.tn h0 g0 w0 I J g' w' a'/\(∀j,j<ops.size->I j)/\Steps P (lone (aq b a (.inRegion ops (Region.linearise.go .any ops c t listed [])::k)) cs w) (lone (aq b a' (.inRegion ops []::k)) cs w'):=by
 intro c
 induction c with
 |zero=>
  intro t listed q g w a p m z hd
  refine⟨_,q,g,w,a,hd,?_,?_⟩
  .intro j hj
   have M:j<listed.size:=by omega
   have K:=List.count_eq_zero.1 m;cases hv:listed[j]with|true=>grind|false=>grind
  .simp only[Region.linearise.go,List.reverse_nil];exact .refl _ _|succ c ih=>intro t listed q g w a p m z hd;obtain⟨i,o,t',e1,ho,hi,E,u,G,D⟩:=KO (t:=t) hr.st p m z;obtain⟨g1,w1,O,q1,h1,_,_,h2⟩:=hd.one hP N hr F z (C.le (Nat.le_of_lt (fx ho))) (C.le hd.ql) ho (hL i) hi E hc cs k (Region.linearise.go .any ops c t' (listed.setIfInBounds i true) []);rw[G]at h1;obtain⟨I,J,g',w',a',h3,h4,h5⟩:=ih t' (listed.setIfInBounds i true) q1 g1 w1 O (by simp[p]) u D h1;grind[Steps.trans]
theorem W0(hP:ProgOK P)(hR:cv P R)(hr:Rgn P R cx ops kf L T A h0)(O:dP h0 g0){m:Nat}{o:Oper}{v:AV}{h:AHeap}(hm:ops[m]?=some o)(Pn:Live ops L)(hLm:¬L m)(J:Pure ops kf T A ops.size)
 (hde:∀(j:Nat),j<ops.size->j≠m->¬L j->bZ ops j m)(hE:dC o=true)(hw:cf ops o (T m).tm=some true)
 (K:cu P R cx (cX (tmpsOf o) (T m).tm) o .none (T m).h.inner=some (.aE v h)){b:Frame}(hc:ll g0 cx b)(cs:List Frame)(k:List Item):
 ∀(c t:Nat)(listed:Array Bool)(q:Nat)(g:Gh)(w:World)(a:Act),listed.size=ops.size->listed.toList.count false=c->uZ ops (λj=>listed[j]?=some true)->(∀j:Nat,listed[j]?=some true->L j)->q<=m->cK ops T A cx.tn h0 g0 w0 (λj=>listed[j]?=some true) q g w a->∃(g':Gh)(w':World)(a':Act)(x:Value)(todo:List Item),Step h0 g0 w0 ((T m).h.outer h) g' w'/\W ((T m).h.outer h) g' w'/\a'.tmps.size=cx.tn/\iN g' (T 0).df a'.defers/\VR g' v x/\Steps P (lone (aq b a (.inRegion ops (Region.linearise.go .any ops c t listed [])::k)) cs w) (lone {aq b a' todo with mode:=.panicking [{v:=x,recovered:=false}]} cs w'):=by
 intro c
 induction c with
 |zero=>
  intro t listed q g w a D z u Z hq hd
  have hml:m<listed.size:=by rw[D];exact fx hm
  have GX:=List.count_eq_zero.1 z;cases hv:listed[m]with|true=>grind|false=>grind
 |succ c ih=>
  intro t listed q g w a D z u Z hq hd
  obtain⟨i,o',t',e1,ho,hi,I,G,hSe,Q⟩:=KO (t:=t) hr.st D z u
  have C:∀j,bZ ops i j->listed[j]?=some true:=λj h=>bZ.ready hr.st u ho I h
  by_cases h1:i=m
  .subst h1
   rw[hm]at ho
   cases ho
   have F:∀j,bZ ops j i->¬listed[j]?=some true:=by intro j h hj;obtain⟨o',N⟩:=bZ.here h;exact hi (bZ.ready hr.st u N (λe h1 h2=>u j o' e N hj h1 h2) h)
   have M:=hd.M7 hr hm C F;have E:=hd.want hr hm C hw;have p:=cK.zP hr (i-q) q hd (by grind) (λj o' h1 h2 h3=>by cases X:dC o' with|false=>rfl|true=>have V:=je.1 hE;have U:=je.1 X;have GY:=C j (hr.st.chain i j o o' hm h1 (by omega) V.1 V.2 U.1 U.2);have:=(hd.ee j o' h1 X).1 GY;omega);rw[show q+(i-q)=i by omega]at p;obtain⟨g',w',x,todo,r1,r2,r3,r4⟩:=C9 (ops:=ops) (i:=i) (rest:=Region.linearise.go .any ops c t' (listed.setIfInBounds i true) []) (k:=k) (cs:=cs) (b:=b) (a:=a) hP hR K p.ww.inner p.fr.inner (hc.mono p.ka.le) M trivial hm E;obtain⟨h6,h7⟩:=xV p.fr r1 r2;exact⟨g',w',a,x,todo,p.ka.trans O h6,h7,p.sz,p.df.mono h6.le,r3,by grind⟩
  .by_cases hl:L i
   .obtain⟨g1,w1,a1,q1,h2,h3,_,h4⟩:=hd.one hP hR hr O u (J.le (Nat.le_of_lt (fx ho))) (J.le hd.ql) ho hl hi I hc cs k (Region.linearise.go .any ops c t' (listed.setIfInBounds i true) [])
    rw[hSe]at h2
    have Y:q1<=m:=by
     rcases h3 with h3|⟨h3,h5⟩
     .omega
     .rcases Nat.lt_or_ge i m with h6|h6
      .omega
      .exact absurd (Pn.ee m i o o' hm ho hE h5 (by omega) hl) hLm
    obtain⟨g',w',a',x,todo,r1,r2,r3,r4,r5,r6⟩:=ih t' (listed.setIfInBounds i true) q1 g1 w1 a1 (by simp[D]) G Q (λj hj=>by grind) Y h2;grind[Steps.trans]
   grind
theorem Rgn.Dc(hr:Rgn P R cx ops kf L T A h0):∀(i:Nat),i<=ops.size->(T i).cm=(T 0).cm/\(T i).df=(T 0).df
 |0,_=>⟨rfl,rfl⟩
 |i+1,hi=>by
  have ho:ops[i]?=some ops[i]:=by simp[show i<ops.size by omega]
  obtain⟨v,_,_,h1,h2⟩:=hr.FC i _ ho;obtain⟨h3,h4⟩:=Rgn.Dc hr i (by omega);exact⟨h1.trans h3,h2.trans h4⟩
theorem Dd{h:AHeap}:∀(n o:Nat),tv h n o=true->∀p,o<=p->p<o+n->h.get p=none
 |0,o,_,p,h1,h2=>by omega
 |n+1,o,hn,p,h1,h2=>by
  simp only[tv,aZ]at hn
  by_cases e:p=o
  .simp_all
  .exact Dd n (o+1) hn.2 p (by omega) (by omega)
theorem me.book{L:Nat->Prop}{o:Oper}{i n n':Nat}{st st':av}{k kf:bY}(h:me P R cx ops k L o i n st n' st')(h1:∀x,x∈k.es->x∈kf.es)(h2:∀x,x∈k.fs->x∈kf.fs):me P R cx ops kf L o i n st n' st':=by cases h with|skip hw hp ha=>exact .skip hw hp ha|mk v h x hw hA hr hg hn hp ha=>exact .mk v h x hw hA hr hg hn hp ha|look v h hw hA hF hr hn hp ha hk=>exact .look v h hw hA hF hr hn hp ha (h2 _ hk)|act v cm h hw hA hF hr hp ha hk=>exact .act v cm h hw hA hF hr hp ha (h1 _ hk)|dead hL hp ha=>exact .dead hL hp ha
def zQ(P:Program)(R:Rec)(cx:Ctx)(ops:Array Oper)(b:List Nat)(m:Nat)(L:Nat->Prop)(l:List Oper)(i n:Nat)(k kf:bY)(st:av):Prop:=∃(T:Nat->av)(A:Nat->Nat),T i=st/\A i=n/\((∀x,x∈k.es->x∈kf.es)/\(∀x,x∈k.fs->x∈kf.fs))/\(∀(j:Nat)(o:Oper),l[j]?=some o->me P R cx ops kf L o (i+j) (A (i+j)) (T (i+j)) (A (i+j+1)) (T (i+j+1)))/\(∀(j:Nat)(o:Oper),l[j]?=some o->¬L (i+j)->(T (i+j+1)).h=(T (i+j)).h)/\(∀(j:Nat)(o:Oper),l[j]?=some o->dC o=true->(b.getD (i+j) 0).testBit m=true)
theorem zQ.cons{b:List Nat}{m:Nat}{L:Nat->Prop}{l:List Oper}{o:Oper}{i n n1:Nat}{k p kf:bY}{st c:av}(z:∀x,x∈k.es->x∈p.es)(u:∀x,x∈k.fs->x∈p.fs)(h2:zQ P R cx ops b m L l (i+1) n1 p kf c)
 (h1:(∀x,x∈p.es->x∈kf.es)->(∀x,x∈p.fs->x∈kf.fs)->me P R cx ops kf L o i n st n1 c)(h3:¬L i->c.h=st.h)(h4:dC o=true->(b.getD i 0).testBit m=true):zQ P R cx ops b m L (o::l) i n k kf st:=by
 obtain⟨T,A,t1,t2,⟨b1,b2⟩,E,D,C⟩:=h2
 refine⟨λj=>if j=i then st else T j,λj=>if j=i then n else A j,by simp,by simp,⟨λx e=>b1 x (z x e),λx e=>b2 x (u x e)⟩,λj q hq=>?_,λj q hq hl=>?_,λj q hq hE=>?_⟩
 .grind
 .grind
 .cases j with|zero=>grind|succ j=>grind
theorem Cg{b:List Nat}{m:Nat}:∀{l:List Oper}{i n:Nat}{k kf:bY}{st:av},hV P R cx ops b m l i n k st=some kf->m<i->
 zQ P R cx ops b m (λj=>j<m\/m<j/\(b.getD j 0).testBit m=false) l i n k kf st
 |[],i,n,k,kf,st,h,_=>by simp only[hV,an]at h;subst h;exact⟨λ_=>st,λ_=>n,rfl,rfl,⟨λ_ e=>e,λ_ e=>e⟩,λj o h=>by simp at h,λj o h=>by simp at h,λj o h=>by simp at h⟩
 |o::l,i,n,k,kf,st,h,hi=>by
  unfold hV at h
  split at h
  .rename_i hb
   split at h
   .rename_i c hp
    have hL:¬(i<m\/m<i/\(b.getD i 0).testBit m=false):=by rintro(h|⟨_,h⟩);{omega};{rw[hb]at h;cases h}
    exact .cons (λ_ e=>e) (λ_ e=>e) (Cg h (by omega)) (λ_ _=>.dead hL hp rfl) (λ_=>(cU hp).1) λ_=>hb
   .cases h
  .rename_i hb
   split at h
   .rename_i D
    split at h
    .rename_i E c p
     have⟨⟨q1,q2⟩,T,A,t1,t2,C,z⟩:=sy (L:=λj=>j<m\/m<j/\(b.getD j 0).testBit m=false) _ _ _ _ _ _ _ p
     have h0:=z 0 o (by simp)
     have h3:T (i+1)=c:=by simpa using C
     simp only[Nat.add_zero]at h0
     rw[t1,t2,h3]at h0
     have u:A (i+1)=if aX o.op then n+1 else n:=by cases h0 with|skip hw hp ha=>exact ha|mk v h x hw hA hr hg hn hp ha=>grind|look v h hw hA hF hr hn hp ha hk=>grind|act v cm h hw hA hF hr hp ha hk=>grind|dead hL hp ha=>exact ha
     rw[u]at h0;refine .cons q1 q2 (Cg h (by omega)) (λe1 e2=>h0.book e1 e2) (λhl=>absurd (.inr ⟨hi,hb⟩) hl) λhE=>?_;have:=je.1 hE;grind
    .cases h
   .cases h
def NZ(P:Program)(R:Rec)(cx:Ctx)(ops:Array Oper)(b:List Nat)(l:List Oper)(i aj:Nat)(k:bY)(st:av)(r:bP×av):Prop:=∃(T:Nat->av)(A:Nat->Nat)(m:Nat)(o:Oper)(v:AV)(h:AHeap)(kf:bY),(T i=st/\A i=aj)/\i<=m/\l[m-i]?=some o/\((∀x,x∈k.es->x∈kf.es)/\(∀x,x∈k.fs->x∈kf.fs)/\mU b kf=true)/\(∀(j:Nat)(q:Oper),l[j]?=some q->me P R cx ops kf (λj=>j<m\/m<j/\(b.getD j 0).testBit m=false) q (i+j) (A (i+j)) (T (i+j)) (A (i+j+1)) (T (i+j+1)))/\(∀(j:Nat)(q:Oper),l[j]?=some q->m<=i+j->((b.getD (i+j) 0).testBit m=true\/i+j=m)->(T (i+j+1)).h=(T (i+j)).h)/\(∀(j:Nat)(q:Oper),l[j]?=some q->dC q=true->m<i+j->(b.getD (i+j) 0).testBit m=true)/\dC o=true/\cf ops o (T m).tm=some true/\cu P R cx (cX (tmpsOf o) (T m).tm) o .none (T m).h.inner=some (.aE v h)/\r=(.panic v,{T m with tm:=.leaf,h:=(T m).h.outer h})
theorem HA{b:List Nat}:∀{l:List Oper}{i aj:Nat}{k:bY}{st:av}{r:bP×av},ez P R cx ops b l i aj k st=some r->NZ P R cx ops b l i aj k st r
 |[],i,aj,k,st,r,hr=>by simp[ez]at hr
 |o::l,i,aj,k,st,r,hr=>by
  have cons:∀(c:av)(u:Nat)(E:bY),(∀x,x∈k.es->x∈E.es)->(∀x,x∈k.fs->x∈E.fs)->ez P R cx ops b l (i+1) u E c=some r->
   (∀(kf:bY)(L:Nat->Prop),(∀x,x∈E.es->x∈kf.es)->(∀x,x∈E.fs->x∈kf.fs)->me P R cx ops kf L o i aj st u c)->NZ P R cx ops b (o::l) i aj k st r:=λc u E M K h1 h2=>by
   obtain⟨T,A,m,o',v,h,kf,⟨t1,C⟩,t2,G,⟨b1,b2,b3⟩,F,V,U,t7,Q,O,I⟩:=HA h1
   refine⟨λj=>if j=i then st else T j,λj=>if j=i then aj else A j,m,o',v,h,kf,⟨by simp,by simp⟩,by omega,?_,⟨λx e=>b1 x (M x e),λx e=>b2 x (K x e),b3⟩,λj q hq=>?_,λj q hq h3 h4=>?_,λj q hq h3 h4=>?_,t7,?_,?_,?_⟩
   .rw[show m-i=m-(i+1)+1 by omega];simpa using G
   .cases j with|zero=>simp only[List.getElem?_cons_zero,an]at hq;subst hq;simp only[Nat.add_zero,if_true];rw[if_neg (show¬i+1=i by omega),if_neg (show¬i+1=i by omega),t1,C];exact h2 kf _ b1 b2|succ j=>simp only[List.getElem?_cons_succ]at hq;simp only[show i+(j+1)=i+1+j by omega];rw[if_neg (show¬i+1+j=i by omega),if_neg (show¬i+1+j=i by omega),if_neg (show¬i+1+j+1=i by omega),if_neg (show¬i+1+j+1=i by omega)];exact F j q hq
   .cases j with|zero=>omega|succ j=>simp only[show i+(j+1)=i+1+j by omega]at h3 h4⊢;rw[if_neg (show¬i+1+j=i by omega),if_neg (show¬i+1+j+1=i by omega)];exact V j q (by simpa using hq) h3 h4
   .cases j with|zero=>omega|succ j=>simp only[show i+(j+1)=i+1+j by omega]at h4⊢;exact U j q (by simpa using hq) h3 h4
   .simp only;rw[if_neg (show¬m=i by omega)];exact Q
   .simp only;rw[if_neg (show¬m=i by omega)];exact O
   .simp only;rw[if_neg (show¬m=i by omega)];exact I
  rw[ez]at hr
  split at hr
  .rename_i hw
   split at hr
   .rename_i c hp;exact cons c _ k (λ_ e=>e) (λ_ e=>e) hr λkf L _ _=>.skip hw hp rfl
   .cases hr
  .rename_i hw
   split at hr
   .rename_i hA
    split at hr
    .rename_i v h p
     split at hr
     .rename_i x hx
      split at hr
      .rename_i hn
       split at hr
       .rename_i c hp;exact cons c _ k (λ_ e=>e) (λ_ e=>e) hr λkf L _ _=>.mk v h x hw hA p hx hn hp rfl
       .cases hr
      .cases hr
     .cases hr
    .cases hr
   .rename_i hA
    have hA:aX o.op=false:=by simpa using hA
    split at hr
    .rename_i hF
     split at hr
     .rename_i v h p
      split at hr
      .rename_i J
       split at hr
       .rename_i c hp;exact cons c aj {k with fs:=(i,de o st.tm)::k.fs} (λ_ e=>e) (λ_ e=>List.mem_cons_of_mem _ e) hr λkf L _ h2=>.look v h hw hA hF p J hp rfl (h2 _ (List.mem_cons_self ..))
       .cases hr
      .cases hr
     .cases hr
    .rename_i hF
     have hF:bN o.op=false:=by simpa using hF
     split at hr
     .rename_i v cm h p
      split at hr
      .rename_i c hp;exact cons c aj {k with es:=(i,h.wr)::k.es} (λ_ e=>List.mem_cons_of_mem _ e) (λ_ e=>e) hr λkf L h1 _=>.act v cm h hw hA hF p hp rfl (h1 _ (List.mem_cons_self ..))
      .cases hr
     .rename_i v h p
      split at hr
      .rename_i c z
       split at hr
       .rename_i kf D
        split at hr
        .rename_i N
         cases hr
         obtain⟨T,A,t1,C,⟨b1,b2⟩,t2,G,F⟩:=Cg D (Nat.lt_succ_self i)
         refine⟨λj=>if j=i then st else T j,λj=>if j=i then aj else A j,i,o,v,h,kf,⟨by simp,by simp⟩,ao _,by simp,⟨b1,b2,N⟩,λj q hq=>?_,λj q hq h1 h2=>?_,λj q hq h1 h2=>?_,je.2 ⟨hA,hF⟩,by simpa using hw,by simpa using p,by simp⟩
         .cases j with|zero=>simp only[List.getElem?_cons_zero,an]at hq;subst hq;simp only[Nat.add_zero,if_true];rw[if_neg (show¬i+1=i by omega),if_neg (show¬i+1=i by omega),t1,C];exact .dead (by rintro(h|⟨h,_⟩)<;>omega) z (by rw[hA];simp)|succ j=>simp only[List.getElem?_cons_succ]at hq;have:=t2 j q hq;simp only[show i+(j+1)=i+1+j by omega];rw[if_neg (show¬i+1+j=i by omega),if_neg (show¬i+1+j=i by omega),if_neg (show¬i+1+j+1=i by omega),if_neg (show¬i+1+j+1=i by omega)];exact this
         .cases j with
          |zero=>simp only[Nat.add_zero,if_true];rw[if_neg (show¬i+1=i by omega),t1];exact(cU z).1
          |succ j=>
           simp only[show i+(j+1)=i+1+j by omega]at h1 h2⊢
           rw[if_neg (show¬i+1+j=i by omega),if_neg (show¬i+1+j+1=i by omega)]
           refine G j q (by simpa using hq) ?_
           rintro(h|⟨_,h⟩)
           .omega
           .rcases h2 with h2|h2
            .rw[h2]at h;cases h
            .omega
         .cases j with|zero=>omega|succ j=>simp only[show i+(j+1)=i+1+j by omega];exact F j q (by simpa using hq) h1
        .cases hr
       .cases hr
      .cases hr
     .cases hr
  .cases hr
theorem UY(hP:ProgOK P)(X:cv P R):LV P R:=by
 intro cx id ops st ex st' hr g w b a k cs hw hf hc ha O
 unfold oh at hr
 split at hr
 .rename_i C
  simp only[aZ]at C
  split at hr
  .rename_i kf stf N
   split at hr
   .rename_i hbk
    simp only[an,aV]at hr
    obtain⟨rfl,rfl⟩:=hr
    obtain⟨_,T,A,t1,t2,Z,Y⟩:=sy (L:=λ_=>True) _ _ _ _ _ _ _ N
    have c:Rgn P R cx ops kf (λ_=>True) T A st.h:=⟨CK C.1,λi o ho=>by have:=Y i o (by simpa using ho);simpa using this,hbk,t2,by rw[t1],Dd _ _ C.2⟩
    have gm:T ops.size=stf:=by rw[<-Z];simp
    have z:(T 0).tm=st.tm/\(T 0).df=st.df/\(T 0).cm=st.cm:=by rw[t1];exact⟨rfl,rfl,rfl⟩
    have D:=hw.drew (w.drawn+1)
    have E:TR g (T 0).tm a.tmps:=by rw[z.1];exact ha.tm
    have G:iN g (T 0).df a.defers:=by rw[z.2.1];exact ha.df
    obtain⟨J,_⟩:=c.pure (a:=a) hP X ⟨λ_ _ _ _ _ _ _=>trivial,λ_ _ _ _ _ _ _ _ _ _=>trivial⟩ (λ_ _ _ h=>absurd trivial h) D hf E ha.size G hc ops.size (ao _)
    have u:∀j:Nat,¬(Array.replicate ops.size false)[j]?=some true:=by intro j hj;rw[Array.getElem?_replicate]at hj;split at hj<;>simp at hj
    obtain⟨S',V,g',w',a',h1,h2,h3⟩:=UX hP X c (λ_=>trivial) hf J hc cs k ops.size (w.tape w.drawn (.order b.fn id)) (Array.replicate ops.size false) 0 g {w with drawn:=w.drawn+1} a (by simp) (by simp) (λj o e _ h=>absurd h (u j)) (c.start D hf E ha.size G u);have h4:=cK.zP c (ops.size-V) V h1 (by have:=h1.ql;omega) (λj o ho h5 h6=>by cases hE:dC o with|false=>rfl|true=>have:=(h1.ee j o ho hE).1 (h2 j (fx ho));omega);rw[show V+(ops.size-V)=ops.size by have:=h1.ql;omega]at h4;obtain⟨K,U⟩:=c.Dc ops.size (ao _);rw[gm]at K U;have h5:=h4.ww;have h6:=h4.ka;have h7:=h4.tm;rw[gm]at h5 h6 h7;refine⟨g',w',a',cs,(Step.drew st.h g w (w.drawn+1)).trans hf h6,h5,⟨λt x hx=>h7 t x hx λk o ho _=>h2 k (fx ho),h4.sz,by rw[U];exact h4.df⟩,.refl _ _,by rw[K,z.2.2];exact O.mono h6.le,by rw[K,z.2.2];exactλe=>e,?_⟩;refine Steps.head Hk (Steps.trans ?_ (.one (Hm (ops:=ops))));simp only[Region.schedule,hP.mixed,Bool.true_or,if_true,Region.linearise];exact h3
   .cases hr
  .obtain⟨T,A,m,o,v,h,kf,⟨t1,t1'⟩,t2,Z,⟨_,_,b3⟩,Y,t5,t6,t7,t8,t9,M⟩:=HA hr
   rw[aV]at M
   obtain⟨rfl,rfl⟩:=M
   have hm:ops[m]?=some o:=by simpa using Z
   have hsz:=fx hm
   have c:Rgn P R cx ops kf (λj=>j<m\/m<j/\((eh ops.toList []).getD j 0).testBit m=false) T A st.h:=⟨CK C.1,λi o' ho=>by have:=Y i o' (by simpa using ho);simpa using this,b3,t1',by rw[t1],Dd _ _ C.2⟩
   have z:(T 0).tm=st.tm/\(T 0).df=st.df/\(T 0).cm=st.cm:=by rw[t1];exact⟨rfl,rfl,rfl⟩
   have D:=hw.drew (w.drawn+1)
   have E:TR g (T 0).tm a.tmps:=by rw[z.1];exact ha.tm
   have G:iN g (T 0).df a.defers:=by rw[z.2.1];exact ha.df
   have F:=CK C.1
   have Q:Live ops (λj=>j<m\/m<j/\((eh ops.toList []).getD j 0).testBit m=false):=by
    refine⟨λi o' e ho hl he hb=>?_,λi j p q hp hq h1 h2 hij hl=>?_⟩
    .have hlt:=F.back i o' e ho he hb
     rcases hl with hl|⟨hl1,I⟩
     .exact .inl (by omega)
     .rcases Nat.lt_trichotomy e.on m with h1|h1|h1
      .exact .inl h1
      .have:bZ ops i e.on:=bZ.make F ho he hb (.inl rfl);rw[h1]at this;have this:((eh ops.toList []).getD i 0).testBit m=true:=this;rw[I]at this;cases this
      .refine .inr ⟨h1,?_⟩;cases hx:((eh ops.toList []).getD e.on 0).testBit m with|false=>rfl|true=>have:bZ ops i m:=bZ.make F ho he hb (.inr hx);have this:((eh ops.toList []).getD i 0).testBit m=true:=this;rw[I]at this;cases this
    .rcases hl with hl|⟨hl1,I⟩
     .exact .inl (by omega)
     .have:=t6 j q (by simpa using hq) h2 (by omega);rw[Nat.zero_add,I]at this;cases this
   obtain⟨J,_⟩:=c.pure (a:=a) hP X Q (λi o' ho hl=>by
    have:=t5 i o' (by simpa using ho)
    simp only[Nat.zero_add]at this
    refine this ?_ ?_
    .rcases Nat.lt_or_ge i m with h1|h1
     .exact absurd (.inl h1) hl
     .exact h1
    .rcases Nat.lt_trichotomy i m with h1|h1|h1
     .exact absurd (.inl h1) hl
     .exact .inr h1
     .refine .inl ?_;cases hx:((eh ops.toList []).getD i 0).testBit m with|true=>rfl|false=>exact absurd (.inr ⟨h1,hx⟩) hl) D hf E ha.size G hc ops.size (ao _)
   have u:∀j:Nat,¬(Array.replicate ops.size false)[j]?=some true:=by intro j hj;rw[Array.getElem?_replicate]at hj;split at hj<;>simp at hj
   obtain⟨g',w',a',x,todo,K,U,r3,r4,r5,r6⟩:=W0 hP X c hf hm Q (by rintro(h|⟨h,_⟩)<;>omega) J (λj h1 h2 h3=>by
    show((eh ops.toList []).getD j 0).testBit m=true
    cases hx:((eh ops.toList []).getD j 0).testBit m with
    |true=>rfl
    |false=>
     rcases Nat.lt_or_ge j m with h4|h4
     .exact absurd (.inl h4) h3
     .exact absurd (.inr ⟨by omega,hx⟩) h3) t7 t8 t9 hc cs k ops.size (w.tape w.drawn (.order b.fn id)) (Array.replicate ops.size false) 0 g {w with drawn:=w.drawn+1} a (by simp) (by simp) (λj o e _ h=>absurd h (u j)) (λj hj=>absurd hj (u j)) (Nat.zero_le _) (c.start D hf E ha.size G u)
   obtain⟨r7,r8⟩:=c.Dc m (Nat.le_of_lt hsz)
   refine⟨g',w',a',cs,(Step.drew st.h g w (w.drawn+1)).trans hf K,U,⟨λt x hx=>by simp[Tr.get]at hx,r3,by show iN g' (T m).df _;rw[r8];exact r4⟩,.refl _ _,?_,?_,todo,x,r5,?_⟩
   .show fZ g' (T m).cm cs;rw[r7,z.2.2];exact O.mono K.le
   .show st.cm=.none->(T m).cm=.none;rw[r7,z.2.2];exactλe=>e
   refine Steps.head Hk ?_;simp only[Region.schedule,hP.mixed,Bool.true_or,if_true,Region.linearise];exact r6
 .cases hr
end
end Go.AI
end

section
namespace Go.AI
section
variable {P:Program}{R:Rec}
theorem JH:cv P Rec.zero:=⟨λ_ _ _ _ _ _ h=>(by cases h),λ_ _ _ _ _ _ _ _ h=>(by cases h),λ_ _ _ _ _ h=>(by cases h),λ_ _ _ _ _ h=>(by cases h)⟩
theorem oy(hP:ProgOK P)(i:cv P R):mX P R:=λ_ c st ex st' h=>Rv hP i (UY hP i) (S8 hP i) c st ex st' h
theorem Ta(hP:ProgOK P)(c:cv P R):cv P (Rec.succ P R)where
 call:=λ_ _ _ _ _ _ h=>UT hP c (oy hP c) h
 nu:=λ_ _ _ _ _ _ _ hn h=>S7 hP c (oy hP c) hn h
 loop:=λ_ _ _ _ _ h=>KJ c (oy hP c) h
 round:=λ_ _ _ _ _ h=>JF (oy hP c) h
end
end Go.AI
end

section
namespace Go.AI
def chunks(sz:Nat):Nat->List AV->List (List AV)|0,_=>[]|n+1,l=>l.take sz::chunks sz n (l.drop sz)
theorem chunks_flatten(sz:Nat):∀(n:Nat)(l:List AV),l.length=n*sz->(chunks sz n l).flatten=l|0,l,h=>by simp at h;simp[chunks,h]|n+1,l,h=>by simp_all[List.flatten_cons,chunks_flatten,List.length_drop,Nat.add_mul,List.take_append_drop,chunks]
theorem HB(sz:Nat):∀(n:Nat)(l:List AV),(chunks sz n l).length=n|0,_=>rfl|n+1,l=>by simp[chunks,HB sz n]
section
variable {P:Program}{h:AHeap}{g g2:Gh}{w:World}
theorem ay.free(hm:∀b i v,g.M b i=some v->g2.M b i=some v):∀{xs:List AV}{vs:List Value},dF xs=true->ay g xs vs->ay g2 xs vs|[],[],_,_=>trivial|x::xs,v::vs,e,h=>by simp only[dF,aZ]at e;exact⟨VR.free hm h.1 e.1,ay.free hm e.2 h.2⟩|[],_::_,_,h=>h.elim|_::_,[],_,h=>h.elim
end
end Go.AI
end

section
namespace Go.AI
def jl:List UInt8->List UInt8->Bool
 |[],[]=>true
 |a::az,b::bs=>match Nat.beq a.toNat b.toNat with|true=>jl az bs|false=>false
 |_,_=>false
theorem JI:∀{a b:List UInt8},jl a b=true->a=b
 |[],[],_=>rfl
 |[],_::_,h=>by simp[jl]at h
 |_::_,[],h=>by simp[jl]at h
 |a::az,b::bs,h=>by
  unfold jl at h
  split at h
  .rename_i e;rw[UInt8.toNat_inj.1 (Nat.eq_of_beq_eq_true e),JI h]
  .cases h
def FD:Value->Value->Bool
 |.int .i64 n,.int .i64 m=>match n,m with|.ofNat a,.ofNat b=>Nat.beq a b|_,_=>false
 |.string a,.string b=>jl a.data.toList b.data.toList
 |.slice none 0 0,.slice none 0 0=>true
 |.bool a,.bool b=>match a,b with|true,true=>true|false,false=>true|_,_=>false
 |_,_=>false
theorem UZ{a b:Value}(h:FD a b=true):a=b:=by
 unfold FD at h
 split at h
 .split at h
  .simp_all
  .cases h
 .rename_i a b;have:=JI h;obtain⟨⟨a⟩⟩:=a;simp_all
 .rfl
 .grind
 .cases h
structure ad2 where
 f:FuncId
 args:List AV
 v:Value
end Go.AI
end

section
namespace Go.AI
mutual
def fi:AV->Bool|.sc _=>true|.agg cs=>oK cs|.tuple cs=>oK cs|_=>false
def oK:List AV->Bool|[]=>true|x::xs=>match fi x with|true=>oK xs|false=>false
end
mutual
theorem JJ{g g':Gh}:∀(x:AV){v:Value},fi x=true->VR g x v->VR g' x v|.sc u,v,_,hv=>by cases hv;exact .sc _|.agg cs,v,h,hv=>by obtain⟨a,rfl,ha⟩:=VR.hW.1 hv;exact VR.hW.2 ⟨a,rfl,CL cs h ha⟩|.tuple cs,v,h,hv=>by obtain⟨a,rfl,ha⟩:=VR.eo.1 hv;exact VR.eo.2 ⟨a,rfl,CL cs h ha⟩|.aA,v,h,hv=>by simp[fi]at h|.ref _ _ _ _,v,h,hv=>by simp[fi]at h|.sl _ _ _ _ _ _ _,v,h,hv=>by simp[fi]at h|.bC,v,h,hv=>by simp[fi]at h|.cr _,v,h,hv=>by simp[fi]at h|.aN _ _ _ _,v,h,hv=>by simp[fi]at h|.aI _ _,v,h,hv=>by simp[fi]at h|.map _,v,h,hv=>by simp[fi]at h|.func _ _ _,v,h,hv=>by simp[fi]at h|.ej _,v,h,hv=>by simp[fi]at h|.iface _ _,v,h,hv=>by simp[fi]at h
theorem CL{g g':Gh}:∀(xs:List AV){vs:List Value},oK xs=true->ay g xs vs->ay g' xs vs
 |[],vs,_,hv=>by cases vs with|nil=>trivial|cons v vs=>exact hv.elim
 |x::xs,vs,h,hv=>by
  cases vs with
  |nil=>exact hv.elim
  |cons v vs=>
   unfold oK at h
   split at h
   .rename_i h1;exact⟨JJ x h1 hv.1,CL xs h hv.2⟩
   .cases h
end
mutual
def jP(h:AHeap):Nat->AV->Option AV
 |0,_=>none
 |n+1,v=>match v with
  |.sl o ver m off sz len cap=>
   if sz=0 then none else
   match cz h o ver m off (len*sz)with
   |some cs=>match eI h n cs with|some l=>some (.aN l sz len cap)|none=>none
   |none=>none
  |.agg cs=>match eI h n cs with|some l=>some (.agg l)|none=>none
  |.tuple cs=>match eI h n cs with|some l=>some (.tuple l)|none=>none
  |.sc v=>some (.sc v)|.aI r s=>some (.aI r s)|.aN c s l k=>if dF c=true then some (.aN c s l k)else none|.bC=>some .bC|.aA=>some .aA|_=>none
def eI(h:AHeap):Nat->List AV->Option (List AV)|_,[]=>some []|0,_::_=>none|n+1,x::xs=>match jP h n x,eI h n xs with|some y,some ys=>some (y::ys)|_,_=>none
end
theorem HC{h:AHeap}:∀{n:Nat}{xs ys:List AV},eI h n xs=some ys->ys.length=xs.length
 |_,[],ys,e=>by simp[eI]at e;subst e;rfl
 |0,x::xs,ys,e=>by simp[eI]at e
 |n+1,x::xs,ys,e=>by
  rw[eI]at e
  split at e
  .rename_i h1 h2;simp only[an]at e;subst e;simp[HC h2]
  .cases e
section
variable {h:AHeap}{g g2:Gh}{w:World}
mutual
theorem JK(hw:W h g w)(hm:∀b i v,g.M b i=some v->g2.M b i=some v)(hb:∀o v b s n i u,g.B o v=some (b,s,n)->w.cell? ⟨b,i,none⟩=some u->g2.M b i=some u):
 ∀{n:Nat}{x y:AV}{v:Value},jP h n x=some y->VR g x v->VR g2 y v
 |0,_,_,_,e,_=>by simp[jP]at e
 |n+1,x,y,v,e,hr=>by
  cases x<;>simp only[jP]at e<;>try(cases e;done)
  case aA=>simp only[an]at e;subst e;exact .aA _
  case sc=>simp only[an]at e;subst e;cases hr;exact .sc _
  case bC=>simp only[an]at e;subst e;cases hr;exact .bC _ _
  case aI=>simp only[an]at e;subst e;exact VR.free hm hr rfl
  case aN c _ _ _=>
   split at e
   .rename_i hf;simp only[an]at e;subst e;exact VR.free hm hr (by simpa[fw]using hf)
   .cases e
  case agg cs=>
   split at e
   .rename_i l hl;simp only[an]at e;subst e;obtain⟨a,rfl,ha⟩:=VR.hW.1 hr;exact VR.hW.2 ⟨a,rfl,sF hw hm hb hl ha⟩
   .cases e
  case tuple cs=>
   split at e
   .rename_i l hl;simp only[an]at e;subst e;obtain⟨a,rfl,ha⟩:=VR.eo.1 hr;exact VR.eo.2 ⟨a,rfl,sF hw hm hb hl ha⟩
   .cases e
  case sl o ver m off sz len cap=>
   split at e
   .cases e
   .rename_i hz
    split at e
    .rename_i cs dL
     split at e
     .rename_i l hl
      simp only[an]at e;subst e
      cases hr with
      |sl hB p1 p2 p3=>
       rename_i b s c
       obtain⟨vs,q1,q2,q3,_⟩:=lM hw dL hB
       have hlen:l.length=len*sz:=by rw[HC hl,q1.length,q2]
       have nT:=sF hw hm hb hl q1
       have key:VR g2 (.aN l sz len cap) (.slice (some ⟨b,off,none⟩) len c):=by
        refine .aN (λi=>vs.getD i .nilIface) ?_ ?_ hlen p2 p3
        .intro i x hx
         have hi:i<vs.length:=by
          have:=nT.length
          rcases Nat.lt_or_ge i vs.length with a|a
          .exact a
          .rw[List.getElem?_eq_none (by omega)]at hx;cases hx
         have:=q3 i vs[i] (by rw[List.getElem?_eq_getElem hi]);rw[show vs.getD i .nilIface=vs[i]by simp[List.getD,List.getElem?_eq_getElem hi]];exact hb _ _ _ _ _ _ _ hB this
        .intro i x hx
         have hi:i<vs.length:=by
          have:=nT.length
          rcases Nat.lt_or_ge i vs.length with a|a
          .exact a
          .rw[List.getElem?_eq_none (by omega)]at hx;cases hx
         rw[show vs.getD i .nilIface=vs[i]by simp[List.getD,List.getElem?_eq_getElem hi]];exact nT.get i x vs[i] hx (List.getElem?_eq_getElem hi)
       exact key
     .cases e
    .cases e
theorem sF(hw:W h g w)(hm:∀b i v,g.M b i=some v->g2.M b i=some v)(hb:∀o v b s n i u,g.B o v=some (b,s,n)->w.cell? ⟨b,i,none⟩=some u->g2.M b i=some u):
 ∀{n:Nat}{xs ys:List AV}{vs:List Value},eI h n xs=some ys->ay g xs vs->ay g2 ys vs
 |_,[],ys,vs,e,hr=>by simp[eI]at e;subst e;cases vs with|nil=>trivial|cons _ _=>exact hr.elim
 |0,x::xs,ys,_,e,_=>by simp[eI]at e
 |n+1,x::xs,ys,vs,e,hr=>by
  cases vs with
  |nil=>exact hr.elim
  |cons v vs=>
   rw[eI]at e
   split at e
   .rename_i h1 h2;simp only[an]at e;subst e;exact⟨JK hw hm hb h1 hr.1,sF hw hm hb h2 hr.2⟩
   .cases e
end
end
theorem Ih{P:Program}{f:FuncId}{args:List AV}{v v':AV}{h1:AHeap}{n:Nat}(hc:dI P f args h0 (.ret v) h1)(ha:dF args=true)(hs:jP h1 n v=some v')(h:AHeap):dI P f args h (.ret v') h:=by
 intro g w vs hw hf hv
 let g1:Gh:=⟨λ_ _=>none,g.M⟩
 have C:W h0 g1 w:=⟨λo x e=>(by simp[h0,AHeap.get,Tr.get]at e),λ_ _ _ _ _ e=>(by cases e),λ_ _ _ _ _ _ _ _ _ e=>(by cases e),hw.ro,λ_ _ _ _ _ _ _ _ e=>(by cases e),hw.gl⟩
 refine(hc g1 w vs C (λ_ _ _=>rfl) (ay.free (g:=g) (g2:=g1) (λ_ _ _ e=>e) ha hv)).mono ?_
 rintro e w'⟨g',st,p,ho⟩
 have hold:∀b,b<w.heap.size->w'.heap[b]?=w.heap[b]?:=λb hb=>st.fr b hb λo v s n e=>by cases e
 let g2:Gh:=⟨g.B,λb i=>if w.heap.size<=b then w'.cell? ⟨b,i,none⟩else g.M b i⟩
 have m:∀b i v,g.M b i=some v->g2.M b i=some v:=by intro b i v hm;have:=(hw.ro b i v hm).2;show(if w.heap.size<=b then _ else _)=_;rw[if_neg (by omega)];exact hm
 have z:g.Le g2:=⟨λ_ _ _ e=>e,m⟩
 have q:=st.size
 have j:=hw.same q hold
 refine⟨g2,⟨z,ao _,rfl,λ_ h=>h,λ_ _ _ _=>rfl,λ_ _ _=>rfl,λ_ _ h=>h,λ_ _ _ h=>.inl h,q,λo v b s n e _=>⟨v,s,n,e⟩,λb hb _=>hold b hb,st.tape,st.os,st.out,?_⟩,?_,?_⟩
 .grind
 .refine⟨λo x hx=>(j.obj o x hx).move z (λ_ _ e=>e) (λ_ _ _ _ _=>rfl),j.cR,j.inj,?_,?_,j.kC (λ_ _ _=>rfl) m⟩
  .intro b i v hm
   have c:(if w.heap.size<=b then w'.cell? ⟨b,i,none⟩else g.M b i)=some v:=hm
   by_cases hb:w.heap.size<=b
   .rw[if_pos hb]at c;grind[Nat.lt_or_ge,Array.getElem?_eq_none,World.cell?]
   .rw[if_neg hb]at c;exact j.ro b i v c
  .intro b i u hm o v s n e;have c:(if w.heap.size<=b then w'.cell? ⟨b,i,none⟩else g.M b i)=some u:=hm;have hb:=hw.cR o v b s n e;rw[if_neg (by omega)]at c;exact hw.eU b i u c o v s n e
 .cases e with
  |returned x=>
   refine JK (g:=g') (g2:=g2) p ?_ ?_ hs ho
   .intro b i v hm
    rcases st.fI b i v hm with h1|h1
    .grind
    .show(if w.heap.size<=b then _ else _)=_;rw[if_pos h1];exact(p.ro b i v hm).1
   .intro o v b s n i u hB D
    have hb:w.heap.size<=b:=by
     rcases Nat.lt_or_ge b w.heap.size with a|a
     .obtain⟨_,_,_,e⟩:=st.old o v b s n hB a;cases e
     .exact a
    grind|panicked _=>exact ho.elim|outgrown=>exact ho.elim
theorem RU{P:Program}{f:FuncId}{args c:List AV}{v:AV}{h1:AHeap}{n:Nat}(hp:fi v=true)(hc:dI P f c h0 (.ret v) h1)(h:AHeap)(hs:eI h n args=some c):dI P f args h (.ret v) h:=by
 intro g w vs hw hf hv
 let g1:Gh:=⟨λ_ _=>none,λb i=>w.cell? ⟨b,i,none⟩⟩
 have j:∀b i u,w.cell? ⟨b,i,none⟩=some u->b<w.heap.size:=by grind[Nat.lt_or_ge,Array.getElem?_eq_none,World.cell?]
 have m:W h0 g1 w:=⟨λo x e=>(by simp[h0,AHeap.get,Tr.get]at e),λ_ _ _ _ _ e=>(by cases e),λ_ _ _ _ _ _ _ _ _ e=>(by cases e),λb i u hm=>⟨hm,j b i u hm⟩,λ_ _ _ _ _ _ _ _ e=>(by cases e),hw.kC (λ_ _ _=>rfl) (λb i v e=>(hw.ro b i v e).1)⟩
 have p:ay g1 c vs:=sF (g2:=g1) hw (λb i u hm=>(hw.ro b i u hm).1) (λ_ _ _ _ _ _ _ _ hm=>hm) hs hv
 refine(hc g1 w vs m (λ_ _ _=>rfl) p).mono ?_
 rintro e w'⟨g',st,q,ho⟩
 have hold:∀b,b<w.heap.size->w'.heap[b]?=w.heap[b]?:=λb hb=>st.fr b hb λo v s n e=>by cases e
 refine⟨g,⟨.refl g,ao _,rfl,λ_ h=>h,λ_ _ _ _=>rfl,λ_ _ _=>rfl,λ_ _ h=>h,λ_ _ _ h=>.inl h,st.size,λo v b s n e _=>⟨v,s,n,e⟩,λb hb _=>hold b hb,st.tape,st.os,st.out,λ_ _ _ h=>.inl h⟩,hw.same st.size hold,?_⟩;cases e with|returned x=>exact JJ v hp ho|panicked _=>exact ho.elim|outgrown=>exact ho.elim
def M8:Int->Int->Bool|.ofNat a,.ofNat b=>Nat.beq a b|.negSucc a,.negSucc b=>Nat.beq a b|_,_=>false
theorem Tc:∀{a b:Int},M8 a b=true->a=b|.ofNat a,.ofNat b,h=>by rw[Nat.eq_of_beq_eq_true h]|.negSucc a,.negSucc b,h=>by rw[Nat.eq_of_beq_eq_true h]|.ofNat _,.negSucc _,h=>by cases h|.negSucc _,.ofNat _,h=>by cases h
def GZ:Value->Value->Bool
 |.int k n,.int k' m=>match decEq k k' with|isTrue _=>M8 n m|isFalse _=>false
 |.func (.func f) a c,.func (.func i) a' c'=>match a.toList,c.toList,a'.toList,c'.toList with|[],[],[],[]=>Nat.beq f i|_,_,_,_=>false
 |a,b=>FD a b
theorem W1{a b:Value}(h:GZ a b=true):a=b:=by
 unfold GZ at h
 split at h
 .split at h
  .rename_i e _;rw[e,Tc h]
  .cases h
 .split at h
  .simp_all
  .cases h
 .exact UZ h
def M9:Option Nat->Option Nat->Bool|none,none=>true|some a,some b=>Nat.beq a b|_,_=>false
theorem Td:∀{a b:Option Nat},M9 a b=true->a=b|none,none,_=>rfl|some a,some b,h=>by rw[Nat.eq_of_beq_eq_true h]|none,some _,h=>by cases h|some _,none,h=>by cases h
mutual
def gn:AV->AV->Bool
 |.sc a,b=>match b with|.sc b=>GZ a b|_=>false
 |.agg a,b=>match b with|.agg b=>jW a b|_=>false
 |.tuple a,b=>match b with|.tuple b=>jW a b|_=>false
 |.aI r s,b=>match b with|.aI r' s'=>(match Nat.beq s s' with|true=>tB r r'|false=>false)|_=>false
 |.aN c s l k,b=>match b with|.aN c' s' l' k'=>(match Nat.beq s s',Nat.beq l l',M9 k k' with|true,true,true=>jW c c'|_,_,_=>false)|_=>false
 |.bC,b=>match b with|.bC=>true|_=>false
 |_,_=>false
def jW:List AV->List AV->Bool
 |[],b=>match b with|[]=>true|_=>false
 |a::az,b=>match b with|b::bs=>(match gn a b with|true=>jW az bs|false=>false)|_=>false
def tB:List (List AV)->List (List AV)->Bool
 |[],b=>match b with|[]=>true|_=>false
 |a::az,b=>match b with|b::bs=>(match jW a b with|true=>tB az bs|false=>false)|_=>false
end
mutual
theorem Eb:∀(a b:AV),gn a b=true->a=b
 |.sc a,b,h=>by
  cases b<;>simp only[gn]at h<;>try(cases h;done)
  rw[W1 h]
 |.agg a,b,h=>by
  cases b<;>simp only[gn]at h<;>try(cases h;done)
  rw[oz _ _ h]
 |.tuple a,b,h=>by
  cases b<;>simp only[gn]at h<;>try(cases h;done)
  rw[oz _ _ h]
 |.aI r s,b,h=>by
  cases b<;>simp only[gn]at h<;>try(cases h;done)
  split at h
  .rename_i e;rw[JL _ _ h,Nat.eq_of_beq_eq_true e]
  .cases h
 |.aA,b,h=>by simp[gn]at h
 |.ref _ _ _ _,b,h=>by simp[gn]at h
 |.sl _ _ _ _ _ _ _,b,h=>by simp[gn]at h
 |.bC,b,h=>by grind[gn]
 |.cr _,b,h=>by simp[gn]at h
 |.aN c s l k,b,h=>by
  cases b<;>simp only[gn]at h<;>try(cases h;done)
  split at h
  .rename_i e1 e2 e3;rw[oz _ _ h,Nat.eq_of_beq_eq_true e1,Nat.eq_of_beq_eq_true e2,Td e3]
  .cases h|.map _,b,h=>by simp[gn]at h|.func _ _ _,b,h=>by simp[gn]at h|.ej _,b,h=>by simp[gn]at h|.iface _ _,b,h=>by simp[gn]at h
theorem oz:∀(a b:List AV),jW a b=true->a=b
 |[],b,h=>by cases b<;>simp[jW]at h;rfl
 |a::az,b,h=>by
  cases b with
  |nil=>simp[jW]at h
  |cons b bs=>
   simp only[jW]at h
   split at h
   .rename_i e;rw[Eb _ _ e,oz _ _ h]
   .cases h
theorem JL:∀(a b:List (List AV)),tB a b=true->a=b
 |[],b,h=>by cases b<;>simp[tB]at h;rfl
 |a::az,b,h=>by
  cases b with
  |nil=>simp[tB]at h
  |cons b bs=>
   simp only[tB]at h
   split at h
   .rename_i e;rw[oz _ _ e,JL _ _ h]
   .cases h
end
structure bV where
 f:FuncId
 args:List AV
 v:AV
def oL(f:FuncId)(args:List AV)(h:AHeap):List bV->Option AV|[]=>none|k::ks=>match Nat.beq k.f f with|true=>(match fi k.v with|true=>(match eI h 1000 args with|some a=>(match jW a k.args with|true=>some k.v|false=>oL f args h ks)|none=>oL f args h ks)|false=>(match dF args with|true=>(match jW args k.args with|true=>some k.v|false=>oL f args h ks)|false=>oL f args h ks))|false=>oL f args h ks
def Tr.aY{α:Type}:Tr α->List α|.leaf=>[]|.node l v r=>l.aY++(v.toList++r.aY)
theorem Tr.xX{α:Type}:∀{t:Tr α}{n:Nat}{x:α},t.get n=some x->x∈t.aY
 |.leaf,n,x,e=>by simp[Tr.get]at e
 |.node l v r,n,x,e=>by
  simp only[Tr.aY,List.mem_append]
  cases n with
  |zero=>simp only[Tr.get]at e;exact .inr (.inl (by simp[e]))
  |succ n=>
   simp only[Tr.get]at e
   split at e
   .exact .inl (Tr.xX e)
   .exact .inr (.inr (Tr.xX e))
def EP(f:FuncId)(args:List AV)(h:AHeap)(t:Tr (List bV)):Option AV:=match t.get f with|some l=>oL f args h l|none=>none
def Rec.zR(tbl:Tr (List bV))(R:Rec):Rec:={R with call:=λkind f args cm h=>match kind,cm with|.normal,.none=>(match EP f args h tbl with|some v=>some (.ret v,.none,h)|none=>R.call .normal f args .none h)|k,c=>R.call k f args c h}
def cY(P:Program)(tbl:List bV):Prop:=∀k,k∈tbl->∃h1 u n,dI P k.f k.args h0 (.ret u) h1/\jP h1 n u=some k.v
theorem Sl{h:AHeap}:(∀(n:Nat)(x y:AV),jP h n x=some y->fi y=true->x=y)/\(∀(n:Nat)(xs ys:List AV),eI h n xs=some ys->oK ys=true->xs=ys):=by
 have key:∀n:Nat,(∀(x y:AV),jP h n x=some y->fi y=true->x=y)/\(∀(xs ys:List AV),eI h n xs=some ys->oK ys=true->xs=ys):=by
  intro n
  induction n with
  |zero=>refine⟨λx y e _=>by simp[jP]at e,λxs ys e _=>?_⟩;cases xs with|nil=>simp[eI]at e;exact e.symm|cons _ _=>simp[eI]at e
  |succ n ih=>
   refine⟨λx y e hp=>?_,λxs ys e hp=>?_⟩
   .cases x<;>simp only[jP]at e<;>try(cases e;done)
    case sl=>
     split at e
     .cases e
     .split at e
      .split at e
       .simp only[an]at e;subst e;simp[fi]at hp
       .cases e
      .cases e
    case agg cs=>
     split at e
     .rename_i l hl;simp only[an]at e;subst e;rw[ih.2 _ _ hl (by simpa[fi]using hp)]
     .cases e
    case tuple cs=>
     split at e
     .rename_i l hl;simp only[an]at e;subst e;rw[ih.2 _ _ hl (by simpa[fi]using hp)]
     .cases e
    case aN=>
     split at e
     .simp only[an]at e;exact e
     .cases e
    all_goals simp only[an]at e;exact e
   .cases xs with
    |nil=>simp[eI]at e;exact e.symm
    |cons x xs=>
     simp only[eI]at e
     split at e
     .rename_i y c h1 h2
      simp only[an]at e;subst e
      unfold oK at hp
      split at hp
      .rename_i h3;rw[ih.1 _ _ h1 h3,ih.2 _ _ h2 hp]
      .cases hp
     .cases e
 exact⟨λn=>(key n).1,λn=>(key n).2⟩
theorem IW{P:Program}{f:FuncId}{args:List AV}{h:AHeap}{v:AV}:∀{tbl:List bV},cY P tbl->oL f args h tbl=some v->dI P f args h (.ret v) h
 |[],_,e=>by cases e
 |k::ks,hk,e=>by
  have ih:=λe=>IW (P:=P) (f:=f) (args:=args) (h:=h) (v:=v) (tbl:=ks) (λx hx=>hk x (List.mem_cons_of_mem _ hx)) e
  unfold oL at e
  split at e
  .rename_i hf
   obtain⟨h1,u,n,hc,c⟩:=hk k (List.mem_cons_self ..)
   split at e
   .rename_i hp
    split at e
    .rename_i a ha
     split at e
     .rename_i hq;simp only[an]at e;obtain rfl:=Sl.1 n u k.v c hp;rw[<-oz _ _ hq,Nat.eq_of_beq_eq_true hf,e]at hc;rw[e]at hp;exact RU hp hc h ha
     .exact ih e
    .exact ih e
   .split at e
    .rename_i i
     split at e
     .rename_i hq;simp only[an]at e;rw[<-oz _ _ hq,Nat.eq_of_beq_eq_true hf]at hc;rw[e]at c;exact Ih hc i c h
     .exact ih e
    .exact ih e
  .exact ih e
theorem Te{P:Program}{f:FuncId}{args:List AV}{h:AHeap}{v:AV}{t:Tr (List bV)}(hk:cY P t.aY.flatten)(e:EP f args h t=some v):dI P f args h (.ret v) h:=by
 unfold EP at e
 split at e
 .rename_i l hl;exact IW (λk hm=>hk k (List.mem_flatten.2 ⟨l,Tr.xX hl,hm⟩)) e
 .cases e
theorem Tf{P:Program}{tbl:Tr (List bV)}{R:Rec}(hk:cY P tbl.aY.flatten)(c:cv P R):cv P (R.zR tbl)where
 call:=λf args h out cm' h' e=>by
  simp only[Rec.zR]at e
  split at e
  .grind[an,aV,Te]
  .exact c.call _ _ _ _ _ _ e
 nu:=λf args cm h out cm' h' hn e=>c.nu f args cm h out cm' h' hn (by simp only[Rec.zR]at e;exact e)
 loop:=c.loop
 round:=c.round
def dp(R:Rec)(k:bV):Bool:=match R.call .normal k.f k.args .none h0 with|some (.ret u,_,h1)=>(match jP h1 1000 u with|some v=>gn v k.v|none=>false)|_=>false
theorem IX{P:Program}{R:Rec}(c:cv P R){k:bV}(h:dp R k=true):∃h1 u n,dI P k.f k.args h0 (.ret u) h1/\jP h1 n u=some k.v:=by
 unfold dp at h
 split at h
 .rename_i u cm h1 e
  split at h
  .rename_i v hv;have:=Eb _ _ h;subst this;exact⟨h1,u,1000,c.call _ _ _ _ _ _ e,hv⟩
  .cases h
 .cases h
theorem sC{P:Program}:cY P []:=λk hk=>by cases hk
end Go.AI
end

section
namespace Go.AI
open Go.Proofs (encStr)
open Go.RowKit (Below)
def xH(P:Program)(fs gk:FuncId)(j:TypeId):Prop:=∀(w:World)(i b:Nat)(c:Array MapEntry)(clock:Nat)(ks:List (List UInt8)),i<w.heap.size->w.cell? ⟨i,0,none⟩=some (.map (some b))->w.heap[b]?=some (.map c clock)->MapKept.Stamped c clock->c.toList.map (·.key)=ks.map encStr->(∀k,k∈ks->k.length<=maxLen)->ks.length*16<=140737488355328->Calls P fs #[.func (.func gk) #[] #[.pointer (some ⟨i,0,none⟩)]] w λe w'=>∃v:Value,e=.returned v/\w'.ownsRow w.heap.size j 1 v ks.length ((ks.mergeSort leB).map encStr)/\(v=.slice none 0 0↔ks=[])/\Below w.heap.size w w'
def uc:List UInt8->List UInt8->Bool|[],_=>true|_::_,[]=>false|a::az,b::bs=>match Nat.blt a.toNat b.toNat with|true=>true|false=>(match Nat.beq a.toNat b.toNat with|true=>uc az bs|false=>false)
theorem Ec:∀x y:List UInt8,uc x y=leB x y
 |[],y=>by simp[uc,leB]
 |_::_,[]=>by simp[uc,leB]
 |a::az,b::bs=>by
  unfold uc
  have ih:=Ec az bs
  cases h1:Nat.blt a.toNat b.toNat with
  |true=>
   have c:a<b:=by rw[Nat.blt_eq]at h1;exact UInt8.lt_iff_toNat_lt.2 h1
   simp only[leB];symm;rw[decide_eq_true_eq];exact List.cons_le_cons_iff.2 (.inl c)
  |false=>
   have c:¬a<b:=λh=>by have:=UInt8.lt_iff_toNat_lt.1 h;rw[<-Nat.blt_eq,h1]at this;cases this
   cases h2:Nat.beq a.toNat b.toNat with
   |true=>have e:a=b:=UInt8.toNat_inj.1 (Nat.eq_of_beq_eq_true h2);subst e;dsimp only;rw[ih];simp only[leB];simp_all[congr,eq_iff_iff,List.cons_le_cons_iff]
   |false=>
    have e:a≠b:=λe=>by simp_all
    simp_all[decide_eq_false_iff_not,List.cons_le_cons_iff,leB]
def rM(x:List UInt8):List (List UInt8)->List (List UInt8)|[]=>[x]|y::ys=>match uc x y with|true=>x::y::ys|false=>y::rM x ys
def ia:List (List UInt8)->List (List UInt8)|[]=>[]|x::xs=>rM x (ia xs)
theorem CM(x:List UInt8):∀l,(rM x l).Perm (x::l)
 |[]=>.refl _
 |y::ys=>by
  unfold rM
  split
  .exact .refl _
  .exact((CM x ys).cons y).trans (.swap x y ys)
theorem mB:∀l,(ia l).Perm l|[]=>.refl _|x::xs=>(CM x _).trans ((mB xs).cons x)
theorem IY(a b c:List UInt8)(h1:leB a b=true)(h2:leB b c=true):leB a c=true:=by grind
theorem IZ(a b:List UInt8):(leB a b||leB b a)=true:=by grind
theorem HU(x:List UInt8):∀l,l.Pairwise (λa b=>leB a b=true)->(rM x l).Pairwise (λa b=>leB a b=true)
 |[],_=>by simp[rM]
 |y::ys,h=>by
  unfold rM
  rw[List.pairwise_cons]at h
  split
  .rename_i c
   rw[Ec]at c
   refine List.pairwise_cons.2 ⟨λz hz=>?_,List.pairwise_cons.2 h⟩
   rcases List.mem_cons.1 hz with rfl|hz
   .exact c
   .exact IY _ _ _ c (h.1 z hz)
  .rename_i c
   rw[Ec]at c
   have i:leB y x=true:=by have:=IZ x y;rw[c]at this;simpa using this
   refine List.pairwise_cons.2 ⟨λz hz=>?_,HU x ys h.2⟩
   rcases List.mem_cons.1 ((CM x ys).mem_iff.1 hz)with rfl|hz
   .exact i
   .exact h.1 z hz
theorem HK:∀l,(ia l).Pairwise (λa b=>leB a b=true)|[]=>.nil|x::xs=>HU x _ (HK xs)
theorem JM(l:List (List UInt8)):l.mergeSort leB=ia l:=by refine List.Perm.eq_of_pairwise (le:=λa b=>leB a b=true) (λa b _ _ h1 h2=>?_) (List.pairwise_mergeSort IY IZ l) (HK l) ((List.mergeSort_perm l leB).trans (mB l).symm);grind
def FE:AV->Option (List UInt8)|.sc (.string b)=>some b.data.toList|_=>none
theorem U0{g:Gh}{x:AV}{v:Value}{b:List UInt8}(e:FE x=some b)(h:VR g x v):v=encStr b:=by
 unfold FE at e
 split at e
 .simp only[an]at e;subst e;rw[VR.kD h]
 .cases e
def oY:List (AV×AV×Nat)->Option (List (List UInt8))|[]=>some []|e::es=>match FE e.1,oY es with|some k,some ks=>some (k::ks)|_,_=>none
def rO(x:List UInt8):List (List UInt8)->Bool|[]=>false|y::ys=>match jl x y with|true=>true|false=>rO x ys
def oM:List (List UInt8)->Bool|[]=>true|x::xs=>match rO x xs with|true=>false|false=>oM xs
theorem Ii:∀x:List UInt8,jl x x=true|[]=>rfl|a::az=>by simp[jl,Ii az]
theorem Ij{x:List UInt8}:∀{l},rO x l=false->x∉l
 |[],_,h=>by cases h
 |y::ys,e,h=>by
  unfold rO at e
  split at e
  .cases e
  .rename_i c
   rcases List.mem_cons.1 h with rfl|h
   .rw[Ii]at c;cases c
   .exact Ij e h
theorem CN:∀{l},oM l=true->l.Nodup
 |[],_=>.nil
 |x::xs,e=>by
  unfold oM at e
  split at e
  .cases e
  .rename_i hm;exact List.nodup_cons.2 ⟨Ij hm,CN e⟩
def rr(clock:Nat):List (AV×AV×Nat)->Bool|[]=>true|(_,_,b)::es=>match Nat.blt b clock with|true=>(match es.all (λe=>!Nat.beq e.2.2 b)with|true=>rr clock es|false=>false)|false=>false
theorem De{g:Gh}{clock:Nat}:∀{es:List (AV×AV×Nat)}{i:List MapEntry},rr clock es=true->cB g es i->(∀x∈i,x.born<clock)/\(i.map (·.born)).Nodup/\i.map (·.born)=es.map (·.2.2)
 |[],[],_,_=>⟨(by grind),List.nodup_nil,rfl⟩
 |(k,v,b)::es,c::i,e,h=>by
  unfold rr at e
  split at e
  .rename_i h1
   split at e
   .rename_i h2
    obtain⟨_,_,hb,hr⟩:=h
    obtain⟨p,o,m⟩:=De e hr
    rw[Nat.blt_eq]at h1
    refine⟨λx hx=>?_,?_,by simp[hb,m]⟩
    .rcases List.mem_cons.1 hx with rfl|hx
     .omega
     .exact p x hx
    .refine List.nodup_cons.2 ⟨λhm=>?_,o⟩;rw[m,List.mem_map]at hm;obtain⟨q,hq,u⟩:=hm;have:=List.all_eq_true.1 h2 q hq;have j:q.2.2=b:=u.trans hb;simp[j]at this
   .cases e
  .cases e|[],_::_,_,h=>h.elim|(_,_,_)::_,[],_,h=>h.elim
theorem Df{g:Gh}:∀{es:List (AV×AV×Nat)}{i:List MapEntry}{ks:List (List UInt8)},oY es=some ks->cB g es i->i.map (·.key)=ks.map encStr/\ks.length=es.length
 |[],[],ks,e,_=>by simp[oY]at e;grind
 |(k,v,n)::es,c::i,ks,e,h=>by
  unfold oY at e
  split at e
  .rename_i k' m j hk;simp only[an]at e;subst e;obtain⟨h1,_,_,hr⟩:=h;obtain⟨p,o⟩:=Df hk hr;exact⟨by simp only[List.map_cons,p,U0 j h1],by simp[o]⟩
  .cases e|[],_::_,_,_,h=>h.elim|(_,_,_)::_,[],_,_,h=>h.elim
theorem Tg{h:AHeap}{g:Gh}{w w':World}{x:bT}{c s n:Nat}(hw:W h g w)(hf:∀v,g.B h.next v=none)(j9:w.heap.size<=c)(I:c<w'.heap.size)
 (hold:∀b,b<w.heap.size->w'.heap[b]?=w.heap[b]?)(p:w.heap.size<=w'.heap.size)(ht:w'.tape=w.tape)(q:w'.os=w.os)(j:w'.output=w.output)
 (ho:OR (g.dc h.next 0 (c,s,n)) w' h.next x):
 W (h.alloc x) (g.dc h.next 0 (c,s,n)) w'/\Step h g w (h.alloc x) (g.dc h.next 0 (c,s,n)) w':=by
 have m:g.Le (g.dc h.next 0 (c,s,n)):=Gh.kA (hf 0)
 refine⟨⟨?_,?_,?_,?_,?_,hw.kC (λb u hm=>hold b (hw.ro b 0 u hm).2) (λ_ _ _ h=>h)⟩,⟨m,?_,rfl,λ_ h=>h,?_,?_,?_,?_,p,?_,λb hb _=>hold b hb,ht,q,j,λ_ _ _ h=>Or.inl h⟩⟩
 .intro o y hy
  rw[AHeap.n4]at hy
  split at hy
  .grind
  .rename_i e
   refine(hw.obj o y hy).move m ?_ ?_
   .grind[Gh.cO]
   .intro v b s n hb;exact hold b (hw.cR o v b s n hb)
 .intro o v b s' n' hb
  rcases Gh.cO hb with⟨_,_,e⟩|hb
  .grind
  .have:=hw.cR o v b s' n' hb;omega
 .intro o v o' v' b E n1 D F h1 h2
  rcases Gh.cO h1 with⟨e1,_,C⟩|h1<;>rcases Gh.cO h2 with⟨e2,_,z⟩|h2
  .rw[e1,e2]
  .simp at C;have:=hw.cR o' v' b D F h2;omega
  .simp at z;have:=hw.cR o v b E n1 h1;omega
  .exact hw.inj o v o' v' b E n1 D F h1 h2
 .intro b i v hm;obtain⟨h1,h2⟩:=hw.ro b i v hm;grind[World.cell?]
 .intro b i u hm o v s' n' hb
  rcases Gh.cO hb with⟨_,_,e⟩|hb
  .have:=(hw.ro b i u hm).2;grind
  .exact hw.eU b i u hm o v s' n' hb
 .simp[AHeap.alloc]
 .intro o _ h2 _;rw[AHeap.n4,if_neg (by omega)]
 .intro o h1 _;rw[AHeap.n4,if_neg (by omega)]
 .intro o h1 h2;rw[AHeap.n4,if_neg (by omega)];exact h2
 .grind[Gh.cO,AHeap.alloc]
 .intro o v b s' n' hb G
  rcases Gh.cO hb with⟨_,_,e⟩|hb
  .grind
  grind
def l0:List (List UInt8)->List AV|[]=>[]|b::bs=>.sc (.string ⟨⟨b⟩⟩)::l0 bs
theorem HL:∀l,(l0 l).length=l.length|[]=>rfl|_::bs=>by simp[l0,HL bs]
theorem I0:∀(l:List (List UInt8))(i:Nat)(x:AV),(l0 l)[i]?=some x->∃b,l[i]?=some b/\x=.sc (encStr b)|[],i,x,h=>by simp[l0]at h|b::bs,0,x,h=>by simp[l0]at h;grind|b::bs,i+1,x,h=>by simp[l0]at h⊢;exact I0 bs i x h
def ER(fs gk c:Nat)(f:FuncId)(args:List AV)(h:AHeap):Option (AV×AHeap):=match Nat.beq f fs with|true=>(match args with|[.func (.func g) [] [.ref o ver n off]]=>(match Nat.beq g gk&&Nat.beq off 0 with|true=>(match cz h o ver n off 1 with|some [.map m]=>(match h.get m with|some (.map es clock)=>(match oY es with|some ks=>(match oM ks&&rr clock es&&ks.all (λk=>Nat.ble k.length 9223372036854775807)&&Nat.ble (ks.length*16) 140737488355328 with|true=>(match ks with|[]=>some (.sc (.slice none 0 0),h)|_::_=>some (.sl h.next 0 (ks.length*1) 0 1 ks.length none,h.alloc (.cells 0 0 (l0 (ia ks)) 0 c false false)))|false=>none)|none=>none)|_=>none)|_=>none)|false=>none)|_=>none)|false=>none
theorem Th{P:Program}{fs gk O:Nat}(hS:xH P fs gk O){f:FuncId}{args:List AV}{h h':AHeap}{r:AV}(e:ER fs gk O f args h=some (r,h')):dI P f args h (.ret r) h':=by
 unfold ER at e
 split at e
 case h_2=>cases e
 rename_i hf
 obtain rfl:f=fs:=Nat.eq_of_beq_eq_true hf
 split at e
 case h_2=>cases e
 rename_i g0 o ver n off
 split at e
 case h_2=>cases e
 rename_i hg
 rw[aZ]at hg
 obtain rfl:g0=gk:=Nat.eq_of_beq_eq_true hg.1
 obtain rfl:off=0:=Nat.eq_of_beq_eq_true hg.2
 split at e
 case h_2=>cases e
 rename_i m R
 split at e
 case h_2=>cases e
 rename_i es clock hm
 split at e
 case h_2=>cases e
 rename_i ks U
 split at e
 case h_2=>cases e
 rename_i hc
 simp only[aZ]at hc
 obtain⟨⟨⟨c1,c2⟩,c3⟩,c4⟩:=hc
 intro g w vs hw I hv
 cases vs with
 |nil=>exact hv.elim
 |cons v0 vs=>
  cases vs with
  |cons _ _=>exact hv.2.elim
  |nil=>
   obtain⟨a',c',rfl,ha,z⟩:=VR.qA.1 hv.1
   obtain rfl:a'=#[]:=by obtain⟨l⟩:=a';cases l with|nil=>rfl|cons _ _=>exact ha.elim
   obtain⟨l⟩:=c'
   cases l with
   |nil=>exact z.elim
   |cons p l=>
    cases l with
    |cons _ _=>exact z.2.elim
    |nil=>
     have hp:=z.1
     cases hp with
     |ref hB=>
      rename_i b s
      obtain⟨us,q1,q2,q3,q4,q5⟩:=lM hw R hB
      cases us with
      |nil=>grind
      |cons u us=>
       have hu:=q1.1
       cases hu with
       |map Z=>
        rename_i mb s2 n2
        have C:=q3 0 _ rfl
        obtain⟨M,z1,z2⟩:=hw.obj m _ hm mb s2 n2 Z
        obtain⟨k1,k2⟩:=Df U z2
        obtain⟨b1,b2,_⟩:=De c2 z2
        have Q:MapKept.Stamped M clock:=by refine⟨b1,b2,?_⟩;rw[k1];exact List.pairwise_map.2 ((CN c1).imp λ{a b}S e2=>S (encStr_inj e2))
        refine(hS w b mb M clock ks (hw.cR _ _ _ _ _ hB) C z1 Q k1 (λk hk=>Nat.le_of_ble_eq_true (List.all_eq_true.1 c3 k hk)) (Nat.le_of_ble_eq_true c4)).mono ?_
        rintro ee w'⟨v,rfl,E,F,c⟩
        split at e
        .simp only[an,aV]at e;obtain⟨rfl,rfl⟩:=e;obtain rfl:=F.2 rfl;exact⟨g,⟨.refl g,ao _,rfl,λ_ h=>h,λ_ _ _ _=>rfl,λ_ _ _=>rfl,λ_ _ h=>h,λ_ _ _ h=>.inl h,c.size,λo v b s n e _=>⟨v,s,n,e⟩,λb hb _=>c.block b hb,c.tape,c.os,c.output,λ_ _ _ h=>.inl h⟩,hw.same c.size c.block,.sc _⟩
        .rename_i D j
         simp only[an,aV]at e
         obtain⟨rfl,rfl⟩:=e
         obtain⟨r0,N⟩:=E
         rcases N with⟨_,N⟩|⟨gb,cap,L,rfl,j9,G,hn,V,J,q⟩
         .simp at N
         .have T:gb<w'.heap.size:=(Array.getElem?_eq_some_iff.1 G).1
          have hsl:(l0 (ia (D::j))).length=(D::j).length:=by rw[HL,(mB _).length_eq]
          have key:=Tg (h:=h) (g:=g) (x:=.cells 0 0 (l0 (ia (D::j))) 0 O false false) (s:=cap*1) (n:=(D::j).length*1) hw (I h.next (ao _)) j9 T c.block c.size c.tape c.os c.output ?_
          .exact⟨_,key.2,key.1,.sl (Gh.fT _ _ _ _) (by simp) hn (by simp)⟩
          .refine⟨λv hv=>?_,λv _ h2 b3 s3 n3 K=>?_⟩
           .cases Y:(g.dc h.next 0 (gb,cap*1,(D::j).length*1)).B h.next v with
            |none=>rfl
            |some y=>rcases Gh.cO Y with⟨_,e1,_⟩|e1
                     .omega
                     .rw[I h.next (ao _)]at e1;cases e1
           .obtain rfl:v=0:=by omega
            rw[Gh.fT]at K
            cases K
            refine⟨λ_=>by grind,L,(0,0),G,J,by grind,Nat.mul_le_mul_right 1 hn,(λe=>by cases e),(λi _ _ h4=>absurd h4 (Nat.not_lt_zero _)),(λ_=>.inl rfl),?_⟩
            intro i x hi hx
            obtain⟨bb,X,rfl⟩:=I0 _ i x hx
            refine⟨encStr bb,?_,.sc _⟩
            rw[JM]at q
            have:(L.toList.take ((D::j).length*1))[i]?=some (encStr bb):=by rw[q,List.getElem?_map,X];rfl
            grind
def Rec.zS(fs gk i:Nat)(R:Rec):Rec:={R with call:=λkind f args cm h=>match kind,cm with|.normal,.none=>(match ER fs gk i f args h with|some (v,h')=>some (.ret v,.none,h')|none=>R.call .normal f args .none h)|k,c=>R.call k f args c h}
theorem Ti{P:Program}{fs gk i:Nat}{R:Rec}(j:xH P fs gk i)(c:cv P R):cv P (R.zS fs gk i)where
 call:=λf args h out cm' h' e=>by
  simp only[Rec.zS]at e
  split at e
  .grind[an,aV,Th]
  .exact c.call _ _ _ _ _ _ e
 nu:=λf args cm h out cm' h' hn e=>c.nu f args cm h out cm' h' hn (by simp only[Rec.zS]at e;exact e)
 loop:=c.loop
 round:=c.round
end Go.AI
end

section
namespace Go.AI
theorem Ik(bs:ByteArray):∀(d i:Nat)(r:List UInt8),bs.size-i=d->i<=bs.size->ByteArray.toList.loop bs i r=r.reverse++bs.data.toList.drop i
 |0,i,r,h,hi=>by
  rw[ByteArray.toList.loop]
  rw[if_neg (by omega)]
  have:i=bs.data.toList.length:=by
   have:bs.data.toList.length=bs.size:=by simp
   omega
  rw[this];simp
 |d+1,i,r,h,hi=>by
  rw[ByteArray.toList.loop]
  have c:i<bs.size:=by omega
  rw[if_pos c,Ik bs d (i+1) _ (by omega) (by omega)]
  have j:i<bs.data.toList.length:=by simpa using c
  rw[List.drop_eq_getElem_cons j]
  have:bs.get! i=bs.data.toList[i]:=by have hs:i<bs.data.size:=c;simp only[ByteArray.get!,Array.getElem_toList];exact getElem!_pos bs.data i hs
  rw[this];simp
theorem Cj(bs:ByteArray):bs.toList=bs.data.toList:=by rw[ByteArray.toList,Ik bs bs.size 0 [] (by omega) (by omega)];simp
section
variable {P:Program}
theorem RW{t:TypeId}{s:ByteArray}{m hi:Option AV}{l u:Nat}(hu:P.underlying t=some .string)(c:ep m 0=some l)(j:ep hi s.size=some u)(i:l<=u/\u<=s.size):
 fV P t (.sc (.string s)) m hi none=some (.sc (.string (s.extract l u))):=by
 unfold fV
 simp only[hu,c,j]
 rw[if_pos i,CG]
 have e:(⟨⟨(s.data.toList.drop l).take (u-l)⟩⟩:ByteArray)=s.extract l u:=by apply ByteArray.ext;apply Array.ext';simp[List.take_drop]
 rw[e]
end
theorem Ct{sz:Nat}:∀{rows:List (List AV)},(∀r,r∈rows->r.length=sz)->chunks sz rows.length rows.flatten=rows|[],_=>rfl|r::rows,h=>by simp_all[kx,List.flatten_cons,List.take_left',List.drop_left',Ct,chunks]
end Go.AI
end

section
namespace Go.AI
mutual
def o1(h:AHeap):Nat->AV->Option AV
 |0,_=>none
 |n+1,v=>match v with
  |.sl o ver m off sz len cap=>
   if sz=0 then none else
   match cz h o ver m off (len*sz)with
   |some cs=>match jL h n cs with|some l=>some (.aN l sz len cap)|none=>none
   |none=>none
  |.agg cs=>match jL h n cs with|some l=>some (.agg l)|none=>none
  |.tuple cs=>match jL h n cs with|some l=>some (.tuple l)|none=>none
  |.sc v=>some (.sc v)|.bC=>some .bC|_=>none
def jL(h:AHeap):Nat->List AV->Option (List AV)|_,[]=>some []|0,_::_=>none|n+1,x::xs=>match o1 h n x,jL h n xs with|some y,some ys=>some (y::ys)|_,_=>none
end
theorem HF{h:AHeap}:∀{n:Nat}{xs ys:List AV},jL h n xs=some ys->ys.length=xs.length
 |_,[],ys,e=>by simp[jL]at e;subst e;rfl
 |0,x::xs,ys,e=>by simp[jL]at e
 |n+1,x::xs,ys,e=>by
  rw[jL]at e
  split at e
  .rename_i h1 h2;simp only[an]at e;subst e;simp[HF h2]
  .cases e
section
variable {h:AHeap}{g g2:Gh}{w:World}
mutual
theorem Kh(hw:W h g w)(hb:∀o v b s n i u,g.B o v=some (b,s,n)->w.cell? ⟨b,i,none⟩=some u->g2.M b i=some u):
 ∀{n:Nat}{x y:AV}{v:Value},o1 h n x=some y->VR g x v->VR g2 y v
 |0,_,_,_,e,_=>by simp[o1]at e
 |n+1,x,y,v,e,hr=>by
  cases x<;>simp only[o1]at e<;>try(cases e;done)
  case sc=>simp only[an]at e;subst e;cases hr;exact .sc _
  case bC=>simp only[an]at e;subst e;cases hr;exact .bC _ _
  case agg cs=>
   split at e
   .rename_i l hl;simp only[an]at e;subst e;obtain⟨a,rfl,ha⟩:=VR.hW.1 hr;exact VR.hW.2 ⟨a,rfl,xO hw hb hl ha⟩
   .cases e
  case tuple cs=>
   split at e
   .rename_i l hl;simp only[an]at e;subst e;obtain⟨a,rfl,ha⟩:=VR.eo.1 hr;exact VR.eo.2 ⟨a,rfl,xO hw hb hl ha⟩
   .cases e
  case sl o ver m off sz len cap=>
   split at e
   .cases e
   .rename_i hz
    split at e
    .rename_i cs dL
     split at e
     .rename_i l hl
      simp only[an]at e;subst e
      cases hr with
      |sl hB p1 p2 p3=>
       rename_i b s c
       obtain⟨vs,q1,q2,q3,_⟩:=lM hw dL hB
       have hlen:l.length=len*sz:=by rw[HF hl,q1.length,q2]
       have nT:=xO hw hb hl q1
       have key:VR g2 (.aN l sz len cap) (.slice (some ⟨b,off,none⟩) len c):=by
        refine .aN (λi=>vs.getD i .nilIface) ?_ ?_ hlen p2 p3
        .grind
        .intro i x hx
         have hi:i<vs.length:=by grind
         rw[show vs.getD i .nilIface=vs[i]by grind];exact nT.get i x vs[i] hx (List.getElem?_eq_getElem hi)
       exact key
     .cases e
    .cases e
theorem xO(hw:W h g w)(hb:∀o v b s n i u,g.B o v=some (b,s,n)->w.cell? ⟨b,i,none⟩=some u->g2.M b i=some u):
 ∀{n:Nat}{xs ys:List AV}{vs:List Value},jL h n xs=some ys->ay g xs vs->ay g2 ys vs
 |_,[],ys,vs,e,hr=>by simp[jL]at e;subst e;cases vs with|nil=>trivial|cons _ _=>exact hr.elim
 |0,x::xs,ys,_,e,_=>by simp[jL]at e
 |n+1,x::xs,ys,vs,e,hr=>by
  cases vs with
  |nil=>exact hr.elim
  |cons v vs=>
   rw[jL]at e
   split at e
   .rename_i h1 h2;simp only[an]at e;subst e;exact⟨Kh hw hb h1 hr.1,xO hw hb h2 hr.2⟩
   .cases e
end
end
theorem T8{P:Program}{f:FuncId}{args c:List AV}{v v':AV}{h1:AHeap}{n m:Nat}(hc:dI P f c h0 (.ret v) h1)(hn:o1 h1 m v=some v')(h:AHeap)(hs:eI h n args=some c):dI P f args h (.ret v') h:=by
 intro g w vs hw hf hv
 let g1:Gh:=⟨λ_ _=>none,λb i=>w.cell? ⟨b,i,none⟩⟩
 have q:∀b i u,w.cell? ⟨b,i,none⟩=some u->b<w.heap.size:=by grind[Nat.lt_or_ge,Array.getElem?_eq_none,World.cell?]
 have E:W h0 g1 w:=⟨λo x e=>(by simp[h0,AHeap.get,Tr.get]at e),λ_ _ _ _ _ e=>(by cases e),λ_ _ _ _ _ _ _ _ _ e=>(by cases e),λb i u hm=>⟨hm,q b i u hm⟩,λ_ _ _ _ _ _ _ _ e=>(by cases e),hw.kC (λ_ _ _=>rfl) (λb i v e=>(hw.ro b i v e).1)⟩
 have G:ay g1 c vs:=sF (g2:=g1) hw (λb i u hm=>(hw.ro b i u hm).1) (λ_ _ _ _ _ _ _ _ hm=>hm) hs hv
 refine(hc g1 w vs E (λ_ _ _=>rfl) G).mono ?_
 rintro e w'⟨g',st,F,ho⟩
 have hold:∀b,b<w.heap.size->w'.heap[b]?=w.heap[b]?:=λb hb=>st.fr b hb λo v s n e=>by cases e
 let g2:Gh:=⟨g.B,λb i=>if w.heap.size<=b then w'.cell? ⟨b,i,none⟩else g.M b i⟩
 have z:∀b i v,g.M b i=some v->g2.M b i=some v:=by intro b i v hm;have:=(hw.ro b i v hm).2;show(if w.heap.size<=b then _ else _)=_;rw[if_neg (by omega)];exact hm
 have D:g.Le g2:=⟨λ_ _ _ e=>e,z⟩
 have C:=st.size
 have p:=hw.same C hold
 refine⟨g2,⟨D,ao _,rfl,λ_ h=>h,λ_ _ _ _=>rfl,λ_ _ _=>rfl,λ_ _ h=>h,λ_ _ _ h=>.inl h,C,λo v b s n e _=>⟨v,s,n,e⟩,λb hb _=>hold b hb,st.tape,st.os,st.out,?_⟩,?_,?_⟩
 .grind
 .refine⟨λo x hx=>(p.obj o x hx).move D (λ_ _ e=>e) (λ_ _ _ _ _=>rfl),p.cR,p.inj,?_,?_,p.kC (λ_ _ _=>rfl) z⟩
  .intro b i v hm
   have j:(if w.heap.size<=b then w'.cell? ⟨b,i,none⟩else g.M b i)=some v:=hm
   by_cases hb:w.heap.size<=b
   .rw[if_pos hb]at j;grind[Nat.lt_or_ge,Array.getElem?_eq_none,World.cell?]
   .rw[if_neg hb]at j;exact p.ro b i v j
  .intro b i u hm o v s n e;have j:(if w.heap.size<=b then w'.cell? ⟨b,i,none⟩else g.M b i)=some u:=hm;have hb:=hw.cR o v b s n e;rw[if_neg (by omega)]at j;exact hw.eU b i u j o v s n e
 .cases e with
  |returned x=>
   refine Kh (g:=g') (g2:=g2) F ?_ hn ho
   intro o v b s n i u hB q
   have hb:w.heap.size<=b:=by
    rcases Nat.lt_or_ge b w.heap.size with a|a
    .obtain⟨_,_,_,e⟩:=st.old o v b s n hB a;cases e
    .exact a
   grind|panicked _=>exact ho.elim|outgrown=>exact ho.elim
def vX(f:FuncId)(a:List AV):List bV->Option AV|[]=>none|k::ks=>match Nat.beq k.f f with|true=>(match jW a k.args with|true=>some k.v|false=>vX f a ks)|false=>vX f a ks
def Eo(f:FuncId)(args:List AV)(h:AHeap)(t:Tr (List bV)):Option AV:=match t.get f with|some l=>(match eI h 1000 args with|some a=>vX f a l|none=>none)|none=>none
def jE(P:Program)(tbl:List bV):Prop:=∀k,k∈tbl->∃h1 u n,dI P k.f k.args h0 (.ret u) h1/\o1 h1 n u=some k.v
theorem Ds{f:FuncId}{a:List AV}{v:AV}:∀{l:List bV},vX f a l=some v->∃k,k∈l/\k.f=f/\a=k.args/\k.v=v
 |[],e=>by cases e
 |k::ks,e=>by
  unfold vX at e
  split at e
  .rename_i h1
   split at e
   .rename_i h2;simp only[an]at e;exact⟨k,List.mem_cons_self ..,Nat.eq_of_beq_eq_true h1,oz _ _ h2,e⟩
   .obtain⟨q,q1,q2⟩:=Ds e;exact⟨q,List.mem_cons_of_mem _ q1,q2⟩
  .obtain⟨q,q1,q2⟩:=Ds e;exact⟨q,List.mem_cons_of_mem _ q1,q2⟩
theorem SE{P:Program}{f:FuncId}{args:List AV}{h:AHeap}{v:AV}{t:Tr (List bV)}(hk:jE P t.aY.flatten)(e:Eo f args h t=some v):dI P f args h (.ret v) h:=by
 unfold Eo at e
 split at e
 .rename_i l hl
  split at e
  .rename_i a ha;obtain⟨k,q1,rfl,rfl,rfl⟩:=Ds e;obtain⟨h1,u,n,hc,hs⟩:=hk k (List.mem_flatten.2 ⟨l,Tr.xX hl,q1⟩);exact T8 hc hs h ha
  .cases e
 .cases e
def Rec.Ak(tbl:Tr (List bV))(R:Rec):Rec:={R with call:=λkind f args cm h=>match kind,cm with|.normal,.none=>(match Eo f args h tbl with|some v=>some (.ret v,.none,h)|none=>R.call .normal f args .none h)|k,c=>R.call k f args c h}
theorem Ua{P:Program}{tbl:Tr (List bV)}{R:Rec}(hk:jE P tbl.aY.flatten)(c:cv P R):cv P (R.Ak tbl)where
 call:=λf args h out cm' h' e=>by
  simp only[Rec.Ak]at e
  split at e
  .grind[an,aV,SE]
  .exact c.call _ _ _ _ _ _ e
 nu:=λf args cm h out cm' h' hn e=>c.nu f args cm h out cm' h' hn (by simp only[Rec.Ak]at e;exact e)
 loop:=c.loop
 round:=c.round
def vC(R:Rec)(k:bV):Bool:=match R.call .normal k.f k.args .none h0 with|some (.ret u,_,h1)=>(match o1 h1 1000 u with|some v=>gn v k.v|none=>false)|_=>false
theorem SF{P:Program}{R:Rec}(c:cv P R){k:bV}(h:vC R k=true):∃h1 u n,dI P k.f k.args h0 (.ret u) h1/\o1 h1 n u=some k.v:=by
 unfold vC at h
 split at h
 .rename_i u cm h1 e
  split at h
  .rename_i v hv;have:=Eb _ _ h;subst this;exact⟨h1,u,1000,c.call _ _ _ _ _ _ e,hv⟩
  .cases h
 .cases h
theorem xA{P:Program}:jE P []:=λk hk=>by cases hk
def cE(P:Program)(fs gk c:Nat)(tbl tbn:Tr (List bV)):Nat->Rec|0=>Rec.zero|n+1=>(((Rec.succ P (cE P fs gk c tbl tbn n)).zR tbl).Ak tbn).zS fs gk c
theorem qR{P:Program}{fs gk c:Nat}{tbl tbn:Tr (List bV)}(hP:ProgOK P)(i:xH P fs gk c)(hk:cY P tbl.aY.flatten)(hn:jE P tbn.aY.flatten):∀n,cv P (cE P fs gk c tbl tbn n)|0=>JH|n+1=>Ti i (Ua hn (Tf hk (Ta hP (qR hP i hk hn n))))
end Go.AI
end
