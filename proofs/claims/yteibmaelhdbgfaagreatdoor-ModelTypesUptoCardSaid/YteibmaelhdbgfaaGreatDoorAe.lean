/- A part of the proof. -/
import Derived.Below
import Derived.Sort.KeysCollected
import Derived.Test.YteibmaelhdbgfaaGreatDoorAd
set_option linter.all false

section
namespace Go.AI
section
variable {P:Program}{R:Rec}{cx:Ctx}{ops:Array Oper}
inductive lV(P:Program)(R:Rec)(cx:Ctx)(ops:Array Oper)(kf:cz)(L:Nat->Prop)(o:Oper)(i ao:Nat)(st:aD)(gq:Nat)(st':aD):Prop|skip(hw:cC ops o st.tm=some false)(hp:st.put cx.tn o.dst dS=some st')(ha:gq=if bg o.op then ao+1 else ao)|mk(v:AV)(h:AHeap)(x:cr)(hw:cC ops o st.tm=some true)(hA:bg o.op=true)(hr:aV P (dy (tmpsOf o) st.tm) o {cj:=.leaf,next:=ao,floor:=0,wr:=[]}=some (.val v,h))(hg:h.get ao=some x)(hn:h.next=ao+1)(hp:aD.put {st with h:={st.h with cj:=st.h.cj.put ao x}} cx.tn o.dst v=some st')(ha:gq=ao+1)|look(v:AV)(h:AHeap)(hw:cC ops o st.tm=some true)(hA:bg o.op=false)(hF:cd o.op=true)(hr:aV P (dy (tmpsOf o) st.tm) o {st.h with cj:=fB st.h (dH o st.tm)}=some (.val v,h))(hn:h.next=st.h.next)(hp:st.put cx.tn o.dst v=some st')(ha:gq=ao)(hk:(i,dH o st.tm)∈kf.fs)|act(v:AV)(cm:bD)(h:AHeap)(hw:cC ops o st.tm=some true)(hA:bg o.op=false)(hF:cd o.op=false)(hr:cV P R cx (dy (tmpsOf o) st.tm) o .none st.h.inner=some (.val v cm h))(hp:aD.put {st with h:=st.h.outer h} cx.tn o.dst v=some st')(ha:gq=ao)(hk:(i,h.wr)∈kf.es)|dead(hL:¬L i)(hp:st.put cx.tn o.dst .aM=some st')(ha:gq=if bg o.op then ao+1 else ao)
def Trace(P:Program)(R:Rec)(cx:Ctx)(ops:Array Oper)(kf:cz)(L:Nat->Prop)(l:List Oper)(i ao:Nat)(st c:aD):Prop:=∃(T:Nat->aD)(A:Nat->Nat),T i=st/\A i=ao/\T (i+l.length)=c/\∀j o,l[j]?=some o->lV P R cx ops kf L o (i+j) (A (i+j)) (T (i+j)) (A (i+j+1)) (T (i+j+1))
theorem Trace.cons{kf:cz}{L:Nat->Prop}{l:List Oper}{o:Oper}{i ao c:Nat}{st D z:aD}(h1:lV P R cx ops kf L o i ao st c D)(h2:Trace P R cx ops kf L l (i+1) c D z):Trace P R cx ops kf L (o::l) i ao st z:=by
 obtain⟨T,A,t1,I,F,E⟩:=h2
 refine⟨λj=>if j=i then st else T j,λj=>if j=i then ao else A j,by simp,by simp,?_,?_⟩
 .grind
 grind
theorem rp{L:Nat->Prop}:∀(l:List Oper)(i ao:Nat)(k:cz)(st:aD)(kf:cz)(z:aD),e9 P R cx ops l i ao k st=some (kf,z)->
 ((∀x,x∈k.es->x∈kf.es)/\(∀x,x∈k.fs->x∈kf.fs))/\Trace P R cx ops kf L l i ao st z
 |[],i,ao,k,st,kf,z,hr=>by simp only[e9,ad,av]at hr;obtain⟨rfl,rfl⟩:=hr;exact⟨⟨λ_ h=>h,λ_ h=>h⟩,λ_=>st,λ_=>ao,rfl,rfl,rfl,λj o h=>by simp at h⟩
 |o::l,i,ao,k,st,kf,z,hr=>by
  unfold e9 at hr
  split at hr
  .rename_i hw
   split at hr
   .rename_i D hp;obtain⟨q1,q2⟩:=rp l _ _ _ _ _ _ hr;exact⟨q1,.cons (.skip hw hp rfl) q2⟩
   .cases hr
  .rename_i hw
   split at hr
   .rename_i hA
    split at hr
    .rename_i v h c
     split at hr
     .rename_i x hx
      split at hr
      .rename_i hn
       split at hr
       .rename_i D hp;obtain⟨q1,q2⟩:=rp l _ _ _ _ _ _ hr;exact⟨q1,.cons (.mk v h x hw hA c hx hn hp rfl) q2⟩
       .cases hr
      .cases hr
     .cases hr
    .cases hr
   .rename_i hA
    have hA:bg o.op=false:=by grind
    split at hr
    .rename_i hF
     split at hr
     .rename_i v h c
      split at hr
      .rename_i E
       split at hr
       .rename_i D hp;obtain⟨q1,q2⟩:=rp l _ _ _ _ _ _ hr;exact⟨⟨q1.1,λx hx=>q1.2 x (List.mem_cons_of_mem _ hx)⟩,.cons (.look v h hw hA hF c E hp rfl (q1.2 _ (List.mem_cons_self ..))) q2⟩
       .cases hr
      .cases hr
     .cases hr
    .rename_i hF
     have hF:cd o.op=false:=by grind
     split at hr
     .rename_i v cm h c
      split at hr
      .rename_i D hp;obtain⟨q1,q2⟩:=rp l _ _ _ _ _ _ hr;exact⟨⟨λx hx=>q1.1 x (List.mem_cons_of_mem _ hx),q1.2⟩,.cons (.act v cm h hw hA hF c hp rfl (q1.1 _ (List.mem_cons_self ..))) q2⟩
      .cases hr
     .cases hr
  .cases hr
def rM(o:Oper)(c:List Nat):Nat:=o.after.foldl (λs e=>if Region.binds .any e then s|||2^e.on|||c.getD e.on 0 else s) 0
theorem yB:∀(l:List Oper)(c:List Nat),(∃B,fi l c=c++B/\B.length=l.length)/\∀j o,l[j]?=some o->(fi l c).getD (c.length+j) 0=rM o ((fi l c).take (c.length+j))|[],c=>⟨⟨[],by simp[fi],rfl⟩,λj o h=>by simp at h⟩|o::l,c=>by have e:fi (o::l) c=fi l (c++[rM o c]):=rfl;rw[e];obtain⟨⟨B,h1,h2⟩,h3⟩:=yB l (c++[rM o c]);refine⟨⟨rM o c::B,by grind,by simp[h2]⟩,?_⟩;intro j q hq;cases j with|zero=>grind|succ j=>simp only[List.getElem?_cons_succ]at hq;have:=h3 j q hq;simp only[List.length_append,lC,List.length_nil]at this;grind
def cn(ops:Array Oper)(i k:Nat):Prop:=((fi ops.toList []).getD i 0).testBit k=true
theorem Kg(c:List Nat)(k:Nat):∀(es:List Edge)(s:Nat),(es.foldl (λs e=>if Region.binds .any e then s|||2^e.on|||c.getD e.on 0 else s) s).testBit k=true->
 s.testBit k=true\/∃e,e∈es/\Region.binds .any e=true/\(e.on=k\/(c.getD e.on 0).testBit k=true)
 |[],s,h=>.inl h
 |e::es,s,h=>by
  simp only[List.foldl_cons]at h
  rcases Kg c k es _ h with h1|⟨e',h1,h2,h3⟩
  .grind
  grind
theorem cn.direct{i k:Nat}{o:Oper}(ho:ops[i]?=some o)(h:cn ops i k):∃e,e∈o.after/\Region.binds .any e=true/\(e.on=k\/cn ops e.on k):=by
 unfold cn at h
 have hs:=(yB ops.toList []).2 i o (by grind)
 simp only[List.length_nil,Nat.zero_add]at hs
 rw[hs]at h
 unfold rM at h
 rw[<-Array.foldl_toList]at h
 rcases Kg _ k _ _ h with h1|⟨e,h1,h2,h3⟩
 .simp at h1
 .refine⟨e,by grind,h2,?_⟩
  rcases h3 with h3|h3
  .grind
  .right;unfold cn;grind
theorem cn.here{i k:Nat}(h:cn ops i k):∃o,ops[i]?=some o:=by
 rcases Nat.lt_or_ge i ops.size with h1|h1
 .simp_all
 .unfold cn at h;obtain⟨⟨B,h2,h3⟩,_⟩:=yB ops.toList [];grind
structure Static(ops:Array Oper):Prop where
 back:∀(i:Nat)(o:Oper)(e:Edge),ops[i]?=some o->e∈o.after->Region.binds .any e=true->e.on<i
 guard:∀(i:Nat)(o:Oper)(j:Nat)(b:Bool),ops[i]?=some o->o.guard=some (j,b)->cn ops i j
 one:∀(i k:Nat)(o q:Oper)(d:Tmp),ops[i]?=some o->ops[k]?=some q->q.dst=some d->o.dst=some d->k=i
 use:∀(i k:Nat)(o q:Oper)(d:Tmp),ops[i]?=some o->ops[k]?=some q->q.dst=some d->d∈tmpsOf o->cn ops i k\/cn ops k i
 chain:∀(i k:Nat)(o q:Oper),ops[i]?=some o->ops[k]?=some q->k<i->bg o.op=false->cd o.op=false->bg q.op=false->cd q.op=false->cn ops i k
theorem Da(h:te ops=true):Static ops:=by
 unfold te at h
 simp only[List.all_eq_true]at h
 have c:∀(i:Nat)(o:Oper),ops[i]?=some o->(o,i)∈ops.toList.zipIdx:=by grind
 have key:∀(i:Nat)(o:Oper),ops[i]?=some o->_:=λi o ho=>h (o,i) (c i o ho)
 refine⟨?_,?_,?_,?_,?_⟩
 .intro i o e ho he hb;have:=key i o ho;simp only[bB]at this;have h1:=this.1.1;rw[Array.all_eq_true]at h1;obtain⟨n,hn,rfl⟩:=Array.mem_iff_getElem.1 he;grind
 .intro i o j b ho hg;have:=key i o ho;simp only[bB]at this;have h1:=this.1.2;rw[hg]at h1;exact h1
 .intro i k o q d ho hq h1 h2;have:=key i o ho;simp only[bB]at this;have h3:=this.2;rw[List.all_eq_true]at h3;have h4:=h3 (q,k) (c k q hq);grind
 .intro i k o q d ho hq h1 h2
  have:=key i o ho
  simp only[bB]at this
  have h3:=this.2
  rw[List.all_eq_true]at h3
  have h4:=h3 (q,k) (c k q hq)
  simp only[bB]at h4
  have h5:=h4.1
  rw[h1]at h5
  simp only[bB,Bool.or_eq_true]at h5
  rcases h5.2 with(h6|h6)|h6
  .simp[h2]at h6
  .exact .inl h6
  .exact .inr h6
 .intro i k o q ho hq z I F E D;have:=key i o ho;simp only[bB]at this;have h3:=this.2;rw[List.all_eq_true]at h3;have h4:=h3 (q,k) (c k q hq);simp only[bB]at h4;have h5:=h4.2;simp only[I,F,E,D,z,decide_true,Bool.not_true,Bool.false_or]at h5;exact h5
theorem cn.lt(hs:Static ops):∀{i k:Nat},cn ops i k->k<i:=by intro i;induction i using Nat.strongRecOn with|ind i c=>intro k h;obtain⟨o,ho⟩:=h.here;obtain⟨e,h1,h2,h3⟩:=h.direct ho;have:=hs.back i o e ho h1 h2;grind
theorem cn.closed(hs:Static ops){S:Nat->Prop}(z:∀i o e,ops[i]?=some o->S i->e∈o.after->Region.binds .any e=true->S e.on):∀{i k:Nat},S i->cn ops i k->S k:=by
 intro i
 induction i using Nat.strongRecOn with
 |ind i c=>
  intro k hi h
  obtain⟨o,ho⟩:=h.here
  obtain⟨e,h1,h2,h3⟩:=h.direct ho
  have h4:=z i o e ho hi h1 h2
  rcases h3 with rfl|h3
  .exact h4
  .exact c e.on (hs.back i o e ho h1 h2) h4 h3
theorem cn.ready(hs:Static ops){S:Nat->Prop}(c:∀i o e,ops[i]?=some o->S i->e∈o.after->Region.binds .any e=true->S e.on){i k:Nat}{o:Oper}(ho:ops[i]?=some o)
 (hi:∀e,e∈o.after->Region.binds .any e=true->S e.on)(h:cn ops i k):S k:=by
 obtain⟨e,h1,h2,h3⟩:=h.direct ho
 rcases h3 with rfl|h3
 .grind
 .exact cn.closed hs c (hi e h1 h2) h3
theorem Kh{kf:cz}(h:mz (fi ops.toList []) kf=true){i j:Nat}{ids wr:List Nat}(hi:(i,ids)∈kf.fs)(hj:(j,wr)∈kf.es)(h1:¬cn ops i j)(h2:¬cn ops j i):∀o,o∈ids->o∉wr:=by
 unfold mz at h
 rw[List.all_eq_true]at h
 have h3:=h _ hi
 simp only[List.all_eq_true]at h3
 have h4:=h3 _ hj
 simp only[Bool.or_eq_true]at h4
 intro o ho hw
 rcases h4 with(h4|h4)|h4
 .exact h1 h4
 .exact h2 h4
 grind
end
end Go.AI
end

section
namespace Go.AI
def ec(o:Oper):Bool:=!bg o.op&&!cd o.op
theorem jq{o:Oper}:ec o=true↔bg o.op=false/\cd o.op=false:=by unfold ec;grind
structure Rgn(P:Program)(R:Rec)(cx:Ctx)(ops:Array Oper)(kf:cz)(L:Nat->Prop)(T:Nat->aD)(A:Nat->Nat)(h0:AHeap):Prop where
 st:Static ops
 tr:∀(i:Nat)(o:Oper),ops[i]?=some o->lV P R cx ops kf L o i (A i) (T i) (A (i+1)) (T (i+1))
 bk:mz (fi ops.toList []) kf=true
 a0:A 0=h0.next
 t0:(T 0).h={h0 with next:=h0.next+fy ops.toList}nn:∀o,h0.next<=o->o<h0.next+fy ops.toList->h0.get o=none
section
variable {P:Program}{R:Rec}{cx:Ctx}{ops:Array Oper}{kf:cz}{L:Nat->Prop}{T:Nat->aD}{A:Nat->Nat}{h0:AHeap}
theorem gM{i:Nat}{o:Oper}(h:ops[i]?=some o):i<ops.size:=by grind
theorem kC{st st':aD}{tn:Nat}{dst:Option Tmp}{v:AV}(hp:st.put tn dst v=some st'):
 (∀t,dst≠some t->st'.tm.get t=st.tm.get t)/\(∀d,dst=some d->st'.tm.get d=some v/\d<tn):=by
 unfold aD.put at hp
 cases dst with
 |none=>grind
 |some d=>
  simp only at hp
  split at hp
  .rename_i hd;simp only[Option.some.injEq]at hp;subst hp;refine⟨λt ht=>Tr.aL _ _ (λe=>ht (by rw[e])),λc e=>?_⟩;simp only[Option.some.injEq]at e;subst e;exact⟨Tr.a7 _ _ _,hd⟩
  .cases hp
namespace Rgn
variable (hr:Rgn P R cx ops kf L T A h0)
include hr
theorem FY(i:Nat)(o:Oper)(ho:ops[i]?=some o):∃v,(∀t,o.dst≠some t->(T (i+1)).tm.get t=(T i).tm.get t)/\(∀d,o.dst=some d->(T (i+1)).tm.get d=some v/\d<cx.tn)/\(T (i+1)).cm=(T i).cm/\(T (i+1)).df=(T i).df:=by cases hr.tr i o ho with|skip hw hp ha=>exact⟨_,(kC hp).1,(kC hp).2,(dw hp).2.1,(dw hp).2.2⟩|mk v h x hw hA c hg hn hp ha=>exact⟨_,(kC hp).1,(kC hp).2,(dw hp).2.1,(dw hp).2.2⟩|look v h hw hA hF c z hp ha hk=>exact⟨_,(kC hp).1,(kC hp).2,(dw hp).2.1,(dw hp).2.2⟩|act v cm h hw hA hF c hp ha hk=>exact⟨_,(kC hp).1,(kC hp).2,(dw hp).2.1,(dw hp).2.2⟩|dead hL hp ha=>exact⟨_,(kC hp).1,(kC hp).2,(dw hp).2.1,(dw hp).2.2⟩
theorem ML{t:Tmp}{i:Nat}:∀(d:Nat),i+d<=ops.size->(∀k q,ops[k]?=some q->q.dst=some t->k<i)->(T (i+d)).tm.get t=(T i).tm.get t
 |0,_,_=>rfl
 |d+1,hd,hk=>by
  have hlt:i+d<ops.size:=by omega
  have ho:ops[i+d]?=some ops[i+d]:=by grind
  obtain⟨v,h1,_⟩:=hr.FY (i+d) _ ho;rw[show i+(d+1)=i+d+1 by omega,h1 t (λe=>by grind)];exact ML d (by omega) hk
theorem uw{t:Tmp}{i:Nat}(hi:i<=ops.size)(hk:∀k q,ops[k]?=some q->q.dst=some t->k<i):(T ops.size).tm.get t=(T i).tm.get t:=by have:=hr.ML (t:=t) (i:=i) (ops.size-i) (by omega) hk;grind
theorem Wu{t:Tmp}(hk:∀(k:Nat)(q:Oper),ops[k]?=some q->q.dst≠some t):(T ops.size).tm.get t=(T 0).tm.get t:=hr.uw (Nat.zero_le _) λk q h1 h2=>absurd h2 (hk k q h1)
theorem LB{t:Tmp}:∀(d:Nat),d<=ops.size->(∀k q,ops[k]?=some q->q.dst=some t->d<=k)->(T d).tm.get t=(T 0).tm.get t
 |0,_,_=>rfl
 |d+1,hd,hk=>by
  have hlt:d<ops.size:=by omega
  have ho:ops[d]?=some ops[d]:=by grind
  obtain⟨v,h1,_⟩:=hr.FY d _ ho;rw[h1 t (λe=>by grind)];exact LB d (by omega) λk q h2 h3=>by grind
theorem opn{i:Nat}{o:Oper}(ho:ops[i]?=some o){t:Tmp}(ht:t∈tmpsOf o):
 ((T ops.size).tm.get t=(T i).tm.get t/\∀(k:Nat)(q:Oper),ops[k]?=some q->q.dst=some t->cn ops i k)\/
 ((T 0).tm.get t=(T i).tm.get t/\∀(k:Nat)(q:Oper),ops[k]?=some q->q.dst=some t->cn ops k i):=by
 rcases Classical.em (∃(k:Nat)(q:Oper),ops[k]?=some q/\q.dst=some t)with⟨k,q,hk,hq⟩|hn
 .have z:∀(k':Nat)(c:Oper),ops[k']?=some c->c.dst=some t->k'=k:=λk' c h1 h2=>hr.st.one k k' q c t hk h1 h2 hq
  rcases hr.st.use i k o q t ho hk hq ht with h|h
  .refine .inl ⟨hr.uw (Nat.le_of_lt (gM ho)) λk' c h1 h2=>?_,λk' c h1 h2=>by grind⟩;rw[z k' c h1 h2];exact cn.lt hr.st h
  .refine .inr ⟨(hr.LB i (Nat.le_of_lt (gM ho)) λk' c h1 h2=>?_).symm,λk' c h1 h2=>by grind⟩;rw[z k' c h1 h2];exact Nat.le_of_lt (cn.lt hr.st h)
 .exact .inl ⟨hr.uw (Nat.le_of_lt (gM ho)) λk q h1 h2=>absurd ⟨k,q,h1,h2⟩ hn,λk q h1 h2=>absurd ⟨k,q,h1,h2⟩ hn⟩
theorem VS{i:Nat}{o:Oper}(ho:ops[i]?=some o):cC ops o (T i).tm=cC ops o (T ops.size).tm:=by
 unfold cC
 cases hg:o.guard with
 |none=>rfl
 |some p=>
  obtain⟨j,want⟩:=p
  simp only
  cases hd:(ops[j]?).bind (·.dst)with
  |none=>rfl
  |some d=>
   simp only
   have hj:=hr.st.guard i o j want ho hg
   have z:=cn.lt hr.st hj
   have:(T ops.size).tm.get d=(T i).tm.get d:=by refine hr.uw (Nat.le_of_lt (gM ho)) λk q h1 h2=>?_;cases hq:ops[j]? with|none=>grind|some c=>rw[hq]at hd;have:=hr.st.one k j q c d h1 hq (by grind) h2;omega
   rw[this]
theorem YF{i:Nat}{o:Oper}(ho:ops[i]?=some o){c:aD}{v:AV}(hp:c.put cx.tn o.dst v=some (T (i+1))){d:Tmp}(hd:o.dst=some d):(T ops.size).tm.get d=some v/\d<cx.tn:=by have h1:=(kC hp).2 d hd;refine⟨?_,h1.2⟩;rw[<-h1.1];refine hr.uw (gM ho) λk q h2 h3=>?_;have:=hr.st.one i k o q d ho h2 h3 hd;omega
theorem ao(i:Nat)(o:Oper)(ho:ops[i]?=some o):A (i+1)=if bg o.op then A i+1 else A i:=by cases hr.tr i o ho with|skip hw hp ha=>exact ha|mk v h x hw hA c hg hn hp ha=>grind|look v h hw hA hF c z hp ha hk=>grind|act v cm h hw hA hF c hp ha hk=>grind|dead hL hp ha=>exact ha
theorem MM:∀(i:Nat),i<=ops.size->A i+fy (ops.toList.drop i)=h0.next+fy ops.toList
 |0,_=>by rw[hr.a0];simp
 |i+1,hi=>by
  have hlt:i<ops.size:=by omega
  have ho:ops[i]?=some ops[i]:=by grind
  have h1:=MM i (by omega)
  have hd:ops.toList.drop i=ops[i]::ops.toList.drop (i+1):=by rw[List.drop_eq_getElem_cons (by grind)];simp
  rw[hd]at h1;rw[hr.ao i _ ho];simp only[fy]at h1;grind
theorem DC{i:Nat}:∀(d:Nat),i+d<=ops.size->A i<=A (i+d)
 |0,_=>Nat.le_refl _
 |d+1,hd=>by
  have hlt:i+d<ops.size:=by omega
  have ho:ops[i+d]?=some ops[i+d]:=by grind
  have:=DC (i:=i) d (by omega);rw[show i+(d+1)=i+d+1 by omega,hr.ao _ _ ho];grind
theorem rZ{i:Nat}{o:Oper}(ho:ops[i]?=some o)(hA:bg o.op=true):h0.next<=A i/\A i<h0.next+fy ops.toList:=by have hi:=gM ho;have h1:=hr.MM (i+1) (by omega);have h2:=hr.ao i o ho;have h3:=hr.DC (i:=0) i (by omega);rw[hr.a0]at h3;grind
theorem zG{i k:Nat}{o q:Oper}(ho:ops[i]?=some o)(hq:ops[k]?=some q)(hA:bg o.op=true)(c:i<k):A i<A k:=by have h2:=hr.ao i o ho;rw[hA]at h2;simp only[if_true]at h2;have hk:=gM hq;have h1:=hr.DC (i:=i+1) (k-(i+1)) (by omega);grind
theorem MN{i k:Nat}{o q:Oper}(ho:ops[i]?=some o)(hq:ops[k]?=some q)(hA:bg o.op=true)(hB:bg q.op=true)(he:A i=A k):i=k:=by
 rcases Nat.lt_trichotomy i k with h|h|h
 .have:=hr.zG ho hq hA h;omega
 .exact h
 .have:=hr.zG hq ho hB h;omega
end Rgn
def Fc(kf:cz)(T:Nat->aD)(A:Nat->Nat)(j:Nat)(o:Oper):Prop:=(bg o.op=true/\(∀p,p≠A j->(T (j+1)).h.get p=(T j).h.get p)/\(T (j+1)).h.next=(T j).h.next/\(T (j+1)).h.floor=(T j).h.floor/\(T (j+1)).h.wr=(T j).h.wr)\/(bg o.op=false/\(T (j+1)).h=(T j).h)\/(ec o=true/\∃wr,(j,wr)∈kf.es/\(T j).h.next<=(T (j+1)).h.next/\(∀p,p<(T j).h.next->p∉wr->(T (j+1)).h.get p=(T j).h.get p)/\(∀p,p<(T j).h.next->(T j).h.get p=none->(T (j+1)).h.get p=none))
def Pure(ops:Array Oper)(kf:cz)(T:Nat->aD)(A:Nat->Nat)(m:Nat):Prop:=∀j o,j<m->ops[j]?=some o->Fc kf T A j o
theorem Pure.le{m c:Nat}(h:Pure ops kf T A m)(hm:c<=m):Pure ops kf T A c:=λj o hj ho=>h j o (by omega) ho
namespace Rgn
variable (hr:Rgn P R cx ops kf L T A h0)
include hr
theorem eO{j:Nat}{o:Oper}(ho:ops[j]?=some o)(D:ec o=false):Fc kf T A j o:=by
 cases hr.tr j o ho with
 |skip hw hp ha=>cases hA:bg o.op with|true=>exact .inl ⟨hA,λp _=>by rw[(dw hp).1],by rw[(dw hp).1],by rw[(dw hp).1],by rw[(dw hp).1]⟩|false=>exact .inr (.inl ⟨hA,(dw hp).1⟩)
 |mk v h x hw hA c hg hn hp ha=>exact .inl ⟨hA,λp z=>by rw[(dw hp).1];exact Tr.aL _ _ z,by rw[(dw hp).1],by rw[(dw hp).1],by rw[(dw hp).1]⟩|look v h hw hA hF c E hp ha hk=>exact .inr (.inl ⟨hA,(dw hp).1⟩)|act v cm h hw hA hF c hp ha hk=>rw[jq.2 ⟨hA,hF⟩]at D;cases D|dead hL hp ha=>cases hA:bg o.op with|true=>exact .inl ⟨hA,λp _=>by rw[(dw hp).1],by rw[(dw hp).1],by rw[(dw hp).1],by rw[(dw hp).1]⟩|false=>exact .inr (.inl ⟨hA,(dw hp).1⟩)
theorem yC{m:Nat}(hm:m<=ops.size)(hp:Pure ops kf T A m){i:Nat}:∀(d:Nat),i+d<=m->(T i).h.next<=(T (i+d)).h.next
 |0,_=>Nat.le_refl _
 |d+1,hd=>by
  have hlt:i+d<ops.size:=by omega
  have ho:ops[i+d]?=some ops[i+d]:=by grind
  have h1:=yC hm hp (i:=i) d (by omega)
  rw[show i+(d+1)=i+d+1 by omega]
  rcases hp (i+d) _ (by omega) ho with⟨_,_,h2,_⟩|⟨_,h2⟩|⟨_,wr,_,h2,_⟩
  .omega
  .grind
  .omega
theorem DD{m:Nat}(hm:m<=ops.size)(hp:Pure ops kf T A m){k:Nat}{o:Oper}(ho:ops[k]?=some o)(hA:bg o.op=true){j:Nat}(hj:j<=m):A k<(T j).h.next:=by have h1:=hr.yC hm hp (i:=0) j (by omega);rw[Nat.zero_add,hr.t0]at h1;have:=(hr.rZ ho hA).2;grind
theorem free{m:Nat}(hm:m<=ops.size)(hp:Pure ops kf T A m){k:Nat}{o:Oper}(ho:ops[k]?=some o)(hA:bg o.op=true):∀(j:Nat),j<=k->j<=m->(T j).h.get (A k)=none
 |0,_,_=>by rw[hr.t0];exact hr.nn _ (hr.rZ ho hA).1 (hr.rZ ho hA).2
 |j+1,hk,hj=>by
  have hlt:j<ops.size:=by omega
  have hq:ops[j]?=some ops[j]:=by grind
  have h1:=free hm hp ho hA j (by omega) (by omega)
  rcases hp j _ (by omega) hq with⟨hB,h2,_⟩|⟨_,h2⟩|⟨_,wr,_,_,_,h2⟩
  .rw[h2 _ (λe=>by have:=hr.zG hq ho hB (by omega);omega)];exact h1
  .grind
  .exact h2 _ (hr.DD hm hp ho hA (by omega)) h1
end Rgn
end
end Go.AI
end

section
namespace Go.AI
theorem OR.zm{g:Gh}{w:World}{o:Nat}{x:cr}(h:∀v,g.B o v=none):OR g w o x:=by cases x with|cells ver Bi c fz el ex sh=>exact⟨λv _=>h v,λv _ _ b s n e=>by grind⟩|map es clock=>intro b s n e;grind|kb s pos=>intro b s n e;grind|ic m since seen last=>intro b s n e;grind|loop st h8 fn tn tm ps assign body dd=>intro b s n e;grind|cE ds=>intro b s n e;grind
structure dm(ops:Array Oper)(T:Nat->aD)(A:Nat->Nat)(tn:Nat)(h0:AHeap)(g0:Gh)(w0:World)(S:Nat->Prop)(q:Nat)(g:Gh)(w:World)(a:Act):Prop where
 ql:q<=ops.size
 ee:∀(j:Nat)(o:Oper),ops[j]?=some o->ec o=true->(S j↔j<q)
 ww:W (T q).h g w
 fr:eI (T q).h g
 early:∀(k:Nat)(o:Oper),ops[k]?=some o->bg o.op=true->S k->q<=k->∀x,(T (k+1)).h.get (A k)=some x->OR g w (A k) x
 ph:∀(k:Nat)(o:Oper),ops[k]?=some o->bg o.op=true->¬S k->∀v,g.B (A k) v=none
 kp:∀(k:Nat)(o:Oper),ops[k]?=some o->bg o.op=true->¬S k->k<q->(T q).h.get (A k)=(T (k+1)).h.get (A k)
 tm:∀t x,(T ops.size).tm.get t=some x->(∀(k:Nat)(o:Oper),ops[k]?=some o->o.dst=some t->S k)->∃v,a.tmps[t]?=some v/\VR g x v
 sz:a.tmps.size=tn
 df:jz g (T 0).df a.defers
 kg:Step h0 g0 w0 (T q).h g w
 lj:∀t x,(T 0).tm.get t=some x->(∀(k:Nat)(o:Oper),ops[k]?=some o->o.dst=some t->¬S k)->∃v,a.tmps[t]?=some v/\VR g x v
section
variable {P:Program}{R:Rec}{cx:Ctx}{ops:Array Oper}{kf:cz}{L:Nat->Prop}{T:Nat->aD}{A:Nat->Nat}{h0:AHeap}{g0:Gh}{w0:World}{S:Nat->Prop}{q:Nat}{g:Gh}{w:World}{a:Act}
theorem Step.eqh{h1 h2:AHeap}(hs:Step h0 g0 w0 h1 g w)(hn:h2.next=h1.next)(D:h2.floor=h1.floor)(z:h2.wr=h1.wr)(hg:∀o,o<h0.next->h2.get o=h1.get o):Step h0 g0 w0 h2 g w where
 le:=hs.le
 gA:=by rw[hn];exact hs.gA
 nj:=by rw[D];exact hs.nj
 wr:=by rw[z];exact hs.wr
 ck:=λo a b c=>by rw[hg o b];exact hs.ck o a b (by grind)
 ph:=λo a b=>by rw[hg o a];exact hs.ph o a b
 gone:=λo a b=>by rw[hg o a];exact hs.gone o a b
 iA:=λo v x e=>by rw[hn];exact hs.iA o v x e
 size:=hs.size
 old:=hs.old
 fr:=λb hb hk=>hs.fr b hb (by grind)
 tape:=hs.tape
 os:=hs.os
 out:=hs.out
 fX:=hs.fX
theorem dm.adv(hr:Rgn P R cx ops kf L T A h0)(hd:dm ops T A cx.tn h0 g0 w0 S q g w a){o:Oper}(ho:ops[q]?=some o)(J:ec o=false):dm ops T A cx.tn h0 g0 w0 S (q+1) g w a:=by
 have eO:=hr.eO ho J
 have he:∀(j:Nat)(o:Oper),ops[j]?=some o->ec o=true->(S j↔j<q+1):=by
  intro j o' D F
  rw[hd.ee j o' D F]
  refine⟨λh=>by omega,λh=>?_⟩
  rcases Nat.lt_or_ge j q with h1|h1
  .exact h1
  .grind
 rcases eO with⟨hA,h1,h2,h3,h4⟩|⟨hA,h1⟩|⟨h1,_⟩
 .refine⟨gM ho,he,⟨?_,hd.ww.ei,hd.ww.inj,hd.ww.ro,hd.ww.fZ,hd.ww.gl⟩,λp hp=>hd.fr p (by grind),λk o' h5 h6 c I=>hd.early k o' h5 h6 c (by omega),hd.ph,?_,hd.tm,hd.sz,hd.df,?_,hd.lj⟩
  .intro p x hx
   by_cases e:p=A q
   .subst e
    rcases Classical.em (S q)with E|E
    .exact hd.early q o ho hA E (aC _) x hx
    .exact OR.zm (hd.ph q o ho hA E)
   .rw[h1 p e]at hx;exact hd.ww.obj p x hx
  .intro k o' h5 h6 c I
   rcases Nat.lt_or_ge k q with z|z
   .rw[h1 (A k) (λe=>by have:=hr.zG h5 ho h6 z;omega)];exact hd.kp k o' h5 h6 c z
   grind
  .exact hd.kg.eqh h2 h3 h4 λp hp=>h1 p (λe=>by have:=(hr.rZ ho hA).1;omega)
 .refine⟨gM ho,he,by rw[h1];exact hd.ww,by rw[h1];exact hd.fr,λk o' h5 h6 c I=>hd.early k o' h5 h6 c (by omega),hd.ph,?_,hd.tm,hd.sz,hd.df,by rw[h1];exact hd.kg,hd.lj⟩
  intro k o' h5 h6 c I
  rcases Nat.lt_or_ge k q with z|z
  .rw[h1];exact hd.kp k o' h5 h6 c z
  grind
 grind
theorem dm.AE(hr:Rgn P R cx ops kf L T A h0):∀(d:Nat)(q:Nat),dm ops T A cx.tn h0 g0 w0 S q g w a->q+d<=ops.size->(∀(j:Nat)(o:Oper),ops[j]?=some o->q<=j->j<q+d->ec o=false)->dm ops T A cx.tn h0 g0 w0 S (q+d) g w a
 |0,_,hd,_,_=>hd
 |d+1,q,hd,hn,hk=>by
  have hlt:q<ops.size:=by omega
  have ho:ops[q]?=some ops[q]:=by grind
  have:=dm.AE hr d (q+1) (hd.adv hr ho (hk q _ ho (aC _) (by omega))) (by omega) (λj o h1 h2 h3=>hk j o h1 (by omega) (by omega));grind
theorem zn{i:Nat}{o:Oper}(ho:ops[i]?=some o){x:Value}{g':Gh}(c:∀t x,(T 0).tm.get t=some x->(∀(k:Nat)(o:Oper),ops[k]?=some o->o.dst=some t->¬S k)->∃v,a.tmps[t]?=some v/\VR g x v)(hl:g.Le g'):∀t y,(T 0).tm.get t=some y->(∀(k:Nat)(o:Oper),ops[k]?=some o->o.dst=some t->¬(S k\/k=i))->∃u,(a.put o.dst x).tmps[t]?=some u/\VR g' y u:=by intro t y hy hk;obtain⟨u,h1,h2⟩:=c t y hy λk o' h1 h2 h3=>hk k o' h1 h2 (.inl h3);refine⟨u,?_,h2.mono hl⟩;cases hd:o.dst with|none=>exact h1|some d=>have z:d≠t:=λe=>hk i o ho (by rw[hd,e]) (.inr rfl);simp only[Act.put];grind
theorem zH(hr:Rgn P R cx ops kf L T A h0){i:Nat}{o:Oper}(ho:ops[i]?=some o){z:aD}{v:AV}{x:Value}{g':Gh}(hp:z.put cx.tn o.dst v=some (T (i+1)))(hs:a.tmps.size=cx.tn)
 (c:∀t x,(T ops.size).tm.get t=some x->(∀(k:Nat)(o:Oper),ops[k]?=some o->o.dst=some t->S k)->∃v,a.tmps[t]?=some v/\VR g x v)(hl:g.Le g')(hv:VR g' v x):
 ∀t y,(T ops.size).tm.get t=some y->(∀(k:Nat)(o:Oper),ops[k]?=some o->o.dst=some t->S k\/k=i)->∃u,(a.put o.dst x).tmps[t]?=some u/\VR g' y u:=by
 intro t y hy hk
 cases hd:o.dst with
 |none=>
  obtain⟨u,h1,h2⟩:=c t y hy λk o' h1 h2=>by grind
  exact⟨u,h1,h2.mono hl⟩
 |some d=>
  by_cases e:t=d
  .subst e;obtain⟨h1,h2⟩:=hr.YF ho hp hd;rw[h1]at hy;simp only[ad]at hy;subst hy;exact⟨x,by simp[Act.put,hs,h2],hv⟩
  .obtain⟨u,h1,h2⟩:=c t y hy λk o' h1 h2=>by grind
   refine⟨u,?_,h2.mono hl⟩;simp only[Act.put];grind
theorem yU{dst:Option Tmp}{x:Value}:(a.put dst x).tmps.size=a.tmps.size:=by cases dst<;>simp[Act.put]
theorem put_defers{dst:Option Tmp}{x:Value}:(a.put dst x).defers=a.defers:=by cases dst<;>rfl
theorem dm.quiet(hr:Rgn P R cx ops kf L T A h0)(hd:dm ops T A cx.tn h0 g0 w0 S q g w a){i:Nat}{o:Oper}(ho:ops[i]?=some o)(z:ec o=false)(hi:¬S i){c:aD}{v:AV}{x:Value}
 (hp:c.put cx.tn o.dst v=some (T (i+1)))(hv:VR g v x):dm ops T A cx.tn h0 g0 w0 (λj=>S j\/j=i) q g w (a.put o.dst x)where
 ql:=hd.ql
 ee:=λj o' h1 h2=>by rw[<-hd.ee j o' h1 h2];grind
 ww:=hd.ww
 fr:=hd.fr
 early:=λk o' h1 h2 h3 h4 x hx=>by
  rcases h3 with h3|rfl
  .exact hd.early k o' h1 h2 h3 h4 x hx
  .exact OR.zm (hd.ph k o' h1 h2 hi)
 ph:=λk o' h1 h2 h3=>hd.ph k o' h1 h2 λh=>h3 (.inl h)
 kp:=λk o' h1 h2 h3 h4=>hd.kp k o' h1 h2 (λh=>h3 (.inl h)) h4
 tm:=zH hr ho hp hd.sz hd.tm (.refl g) hv
 sz:=yU.trans hd.sz
 df:=by rw[put_defers];exact hd.df
 lj:=zn ho hd.lj (.refl g);kg:=hd.kg
theorem dm.make(hr:Rgn P R cx ops kf L T A h0)(hd:dm ops T A cx.tn h0 g0 w0 S q g w a)(J:Pure ops kf T A q){i:Nat}{o:Oper}(ho:ops[i]?=some o)(hA:bg o.op=true)(hi:¬S i){v:AV}{x:Value}{h:AHeap}{y:cr}{g':Gh}{w':World}
 (hg:h.get (A i)=some y)(hn:h.next=A i+1)(hp:aD.put {T i with h:={(T i).h with cj:=(T i).h.cj.put (A i) y}} cx.tn o.dst v=some (T (i+1)))(hv:VR g' v x)
 (hw:W h g' w')(hs:Step {cj:=.leaf,next:=A i,floor:=0,wr:=[]} g w h g' w'):dm ops T A cx.tn h0 g0 w0 (λj=>S j\/j=i) q g' w' (a.put o.dst x):=by
 have U:∀v,g.B (A i) v=none:=hd.ph i o ho hA hi
 have F:∀p,AHeap.get {cj:=.leaf,next:=A i,floor:=0,wr:=[]} p=none:=λp=>by simp[AHeap.get,Tr.get]
 have D:∀p v x,g'.B p v=some x->g.B p v=some x\/p=A i:=by
  intro p v x e
  rcases hs.iA p v x e with h1|⟨h1,h2⟩|⟨h1,_⟩
  .grind
  .grind
  .grind
 have I:∀b,b<w.heap.size->w'.heap[b]?=w.heap[b]?:=λb hb=>hs.fr b hb λp v s n _=>.inr (F p)
 have E:∀p x,p≠A i->OR g w p x->OR g' w' p x:=λp x hp h1=>h1.move hs.le (λv y e=>(D p v y e).resolve_right hp) (λv b s n e=>I b (hd.ww.ei p v b s n e))
 have hy:OR g' w' (A i) y:=hw.obj _ _ hg
 have N:(T (i+1)).h.get (A i)=some y:=by rw[(dw hp).1];exact Tr.a7 _ _ _
 have O:A i<(T q).h.next:=hr.DD hd.ql J ho hA (aC _)
 have K:W (T q).h g' w':=by
  refine⟨?_,hw.ei,hw.inj,hw.ro,hw.fZ,hw.gl⟩
  intro p z hz
  by_cases e:p=A i
  .subst e
   rcases Nat.lt_or_ge i q with h1|h1
   .rw[hd.kp i o ho hA hi h1,N]at hz;grind
   .rw[hr.free hd.ql J ho hA q h1 (aC _)]at hz;cases hz
  .exact E p z e (hd.ww.obj p z hz)
 refine⟨hd.ql,?_,K,?_,?_,?_,?_,zH hr ho hp hd.sz hd.tm hs.le hv,yU.trans hd.sz,by rw[put_defers];exact hd.df.mono hs.le,?_,zn ho hd.lj hs.le⟩
 .intro j o' h1 h2
  rw[<-hd.ee j o' h1 h2]
  refine⟨λh=>?_,.inl⟩
  rcases h with h|rfl
  .exact h
  .rw[ho]at h1;simp only[ad]at h1;subst h1;rw[(jq.1 h2).1]at hA;cases hA
 .intro p M v
  cases e:g'.B p v with
  |none=>rfl
  |some z=>
   rcases D p v z e with h1|h1
   .rw[hd.fr p M v]at h1;cases h1
   .omega
 .intro k o' h1 h2 h3 h4 z hz
  by_cases e:k=i
  .grind
  .rcases h3 with h3|h3
   .exact E _ _ (λe'=>e (hr.MN h1 ho h2 hA e')) (hd.early k o' h1 h2 h3 h4 z hz)
   grind
 .intro k o' h1 h2 h3 v
  cases e:g'.B (A k) v with
  |none=>rfl
  |some z=>
   rcases D _ v z e with h4|h4
   .rw[hd.ph k o' h1 h2 (λh=>h3 (.inl h)) v]at h4;cases h4
   .exact absurd (.inr (hr.MN h1 ho h2 hA h4)) h3
 .exactλk o' h1 h2 h3 h4=>hd.kp k o' h1 h2 (λh=>h3 (.inl h)) h4
 .have c:=hd.kg
  refine⟨c.le.trans hs.le,c.gA,c.nj,c.wr,c.ck,c.ph,c.gone,?_,Nat.le_trans c.size hs.size,?_,?_,hs.tape.trans c.tape,hs.os.trans c.os,hs.out.trans c.out,λQ i v hm=>(hs.fX Q i v hm).elim (λe=>c.fX Q i v e) λe=>.inr (Nat.le_trans c.size e)⟩
  .intro p v z e
   rcases D p v z e with h1|h1
   .exact c.iA p v z h1
   .subst h1;exact .inr (.inl ⟨(hr.rZ ho hA).1,O⟩)
  .intro p v b s n e hb;obtain⟨v',s',n',h1⟩:=hs.old p v b s n e (Nat.lt_of_lt_of_le hb c.size);exact c.old p v' b s' n' h1 hb
  .intro b hb h1;rw[I b (Nat.lt_of_lt_of_le hb c.size)];exact c.fr b hb h1
end
end Go.AI
end

section
namespace Go.AI
section
variable {P:Program}{R:Rec}{cx:Ctx}{ops:Array Oper}{kf:cz}{L:Nat->Prop}{T:Nat->aD}{A:Nat->Nat}{h0:AHeap}{g0:Gh}{w0:World}{S:Nat->Prop}{q:Nat}{g:Gh}{w:World}{a:Act}
theorem dm.ac3(hr:Rgn P R cx ops kf L T A h0){i:Nat}(hd:dm ops T A cx.tn h0 g0 w0 S i g w a){o:Oper}(ho:ops[i]?=some o)(z:ec o=true){v:AV}{x:Value}
 (hp:(T i).put cx.tn o.dst v=some (T (i+1)))(hv:VR g v x):dm ops T A cx.tn h0 g0 w0 (λj=>S j\/j=i) (i+1) g w (a.put o.dst x):=by
 have hh:(T (i+1)).h=(T i).h:=(dw hp).1
 have c:∀(k:Nat)(o':Oper),ops[k]?=some o'->bg o'.op=true->k≠i:=by rintro k o' h1 h2 rfl;rw[ho]at h1;simp only[ad]at h1;subst h1;rw[(jq.1 z).1]at h2;cases h2
 refine⟨gM ho,?_,by rw[hh];exact hd.ww,by rw[hh];exact hd.fr,?_,λk o' h1 h2 h3=>hd.ph k o' h1 h2 λh=>h3 (.inl h),?_,zH hr ho hp hd.sz hd.tm (.refl g) hv,yU.trans hd.sz,by rw[put_defers];exact hd.df,by rw[hh];exact hd.kg,zn ho hd.lj (.refl g)⟩
 .intro j o' h1 h2;rw[hd.ee j o' h1 h2];omega
 .intro k o' h1 h2 h3 h4 y hy
  rcases h3 with h3|h3
  .exact hd.early k o' h1 h2 h3 (by omega) y hy
  grind
 .intro k o' h1 h2 h3 h4;have:=c k o' h1 h2;rw[hh];exact hd.kp k o' h1 h2 (λh=>h3 (.inl h)) (by omega)
theorem dm.ahi(hr:Rgn P R cx ops kf L T A h0){i:Nat}(hd:dm ops T A cx.tn h0 g0 w0 S i g w a)(J:eI h0 g0)(c:Pure ops kf T A i){o:Oper}(ho:ops[i]?=some o)(M:ec o=true){D:aD}{v:AV}{x:Value}{g':Gh}{w':World}
 (hp:D.put cx.tn o.dst v=some (T (i+1)))(hv:VR g' v x)(hw:W (T (i+1)).h g' w')(hs:Step (T i).h g w (T (i+1)).h g' w'):
 dm ops T A cx.tn h0 g0 w0 (λj=>S j\/j=i) (i+1) g' w' (a.put o.dst x):=by
 have I:∀(k:Nat)(o':Oper),ops[k]?=some o'->bg o'.op=true->k≠i:=by rintro k o' h1 h2 rfl;rw[ho]at h1;simp only[ad]at h1;subst h1;rw[(jq.1 M).1]at h2;cases h2
 have hlt:∀(k:Nat)(o':Oper),ops[k]?=some o'->bg o'.op=true->A k<(T i).h.next:=λk o' h1 h2=>hr.DD hd.ql c h1 h2 (aC _)
 refine⟨gM ho,?_,hw,hd.fr.step hs,?_,?_,?_,zH hr ho hp hd.sz hd.tm hs.le hv,yU.trans hd.sz,by rw[put_defers];exact hd.df.mono hs.le,hd.kg.trans J hs,zn ho hd.lj hs.le⟩
 .intro j o' h1 h2;rw[hd.ee j o' h1 h2];omega
 .intro k o' h1 h2 h3 h4 y hy
  rcases h3 with h3|h3
  .have E:=hd.early k o' h1 h2 h3 (by omega) y hy
   have F:(T i).h.get (A k)=none:=hr.free hd.ql c h1 h2 i (by omega) (aC _)
   refine E.move hs.le ?_ ?_
   .intro v' z e
    rcases hs.iA _ v' z e with h5|⟨h5,_⟩|⟨h5,_⟩
    .exact h5
    .grind
    grind
   .intro v' b s n e;refine hs.fr b (hd.ww.ei _ _ _ _ _ e) λp K N O e2=>?_;have:=hd.ww.inj _ _ _ _ _ _ _ _ _ e2 e;grind
  grind
 .intro k o' h1 h2 h3 v'
  have h4:=hd.ph k o' h1 h2 (λh=>h3 (.inl h))
  cases e:g'.B (A k) v' with
  |none=>rfl
  |some z=>
   rcases hs.iA _ v' z e with h5|⟨h5,_⟩|⟨_,K,h5⟩
   .grind
   .grind
   grind
 .intro k o' h1 h2 h3 h4;have h5:=I k o' h1 h2;have h6:=hd.ph k o' h1 h2 (λh=>h3 (.inl h));rw[hs.ph (A k) (hlt k o' h1 h2) h6];exact hd.kp k o' h1 h2 (λh=>h3 (.inl h)) (by omega)
theorem yD(h:AHeap):∀(ids:List Nat)(p:Nat)(x:cr),(fB h ids).get p=some x->p∈ids/\p<h.next/\h.get p=some x
 |[],p,x,e=>by simp[fB,Tr.get]at e
 |o::os,p,x,e=>by
  have c:=yD h os p x
  unfold fB at e
  split at e
  .rename_i hlt
   split at e
   .rename_i y hy;rw[Tr.pX]at e;grind
   grind
  grind
theorem dm.looks(hr:Rgn P R cx ops kf L T A h0)(hd:dm ops T A cx.tn h0 g0 w0 S q g w a)(O:∀(i:Nat)(o:Oper)(e:Edge),ops[i]?=some o->S i->e∈o.after->Region.binds .any e=true->S e.on)
 {i:Nat}{o:Oper}(F:Pure ops kf T A i)(E:Pure ops kf T A q)(ho:ops[i]?=some o)(hi:¬S i)(I:∀e,e∈o.after->Region.binds .any e=true->S e.on)
 {ids:List Nat}(hk:(i,ids)∈kf.fs):W {(T i).h with cj:=fB (T i).h ids} g w:=by
 refine⟨?_,hd.ww.ei,hd.ww.inj,hd.ww.ro,hd.ww.fZ,hd.ww.gl⟩
 intro p x hx
 obtain⟨h1,h2,h3⟩:=yD _ _ _ _ hx
 have K:=gM ho
 rcases Nat.lt_or_ge i q with J|J
 .
  have key:∀d,i+d<=q->(T (i+d)).h.get p=some x:=by
   intro d
   induction d with
   |zero=>grind
   |succ d D=>
    intro M
    have D:=D (by omega)
    have hlt:i+d<ops.size:=by have:=hd.ql;omega
    have hq:ops[i+d]?=some ops[i+d]:=by grind
    rw[show i+(d+1)=i+d+1 by omega]
    rcases E (i+d) _ (by omega) hq with⟨hA,h4,_⟩|⟨_,h4⟩|⟨N,wr,h4,_,h5,_⟩
    .rw[h4 p ?_]
     .exact D
     .intro e;rw[e,hr.free hd.ql E hq hA (i+d) (aC _) (by omega)]at D;cases D
    .grind
    .rw[h5 p ?_ ?_]
     .exact D
     .have:=hr.yC hd.ql E (i:=i) d (by omega);omega
     .refine Kh hr.bk hk h4 ?_ ?_ p h1
      .intro c;have:=cn.lt hr.st c;omega
      .intro c;have z:S (i+d):=(hd.ee _ _ hq N).2 (by omega);exact hi (cn.closed hr.st O z c)
  have:=key (q-i) (by omega);rw[show i+(q-i)=q by omega]at this;exact hd.ww.obj p x this
 .have key:∀d,q+d<=i->∀y,(T (q+d)).h.get p=some y->OR g w p y:=by
   intro d
   induction d with
   |zero=>intro _ y hy;exact hd.ww.obj p y hy
   |succ d D=>
    intro M y hy
    have D:=D (by omega)
    have hlt:q+d<ops.size:=by omega
    have hq:ops[q+d]?=some ops[q+d]:=by grind
    rw[show q+(d+1)=q+d+1 by omega]at hy
    rcases F (q+d) _ (by omega) hq with⟨hA,h4,_⟩|⟨_,h4⟩|⟨N,wr,h4,_,h5,_⟩
    .by_cases e:p=A (q+d)
     .subst e
      rcases Classical.em (S (q+d))with z|z
      .exact hd.early _ _ hq hA z (by omega) y hy
      .exact OR.zm (hd.ph _ _ hq hA z)
     grind
    .grind
    .rcases Nat.lt_or_ge p (T (q+d)).h.next with h6|h6
     .rw[h5 p h6 ?_]at hy
      .grind
      .refine Kh hr.bk hk h4 ?_ ?_ p h1
       .intro c;have z:=cn.ready hr.st O ho I c;have:=(hd.ee _ _ hq N).1 z;omega
       .intro c;have:=cn.lt hr.st c;omega
     .have Q:=hr.yC (Nat.le_of_lt K) F (i:=q) d (by omega);exact OR.zm λv=>hd.fr p (by omega) v
  have:=key (i-q) (by omega) x;grind
theorem dm.PI(hr:Rgn P R cx ops kf L T A h0)(hd:dm ops T A cx.tn h0 g0 w0 S q g w a){i:Nat}{o:Oper}(ho:ops[i]?=some o)(z:∀k,cn ops i k->S k)(c:∀k,cn ops k i->¬S k):
 ∀x,VR g (dy (tmpsOf o) (T i).tm x) (a.eval x):=by
 intro x
 cases x with
 |tmp t=>
  show VR g (if(tmpsOf o).contains t then(match(T i).tm.get t with|some v=>v|none=>.aM)else .aM) (a.tmps.getD t undef)
  split
  .rename_i hc
   have ht:t∈tmpsOf o:=by grind
   cases hx:(T i).tm.get t with
   |none=>exact .aM _
   |some v=>
    have:∃u,a.tmps[t]?=some u/\VR g v u:=by
     rcases hr.opn ho ht with⟨e,h⟩|⟨e,h⟩
     .exact hd.tm t v (e.trans hx) λk o' h1 h2=>z k (h k o' h1 h2)
     .exact hd.lj t v (e.trans hx) λk o' h1 h2=>c k (h k o' h1 h2)
    obtain⟨u,h1,h2⟩:=this;simp_all
  .exact .aM _|const v=>exact VR.bz v|global n=>exact .sc _|func f=>exact .sc _
theorem dm.want(hr:Rgn P R cx ops kf L T A h0)(hd:dm ops T A cx.tn h0 g0 w0 S q g w a){i:Nat}{o:Oper}(ho:ops[i]?=some o)(z:∀k,cn ops i k->S k){b:Bool}
 (hw:cC ops o (T i).tm=some b):Region.wanted o (yielded ops a.tmps)=b:=by
 rw[hr.VS ho]at hw
 unfold cC at hw
 unfold Region.wanted
 cases hg:o.guard with
 |none=>grind
 |some p=>
  obtain⟨j,want⟩:=p
  rw[hg]at hw
  simp only at hw⊢
  unfold yielded
  cases c:(ops[j]?).bind (·.dst)with
  |none=>grind
  |some d=>
   rw[c]at hw
   simp only at hw
   have hj:S j:=z j (hr.st.guard i o j want ho hg)
   cases ht:(T ops.size).tm.get d with
   |none=>grind
   |some v=>
    rw[ht]at hw
    obtain⟨u,h1,h2⟩:=hd.tm d v ht λk o' h1 h2=>by cases hq:ops[j]? with|none=>grind|some D=>rw[hq]at c;rw[hr.st.one j k D o' d hq h1 h2 (by grind)];exact hj
    simp only[Option.bind_some,h1]
    split at hw
    .rename_i q hq;simp only[ad]at hq;subst hq;cases h2;simp_all
    .rename_i q hq;simp only[ad]at hq;subst hq;obtain⟨cs,rfl,_⟩:=VR.fm.1 h2;grind
    .cases hw
end
end Go.AI
end

section
namespace Go.AI
section
variable {P:Program}{R:Rec}{cx:Ctx}{ops:Array Oper}{kf:cz}{L:Nat->Prop}{T:Nat->aD}{A:Nat->Nat}{h0:AHeap}{g0:Gh}{w0:World}{S:Nat->Prop}{q:Nat}{g:Gh}{w:World}{a:Act}
def ua(ops:Array Oper)(S:Nat->Prop):Prop:=∀(i:Nat)(o:Oper)(e:Edge),ops[i]?=some o->S i->e∈o.after->Region.binds .any e=true->S e.on
theorem dm.one(hP:ProgOK P)(hR:dX P R)(hr:Rgn P R cx ops kf L T A h0)(hd:dm ops T A cx.tn h0 g0 w0 S q g w a)(hf0:eI h0 g0)(hS:ua ops S){i:Nat}{o:Oper}
 (X:Pure ops kf T A i)(V:Pure ops kf T A q)(ho:ops[i]?=some o)(TU:L i)(hi:¬S i)(U:∀e,e∈o.after->Region.binds .any e=true->S e.on){b:Frame}(hc:kU g0 cx b)(cs:List Frame)(k:List Item)(rest:List Nat):
 ∃g' w' a' q',dm ops T A cx.tn h0 g0 w0 (λj=>S j\/j=i) q' g' w' a'/\(q'=q\/q'=i+1/\ec o=true)/\Fc kf T A i o/\Steps P (lone (ax b a (.inRegion ops (i::rest)::k)) cs w) (lone (ax b a' (.inRegion ops rest::k)) cs w'):=by
 have D:∀j,cn ops i j->S j:=λj h=>cn.ready hr.st hS ho U h
 have O:∀j,cn ops j i->¬S j:=by intro j h hj;obtain⟨o',Y⟩:=cn.here h;exact hi (cn.ready hr.st hS Y (λe h1 h2=>hS j o' e Y hj h1 h2) h)
 have I:=hd.PI hr ho D O
 have Q:ec o=true->dm ops T A cx.tn h0 g0 w0 S i g w a:=by
  intro E
  have hqi:q<=i:=by
   rcases Nat.lt_or_ge i q with h|h
   .exact absurd ((hd.ee i o ho E).2 h) hi
   .exact h
  have:=dm.AE hr (i-q) q hd (by grind) (λj o' h1 h2 h3=>by cases wj:ec o' with|false=>rfl|true=>have TV:=jq.1 E;have Z:=jq.1 wj;have HR:=D j (hr.st.chain i j o o' ho h1 (by omega) TV.1 TV.2 Z.1 Z.2);have:=(hd.ee j o' h1 wj).1 HR;omega);grind
 cases hr.tr i o ho with
 |dead hL hp ha=>grind
 |skip hw hp ha=>have z:=hd.want hr ho D hw;have eO:=I4 (P:=P) (b:=b) (a:=a) (k:=k) (cs:=cs) (w:=w) (ops:=ops) (i:=i) (rest:=rest) (by grind);rw[ho]at eO;cases E:ec o with|false=>exact⟨g,w,_,q,hd.quiet hr ho E hi hp VR.undef,.inl rfl,hr.eO ho E,.one eO⟩|true=>exact⟨g,w,_,i+1,(Q E).ac3 hr ho E hp VR.undef,.inr ⟨rfl,rfl⟩,.inr (.inl ⟨(jq.1 E).1,(dw hp).1⟩),.one eO⟩
 |mk v h x hw hA F hg hn hp ha=>
  have z:=hd.want hr ho D hw
  have E:ec o=false:=by unfold ec;rw[hA];rfl
  have N:kA b o:=.inr λc e=>by rw[e]at hA;simp[bg]at hA
  have hWe:W {cj:=.leaf,next:=A i,floor:=0,wr:=[]} g w:=⟨λp y hy=>by simp[AHeap.get,Tr.get]at hy,hd.ww.ei,hd.ww.inj,hd.ww.ro,hd.ww.fZ,hd.ww.gl⟩;obtain⟨g',w',y,h1,h2,h3,h4⟩:=nZ hP hWe (hd.ph i o ho hA hi) I F;exact⟨g',w',_,q,hd.make hr V ho hA hi hg hn hp h2 h3 h4,.inl rfl,hr.eO ho E,.one (CS ho z N h1)⟩
 |look v h hw hA hF F HS hp ha hk=>
  have z:=hd.want hr ho D hw
  have E:ec o=false:=by unfold ec;rw[hF];simp
  have N:kA b o:=.inr λc e=>by rw[e]at hF;simp[cd]at hF
  obtain⟨y,h1,h2⟩:=Xn hF (hd.looks hr hS X V ho hi U hk) I F HS;exact⟨g,w,_,q,hd.quiet hr ho E hi hp h2,.inl rfl,hr.eO ho E,.one (CS ho z N h1)⟩
 |act v cm h hw hA hF F hp ha hk=>
  have z:=hd.want hr ho D hw
  have E:ec o=true:=jq.2 ⟨hA,hF⟩
  have K:=Q E
  obtain⟨g',w',y,aS,h1,h2,h3,h4,_,_,h5⟩:=DB (ops:=ops) (i:=i) (rest:=rest) (k:=k) (cs:=cs) (b:=b) (a:=a) hP hR F K.ww.inner K.fr.inner (hc.mono hd.kg.le) I trivial ho z
  obtain rfl:aS=cs:=h4.1 rfl
  obtain⟨h6,h7⟩:=yT K.fr h1 h2
  have hh:(T (i+1)).h=(T i).h.outer h:=(dw hp).1
  refine⟨g',w',_,i+1,K.ahi hr hf0 X ho E hp h3 (by grind) (by grind),.inr ⟨rfl,E⟩,.inr (.inr ⟨E,h.wr,hk,?_,?_,?_⟩),h5⟩
  .rw[hh];exact h1.gA
  .intro p J M;rw[hh];exact h1.ck p J J M
  .intro p J M;rw[hh];exact h1.gone p J M
theorem Rgn.start(hr:Rgn P R cx ops kf L T A h0)(hw:W h0 g w)(hf:eI h0 g)(ht:TR g (T 0).tm a.tmps)(hs:a.tmps.size=cx.tn)(c:jz g (T 0).df a.defers)(z:∀j,¬S j):
 dm ops T A cx.tn h0 g w S 0 g w a where
 ql:=Nat.zero_le _
 ee:=λj o _ _=>⟨λh=>absurd h (z j),λh=>by omega⟩
 ww:=hw.congr λo=>by rw[hr.t0];rfl
 fr:=λp hp v=>hf p (by rw[hr.t0]at hp;grind) v
 early:=λk o _ _ h=>absurd h (z k)
 ph:=λk o h1 h2 _ v=>hf _ (hr.rZ h1 h2).1 v
 kp:=λk o _ _ _ h=>by omega
 tm:=λt x hx hk=>by rw[hr.Wu λk q h1 h2=>z k (hk k q h1 h2)]at hx;exact ht t x hx
 sz:=hs
 df:=c
 lj:=λt x hx _=>ht t x hx
 kg:=by rw[hr.t0];exact{Step.refl h0 g w with gA:=Nat.le_add_right _ _,ck:=λ_ _ _ _=>rfl,ph:=λ_ _ _=>rfl,gone:=λ_ _ h=>h,iA:=λ_ _ _ h=>.inl h,fr:=λ_ _ _=>rfl}
theorem JH(c:List Nat)(k:Nat):∀(es:List Edge)(s:Nat),(s.testBit k=true\/∃e,e∈es/\Region.binds .any e=true/\(e.on=k\/(c.getD e.on 0).testBit k=true))->(es.foldl (λs e=>if Region.binds .any e then s|||2^e.on|||c.getD e.on 0 else s) s).testBit k=true|[],s,h=>by grind|e::es,s,h=>by simp only[List.foldl_cons];refine JH c k es _ ?_;grind
theorem cn.make(hs:Static ops){i k:Nat}{o:Oper}{e:Edge}(ho:ops[i]?=some o)(h1:e∈o.after)(h2:Region.binds .any e=true)(h3:e.on=k\/cn ops e.on k):cn ops i k:=by
 have hlt:=hs.back i o e ho h1 h2
 unfold cn
 have hq:=(yB ops.toList []).2 i o (by grind)
 simp only[List.length_nil,Nat.zero_add]at hq
 rw[hq]
 unfold rM
 rw[<-Array.foldl_toList]
 refine JH _ k _ _ (.inr ⟨e,by grind,h2,?_⟩)
 rcases h3 with h3|h3
 .grind
 .right;unfold cn at h3;grind
structure Live(ops:Array Oper)(L:Nat->Prop):Prop where
 cl:∀(i:Nat)(o:Oper)(e:Edge),ops[i]?=some o->L i->e∈o.after->Region.binds .any e=true->L e.on
 ee:∀(i j:Nat)(o q:Oper),ops[i]?=some o->ops[j]?=some q->ec o=true->ec q=true->i<j->L j->L i
theorem Rgn.pure(hP:ProgOK P)(I:dX P R)(hr:Rgn P R cx ops kf L T A h0)(hL:Live ops L)(K:∀(i:Nat)(o:Oper),ops[i]?=some o->¬L i->(T (i+1)).h=(T i).h)(hw:W h0 g w)(hf:eI h0 g)(ht:TR g (T 0).tm a.tmps)(hs:a.tmps.size=cx.tn)(D:jz g (T 0).df a.defers){b:Frame}(hc:kU g cx b):
 ∀m,m<=ops.size->Pure ops kf T A m/\∃g' w' a' F,F<=m/\dm ops T A cx.tn h0 g w (λj=>j<m/\L j) F g' w' a'
 |0,_=>⟨λj o hj _=>by omega,g,w,a,0,aC _,hr.start hw hf ht hs D λj h=>by omega⟩
 |m+1,hm=>by
  obtain⟨h1,g',w',a',F,h2,h3⟩:=Rgn.pure hP I hr hL K hw hf ht hs D hc m (by omega)
  have hlt:m<ops.size:=by omega
  have ho:ops[m]?=some ops[m]:=by grind
  by_cases z:L m
  .obtain⟨g2,M,N,q2,h4,h5,h6,_⟩:=h3.one hP I hr hf (λi o e h1 h2 h3 h4=>⟨by have:=hr.st.back i o e h1 h3 h4;omega,hL.cl i o e h1 h2.2 h3 h4⟩) h1 (h1.le h2) ho z (by omega) (λe h1 h2=>⟨hr.st.back m _ e ho h1 h2,hL.cl m _ e ho z h1 h2⟩) hc [] [] []
   refine⟨λj o hj c=>?_,g2,M,N,q2,by grind,?_⟩
   .rcases Nat.lt_or_ge j m with E|E
    .exact h1 j o E c
    grind
   grind
  .refine⟨λj o hj c=>?_,g',w',a',F,by omega,?_⟩
   .rcases Nat.lt_or_ge j m with E|E
    .exact h1 j o E c
    .obtain rfl:j=m:=by omega
     cases J:ec o with|false=>exact hr.eO c J|true=>exact .inr (.inl ⟨(jq.1 J).1,K j o c z⟩)
   grind
theorem MO(J:Static ops){fuel t:Nat}{listed:Array Bool}(V:listed.size=ops.size)(Q:listed.toList.count false=fuel+1)(M:ua ops (λj=>listed[j]?=some true)):
 ∃(i:Nat)(o:Oper)(t':Nat),Region.linearise.go .any ops (fuel+1) t listed []=i::Region.linearise.go .any ops fuel t' (listed.setIfInBounds i true) []/\ops[i]?=some o/\¬listed[i]?=some true/\(∀e,e∈o.after->Region.binds .any e=true->listed[e.on]?=some true)/\(listed.setIfInBounds i true).toList.count false=fuel/\(λj:Nat=>listed[j]?=some true\/j=i)=(λj:Nat=>(listed.setIfInBounds i true)[j]?=some true)/\ua ops (λj=>(listed.setIfInBounds i true)[j]?=some true):=by
 have c:∀i:Nat,i∈Region.ready .any ops listed->∃o,ops[i]?=some o/\listed[i]?=some false/\∀e,e∈o.after->Region.binds .any e=true->listed[e.on]?=some true:=by
  intro i hi
  unfold Region.ready at hi
  simp only[List.mem_filter,List.mem_range,bB]at hi
  obtain⟨h1,h2,h3⟩:=hi
  have ho:ops[i]?=some ops[i]:=by simp[h1]
  refine⟨ops[i],ho,?_,?_⟩
  .simp_all
  .intro e he hb
   rw[ho]at h3
   simp only[Option.map_some,Option.getD_some,Array.all_eq_true]at h3
   obtain⟨n,hn,rfl⟩:=Array.mem_iff_getElem.1 he
   have h4:=h3 n hn
   rw[hb]at h4
   simp only[Bool.not_true,Bool.false_or]at h4
   rcases Nat.lt_or_ge (ops[i].after[n]).on listed.size with h5|h5
   .rw[Array.getD_eq_getD_getElem?]at h4;simp only[h5,getElem?_pos,Option.getD_some]at h4⊢;rw[h4]
   grind
 have D:Region.ready .any ops listed≠[]:=by
  intro N
  have F:false∈listed.toList:=List.count_pos_iff.1 (by omega)
  have hex:∃j:Nat,listed[j]?=some false:=by
   obtain⟨j,hj,he⟩:=List.mem_iff_getElem.1 F
   have Z:j<listed.size:=by grind
   have he':listed[j]=false:=by grind
   exact⟨j,by grind⟩
  have z:∀n:Nat,(∃j:Nat,j<n/\listed[j]?=some false)->False:=by
   intro n
   induction n with
   |zero=>grind
   |succ n U=>
    rintro⟨j,hj,Y⟩
    rcases Nat.lt_or_ge j n with h1|h1
    .grind
    .obtain rfl:j=n:=by omega
     have X:j<listed.size:=by grind
     have ho:ops[j]?=some ops[j]:=by grind
     have TW:j∈Region.ready .any ops listed:=by
      unfold Region.ready
      simp only[List.mem_filter,List.mem_range,bB]
      refine⟨by omega,?_,?_⟩
      .simp_all
      .rw[ho]
       simp only[Option.map_some,Option.getD_some,Array.all_eq_true]
       intro n hn
       cases hb:Region.binds .any ops[j].after[n]with
       |false=>rfl
       |true=>
        have hlt:=J.back j _ _ ho (Array.getElem_mem hn) hb
        have O:(ops[j].after[n]).on<listed.size:=by omega
        simp only[Bool.not_true,Bool.false_or];rw[Array.getD_eq_getD_getElem?];grind
     grind
  obtain⟨j,hj⟩:=hex;exact z (j+1) ⟨j,by omega,hj⟩
 have E:0<(Region.ready .any ops listed).length:=List.length_pos_iff.2 D
 simp only[Region.linearise.go]
 change∃(i:Nat)(o:Oper)(t':Nat),(match(Region.ready .any ops listed)[t%(Region.ready .any ops listed).length]? with|some i=>Region.linearise.go .any ops fuel (t/(Region.ready .any ops listed).length) (listed.setIfInBounds i true) [i]|none=>[].reverse)=i::Region.linearise.go .any ops fuel t' (listed.setIfInBounds i true) []/\_
 cases hi:(Region.ready .any ops listed)[t%(Region.ready .any ops listed).length]? with
 |none=>have:=Nat.mod_lt t E;grind
 |some i=>
  simp only[]
  rw[linearise_go_acc,List.reverse_singleton,List.singleton_append]
  obtain⟨o,ho,hif,K⟩:=c i (List.mem_of_getElem? hi)
  have hil:i<listed.size:=by grind
  have I:(λj:Nat=>listed[j]?=some true\/j=i)=(λj:Nat=>(listed.setIfInBounds i true)[j]?=some true):=by grind
  refine⟨i,o,_,rfl,ho,by grind,K,?_,I,?_⟩
  .grind
  .rw[<-I]
   intro j o' e h3 h4 h5 h6
   rcases h4 with h4|rfl
   .exact .inl (M j o' e h3 h4 h5 h6)
   grind
theorem YG(hP:ProgOK P)(X:dX P R)(hr:Rgn P R cx ops kf L T A h0)(hL:∀i,L i)(N:eI h0 g0)(F:Pure ops kf T A ops.size){b:Frame}(hc:kU g0 cx b)(cs:List Frame)(k:List Item):
 ∀(fuel t:Nat)(listed:Array Bool)(q:Nat)(g:Gh)(w:World)(a:Act),listed.size=ops.size->listed.toList.count false=fuel->ua ops (λj=>listed[j]?=some true)->dm ops T A cx.tn h0 g0 w0 (λj=>listed[j]?=some true) q g w a->∃(J:Nat->Prop)(K:Nat)(g':Gh)(w':World)(a':Act),dm ops T A cx.tn h0 g0 w0 J K g' w' a'/\(∀j,j<ops.size->J j)/\Steps P (lone (ax b a (.inRegion ops (Region.linearise.go .any ops fuel t listed [])::k)) cs w) (lone (ax b a' (.inRegion ops []::k)) cs w'):=by
 intro fuel
 induction fuel with
 |zero=>
  intro t listed q g w a z c E hd
  refine⟨_,q,g,w,a,hd,?_,?_⟩
  .intro j hj
   have V:j<listed.size:=by omega
   have U:=List.count_eq_zero.1 c;cases hv:listed[j]with|true=>grind|false=>grind
  .simp only[Region.linearise.go,List.reverse_nil];exact .refl _ _|succ fuel Q=>intro t listed q g w a z c E hd;obtain⟨i,o,t',e1,ho,hi,M,D,O,I⟩:=MO (t:=t) hr.st z c E;obtain⟨Y,w1,Z,q1,h1,_,_,h2⟩:=hd.one hP X hr N E (F.le (Nat.le_of_lt (gM ho))) (F.le hd.ql) ho (hL i) hi M hc cs k (Region.linearise.go .any ops fuel t' (listed.setIfInBounds i true) []);rw[O]at h1;obtain⟨J,K,g',w',a',h3,h4,h5⟩:=Q t' (listed.setIfInBounds i true) q1 Y w1 Z (by simp[z]) D I h1;exact⟨J,K,g',w',a',h3,h4,by rw[e1];exact Steps.trans h2 h5⟩
theorem abu(hP:ProgOK P)(hR:dX P R)(hr:Rgn P R cx ops kf L T A h0)(V:eI h0 g0){m:Nat}{o:Oper}{v:AV}{h:AHeap}(hm:ops[m]?=some o)(TU:Live ops L)(hLm:¬L m)(N:Pure ops kf T A ops.size)
 (hde:∀(j:Nat),j<ops.size->j≠m->¬L j->cn ops j m)(hE:ec o=true)(hw:cC ops o (T m).tm=some true)
 (O:cV P R cx (dy (tmpsOf o) (T m).tm) o .none (T m).h.inner=some (.aN v h)){b:Frame}(hc:kU g0 cx b)(cs:List Frame)(k:List Item):
 ∀(fuel t:Nat)(listed:Array Bool)(q:Nat)(g:Gh)(w:World)(a:Act),listed.size=ops.size->listed.toList.count false=fuel->ua ops (λj=>listed[j]?=some true)->(∀j:Nat,listed[j]?=some true->L j)->q<=m->dm ops T A cx.tn h0 g0 w0 (λj=>listed[j]?=some true) q g w a->∃(g':Gh)(w':World)(a':Act)(x:Value)(todo:List Item),Step h0 g0 w0 ((T m).h.outer h) g' w'/\W ((T m).h.outer h) g' w'/\a'.tmps.size=cx.tn/\jz g' (T 0).df a'.defers/\VR g' v x/\Steps P (lone (ax b a (.inRegion ops (Region.linearise.go .any ops fuel t listed [])::k)) cs w) (lone {ax b a' todo with mode:=.panicking [{v:=x,recovered:=false}]} cs w'):=by
 intro fuel
 induction fuel with
 |zero=>
  intro t listed q g w a I D z TL hq hd
  have hml:m<listed.size:=by grind
  have HK:=List.count_eq_zero.1 D;cases hv:listed[m]with|true=>grind|false=>grind
 |succ fuel ih=>
  intro t listed q g w a I D z TL hq hd
  obtain⟨i,o',t',e1,ho,hi,M,K,hSe,X⟩:=MO (t:=t) hr.st I D z
  have E:∀j,cn ops i j->listed[j]?=some true:=λj h=>cn.ready hr.st z ho M h
  by_cases h1:i=m
  .subst h1
   rw[hm]at ho
   simp only[ad]at ho;subst ho
   have J:∀j,cn ops j i->¬listed[j]?=some true:=by intro j h hj;obtain⟨o',U⟩:=cn.here h;exact hi (cn.ready hr.st z U (λe h1 h2=>z j o' e U hj h1 h2) h)
   have Q:=hd.PI hr hm E J;have F:=hd.want hr hm E hw;have c:=dm.AE hr (i-q) q hd (by grind) (λj o' h1 h2 h3=>by cases wj:ec o' with|false=>rfl|true=>have Z:=jq.1 hE;have Y:=jq.1 wj;have HR:=E j (hr.st.chain i j o o' hm h1 (by omega) Z.1 Z.2 Y.1 Y.2);have:=(hd.ee j o' h1 wj).1 HR;omega);rw[show q+(i-q)=i by omega]at c;obtain⟨g',w',x,todo,r1,r2,r3,r4⟩:=DB (ops:=ops) (i:=i) (rest:=Region.linearise.go .any ops fuel t' (listed.setIfInBounds i true) []) (k:=k) (cs:=cs) (b:=b) (a:=a) hP hR O c.ww.inner c.fr.inner (hc.mono c.kg.le) Q trivial hm F;obtain⟨h6,h7⟩:=yT c.fr r1 r2;exact⟨g',w',a,x,todo,c.kg.trans V h6,h7,c.sz,c.df.mono h6.le,r3,by grind⟩
  .by_cases hl:L i
   .obtain⟨g1,w1,a1,q1,h2,h3,_,h4⟩:=hd.one hP hR hr V z (N.le (Nat.le_of_lt (gM ho))) (N.le hd.ql) ho hl hi M hc cs k (Region.linearise.go .any ops fuel t' (listed.setIfInBounds i true) [])
    rw[hSe]at h2
    have hq1:q1<=m:=by
     rcases h3 with h3|⟨h3,h5⟩
     .omega
     .rcases Nat.lt_or_ge i m with h6|h6
      .omega
      .exact absurd (TU.ee m i o o' hm ho hE h5 (by omega) hl) hLm
    obtain⟨g',w',a',x,todo,r1,r2,r3,r4,r5,r6⟩:=ih t' (listed.setIfInBounds i true) q1 g1 w1 a1 (by simp[I]) K X (λj hj=>by grind) hq1 h2;exact⟨g',w',a',x,todo,r1,r2,r3,r4,r5,by rw[e1];exact Steps.trans h4 r6⟩
   grind
theorem Rgn.DE(hr:Rgn P R cx ops kf L T A h0):∀(i:Nat),i<=ops.size->(T i).cm=(T 0).cm/\(T i).df=(T 0).df
 |0,_=>⟨rfl,rfl⟩
 |i+1,hi=>by
  have ho:ops[i]?=some ops[i]:=by grind
  obtain⟨v,_,_,h1,h2⟩:=hr.FY i _ ho;obtain⟨h3,h4⟩:=Rgn.DE hr i (by omega);grind
theorem DF{h:AHeap}:∀(n o:Nat),sn h n o=true->∀p,o<=p->p<o+n->h.get p=none
 |0,o,_,p,h1,h2=>by omega
 |n+1,o,hn,p,h1,h2=>by
  simp only[sn,bB]at hn
  by_cases e:p=o
  .simp_all
  .exact DF n (o+1) hn.2 p (by omega) (by omega)
theorem lV.book{L:Nat->Prop}{o:Oper}{i n n':Nat}{st st':aD}{k kf:cz}(h:lV P R cx ops k L o i n st n' st')(h1:∀x,x∈k.es->x∈kf.es)(h2:∀x,x∈k.fs->x∈kf.fs):lV P R cx ops kf L o i n st n' st':=by cases h with|skip hw hp ha=>exact .skip hw hp ha|mk v h x hw hA hr hg hn hp ha=>exact .mk v h x hw hA hr hg hn hp ha|look v h hw hA hF hr hn hp ha hk=>exact .look v h hw hA hF hr hn hp ha (h2 _ hk)|act v cm h hw hA hF hr hp ha hk=>exact .act v cm h hw hA hF hr hp ha (h1 _ hk)|dead hL hp ha=>exact .dead hL hp ha
def AF(P:Program)(R:Rec)(cx:Ctx)(ops:Array Oper)(b:List Nat)(m:Nat)(L:Nat->Prop)(l:List Oper)(i n:Nat)(k kf:cz)(st:aD):Prop:=∃(T:Nat->aD)(A:Nat->Nat),T i=st/\A i=n/\((∀x,x∈k.es->x∈kf.es)/\(∀x,x∈k.fs->x∈kf.fs))/\(∀(j:Nat)(o:Oper),l[j]?=some o->lV P R cx ops kf L o (i+j) (A (i+j)) (T (i+j)) (A (i+j+1)) (T (i+j+1)))/\(∀(j:Nat)(o:Oper),l[j]?=some o->¬L (i+j)->(T (i+j+1)).h=(T (i+j)).h)/\(∀(j:Nat)(o:Oper),l[j]?=some o->ec o=true->(b.getD (i+j) 0).testBit m=true)
theorem AF.cons{b:List Nat}{m:Nat}{L:Nat->Prop}{l:List Oper}{o:Oper}{i n n1:Nat}{k z kf:cz}{st c:aD}(E:∀x,x∈k.es->x∈z.es)(D:∀x,x∈k.fs->x∈z.fs)(h2:AF P R cx ops b m L l (i+1) n1 z kf c)
 (h1:(∀x,x∈z.es->x∈kf.es)->(∀x,x∈z.fs->x∈kf.fs)->lV P R cx ops kf L o i n st n1 c)(h3:¬L i->c.h=st.h)(h4:ec o=true->(b.getD i 0).testBit m=true):AF P R cx ops b m L (o::l) i n k kf st:=by
 obtain⟨T,A,t1,N,⟨I,F⟩,M,K,J⟩:=h2
 refine⟨λj=>if j=i then st else T j,λj=>if j=i then n else A j,by simp,by simp,⟨λx e=>I x (E x e),λx e=>F x (D x e)⟩,λj q hq=>?_,λj q hq hl=>?_,λj q hq O=>?_⟩
 .grind
 .grind
 .cases j with|zero=>grind|succ j=>grind
theorem CK{b:List Nat}{m:Nat}:∀{l:List Oper}{i n:Nat}{k kf:cz}{st:aD},ir P R cx ops b m l i n k st=some kf->m<i->
 AF P R cx ops b m (λj=>j<m\/m<j/\(b.getD j 0).testBit m=false) l i n k kf st
 |[],i,n,k,kf,st,h,_=>by simp only[ir,ad]at h;subst h;exact⟨λ_=>st,λ_=>n,rfl,rfl,⟨λ_ e=>e,λ_ e=>e⟩,λj o h=>by simp at h,λj o h=>by simp at h,λj o h=>by simp at h⟩
 |o::l,i,n,k,kf,st,h,hi=>by
  unfold ir at h
  split at h
  .rename_i hb
   split at h
   .rename_i c hp
    have hL:¬(i<m\/m<i/\(b.getD i 0).testBit m=false):=by grind
    exact .cons (λ_ e=>e) (λ_ e=>e) (CK h (by omega)) (λ_ _=>.dead hL hp rfl) (λ_=>(dw hp).1) λ_=>hb
   .cases h
  .rename_i hb
   split at h
   .rename_i J
    split at h
    .rename_i M c z
     have⟨⟨q1,q2⟩,T,A,t1,F,K,E⟩:=rp (L:=λj=>j<m\/m<j/\(b.getD j 0).testBit m=false) _ _ _ _ _ _ _ z
     have h0:=E 0 o (by simp)
     have h3:T (i+1)=c:=by grind
     simp only[Nat.add_zero]at h0
     rw[t1,F,h3]at h0
     have D:A (i+1)=if bg o.op then n+1 else n:=by cases h0 with|skip hw hp ha=>exact ha|mk v h x hw hA hr hg hn hp ha=>grind|look v h hw hA hF hr hn hp ha hk=>grind|act v cm h hw hA hF hr hp ha hk=>grind|dead hL hp ha=>exact ha
     rw[D]at h0;refine .cons q1 q2 (CK h (by omega)) (λe1 e2=>h0.book e1 e2) (λhl=>absurd (.inr ⟨hi,hb⟩) hl) λI=>?_;have:=jq.1 I;grind
    .cases h
   .cases h
def R8(P:Program)(R:Rec)(cx:Ctx)(ops:Array Oper)(b:List Nat)(l:List Oper)(i ao:Nat)(k:cz)(st:aD)(r:b7×aD):Prop:=∃(T:Nat->aD)(A:Nat->Nat)(m:Nat)(o:Oper)(v:AV)(h:AHeap)(kf:cz),(T i=st/\A i=ao)/\i<=m/\l[m-i]?=some o/\((∀x,x∈k.es->x∈kf.es)/\(∀x,x∈k.fs->x∈kf.fs)/\mz b kf=true)/\(∀(j:Nat)(q:Oper),l[j]?=some q->lV P R cx ops kf (λj=>j<m\/m<j/\(b.getD j 0).testBit m=false) q (i+j) (A (i+j)) (T (i+j)) (A (i+j+1)) (T (i+j+1)))/\(∀(j:Nat)(q:Oper),l[j]?=some q->m<=i+j->((b.getD (i+j) 0).testBit m=true\/i+j=m)->(T (i+j+1)).h=(T (i+j)).h)/\(∀(j:Nat)(q:Oper),l[j]?=some q->ec q=true->m<i+j->(b.getD (i+j) 0).testBit m=true)/\ec o=true/\cC ops o (T m).tm=some true/\cV P R cx (dy (tmpsOf o) (T m).tm) o .none (T m).h.inner=some (.aN v h)/\r=(.panic v,{T m with tm:=.leaf,h:=(T m).h.outer h})
theorem I6{b:List Nat}:∀{l:List Oper}{i ao:Nat}{k:cz}{st:aD}{r:b7×aD},fa P R cx ops b l i ao k st=some r->R8 P R cx ops b l i ao k st r
 |[],i,ao,k,st,r,hr=>by simp[fa]at hr
 |o::l,i,ao,k,st,r,hr=>by
  have cons:∀(c:aD)(D:Nat)(I:cz),(∀x,x∈k.es->x∈I.es)->(∀x,x∈k.fs->x∈I.fs)->fa P R cx ops b l (i+1) D I c=some r->
   (∀(kf:cz)(L:Nat->Prop),(∀x,x∈I.es->x∈kf.es)->(∀x,x∈I.fs->x∈kf.fs)->lV P R cx ops kf L o i ao st D c)->R8 P R cx ops b (o::l) i ao k st r:=λc D I N M h1 h2=>by
   obtain⟨T,A,m,o',v,h,kf,⟨t1,J⟩,Z,Y,⟨U,Q,b3⟩,X,t5,t6,V,t8,t9,t10⟩:=I6 h1
   refine⟨λj=>if j=i then st else T j,λj=>if j=i then ao else A j,m,o',v,h,kf,⟨by simp,by simp⟩,by omega,?_,⟨λx e=>U x (N x e),λx e=>Q x (M x e),b3⟩,λj q hq=>?_,λj q hq h3 h4=>?_,λj q hq h3 h4=>?_,V,?_,?_,?_⟩
   .grind
   .cases j with|zero=>grind|succ j=>grind
   .cases j with|zero=>omega|succ j=>grind
   .cases j with|zero=>omega|succ j=>grind
   .grind
   .grind
   grind
  rw[fa]at hr
  split at hr
  .rename_i hw
   split at hr
   .rename_i c hp;exact cons c _ k (λ_ e=>e) (λ_ e=>e) hr λkf L _ _=>.skip hw hp rfl
   .cases hr
  .rename_i hw
   split at hr
   .rename_i hA
    split at hr
    .rename_i v h z
     split at hr
     .rename_i x hx
      split at hr
      .rename_i hn
       split at hr
       .rename_i c hp;exact cons c _ k (λ_ e=>e) (λ_ e=>e) hr λkf L _ _=>.mk v h x hw hA z hx hn hp rfl
       .cases hr
      .cases hr
     .cases hr
    .cases hr
   .rename_i hA
    have hA:bg o.op=false:=by grind
    split at hr
    .rename_i hF
     split at hr
     .rename_i v h z
      split at hr
      .rename_i K
       split at hr
       .rename_i c hp;exact cons c ao {k with fs:=(i,dH o st.tm)::k.fs} (λ_ e=>e) (λ_ e=>List.mem_cons_of_mem _ e) hr λkf L _ h2=>.look v h hw hA hF z K hp rfl (h2 _ (List.mem_cons_self ..))
       .cases hr
      .cases hr
     .cases hr
    .rename_i hF
     have hF:cd o.op=false:=by grind
     split at hr
     .rename_i v cm h z
      split at hr
      .rename_i c hp;exact cons c ao {k with es:=(i,h.wr)::k.es} (λ_ e=>List.mem_cons_of_mem _ e) (λ_ e=>e) hr λkf L h1 _=>.act v cm h hw hA hF z hp rfl (h1 _ (List.mem_cons_self ..))
      .cases hr
     .rename_i v h z
      split at hr
      .rename_i c E
       split at hr
       .rename_i kf F
        split at hr
        .rename_i O
         cases hr
         obtain⟨T,A,t1,J,⟨U,Q⟩,Z,Y,X⟩:=CK F (Nat.lt_succ_self i)
         refine⟨λj=>if j=i then st else T j,λj=>if j=i then ao else A j,i,o,v,h,kf,⟨by simp,by simp⟩,aC _,by simp,⟨U,Q,O⟩,λj q hq=>?_,λj q hq h1 h2=>?_,λj q hq h1 h2=>?_,jq.2 ⟨hA,hF⟩,by grind,by grind,by simp⟩
         .cases j with|zero=>simp only[List.getElem?_cons_zero,ad]at hq;subst hq;simp only[Nat.add_zero,if_true];rw[if_neg (show¬i+1=i by omega),if_neg (show¬i+1=i by omega),t1,J];exact .dead (by grind) E (by grind)|succ j=>grind
         .cases j with|zero=>simp only[Nat.add_zero,if_true];rw[if_neg (show¬i+1=i by omega),t1];exact(dw E).1|succ j=>grind
         grind
        .cases hr
       .cases hr
      .cases hr
     .cases hr
  .cases hr
theorem YH(hP:ProgOK P)(V:dX P R):Of P R:=by
 intro cx id ops st ex st' hr g w b a k cs hw hf hc ha hm'
 unfold nG at hr
 split at hr
 .rename_i E
  simp only[bB]at E
  split at hr
  .rename_i kf Y O
   split at hr
   .rename_i hbk
    simp only[ad,av]at hr
    obtain⟨rfl,rfl⟩:=hr
    obtain⟨_,T,A,t1,t2,t3,t4⟩:=rp (L:=λ_=>True) _ _ _ _ _ _ _ O
    have c:Rgn P R cx ops kf (λ_=>True) T A st.h:=⟨Da E.1,λi o ho=>by grind,hbk,t2,by rw[t1],DF _ _ E.2⟩
    have gE:T ops.size=Y:=by grind
    have D:(T 0).tm=st.tm/\(T 0).df=st.df/\(T 0).cm=st.cm:=by grind
    have F:=hw.drew (w.drawn+1)
    have I:TR g (T 0).tm a.tmps:=by rw[D.1];exact ha.tm
    have K:jz g (T 0).df a.defers:=by rw[D.2.1];exact ha.df
    obtain⟨M,_⟩:=c.pure (a:=a) hP V ⟨λ_ _ _ _ _ _ _=>trivial,λ_ _ _ _ _ _ _ _ _ _=>trivial⟩ (λ_ _ _ h=>absurd trivial h) F hf I ha.size K hc ops.size (aC _)
    have z:∀j:Nat,¬(Array.replicate ops.size false)[j]?=some true:=by grind
    obtain⟨S',U,g',w',a',h1,h2,h3⟩:=YG hP V c (λ_=>trivial) hf M hc cs k ops.size (w.tape w.drawn (.order b.fn id)) (Array.replicate ops.size false) 0 g {w with drawn:=w.drawn+1} a (by simp) (by simp) (λj o e _ h=>absurd h (z j)) (c.start F hf I ha.size K z);have h4:=dm.AE c (ops.size-U) U h1 (by have:=h1.ql;omega) (λj o ho h5 h6=>by cases hE:ec o with|false=>rfl|true=>have:=(h1.ee j o ho hE).1 (h2 j (gM ho));omega);rw[show U+(ops.size-U)=ops.size by have:=h1.ql;omega]at h4;obtain⟨r1,r2⟩:=c.DE ops.size (aC _);rw[gE]at r1 r2;have h5:=h4.ww;have h6:=h4.kg;have h7:=h4.tm;rw[gE]at h5 h6 h7;refine⟨g',w',a',cs,(Step.drew st.h g w (w.drawn+1)).trans hf h6,h5,⟨λt x hx=>h7 t x hx λk o ho _=>h2 k (gM ho),h4.sz,by rw[r2];exact h4.df⟩,.refl _ _,by rw[r1,D.2.2];exact hm'.mono h6.le,by grind,?_⟩;refine Steps.head IL (Steps.trans ?_ (.one (IP (ops:=ops))));simp only[Region.schedule,hP.mixed,Bool.true_or,if_true,Region.linearise];exact h3
   .cases hr
  .obtain⟨T,A,m,o,v,h,kf,⟨t1,X⟩,t2,t3,⟨_,_,b3⟩,t4,t5,t6,t7,t8,t9,N⟩:=I6 hr
   rw[av]at N
   obtain⟨rfl,rfl⟩:=N
   have hm:ops[m]?=some o:=by grind
   have Z:=gM hm
   have c:Rgn P R cx ops kf (λj=>j<m\/m<j/\((fi ops.toList []).getD j 0).testBit m=false) T A st.h:=⟨Da E.1,λi o' ho=>by grind,b3,X,by rw[t1],DF _ _ E.2⟩
   have D:(T 0).tm=st.tm/\(T 0).df=st.df/\(T 0).cm=st.cm:=by grind
   have F:=hw.drew (w.drawn+1)
   have I:TR g (T 0).tm a.tmps:=by rw[D.1];exact ha.tm
   have K:jz g (T 0).df a.defers:=by rw[D.2.1];exact ha.df
   have J:=Da E.1
   have Q:Live ops (λj=>j<m\/m<j/\((fi ops.toList []).getD j 0).testBit m=false):=by
    refine⟨λi o' e ho hl he hb=>?_,λi j p q hp hq h1 h2 hij hl=>?_⟩
    .have hlt:=J.back i o' e ho he hb
     rcases hl with hl|⟨hl1,hl2⟩
     .grind
     .rcases Nat.lt_trichotomy e.on m with h1|h1|h1
      .grind
      .have:cn ops i e.on:=cn.make J ho he hb (.inl rfl);rw[h1]at this;have this:((fi ops.toList []).getD i 0).testBit m=true:=this;grind
      .refine .inr ⟨h1,?_⟩;cases hx:((fi ops.toList []).getD e.on 0).testBit m with|false=>rfl|true=>have:cn ops i m:=cn.make J ho he hb (.inr hx);have this:((fi ops.toList []).getD i 0).testBit m=true:=this;grind
    .grind
   obtain⟨M,_⟩:=c.pure (a:=a) hP V Q (λi o' ho hl=>by grind) F hf I ha.size K hc ops.size (aC _)
   have z:∀j:Nat,¬(Array.replicate ops.size false)[j]?=some true:=by grind
   obtain⟨g',w',a',x,todo,r1,r2,r3,r4,r5,r6⟩:=abu hP V c hf hm Q (by grind) M (λj h1 h2 h3=>by show((fi ops.toList []).getD j 0).testBit m=true;grind) t7 t8 t9 hc cs k ops.size (w.tape w.drawn (.order b.fn id)) (Array.replicate ops.size false) 0 g {w with drawn:=w.drawn+1} a (by simp) (by simp) (λj o e _ h=>absurd h (z j)) (λj hj=>absurd hj (z j)) (Nat.zero_le _) (c.start F hf I ha.size K z)
   obtain⟨r7,r8⟩:=c.DE m (Nat.le_of_lt Z)
   refine⟨g',w',a',cs,(Step.drew st.h g w (w.drawn+1)).trans hf r1,r2,⟨λt x hx=>by simp[Tr.get]at hx,r3,by grind⟩,.refl _ _,?_,?_,todo,x,r5,?_⟩
   .show gn g' (T m).cm cs;rw[r7,D.2.2];exact hm'.mono r1.le
   .grind
   refine Steps.head IL ?_;simp only[Region.schedule,hP.mixed,Bool.true_or,if_true,Region.linearise];exact r6
 .cases hr
end
end Go.AI
end

section
namespace Go.AI
section
variable {P:Program}{R:Rec}
theorem LC:dX P Rec.zero:=⟨λ_ _ _ _ _ _ h=>(by cases h),λ_ _ _ _ _ _ _ _ h=>(by cases h),λ_ _ _ _ _ h=>(by cases h),λ_ _ _ _ _ h=>(by cases h)⟩
theorem nS(hP:ProgOK P)(o:dX P R):mC P R:=λ_ c st ex st' h=>Vt hP o (YH hP o) (Xm hP o) c st ex st' h
theorem Xo(hP:ProgOK P)(c:dX P R):dX P (Rec.succ P R)where
 call:=λ_ _ _ _ _ _ h=>YD hP c (nS hP c) h
 vf:=λ_ _ _ _ _ _ _ hn h=>Xl hP c (nS hP c) hn h
 loop:=λ_ _ _ _ _ h=>MK c (nS hP c) h
 round:=λ_ _ _ _ _ h=>LA (nS hP c) h
end
end Go.AI
end

section
namespace Go.AI
def chunks(sz:Nat):Nat->List AV->List (List AV)|0,_=>[]|n+1,l=>l.take sz::chunks sz n (l.drop sz)
theorem chunks_flatten(sz:Nat):∀(n:Nat)(l:List AV),l.length=n*sz->(chunks sz n l).flatten=l|0,l,h=>by simp at h;simp[chunks,h]|n+1,l,h=>by rw[chunks,List.flatten_cons,chunks_flatten sz n _ (by grind)];simp_all
theorem I7(sz:Nat):∀(n:Nat)(l:List AV),(chunks sz n l).length=n|0,_=>rfl|n+1,l=>by simp[chunks,I7 sz n]
section
variable {P:Program}{h:AHeap}{g g2:Gh}{w:World}
theorem aG.free(hm:∀b i v,g.M b i=some v->g2.M b i=some v):∀{xs:List AV}{vs:List Value},eo xs=true->aG g xs vs->aG g2 xs vs|[],[],_,_=>trivial|x::xs,v::vs,e,h=>by simp only[eo,bB]at e;exact⟨VR.free hm h.1 e.1,aG.free hm e.2 h.2⟩|[],_::_,_,h=>h.elim|_::_,[],_,h=>h.elim
end
end Go.AI
end

section
namespace Go.AI
def jA:List UInt8->List UInt8->Bool
 |[],[]=>true
 |a::az,b::bs=>match Nat.beq a.toNat b.toNat with|true=>jA az bs|false=>false
 |_,_=>false
theorem LD:∀{a b:List UInt8},jA a b=true->a=b
 |[],[],_=>rfl
 |[],_::_,h=>by simp[jA]at h
 |_::_,[],h=>by simp[jA]at h
 |a::az,b::bs,h=>by
  unfold jA at h
  split at h
  .rename_i e;rw[UInt8.toNat_inj.1 (Nat.eq_of_beq_eq_true e),LD h]
  .cases h
def FZ:Value->Value->Bool
 |.int .i64 n,.int .i64 m=>match n,m with|.ofNat a,.ofNat b=>Nat.beq a b|_,_=>false
 |.string a,.string b=>jA a.data.toList b.data.toList
 |.slice none 0 0,.slice none 0 0=>true
 |.bool a,.bool b=>match a,b with|true,true=>true|false,false=>true|_,_=>false
 |_,_=>false
theorem YI{a b:Value}(h:FZ a b=true):a=b:=by
 unfold FZ at h
 split at h
 .split at h
  .simp_all
  .cases h
 .rename_i a b;have:=LD h;obtain⟨⟨a⟩⟩:=a;simp_all
 .rfl
 .grind
 .cases h
end Go.AI
end

section
namespace Go.AI
mutual
def fN:AV->Bool|.sc _=>true|.agg cs=>n0 cs|.tuple cs=>n0 cs|_=>false
def n0:List AV->Bool|[]=>true|x::xs=>match fN x with|true=>n0 xs|false=>false
end
mutual
theorem LF{g g':Gh}:∀(x:AV){v:Value},fN x=true->VR g x v->VR g' x v|.sc u,v,_,hv=>by cases hv;exact .sc _|.agg cs,v,h,hv=>by obtain⟨a,rfl,ha⟩:=VR.agg_iff.1 hv;exact VR.agg_iff.2 ⟨a,rfl,Db cs h ha⟩|.tuple cs,v,h,hv=>by obtain⟨a,rfl,ha⟩:=VR.fm.1 hv;exact VR.fm.2 ⟨a,rfl,Db cs h ha⟩|.aM,v,h,hv=>by simp[fN]at h|.ref _ _ _ _,v,h,hv=>by simp[fN]at h|.sl _ _ _ _ _ _ _,v,h,hv=>by simp[fN]at h|.bT,v,h,hv=>by simp[fN]at h|.cI _,v,h,hv=>by simp[fN]at h|.aZ _ _ _ _,v,h,hv=>by simp[fN]at h|.aQ _ _,v,h,hv=>by simp[fN]at h|.map _,v,h,hv=>by simp[fN]at h|.func _ _ _,v,h,hv=>by simp[fN]at h|.eB _,v,h,hv=>by simp[fN]at h|.iface _ _,v,h,hv=>by simp[fN]at h
theorem Db{g g':Gh}:∀(xs:List AV){vs:List Value},n0 xs=true->aG g xs vs->aG g' xs vs
 |[],vs,_,hv=>by cases vs with|nil=>trivial|cons v vs=>exact hv.elim
 |x::xs,vs,h,hv=>by
  cases vs with
  |nil=>exact hv.elim
  |cons v vs=>
   unfold n0 at h
   split at h
   .rename_i h1;exact⟨LF x h1 hv.1,Db xs h hv.2⟩
   .cases h
end
mutual
def j0(h:AHeap):Nat->AV->Option AV
 |0,_=>none
 |n+1,v=>match v with
  |.sl o ver m off sz len cap=>
   if sz=0 then none else
   match c9 h o ver m off (len*sz)with
   |some cs=>match fM h n cs with|some l=>some (.aZ l sz len cap)|none=>none
   |none=>none
  |.agg cs=>match fM h n cs with|some l=>some (.agg l)|none=>none
  |.tuple cs=>match fM h n cs with|some l=>some (.tuple l)|none=>none
  |.sc v=>some (.sc v)|.aQ r s=>some (.aQ r s)|.aZ c s l k=>if eo c=true then some (.aZ c s l k)else none|.bT=>some .bT|.aM=>some .aM|_=>none
def fM(h:AHeap):Nat->List AV->Option (List AV)|_,[]=>some []|0,_::_=>none|n+1,x::xs=>match j0 h n x,fM h n xs with|some y,some ys=>some (y::ys)|_,_=>none
end
theorem I8{h:AHeap}:∀{n:Nat}{xs ys:List AV},fM h n xs=some ys->ys.length=xs.length
 |_,[],ys,e=>by simp[fM]at e;subst e;rfl
 |0,x::xs,ys,e=>by simp[fM]at e
 |n+1,x::xs,ys,e=>by
  rw[fM]at e
  split at e
  .rename_i h1 h2;simp only[ad]at e;subst e;simp[I8 h2]
  .cases e
section
variable {h:AHeap}{g g2:Gh}{w:World}
mutual
theorem LG(hw:W h g w)(hm:∀b i v,g.M b i=some v->g2.M b i=some v)(hb:∀o v b s n i u,g.B o v=some (b,s,n)->w.cell? ⟨b,i,none⟩=some u->g2.M b i=some u):
 ∀{n:Nat}{x y:AV}{v:Value},j0 h n x=some y->VR g x v->VR g2 y v
 |0,_,_,_,e,_=>by simp[j0]at e
 |n+1,x,y,v,e,hr=>by
  cases x<;>simp only[j0]at e<;>try(cases e;done)
  case aM=>simp only[ad]at e;subst e;exact .aM _
  case sc=>simp only[ad]at e;subst e;cases hr;exact .sc _
  case bT=>simp only[ad]at e;subst e;cases hr;exact .bT _ _
  case aQ=>simp only[ad]at e;subst e;exact VR.free hm hr rfl
  case aZ c _ _ _=>
   split at e
   .rename_i hf;simp only[ad]at e;subst e;exact VR.free hm hr (by simpa[fS]using hf)
   .cases e
  case agg cs=>
   split at e
   .rename_i l hl;simp only[ad]at e;subst e;obtain⟨a,rfl,ha⟩:=VR.agg_iff.1 hr;exact VR.agg_iff.2 ⟨a,rfl,tl hw hm hb hl ha⟩
   .cases e
  case tuple cs=>
   split at e
   .rename_i l hl;simp only[ad]at e;subst e;obtain⟨a,rfl,ha⟩:=VR.fm.1 hr;exact VR.fm.2 ⟨a,rfl,tl hw hm hb hl ha⟩
   .cases e
  case sl o ver m off sz len cap=>
   split at e
   .cases e
   .rename_i hz
    split at e
    .rename_i cs fk
     split at e
     .rename_i l hl
      simp only[ad]at e;subst e
      cases hr with
      |sl hB p1 p2 p3=>
       rename_i b s c
       obtain⟨vs,q1,q2,q3,_⟩:=nA hw fk hB
       have hlen:l.length=len*sz:=by rw[I8 hl,q1.length,q2]
       have gC:=tl hw hm hb hl q1
       have key:VR g2 (.aZ l sz len cap) (.slice (some ⟨b,off,none⟩) len c):=by
        refine .aZ (λi=>vs.getD i .nilIface) ?_ ?_ hlen p2 p3
        .grind
        .intro i x hx
         have hi:i<vs.length:=by grind
         rw[show vs.getD i .nilIface=vs[i]by grind];exact gC.get i x vs[i] hx (List.getElem?_eq_getElem hi)
       exact key
     .cases e
    .cases e
theorem tl(hw:W h g w)(hm:∀b i v,g.M b i=some v->g2.M b i=some v)(hb:∀o v b s n i u,g.B o v=some (b,s,n)->w.cell? ⟨b,i,none⟩=some u->g2.M b i=some u):
 ∀{n:Nat}{xs ys:List AV}{vs:List Value},fM h n xs=some ys->aG g xs vs->aG g2 ys vs
 |_,[],ys,vs,e,hr=>by simp[fM]at e;subst e;cases vs with|nil=>trivial|cons _ _=>exact hr.elim
 |0,x::xs,ys,_,e,_=>by simp[fM]at e
 |n+1,x::xs,ys,vs,e,hr=>by
  cases vs with
  |nil=>exact hr.elim
  |cons v vs=>
   rw[fM]at e
   split at e
   .rename_i h1 h2;simp only[ad]at e;subst e;exact⟨LG hw hm hb h1 hr.1,tl hw hm hb h2 hr.2⟩
   .cases e
end
end
theorem JI{P:Program}{f:FuncId}{args:List AV}{v v':AV}{h1:AHeap}{n:Nat}(hc:fc P f args h0 (.ret v) h1)(ha:eo args=true)(hs:j0 h1 n v=some v')(h:AHeap):fc P f args h (.ret v') h:=by
 intro g w vs hw hf hv
 let K:Gh:=⟨λ_ _=>none,g.M⟩
 have I:W h0 K w:=⟨λo x e=>(by simp[h0,AHeap.get,Tr.get]at e),λ_ _ _ _ _ e=>(by cases e),λ_ _ _ _ _ _ _ _ _ e=>(by cases e),hw.ro,λ_ _ _ _ _ _ _ _ e=>(by cases e),hw.gl⟩
 refine(hc K w vs I (λ_ _ _=>rfl) (aG.free (g:=g) (g2:=K) (λ_ _ _ e=>e) ha hv)).mono ?_
 rintro e w'⟨g',st,D,ho⟩
 have hold:∀b,b<w.heap.size->w'.heap[b]?=w.heap[b]?:=λb hb=>st.fr b hb λo v s n e=>by cases e
 let g2:Gh:=⟨g.B,λb i=>if w.heap.size<=b then w'.cell? ⟨b,i,none⟩else g.M b i⟩
 have z:∀b i v,g.M b i=some v->g2.M b i=some v:=by intro b i v hm;have:=(hw.ro b i v hm).2;show(if w.heap.size<=b then _ else _)=_;rw[if_neg (by omega)];exact hm
 have F:g.Le g2:=⟨λ_ _ _ e=>e,z⟩
 have E:=st.size
 have c:=hw.same E hold
 refine⟨g2,⟨F,aC _,rfl,λ_ h=>h,λ_ _ _ _=>rfl,λ_ _ _=>rfl,λ_ _ h=>h,λ_ _ _ h=>.inl h,E,λo v b s n e _=>⟨v,s,n,e⟩,λb hb _=>hold b hb,st.tape,st.os,st.out,?_⟩,?_,?_⟩
 .grind
 .refine⟨λo x hx=>(c.obj o x hx).move F (λ_ _ e=>e) (λ_ _ _ _ _=>rfl),c.ei,c.inj,?_,?_,c.nY (λ_ _ _=>rfl) z⟩
  .intro b i v hm
   have hm':(if w.heap.size<=b then w'.cell? ⟨b,i,none⟩else g.M b i)=some v:=hm
   by_cases hb:w.heap.size<=b
   .rw[if_pos hb]at hm'
    refine⟨hm',?_⟩
    rcases Nat.lt_or_ge b w'.heap.size with a|a
    .exact a
    .exfalso;have hn:w'.heap[b]?=none:=Array.getElem?_eq_none a;unfold World.cell? at hm';grind
   .rw[if_neg hb]at hm';exact c.ro b i v hm'
  .intro b i u hm o v s n e;have hm':(if w.heap.size<=b then w'.cell? ⟨b,i,none⟩else g.M b i)=some u:=hm;have hb:=hw.ei o v b s n e;rw[if_neg (by omega)]at hm';exact hw.fZ b i u hm' o v s n e
 .cases e with
  |returned x=>
   refine LG (g:=g') (g2:=g2) D ?_ ?_ hs ho
   .intro b i v hm
    rcases st.fX b i v hm with h1|h1
    .grind
    .show(if w.heap.size<=b then _ else _)=_;rw[if_pos h1];exact(D.ro b i v hm).1
   .intro o v b s n i u hB J
    have hb:w.heap.size<=b:=by
     rcases Nat.lt_or_ge b w.heap.size with a|a
     .obtain⟨_,_,_,e⟩:=st.old o v b s n hB a;cases e
     .exact a
    grind|panicked _=>exact ho.elim|outgrown=>exact ho.elim
theorem VT{P:Program}{f:FuncId}{args c:List AV}{v:AV}{h1:AHeap}{n:Nat}(hp:fN v=true)(hc:fc P f c h0 (.ret v) h1)(h:AHeap)(hs:fM h n args=some c):fc P f args h (.ret v) h:=by
 intro g w vs hw hf hv
 let D:Gh:=⟨λ_ _=>none,λb i=>w.cell? ⟨b,i,none⟩⟩
 have z:∀b i u,w.cell? ⟨b,i,none⟩=some u->b<w.heap.size:=by
  intro b i u hm
  rcases Nat.lt_or_ge b w.heap.size with a|a
  .exact a
  .exfalso;have hn:w.heap[b]?=none:=Array.getElem?_eq_none a;unfold World.cell? at hm;grind
 have E:W h0 D w:=⟨λo x e=>(by simp[h0,AHeap.get,Tr.get]at e),λ_ _ _ _ _ e=>(by cases e),λ_ _ _ _ _ _ _ _ _ e=>(by cases e),λb i u hm=>⟨hm,z b i u hm⟩,λ_ _ _ _ _ _ _ _ e=>(by cases e),hw.nY (λ_ _ _=>rfl) (λb i v e=>(hw.ro b i v e).1)⟩
 have F:aG D c vs:=tl (g2:=D) hw (λb i u hm=>(hw.ro b i u hm).1) (λ_ _ _ _ _ _ _ _ hm=>hm) hs hv
 refine(hc D w vs E (λ_ _ _=>rfl) F).mono ?_
 rintro e w'⟨g',st,I,ho⟩
 have hold:∀b,b<w.heap.size->w'.heap[b]?=w.heap[b]?:=λb hb=>st.fr b hb λo v s n e=>by cases e
 refine⟨g,⟨.refl g,aC _,rfl,λ_ h=>h,λ_ _ _ _=>rfl,λ_ _ _=>rfl,λ_ _ h=>h,λ_ _ _ h=>.inl h,st.size,λo v b s n e _=>⟨v,s,n,e⟩,λb hb _=>hold b hb,st.tape,st.os,st.out,λ_ _ _ h=>.inl h⟩,hw.same st.size hold,?_⟩;cases e with|returned x=>exact LF v hp ho|panicked _=>exact ho.elim|outgrown=>exact ho.elim
def PJ:Int->Int->Bool|.ofNat a,.ofNat b=>Nat.beq a b|.negSucc a,.negSucc b=>Nat.beq a b|_,_=>false
theorem Xp:∀{a b:Int},PJ a b=true->a=b|.ofNat a,.ofNat b,h=>by rw[Nat.eq_of_beq_eq_true h]|.negSucc a,.negSucc b,h=>by rw[Nat.eq_of_beq_eq_true h]|.ofNat _,.negSucc _,h=>by cases h|.negSucc _,.ofNat _,h=>by cases h
def HT:Value->Value->Bool
 |.int k n,.int k' m=>match decEq k k' with|isTrue _=>PJ n m|isFalse _=>false
 |.func (.func f) a c,.func (.func o) a' c'=>match a.toList,c.toList,a'.toList,c'.toList with|[],[],[],[]=>Nat.beq f o|_,_,_,_=>false
 |a,b=>FZ a b
theorem abv{a b:Value}(h:HT a b=true):a=b:=by
 unfold HT at h
 split at h
 .split at h
  .rename_i e _;rw[e,Xp h]
  .cases h
 .split at h
  .simp_all
  .cases h
 .exact YI h
def PK:Option Nat->Option Nat->Bool|none,none=>true|some a,some b=>Nat.beq a b|_,_=>false
theorem Xq:∀{a b:Option Nat},PK a b=true->a=b|none,none,_=>rfl|some a,some b,h=>by rw[Nat.eq_of_beq_eq_true h]|none,some _,h=>by cases h|some _,none,h=>by cases h
mutual
def hG:AV->AV->Bool
 |.sc a,b=>match b with|.sc b=>HT a b|_=>false
 |.agg a,b=>match b with|.agg b=>kV a b|_=>false
 |.tuple a,b=>match b with|.tuple b=>kV a b|_=>false
 |.aQ r s,b=>match b with|.aQ r' s'=>(match Nat.beq s s' with|true=>sv r r'|false=>false)|_=>false
 |.aZ c s l k,b=>match b with|.aZ c' s' l' k'=>(match Nat.beq s s',Nat.beq l l',PK k k' with|true,true,true=>kV c c'|_,_,_=>false)|_=>false
 |.bT,b=>match b with|.bT=>true|_=>false
 |_,_=>false
def kV:List AV->List AV->Bool
 |[],b=>match b with|[]=>true|_=>false
 |a::az,b=>match b with|b::bs=>(match hG a b with|true=>kV az bs|false=>false)|_=>false
def sv:List (List AV)->List (List AV)->Bool
 |[],b=>match b with|[]=>true|_=>false
 |a::az,b=>match b with|b::bs=>(match kV a b with|true=>sv az bs|false=>false)|_=>false
end
mutual
theorem Og:∀(a b:AV),hG a b=true->a=b
 |.sc a,b,h=>by
  cases b<;>simp only[hG]at h<;>try(cases h;done)
  rw[abv h]
 |.agg a,b,h=>by
  cases b<;>simp only[hG]at h<;>try(cases h;done)
  rw[p8 _ _ h]
 |.tuple a,b,h=>by
  cases b<;>simp only[hG]at h<;>try(cases h;done)
  rw[p8 _ _ h]
 |.aQ r s,b,h=>by
  cases b<;>simp only[hG]at h<;>try(cases h;done)
  split at h
  .rename_i e;rw[LH _ _ h,Nat.eq_of_beq_eq_true e]
  .cases h
 |.aM,b,h=>by simp[hG]at h
 |.ref _ _ _ _,b,h=>by simp[hG]at h
 |.sl _ _ _ _ _ _ _,b,h=>by simp[hG]at h
 |.bT,b,h=>by cases b<;>simp only[hG]at h<;>grind
 |.cI _,b,h=>by simp[hG]at h
 |.aZ c s l k,b,h=>by
  cases b<;>simp only[hG]at h<;>try(cases h;done)
  split at h
  .rename_i e1 e2 e3;rw[p8 _ _ h,Nat.eq_of_beq_eq_true e1,Nat.eq_of_beq_eq_true e2,Xq e3]
  .cases h|.map _,b,h=>by simp[hG]at h|.func _ _ _,b,h=>by simp[hG]at h|.eB _,b,h=>by simp[hG]at h|.iface _ _,b,h=>by simp[hG]at h
theorem p8:∀(a b:List AV),kV a b=true->a=b
 |[],b,h=>by cases b<;>simp[kV]at h;rfl
 |a::az,b,h=>by
  cases b with
  |nil=>simp[kV]at h
  |cons b bs=>
   simp only[kV]at h
   split at h
   .rename_i e;rw[Og _ _ e,p8 _ _ h]
   .cases h
theorem LH:∀(a b:List (List AV)),sv a b=true->a=b
 |[],b,h=>by cases b<;>simp[sv]at h;rfl
 |a::az,b,h=>by
  cases b with
  |nil=>simp[sv]at h
  |cons b bs=>
   simp only[sv]at h
   split at h
   .rename_i e;rw[p8 _ _ e,LH _ _ h]
   .cases h
end
structure aJ where
 f:FuncId
 args:List AV
 v:AV
def n4(f:FuncId)(args:List AV)(h:AHeap):List aJ->Option AV|[]=>none|k::ks=>match Nat.beq k.f f with|true=>(match fN k.v with|true=>(match fM h 1000 args with|some a=>(match kV a k.args with|true=>some k.v|false=>n4 f args h ks)|none=>n4 f args h ks)|false=>(match eo args with|true=>(match kV args k.args with|true=>some k.v|false=>n4 f args h ks)|false=>n4 f args h ks))|false=>n4 f args h ks
def Tr.bu{α:Type}:Tr α->List α|.leaf=>[]|.node l v r=>l.bu++(v.toList++r.bu)
theorem Tr.DG{α:Type}:∀{t:Tr α}{n:Nat}{x:α},t.get n=some x->x∈t.bu
 |.leaf,n,x,e=>by simp[Tr.get]at e
 |.node l v r,n,x,e=>by
  simp only[Tr.bu,List.mem_append]
  cases n with
  |zero=>simp only[Tr.get]at e;grind
  |succ n=>
   simp only[Tr.get]at e
   split at e
   .exact .inl (Tr.DG e)
   .exact .inr (.inr (Tr.DG e))
def Fe(f:FuncId)(args:List AV)(h:AHeap)(t:Tr (List aJ)):Option AV:=match t.get f with|some l=>n4 f args h l|none=>none
def Rec.AG(tbl:Tr (List aJ))(R:Rec):Rec:={R with call:=λkind f args cm h=>match kind,cm with|.normal,.none=>(match Fe f args h tbl with|some v=>some (.ret v,.none,h)|none=>R.call .normal f args .none h)|k,c=>R.call k f args c h}
def lB(P:Program)(tbl:List aJ):Prop:=∀k,k∈tbl->∃h1 u n,fc P k.f k.args h0 (.ret u) h1/\j0 h1 n u=some k.v
theorem Wv{h:AHeap}:(∀(n:Nat)(x y:AV),j0 h n x=some y->fN y=true->x=y)/\(∀(n:Nat)(xs ys:List AV),fM h n xs=some ys->n0 ys=true->xs=ys):=by
 have key:∀n:Nat,(∀(x y:AV),j0 h n x=some y->fN y=true->x=y)/\(∀(xs ys:List AV),fM h n xs=some ys->n0 ys=true->xs=ys):=by
  intro n
  induction n with
  |zero=>refine⟨λx y e _=>by simp[j0]at e,λxs ys e _=>?_⟩;cases xs with|nil=>simp[fM]at e;exact e.symm|cons _ _=>simp[fM]at e
  |succ n c=>
   refine⟨λx y e hp=>?_,λxs ys e hp=>?_⟩
   .cases x<;>simp only[j0]at e<;>try(cases e;done)
    case sl=>
     split at e
     .cases e
     .split at e
      .split at e
       .simp only[ad]at e;subst e;simp[fN]at hp
       .cases e
      .cases e
    case agg cs=>
     split at e
     .rename_i l hl;simp only[ad]at e;subst e;rw[c.2 _ _ hl (by simpa[fN]using hp)]
     .cases e
    case tuple cs=>
     split at e
     .rename_i l hl;simp only[ad]at e;subst e;rw[c.2 _ _ hl (by simpa[fN]using hp)]
     .cases e
    case aZ=>
     split at e
     .simp only[ad]at e;exact e
     .cases e
    all_goals simp only[ad]at e;exact e
   .cases xs with
    |nil=>simp[fM]at e;exact e.symm
    |cons x xs=>
     simp only[fM]at e
     split at e
     .rename_i y o h1 h2
      simp only[ad]at e;subst e
      unfold n0 at hp
      split at hp
      .rename_i h3;rw[c.1 _ _ h1 h3,c.2 _ _ h2 hp]
      .cases hp
     .cases e
 exact⟨λn=>(key n).1,λn=>(key n).2⟩
theorem Ki{P:Program}{f:FuncId}{args:List AV}{h:AHeap}{v:AV}:∀{tbl:List aJ},lB P tbl->n4 f args h tbl=some v->fc P f args h (.ret v) h
 |[],_,e=>by cases e
 |k::ks,hk,e=>by
  have z:=λe=>Ki (P:=P) (f:=f) (args:=args) (h:=h) (v:=v) (tbl:=ks) (λx hx=>hk x (List.mem_cons_of_mem _ hx)) e
  unfold n4 at e
  split at e
  .rename_i hf
   obtain⟨h1,u,n,hc,c⟩:=hk k (List.mem_cons_self ..)
   split at e
   .rename_i hp
    split at e
    .rename_i a ha
     split at e
     .rename_i hq;simp only[ad]at e;obtain rfl:=Wv.1 n u k.v c hp;rw[<-p8 _ _ hq,Nat.eq_of_beq_eq_true hf,e]at hc;rw[e]at hp;exact VT hp hc h ha
     grind
    grind
   .split at e
    .rename_i o
     split at e
     .rename_i hq;simp only[ad]at e;rw[<-p8 _ _ hq,Nat.eq_of_beq_eq_true hf]at hc;rw[e]at c;exact JI hc o c h
     grind
    grind
  grind
theorem Xr{P:Program}{f:FuncId}{args:List AV}{h:AHeap}{v:AV}{t:Tr (List aJ)}(hk:lB P t.bu.flatten)(e:Fe f args h t=some v):fc P f args h (.ret v) h:=by
 unfold Fe at e
 split at e
 .rename_i l hl;exact Ki (λk hm=>hk k (List.mem_flatten.2 ⟨l,Tr.DG hl,hm⟩)) e
 .cases e
theorem Xs{P:Program}{tbl:Tr (List aJ)}{R:Rec}(hk:lB P tbl.bu.flatten)(c:dX P R):dX P (R.AG tbl)where
 call:=λf args h out cm' h' e=>by
  simp only[Rec.AG]at e
  split at e
  .rename_i v hv;simp only[ad,av]at e;obtain⟨rfl,_,rfl⟩:=e;exact Xr hk hv
  .exact c.call _ _ _ _ _ _ e
 vf:=λf args cm h out cm' h' hn e=>c.vf f args cm h out cm' h' hn (by simp only[Rec.AG]at e;exact e)
 loop:=c.loop
 round:=c.round
def aT(P:Program)(tbl:Tr (List aJ)):Nat->Rec|0=>Rec.zero|n+1=>(Rec.succ P (aT P tbl n)).AG tbl
theorem rN{P:Program}{tbl:Tr (List aJ)}(hP:ProgOK P)(hk:lB P tbl.bu.flatten):∀n,dX P (aT P tbl n)|0=>LC|n+1=>Xs hk (Xo hP (rN hP hk n))
def aP(R:Rec)(k:aJ):Bool:=match R.call .normal k.f k.args .none h0 with|some (.ret u,_,h1)=>(match j0 h1 1000 u with|some v=>hG v k.v|none=>false)|_=>false
theorem Kj{P:Program}{R:Rec}(c:dX P R){k:aJ}(h:aP R k=true):∃h1 u n,fc P k.f k.args h0 (.ret u) h1/\j0 h1 n u=some k.v:=by
 unfold aP at h
 split at h
 .rename_i u cm h1 e
  split at h
  .rename_i v hv;have:=Og _ _ h;subst this;exact⟨h1,u,1000,c.call _ _ _ _ _ _ e,hv⟩
  .cases h
 .cases h
theorem tg{P:Program}:lB P []:=λk hk=>by cases hk
theorem aj{P:Program}{k:aJ}{tbl:List aJ}{R:Rec}(c:dX P R)(h:aP R k=true)(ht:lB P tbl):lB P (k::tbl):=by
 intro q hq
 rcases List.mem_cons.1 hq with rfl|hq
 .exact Kj c h
 .exact ht q hq
end Go.AI
end

section
namespace Go.AI
open Go.Proofs (encStr)
open Go.RowKit (Below)
def Ww(P:Program)(fs D:FuncId)(z:TypeId):Prop:=∀(w:World)(o b:Nat)(c:Array MapEntry)(clock:Nat)(ks:List (List UInt8)),o<w.heap.size->w.cell? ⟨o,0,none⟩=some (.map (some b))->w.heap[b]?=some (.map c clock)->MapKept.Stamped c clock->c.toList.map (·.key)=ks.map encStr->(∀k,k∈ks->k.length<=maxLen)->ks.length*16<=140737488355328->Calls P fs #[.func (.func D) #[] #[.pointer (some ⟨o,0,none⟩)]] w λe w'=>∃v:Value,e=.returned v/\w'.ownsRow w.heap.size z 1 v ks.length ((ks.mergeSort leB).map encStr)/\(v=.slice none 0 0↔ks=[])/\Below w.heap.size w w'
def sZ:List UInt8->List UInt8->Bool|[],_=>true|_::_,[]=>false|a::az,b::bs=>match Nat.blt a.toNat b.toNat with|true=>true|false=>(match Nat.beq a.toNat b.toNat with|true=>sZ az bs|false=>false)
theorem En:∀x y:List UInt8,sZ x y=leB x y
 |[],y=>by simp[sZ,leB]
 |_::_,[]=>by simp[sZ,leB]
 |a::az,b::bs=>by
  unfold sZ
  have o:=En az bs
  cases h1:Nat.blt a.toNat b.toNat with
  |true=>
   have c:a<b:=by rw[Nat.blt_eq]at h1;exact UInt8.lt_iff_toNat_lt.2 h1
   simp only[leB];symm;rw[decide_eq_true_eq];exact List.cons_le_cons_iff.2 (.inl c)
  |false=>
   have c:¬a<b:=λh=>by have:=UInt8.lt_iff_toNat_lt.1 h;rw[<-Nat.blt_eq,h1]at this;cases this
   cases h2:Nat.beq a.toNat b.toNat with
   |true=>have e:a=b:=UInt8.toNat_inj.1 (Nat.eq_of_beq_eq_true h2);subst e;dsimp only;rw[o];simp only[leB];congr 1;rw[eq_iff_iff,List.cons_le_cons_iff];simp[c]
   |false=>
    have e:a≠b:=λe=>by simp_all
    dsimp only;symm;simp only[leB];rw[decide_eq_false_iff_not,List.cons_le_cons_iff];grind
def qH(x:List UInt8):List (List UInt8)->List (List UInt8)|[]=>[x]|y::ys=>match sZ x y with|true=>x::y::ys|false=>y::qH x ys
def j1:List (List UInt8)->List (List UInt8)|[]=>[]|x::xs=>qH x (j1 xs)
theorem Dc(x:List UInt8):∀l,(qH x l).Perm (x::l)
 |[]=>.refl _
 |y::ys=>by
  unfold qH
  split
  .grind
  .exact((Dc x ys).cons y).trans (.swap x y ys)
theorem ru:∀l,(j1 l).Perm l|[]=>.refl _|x::xs=>(Dc x _).trans ((ru xs).cons x)
theorem Wx(a b c:List UInt8)(h1:leB a b=true)(h2:leB b c=true):leB a c=true:=by grind
theorem Wy(a b:List UInt8):(leB a b||leB b a)=true:=by grind
theorem Jo(x:List UInt8):∀l,l.Pairwise (λa b=>leB a b=true)->(qH x l).Pairwise (λa b=>leB a b=true)
 |[],_=>by simp[qH]
 |y::ys,h=>by
  unfold qH
  rw[List.pairwise_cons]at h
  split
  .rename_i c;rw[En]at c;refine List.pairwise_cons.2 ⟨λz hz=>?_,List.pairwise_cons.2 h⟩;grind
  .rename_i c
   rw[En]at c
   have o:leB y x=true:=by grind
   refine List.pairwise_cons.2 ⟨λz hz=>?_,Jo x ys h.2⟩
   rcases List.mem_cons.1 ((Dc x ys).mem_iff.1 hz)with rfl|hz
   .exact o
   grind
theorem Jf:∀l,(j1 l).Pairwise (λa b=>leB a b=true)|[]=>.nil|x::xs=>Jo x _ (Jf xs)
theorem Xt(l:List (List UInt8)):l.mergeSort leB=j1 l:=by refine List.Perm.eq_of_pairwise (le:=λa b=>leB a b=true) (λa b _ _ h1 h2=>?_) (List.pairwise_mergeSort Wx Wy l) (Jf l) ((List.mergeSort_perm l leB).trans (ru l).symm);grind
def F1:AV->Option (List UInt8)|.sc (.string b)=>some b.data.toList|_=>none
theorem YJ{g:Gh}{x:AV}{v:Value}{b:List UInt8}(e:F1 x=some b)(h:VR g x v):v=encStr b:=by
 unfold F1 at e
 split at e
 .simp only[ad]at e;subst e;rw[VR.kB h]
 .cases e
def qx:List (AV×AV×Nat)->Option (List (List UInt8))|[]=>some []|e::es=>match F1 e.1,qx es with|some k,some ks=>some (k::ks)|_,_=>none
def qI(x:List UInt8):List (List UInt8)->Bool|[]=>false|y::ys=>match jA x y with|true=>true|false=>qI x ys
def qh:List (List UInt8)->Bool|[]=>true|x::xs=>match qI x xs with|true=>false|false=>qh xs
theorem JJ:∀x:List UInt8,jA x x=true|[]=>rfl|a::az=>by simp[jA,JJ az]
theorem JK{x:List UInt8}:∀{l},qI x l=false->x∉l
 |[],_,h=>by cases h
 |y::ys,e,h=>by
  unfold qI at e
  split at e
  .cases e
  .rename_i c
   rcases List.mem_cons.1 h with rfl|h
   .rw[JJ]at c;cases c
   .exact JK e h
theorem Kk:∀{l},qh l=true->l.Nodup
 |[],_=>.nil
 |x::xs,e=>by
  unfold qh at e
  split at e
  .cases e
  .rename_i hm;exact List.nodup_cons.2 ⟨JK hm,Kk e⟩
def sw(clock:Nat):List (AV×AV×Nat)->Bool|[]=>true|(_,_,b)::es=>match Nat.blt b clock with|true=>(match es.all (λe=>!Nat.beq e.2.2 b)with|true=>sw clock es|false=>false)|false=>false
theorem LI{g:Gh}{clock:Nat}:∀{es:List (AV×AV×Nat)}{o:List MapEntry},sw clock es=true->cY g es o->(∀x∈o,x.born<clock)/\(o.map (·.born)).Nodup/\o.map (·.born)=es.map (·.2.2)
 |[],[],_,_=>⟨(by grind),List.nodup_nil,rfl⟩
 |(k,v,b)::es,c::o,e,h=>by
  unfold sw at e
  split at e
  .rename_i h1
   split at e
   .rename_i h2
    obtain⟨_,_,hb,hr⟩:=h
    obtain⟨E,D,z⟩:=LI e hr
    rw[Nat.blt_eq]at h1
    refine⟨λx hx=>?_,?_,by grind⟩
    .grind
    .refine List.nodup_cons.2 ⟨λhm=>?_,D⟩;rw[z,List.mem_map]at hm;obtain⟨q,hq,e'⟩:=hm;have:=List.all_eq_true.1 h2 q hq;simp_all
   .cases e
  .cases e|[],_::_,_,h=>h.elim|(_,_,_)::_,[],_,h=>h.elim
theorem LJ{g:Gh}:∀{es:List (AV×AV×Nat)}{o:List MapEntry}{ks:List (List UInt8)},qx es=some ks->cY g es o->o.map (·.key)=ks.map encStr/\ks.length=es.length
 |[],[],ks,e,_=>by simp[qx]at e;grind
 |(k,v,n)::es,c::o,ks,e,h=>by
  unfold qx at e
  split at e
  .rename_i k' D z hk;simp only[ad]at e;subst e;obtain⟨h1,_,_,hr⟩:=h;obtain⟨F,E⟩:=LJ hk hr;exact⟨by simp only[List.map_cons,F,YJ z h1],by simp[E]⟩
  .cases e|[],_::_,_,_,h=>h.elim|(_,_,_)::_,[],_,_,h=>h.elim
end Go.AI
end

section
namespace Go.AI
theorem JL(bs:ByteArray):∀(d i:Nat)(r:List UInt8),bs.size-i=d->i<=bs.size->ByteArray.toList.loop bs i r=r.reverse++bs.data.toList.drop i
 |0,i,r,h,hi=>by
  rw[ByteArray.toList.loop]
  rw[if_neg (by omega)]
  have:i=bs.data.toList.length:=by
   have:bs.data.toList.length=bs.size:=by simp
   omega
  grind
 |d+1,i,r,h,hi=>by
  rw[ByteArray.toList.loop]
  have hlt:i<bs.size:=by omega
  rw[if_pos hlt,JL bs d (i+1) _ (by omega) (by omega)]
  have c:i<bs.data.toList.length:=by simp_all
  rw[List.drop_eq_getElem_cons c]
  have:bs.get! i=bs.data.toList[i]:=by have hs:i<bs.data.size:=hlt;simp only[ByteArray.get!,Array.getElem_toList];exact getElem!_pos bs.data i hs
  grind
theorem Jg(bs:ByteArray):bs.toList=bs.data.toList:=by rw[ByteArray.toList,JL bs bs.size 0 [] (by omega) (by omega)];simp
section
variable {P:Program}
theorem VU{t:TypeId}{s:ByteArray}{D hi:Option AV}{l u:Nat}(hu:P.underlying t=some .string)(c:eT D 0=some l)(z:eT hi s.size=some u)(o:l<=u/\u<=s.size):
 gk P t (.sc (.string s)) D hi none=some (.sc (.string (s.extract l u))):=by
 unfold gk
 simp only[hu,c,z]
 rw[if_pos o,C6]
 have e:(⟨⟨(s.data.toList.drop l).take (u-l)⟩⟩:ByteArray)=s.extract l u:=by apply ByteArray.ext;apply Array.ext';simp[List.take_drop]
 rw[e]
end
theorem Jp{sz:Nat}:∀{rows:List (List AV)},(∀r,r∈rows->r.length=sz)->chunks sz rows.length rows.flatten=rows
 |[],_=>rfl
 |r::rows,h=>by
  have h1:=h r (by simp)
  simp only[lC,chunks,List.flatten_cons]
  rw[<-h1,List.take_left',List.drop_left',h1,Jp λq hq=>h q (by simp[hq])]
  .rfl
  .rfl
end Go.AI
end
