/- A part of the proof. -/
import Derived.Test.YtkdhoflcgphcjaaGreatDoorSd
set_option linter.all false

section
namespace Go.AI
variable [Kn]
section
variable {P:Program}{w w':Wd}{ob ob':Tr ai}{nx:Nat}{h h':AHeap}{st:ad}{a:av}{ρ:Type}{A:cQ}{R:dg A.pn}{cx:Ctx}
theorem xM(h:AHeap)(o:Nat):∀(ids:List Nat),o∈ids->(∀p,h.next<=p->h.get p=none)->(eR h ids).get o=h.get o
 |[],hm,_=>by cases hm
 |p::ids,hm,hn=>by
  have rest:o∉ids->o=p:=λe=>(List.mem_cons.1 hm).resolve_right e
  unfold eR
  split
  .split
   .rename_i x hx
    by_cases e:o=p
    .subst e;rw[Tr.aQ,hx]
    .rw[Tr.aB _ _ e];exact xM h o ids ((List.mem_cons.1 hm).resolve_left e) hn
   .rename_i hx
    by_cases e:o∈ids
    .exact xM h o ids e hn
    .have:=rest e;subst this;rw[hx];cases hg:(eR h ids).get o with|none=>rfl|some y=>exact absurd (xG h ids o y hg).1 e
  .rename_i c
   by_cases e:o∈ids
   .exact xM h o ids e hn
   .have:=rest e;subst this;rw[hn o (by omega)];cases hg:(eR h ids).get o with|none=>rfl|some y=>exact absurd (xG h ids o y hg).1 e
theorem lU{o:Oper}{x:Operand}(hx:x∈o.op.operands.toList):cX (tmpsOf o) a.tm x=ev a.tm x:=by
 cases x with
 |tmp t=>
  have:(tmpsOf o).contains t=true:=by grind[List.contains_iff_mem,tmpsOf]
  simp only[cX,this,if_true]|_=>rfl
theorem R0(v:Value):gd (bh v)=[]:=by cases v<;>rfl
theorem TW{o:Oper}{tm:Tr AV}(hs:af P w ob nx h)(hl:iF o.op=true){x:Operand}(hx:x∈o.op.operands.toList):kY h {h with bU:=eR h (de o tm)} (cX (tmpsOf o) tm x):=by
 intro p hp
 show(eR h (de o tm)).get p=h.get p
 refine xM h p _ ?_ hs.new
 cases x with
 |tmp t=>
  have ht:t∈tmpsOf o:=by grind[tmpsOf]
  have:(tmpsOf o).contains t=true:=by grind
  simp only[cX,this,if_true]at hp;unfold de;grind|const v=>simp only[cX,ev,R0]at hp;cases hp|global g=>cases hp|func f=>cases hp
theorem aT.outer(hf:aT w ob h.inner w' ob' h'):aT w ob h w' ob' (h.outer h'):=
 ⟨hf.le,hf.s,hf.next,rfl,hf.b0,hf.own,hf.F,λo e=>by
  rcases CC e with e|e
  .exact .inl e
  .rcases hf.wr o e with e|e
   .cases e
   .exact .inr e,λe=>CV e,hf.bx⟩
def jQ(h:AHeap)(a n:Nat):Prop:=n<=h.next/\∀o,a<=o->o<n->h.get o=none
theorem jQ.aq{a n:Nat}(hf:jQ h a n)(hs:af P w ob nx h)(hr:aT w ob h w' ob' h'):jQ h' a n:=by refine⟨Nat.le_trans hf.1 hr.next,λo h1 h2=>?_⟩;rw[hr.b0 o (Nat.lt_of_lt_of_le h2 hf.1) λ⟨j,k,e1,e2,e3⟩=>hs.there e1 e2 e3 (hf.2 o h1 h2)];exact hf.2 o h1 h2
def vk(w:Wd)(rf:List (Nat×Nat))(i:Nat)(ids:List Nat):Prop:=∃d k o,(i,d)∈rf/\w.s d=some k/\k.obj=some o/\ids=[o]
def EX(w:Wd)(k:bY)(es:List (Nat×Bool×List Nat×Option Nat))(i:Nat)(L:List Nat)(ids:List Nat):Prop:=(∀p,p∈ids->w.F p)/\(∀j wr H,(j,wr)∈k.es->(j,true,H)∈es->i<j->∀p,p∈ids->p∉wr)/\∀j,j∈L->j<i/\∀wr,(j,wr)∈k.es->∀p,p∈ids->p∉wr
def AR(w:Wd)(k:bY)(es:List (Nat×Bool×List Nat×Option Nat)):Prop:=∀j z H d,(j,z,H,some d)∈es->∀wr,(j,wr)∈k.es->∃l,w.s d=some l/\∀p,p∈wr->l.obj=some p
theorem AR.mono{k:bY}{es:List (Nat×Bool×List Nat×Option Nat)}(h:AR w k es)(hs:∀i k,w.s i=some k->w'.s i=some k):AR w' k es:=λj z H d e wr e2=>let⟨l,a,b⟩:=h j z H d e wr e2;⟨l,hs _ _ a,b⟩
def zT(w:Wd)(H:List Nat)(wr:List Nat):Prop:=∀d,d∈H->∃k,w.s d=some k/\∀o,k.obj=some o->o∉wr
structure ga(b:List Nat)(w:Wd)(n:Nat)(k:bY)(es:List (Nat×Bool×List Nat×Option Nat))(fs:List (Nat×Bool×List Nat))(rf:List (Nat×Nat)):Prop where
 lf:∀i ids,(i,ids)∈k.fs->i<n/\(ids=[]\/(∃z L,(i,z,L)∈fs/\(z=true->EX w k es i L ids))\/vk w rf i ids)
 lc:∀i ids,(i,ids)∈k.fs->∀p,p∈ids->w.g p≠none/\¬Lp w.g p
 el:∀e,e∈es->e.1<n
 le:∀j wr,(j,wr)∈k.es->j<n/\((∀p,p∈wr->Lp w.g p)\/∃z H D,(j,z,H,D)∈es/\zT w H wr)ap:AR w k es
theorem zT.mono{H wr:List Nat}(h:zT w H wr)(hs:∀i k,w.s i=some k->w'.s i=some k):zT w' H wr:=λd e=>let⟨k,a,b⟩:=h d e;⟨k,hs _ _ a,b⟩
theorem vk.mono{rf c:List (Nat×Nat)}{i:Nat}{ids:List Nat}(hl:vk w rf i ids)(hs:∀i k,w.s i=some k->w'.s i=some k)(hr:∀p,p∈rf->p∈c):vk w' c i ids:=let⟨d,k,o,h1,h2,h3,h4⟩:=hl;⟨d,k,o,hr _ h1,hs _ _ h2,h3,h4⟩
theorem EY(hl:aK w w'){p:Nat}(h:Lp w.g p):Lp w'.g p:=let⟨x,e,i⟩:=h;⟨x,hl.l p x e i,i⟩
theorem Na(hl:aK w w'){p:Nat}(h:w.g p≠none/\¬Lp w.g p):w'.g p≠none/\¬Lp w'.g p:=⟨(hl.n p h.1).1,λe=>h.2 ((hl.n p h.1).2 e)⟩
theorem ga.mono{b:List Nat}{n n':Nat}{k:bY}{es:List (Nat×Bool×List Nat×Option Nat)}{fs:List (Nat×Bool×List Nat)}{rf:List (Nat×Nat)}(hb:ga b w n k es fs rf)(hl:aK w w')(hs:∀i k,w.s i=some k->w'.s i=some k)(hn:n<=n'):ga b w' n' k es fs rf:=⟨λi ids e=>⟨Nat.lt_of_lt_of_le (hb.lf i ids e).1 hn,(hb.lf i ids e).2.imp id (.imp (λ⟨z,L,h1,h2⟩=>⟨z,L,h1,λhz=>⟨λp hp=>hl.F p ((h2 hz).1 p hp),(h2 hz).2⟩⟩) λh=>h.mono hs λ_ h=>h)⟩,λi ids e p q=>Na hl (hb.lc i ids e p q),λe he=>Nat.lt_of_lt_of_le (hb.el e he) hn,λj wr e=>⟨Nat.lt_of_lt_of_le (hb.le j wr e).1 hn,(hb.le j wr e).2.imp (λh p q=>EY hl (h p q)) λ⟨z,H,D,h1,h2⟩=>⟨z,H,D,h1,h2.mono hs⟩⟩,hb.ap.mono hs⟩
theorem Dm:∀{L:List Nat}{x:Nat},l9 L x=true->x∈L
 |[],_,h=>by cases h
 |y::ys,x,h=>by
  simp only[l9,Bool.or_eq_true]at h
  rcases h with h|h
  .rw[Nat.eq_of_beq_eq_true h];exact List.mem_cons_self ..
  .exact List.mem_cons_of_mem _ (Dm h)
theorem K6{b:List Nat}{n:Nat}{k:bY}{es:List (Nat×Bool×List Nat×Option Nat)}{fs:List (Nat×Bool×List Nat)}{rf:List (Nat×Nat)}(hb:ga b w n k es fs rf)(hs:vP b fs es rf=true):mU b k=true:=by
 unfold mU
 rw[List.all_eq_true]
 rintro⟨i,ids⟩hi
 rw[List.all_eq_true]
 rintro⟨j,wr⟩hj
 simp only[Bool.or_eq_true]
 have apart:(∀p,p∈ids->p∉wr)->(ids.all λo=>!wr.contains o)=true:=λh=>by grind
 rcases(hb.le j wr hj).2 with h1|⟨z,H,D,h2,h3⟩
 .exact .inr (apart λo ho e=>(hb.lc i ids hi o ho).2 (h1 o e))
 unfold vP at hs
 split at hs
 .cases h2
 rw[List.all_eq_true]at hs
 have hs:=hs _ h2
 rw[aZ,List.all_eq_true,List.all_eq_true]at hs
 rcases(hb.lf i ids hi).2 with rfl|⟨z',L,h1,h4⟩|⟨d,u,m,h1,h4,h5,rfl⟩
 .grind
 .have:=hs.1 _ h1
  simp only[Bool.or_eq_true,aZ]at this
  rcases this with(h5|h5)|⟨h5,⟨h6,c⟩|h6⟩
  .grind
  .grind
  .have h6:z=true:=h6;subst h6;exact .inr (apart ((h4 h5).2.1 j wr (H,D) hj h2 (by simpa[Nat.blt_eq]using c)))
  .exact .inr (apart (((h4 h5).2.2 j (Dm h6)).2 wr hj))
 .have:=hs.2 _ h1
  simp only[Bool.or_eq_true]at this
  rcases this with(h6|h6)|h6
  .grind
  .grind
  .obtain⟨q,c,C⟩:=h3 d (Dm h6);grind
theorem af.abm(hs:af P w ob nx h){i:Nat}(hi:i<nx):af P w (ob.put i .gone) nx h:=by
 have c:∀j x,x≠.gone->(ob.put i .gone).get j=some x->ob.get j=some x:=by grind[Tr.aQ,Tr.aB]
 have m:∀j,live (ob.put i .gone) j->live ob j:=λj⟨x,h1,h2⟩=>⟨x,c j x h2 h1,h2⟩;refine⟨hs.g,λj t cs e=>hs.box j t cs (c _ _ (by simp) e),λj t rows l e=>hs.arr j t rows l (c _ _ (by simp) e),λj s l e=>hs.ba j s l (c _ _ (by simp) e),λa b k l o h1 h2=>hs.inj a b k l o (m _ h1) (m _ h2),hs.lt,?_,hs.bJ,hs.new,λj t rows l e=>hs.mp j t rows l (c _ _ (by simp) e),λj t rows l e=>hs.tr j t rows l (c _ _ (by simp) e)⟩;intro j hj;exact⟨(hs.nx j hj).1,by rw[Tr.aB _ _ (by omega)];exact(hs.nx j hj).2⟩
theorem u1{i:Nat}{o:Nat}(ho:Ow w (ob.put i .gone) o):∃j k,j≠i/\live ob j/\w.s j=some k/\k.obj=some o:=by
 obtain⟨j,k,⟨x,h1,h2⟩,h3,h4⟩:=ho
 have e:j≠i:=by grind[Tr.aQ]
 rw[Tr.aB _ _ e]at h1;exact⟨j,k,e,⟨x,h1,h2⟩,h3,h4⟩
theorem af.hidden(hs:af P w ob nx h){i:Nat}{x:ai}(hi:ob.get i=some x)(j:wx x=true):∃lk,w.s i=some lk:=by
 have:=hs.fO hi
 cases x<;>try(cases j;done)
 .obtain⟨o,c,sh,b1,_⟩:=this;grind
 .obtain⟨_,_,_,⟨b1,_⟩|⟨o,ver,mv,c,ex,sh,cap,b1,_⟩⟩:=this
  .grind
  grind
theorem af.L6{nx':Nat}(hs:af P w ob nx h){i:Nat}{x:ai}(hi:ob.get i=some x)(N:wx x=true)(c:af P w' ob' nx' h')(hf:aT w (ob.put i .gone) h w' ob' h'):
 af P w' (ob'.put i x) nx' h'/\aT w ob h w' (ob'.put i x) h':=by
 obtain⟨lk,b1⟩:∃lk,w.s i=some lk:=hs.hidden hi N
 have J:live ob i:=⟨_,hi,by rintro rfl;cases N⟩
 have E:∀o,lk.obj=some o->o<h.next:=λo e=>hs.lt i _ o b1 e
 have D:∀o,lk.obj=some o->¬Ow w (ob.put i .gone) o:=λo q e=>by obtain⟨j,k,e1,e2,e3,e4⟩:=u1 e;exact e1 (hs.inj j i k _ o e2 J e3 b1 e4 q)
 have I:∀o,lk.obj=some o->¬Ow w' ob' o:=λo q e=>(hf.own o e).elim (λe=>absurd (E o q) (by omega)) (D o q)
 have C:w'.s i=some lk:=hf.s _ _ b1
 have Q:cN P w' h' i x:=(hs.fO hi).move hf.le hf.s λk o' h1 h2=>by rw[b1]at h1;cases h1;exact⟨hf.b0 o' (E _ h2) (D _ h2),λf=>(hf.F o' f).elim id λe=>e.elim (λe=>absurd (E _ h2) (by omega)) λe=>absurd e (D _ h2)⟩
 have m:∀j z,(ob'.put i x).get j=some z->cN P w' h' j z:=by
  intro j z hx
  by_cases e:j=i
  .simp_all[Tr.aQ]
  .rw[Tr.aB _ _ e]at hx;exact c.fO hx
 have u:∀j,j≠i->live (ob'.put i x) j->live ob' j:=λj e⟨x,h1,h2⟩=>⟨x,by rw[Tr.aB _ _ e]at h1;exact h1,h2⟩
 have O:∀j k p,j≠i->live (ob'.put i x) j->w'.s j=some k->k.obj=some p->lk.obj≠some p:=λj k p e1 e2 e3 e4 e5=>I p e5 ⟨j,k,u j e1 e2,e3,e4⟩
 refine⟨⟨c.g,λj t cs e=>m j _ e,λj t rows l e=>m j _ e,λj s l e=>m j _ e,?_,c.lt,?_,c.bJ,c.new,λj t rows l e=>m j _ e,λj t rows l e=>m j _ e⟩,⟨hf.le,hf.s,hf.next,hf.floor,?_,?_,?_,?_,hf.dA,?_⟩⟩
 .intro M L k l p h1 h2 h3 h4 h5 h6
  by_cases e1:M=i
  .grind
  .by_cases e2:L=i
   .grind
   .exact c.inj M L k l p (u _ e1 h1) (u _ e2 h2) h3 h4 h5 h6
 .intro j hj
  have e:j≠i:=by rintro rfl;rw[(c.nx j hj).1]at C;cases C
  exact⟨(c.nx j hj).1,by rw[Tr.aB _ _ e];exact(c.nx j hj).2⟩
 .intro p hp hn;exact hf.b0 p hp λe=>by obtain⟨j,k,_,e2,e3,e4⟩:=u1 e;exact hn ⟨j,k,e2,e3,e4⟩
 .rintro p⟨j,k,e1,e2,e3⟩
  by_cases e:j=i
  .subst e;rw[C]at e2;cases e2;exact .inr ⟨j,_,J,b1,e3⟩
  .rcases hf.own p ⟨j,k,u j e e1,e2,e3⟩with h1|h1
   .grind
   .obtain⟨G,k',_,h2,h3,h4⟩:=u1 h1;exact .inr ⟨G,k',h2,h3,h4⟩
 .intro p f
  rcases hf.F p f with h1|h1|h1
  .grind
  .grind
  .obtain⟨G,k',_,h2,h3,h4⟩:=u1 h1;exact .inr (.inr ⟨G,k',h2,h3,h4⟩)
 .intro p e
  rcases hf.wr p e with h1|h1|h1|h1
  .grind
  .grind
  .obtain⟨G,k',_,h2,h3,h4⟩:=u1 h1;exact .inr (.inr (.inl ⟨G,k',h2,h3,h4⟩))
  grind
 .intro j t1 K e
  by_cases e1:j=i
  .simp_all[Tr.aQ]
  .obtain⟨c1,h1⟩:=hf.bx j t1 K (by rw[Tr.aB _ _ e1];exact e);simp_all[Tr.aB]
def WrH(w:Wd)(ob:Tr ai)(h:AHeap)(H:List Nat)(h':AHeap):Prop:=∀p,p∈h'.wr->p∈h.wr\/h.next<=p\/(∃i k,i∉H/\live ob i/\w.s i=some k/\k.obj=some p)\/Lp h.get p
def OpH(P:Program)(A:cQ)(H:List Nat)(w:Wd)(h:AHeap)(S:ad)(o:Oper)(k:SV->ad->Option ρ)(kp:TypeId->List AV->ad->Option ρ)(r:ρ)(cx:Ctx)(cm:bu)(ρ':Operand->AV):Prop:=(∃m w' c h' v y,af P w' c.ob c.nx h'/\aT w S.ob h w' c.ob h'/\c.tm=S.tm/\c.r=S.r/\k v c=some r/\cu P (bz P m) cx ρ' o cm h=some (.val y cm h')/\RV P w' v y/\(H=[]->gA A S o=true->Eg h h')/\WrH w S.ob h H h')\/(∃m w' c h' t row y,af P w' c.ob c.nx h'/\aT w S.ob h w' c.ob h'/\c.tm=S.tm/\c.r=S.r/\kp t row c=some r/\cu P (bz P m) cx ρ' o cm h=some (.aE y h')/\gM P t row y)
theorem J9(I:eA P A R){o:Oper}{ρ':Operand->AV}{r:ρ}(cx:Ctx)(cm:bu):∀(H:List Nat){S:ad}{k:SV->ad->Option ρ}{kp:TypeId->List AV->ad->Option ρ},af P w S.ob S.nx h->(∀x,x∈o.op.operands.toList->RV P w (bw S.tm x) (ρ' x))->
 tz H S (λst k kp=>gX P A R kp o st k) k kp=some r->OpH P A H w h S o k kp r cx cm ρ'/\∀j,j∈H->∃x,S.ob.get j=some x/\wx x=true
 |[],S,k,kp,hs,c,hr=>by
  refine⟨?_,λj e=>by cases e⟩
  rcases L5 I hs c hr cx cm with⟨m,w',q,h',v,y,q1,q2,q3,D,C,z,u,K⟩|h1
  .exact .inl ⟨m,w',q,h',v,y,q1,q2,q3,D,C,z,u,λ_=>K,λp e=>(q2.wr p e).imp id (.imp id (.imp (λ⟨i,k,e1,e2,e3⟩=>⟨i,k,by simp,e1,e2,e3⟩) id))⟩
  .exact .inr h1
 |j::js,S,k,kp,hs,c,hr=>by
  unfold tz at hr
  split at hr
  .rename_i x hj
   split at hr
   case h_2=>cases hr
   rename_i E
   have G:=hs.oZ hj
   have L:live S.ob j:=⟨_,hj,by rintro rfl;cases E⟩
   obtain⟨h1,h2⟩:=J9 I cx cm js (S:={S with ob:=S.ob.put j .gone}) (hs.abm G) c hr
   have F:∀i,live (S.ob.put j .gone) i->i≠j/\live S.ob i:=λi⟨x,e1,e2⟩=>by
    have e:i≠j:=by rintro rfl;rw[Tr.aQ]at e1;cases e1;exact e2 rfl
    rw[Tr.aB _ _ e]at e1;exact⟨e,x,e1,e2⟩
   refine⟨?_,λi e=>by
    rcases List.mem_cons.1 e with rfl|e
    .exact⟨x,hj,E⟩
    .obtain⟨x',h3,h4⟩:=h2 i e
     have e2:i≠j:=by rintro rfl;rw[Tr.aQ]at h3;cases h3;cases h4
     rw[Tr.aB _ _ e2]at h3;exact⟨x',h3,h4⟩⟩
   rcases h1 with⟨m,w',q,h',v,y,q1,q2,q3,D,C,z,u,_,J⟩|⟨m,w',q,h',t',row,y,q1,q2,q3,D,C,z,u⟩
   .obtain⟨c1,c2⟩:=hs.L6 hj E q1 q2
    refine .inl ⟨m,w',{q with ob:=q.ob.put j x},h',v,y,c1,c2,q3,D,C,z,u,(λe=>by cases e),λp e=>?_⟩
    rcases J p e with e|e|⟨i,k,e1,e2,e3,e4⟩|e
    .exact .inl e
    .exact .inr (.inl e)
    .obtain⟨e5,M⟩:=F i e2;exact .inr (.inr (.inl ⟨i,k,by simp[e1,e5],M,e3,e4⟩))
    .exact .inr (.inr (.inr e))
   .obtain⟨c1,c2⟩:=hs.L6 hj E q1 q2;exact .inr ⟨m,w',{q with ob:=q.ob.put j x},h',t',row,y,c1,c2,q3,D,C,z,u⟩
  .cases hr
theorem Vs{v:SV}{x:AV}(hv:RV P w v x)(hf:NV v=true):∀p,p∈gd x->w.F p:=by
 cases v with
 |sc v=>cases hv;intro p hp;cases hp
 |dl t rows=>cases hv with|dl hr=>cases hr with|sl _ _ c _ _ _ _ _ _ _=>intro p hp;rw[List.mem_singleton.1 hp];exact c|_=>intro p hp;cases hp
 |cI t r o=>cases hv with|cI hp=>cases hp with|cr _=>intro p hp;cases hp|ref c _ _ _ _ _ _=>intro p hp;rw[List.mem_singleton.1 hp];exact c
 |md t rows=>cases hv with|md hr=>cases hr with|mk _ c _ _=>intro p hp;rw[List.mem_singleton.1 hp];exact c
 |pb t cs o=>cases hv with|pb c _ _ _ _ _ _ _=>intro p hp;rw[List.mem_singleton.1 hp];exact c
 |_=>cases hf
theorem It(hs:bE P cx w st a){o:Oper}(hf:ow st o=true):∀p,p∈de o a.tm->w.F p:=by
 intro p hp
 unfold de at hp
 split at hp
 .obtain⟨t,h1,h2⟩:=List.mem_flatMap.1 hp
  simp only[tmpsOf,List.mem_filterMap]at h1
  obtain⟨x,h3,h4⟩:=h1
  have hx:x=.tmp t:=by grind
  subst hx;unfold ow at hf;rw[List.all_eq_true]at hf;exact Vs (er hs.tm _) (hf _ h3) p h2
 .cases hp
theorem Iu{o ver n off:Nat}{new:List AV}{h':AHeap}(e:hT h o ver n off new=some h'):∀p,p∈h'.wr->p∈h.wr\/p=o:=by
 unfold hT at e
 split at e
 .split at e
  .cases e;intro p hp;have hp:p∈jj h.wr h.floor o:=hp;grind[jj]
  .cases e
 .cases e
theorem Rz(hs:bE P cx w st a){o:Oper}(hf:oi st o=true){D:Rec}{cm cm':bu}{y:AV}{h0 h':AHeap}(z:h0.wr=[])(he:cu P D cx (cX (tmpsOf o) a.tm) o cm h0=some (.val y cm' h')):∀p,p∈h'.wr->¬w.F p:=by
 unfold oi at hf
 split at hf
 .rename_i t x v j
  split at hf
  .rename_i i off hx
   split at hf
   .rename_i t' cs hb
    obtain⟨u,c,sh,b1,b2,b3,G,C⟩:=hs.h.box i t' cs hb
    have hr:=er (P:=P) (w:=w) hs.tm x
    rw[hx]at hr
    have hm:x∈o.op.operands.toList:=by rw[j];simp[Op.operands]
    rw[<-lU (a:=a) hm]at hr
    generalize hy:cX (tmpsOf o) a.tm x=E at hr
    cases hr with
    |ref h1=>
     rw[b1]at h1;cases h1
     simp only[cu,aJ,j,hy,oG]at he
     cases m:bj P t with
     |none=>grind
     |some s=>
      rw[m]at he
      simp only at he
      split at he
      .simp_all
      .rename_i q hq
       cases he
       split at hq
       .cases hw:hT h0 u 0 c.length off (aO (cX (tmpsOf o) a.tm v))with
        |none=>grind
        |some h1=>
         rw[hw]at hq;cases hq
         intro p hp
         rcases Iu hw p hp with e|rfl
         .grind
         .exact C
       .cases hq
      all_goals first
       |cases he
       |(rename_i q hq;exfalso;split at hq
         .cases hw:hT h0 u 0 c.length off (aO (cX (tmpsOf o) a.tm v))with|none=>rw[hw]at hq;cases hq|some h1=>rw[hw]at hq;cases hq
         .cases hq)
   .cases hf
  .cases hf
 .cases hf
theorem xv{ops:Array Oper}{o:Oper}{rest:List Oper}{i aj:Nat}{bk:bY}{j:Rec}(hw:cf ops o a.tm=some true){c:bY}{gh:Nat}{a':av}
 (h:(aX o.op=true/\gh=aj+1/\c=bk/\∃v x,aJ P (cX (tmpsOf o) a.tm) o {bU:=.leaf,next:=aj,floor:=0,wr:=[]}=some (.val v,{bU:=Tr.leaf.put aj x,next:=aj+1,floor:=0,wr:=[]})/\({a with h:={a.h with bU:=a.h.bU.put aj x}}:av).put cx.tn o.dst v=some a')\/(aX o.op=false/\bN o.op=true/\gh=aj/\c={bk with fs:=(i,de o a.tm)::bk.fs}/\∃v,aJ P (cX (tmpsOf o) a.tm) o {a.h with bU:=eR a.h (de o a.tm)}=some (.val v,{a.h with bU:=eR a.h (de o a.tm)})/\a.put cx.tn o.dst v=some a')\/(aX o.op=false/\bN o.op=false/\gh=aj/\∃v cm h',c={bk with es:=(i,h'.wr)::bk.es}/\cu P j cx (cX (tmpsOf o) a.tm) o .none a.h.inner=some (.val v cm h')/\({a with h:=a.h.outer h'}:av).put cx.tn o.dst v=some a')):
 ey P j cx ops (o::rest) i aj bk a=ey P j cx ops rest (i+1) gh c a':=by
 rw[ey]
 simp only[hw]
 rcases h with⟨h1,rfl,rfl,v,x,h2,h3⟩|⟨h1,h2,rfl,rfl,v,h3,h4⟩|⟨h1,h2,rfl,v,cm,h',rfl,h3,h4⟩
 .simp only[h1,if_true,h2];have:({bU:=Tr.leaf.put aj x,next:=aj+1,floor:=0,wr:=[]}:AHeap).get aj=some x:=Tr.aQ ..;grind
 .grind
 grind
theorem xx{ops:Array Oper}{o:Oper}{rest:List Oper}{i aj:Nat}{bk:bY}{b:List Nat}{j:Rec}(hw:cf ops o a.tm=some true){c:bY}{gh:Nat}{a':av}
 (h:(aX o.op=true/\gh=aj+1/\c=bk/\∃v x,aJ P (cX (tmpsOf o) a.tm) o {bU:=.leaf,next:=aj,floor:=0,wr:=[]}=some (.val v,{bU:=Tr.leaf.put aj x,next:=aj+1,floor:=0,wr:=[]})/\({a with h:={a.h with bU:=a.h.bU.put aj x}}:av).put cx.tn o.dst v=some a')\/(aX o.op=false/\bN o.op=true/\gh=aj/\c={bk with fs:=(i,de o a.tm)::bk.fs}/\∃v,aJ P (cX (tmpsOf o) a.tm) o {a.h with bU:=eR a.h (de o a.tm)}=some (.val v,{a.h with bU:=eR a.h (de o a.tm)})/\a.put cx.tn o.dst v=some a')\/(aX o.op=false/\bN o.op=false/\gh=aj/\∃v cm h',c={bk with es:=(i,h'.wr)::bk.es}/\cu P j cx (cX (tmpsOf o) a.tm) o .none a.h.inner=some (.val v cm h')/\({a with h:=a.h.outer h'}:av).put cx.tn o.dst v=some a')):
 ez P j cx ops b (o::rest) i aj bk a=ez P j cx ops b rest (i+1) gh c a':=by
 rw[ez]
 simp only[hw]
 rcases h with⟨h1,rfl,rfl,v,x,h2,h3⟩|⟨h1,h2,rfl,rfl,v,h3,h4⟩|⟨h1,h2,rfl,v,cm,h',rfl,h3,h4⟩
 .simp only[h1,if_true,h2];have:({bU:=Tr.leaf.put aj x,next:=aj+1,floor:=0,wr:=[]}:AHeap).get aj=some x:=Tr.aQ ..;grind
 .grind
 grind
def FF(P:Program)(j:Rec)(cx:Ctx)(ops:Array Oper)(b:List Nat)(o:Oper)(i aj:Nat)(bk:bY)(a:av)(gh:Nat)(c:bY)(a':av):Prop:=(∀rest,ey P j cx ops (o::rest) i aj bk a=ey P j cx ops rest (i+1) gh c a')/\∀rest,ez P j cx ops b (o::rest) i aj bk a=ez P j cx ops b rest (i+1) gh c a'
def mg(st:ad)(o:Oper)(i:Nat)(L:List Nat)(fs:List (Nat×Bool×List Nat)):List (Nat×Bool×List Nat):=match bN o.op&&iF o.op,mc st o with|true,none=>(i,ow st o,L)::fs|_,_=>fs
def l3(st:ad)(o:Oper)(i:Nat)(rf:List (Nat×Nat)):List (Nat×Nat):=match bN o.op&&iF o.op,mc st o with|true,some j=>(i,j)::rf|_,_=>rf
theorem RA(hs:bE P cx w st a){o:Oper}{j:Nat}(hj:mc st o=some j)(hl:iF o.op=true):∃k p,w.s j=some k/\k.obj=some p/\de o a.tm=[p]:=by
 unfold mc at hj
 split at hj
 .rename_i t x c
  split at hj
  .rename_i i off hx
   cases hj
   have hr:=er hs.tm x
   rw[hx]at hr
   cases x with
   |tmp d=>
    generalize hy:ev a.tm (.tmp d)=y at hr
    cases hr with
    |ref h1=>
     refine⟨_,_,h1,rfl,?_⟩
     unfold de
     rw[if_pos hl]
     have:tmpsOf o=[d]:=by unfold tmpsOf;rw[c];rfl
     simp_all[List.flatMap_cons,List.flatMap_nil,List.append_nil,gd]
   |const v=>
    exfalso
    simp only[bw]at hx
    cases v with
    |func fn q c1=>cases fn with|func m=>grind[fL]|_=>cases hx
    |_=>cases hx
   |global g=>cases hx|func f=>cases hx
  .rename_i i u off hx
   cases hj
   have hr:=er hs.tm x
   rw[hx]at hr
   cases x with
   |tmp d=>
    generalize hy:ev a.tm (.tmp d)=y at hr
    cases hr with
    |cV h1 _=>
     refine⟨_,_,h1,rfl,?_⟩
     unfold de
     rw[if_pos hl]
     have:tmpsOf o=[d]:=by unfold tmpsOf;rw[c];rfl
     simp_all[List.flatMap_cons,List.flatMap_nil,List.append_nil,gd]
   |const v=>
    exfalso
    simp only[bw]at hx
    cases v with
    |func fn q c1=>cases fn with|func m=>grind[fL]|_=>cases hx
    |_=>cases hx
   |global g=>cases hx|func f=>cases hx
  .cases hj
 .cases hj
def Seen(ob:Tr ai):SV->Prop|.ref i _=>live ob i|.own i=>live ob i|.cV i _ _=>live ob i|.om i=>live ob i|.md _ _=>True|.pb _ _ _=>True|.cI _ _ _=>True|.dl _ _=>True|.sc _=>True|_=>False
theorem TX(hs:af P w ob nx h){v:SV}{x:AV}(hv:RV P w v x)(hk:Seen ob v):∀p,p∈gd x->w.g p≠none/\¬Lp w.g p:=by
 have own:∀{i:Nat}{k:Lk}{o:Nat},live ob i->w.s i=some k->k.obj=some o->w.g o≠none/\¬Lp w.g o:=λh1 h2 h3=>by have:=hs.lv h1 h2 h3;rw[show w.g=h.get from funext hs.g];exact⟨hs.there h1 h2 h3,this⟩
 have m:∀{o v mv fz:Nat}{c:List AV}{el:TypeId}{ex sh:Bool},w.g o=some (.cells v mv c fz el ex sh)->w.g o≠none/\¬Lp w.g o:=λe=>⟨by rw[e];simp,by rintro⟨x,e1,e2⟩;rw[e]at e1;cases e1;cases e2⟩
 cases v with
 |sc v=>cases hv;intro p hp;cases hp
 |dl t rows=>cases hv with|dl hr=>cases hr with|sl _ _ _ q _ _ _ _ _ _=>intro p hp;rw[List.mem_singleton.1 hp];exact m q|_=>intro p hp;cases hp
 |own i=>cases hv with|ck _=>intro p hp;cases hp|bX e=>intro p hp;rw[List.mem_singleton.1 hp];exact own hk e rfl
 |ref i o=>cases hv with|ref e=>intro p hp;rw[List.mem_singleton.1 hp];exact own hk e rfl
 |cV i j o=>cases hv with|cV e _=>intro p hp;rw[List.mem_singleton.1 hp];exact own hk e rfl
 |cI t r o=>cases hv with|cI hp=>cases hp with|cr _=>intro p hp;cases hp|ref _ q _ _ _ _ _=>intro p hp;rw[List.mem_singleton.1 hp];exact m q
 |om i=>cases hv with|om e=>intro p hp;rw[List.mem_singleton.1 hp];exact own hk e rfl
 |md t rows=>cases hv with|md hr=>cases hr with|mk _ _ c _=>intro p hp;rw[List.mem_singleton.1 hp];exact⟨by rw[c];simp,by rintro⟨x,e1,e2⟩;rw[c]at e1;cases e1;cases e2⟩
 |pb t cs o=>cases hv with|pb _ q _ _ _ _ _ _=>intro p hp;rw[List.mem_singleton.1 hp];exact m q
 |_=>exact hk.elim
theorem Sx{kp:TypeId->List AV->ad->Option ρ}{o:Oper}{k:ad->Option ρ}{r:ρ}(hr:j8 P A R kp o st k=some r)(hF:bN o.op=true)(hl:iF o.op=true):∀x,x∈o.op.operands.toList->Seen st.ob (bw st.tm x):=by
 unfold j8 at hr
 have q:∀{i:Nat}{x:ai},st.ob.get i=some x->x≠.gone->live st.ob i:=λh1 h2=>⟨_,h1,h2⟩
 have h1:gX P A R kp o st (λv st=>k (cP st o.dst v))=some r:=by
  split at hr
  .rename_i h;rw[h]at hl;cases hl
  .rename_i h;rw[h]at hl;cases hl
  .rename_i h;rw[h]at hl;cases hl
  .grind
 clear hr
 unfold gX at h1
 cases p:o.op with
 |load t x=>
  rw[p]at h1
  intro y hy
  have:y=x:=by simpa[Op.operands]using hy
  subst this
  simp only[vN]at h1
  split at h1
  .rename_i i off _ _ m
   rw[m]
   split at h1
   .rename_i hb;exact q hb (by simp)
   .cases h1
  .rename_i m;rw[m];trivial
  .rename_i i j off _ _ m
   rw[m]
   split at h1
   .rename_i hb;exact q hb (by simp)
   .cases h1
  .rename_i m;rw[m];trivial
  .cases h1
 |convert s d x=>
  rw[p]at h1
  intro y hy
  have:y=x:=by simpa[Op.operands]using hy
  subst this
  simp only at h1
  split at h1
  .rename_i m;rw[m];trivial
  .rename_i m;rw[m];trivial
  .rename_i m;rw[m];trivial
  .rename_i i off m
   rw[m]
   split at h1
   .rename_i hb _ _;exact q hb (by simp)
   .rename_i hb _ _;exact q hb (by simp)
   .cases h1
  .rename_i i m
   rw[m]
   split at h1
   .rename_i hb;exact q hb (by simp)
   .cases h1
  .cases h1
 |lookup t x i ok=>
  rw[p]at h1
  intro y hy
  simp only[zK]at h1
  split at h1
  .rename_i e rows s _ hm hi
   have hy:y=x\/y=i:=by simpa[Op.operands]using hy
   rcases hy with rfl|rfl
   .unfold ni at hm
    split at hm
    .rename_i m;rw[m];trivial
    .rename_i j m
     rw[m]
     split at hm
     .rename_i hb;exact q hb (by simp)
     .cases hm
    .cases hm
   .rw[hi];trivial
  .cases h1
 |call c=>
  rw[p]at h1 hF
  obtain⟨callee,args,C⟩:=c
  cases callee with
  |invoke _ _=>cases hF
  |value f=>cases hF
  |builtin b=>
   simp only at h1
   intro y hy
   have hy:y∈args.toList:=by simpa[Op.operands,Call.operands]using hy
   generalize u:args.toList=l at h1 hy
   have one:∀{x:SV},l.map (bw st.tm)=[x]->bw st.tm y=x:=by intro x e;cases l with|nil=>cases e|cons z D=>simp_all
   unfold xS at h1
   split at h1
   .cases hF
   .rename_i x hx
    rw[one hx]
    split at h1
    .rename_i n t hn _
     unfold l8 at hn
     split at hn
     .trivial
     .trivial
     .split at hn
      .rename_i hb;exact q hb (by simp)
      .rename_i hb;exact q hb (by simp)
      .rename_i hb;exact q hb (by simp)
      .cases hn
     .trivial
     .cases hn
    .cases h1
   .rename_i i hx
    rw[one hx]
    split at h1
    .rename_i hb;exact q hb (by simp)
    .cases h1
   .rename_i hx;rw[one hx];trivial
   .cases hF
   .cases hF
   .cases hF
   .cases h1
 |_=>rw[p]at hl;cases hl
theorem Iv{ob:Tr ai}{j:Nat}:∀{es:List (Nat×Bool×List Nat×Option Nat)},j∈jI ob es->∃z H d t rows,(j,z,H,some d)∈es/\ob.get d=some (.arr t rows false)
 |[],h=>by cases h
 |e::es,h=>by
  have old:j∈jI ob es->∃z H d t rows,(j,z,H,some d)∈e::es/\ob.get d=some (.arr t rows false):=λh=>by obtain⟨z,H,d,t,rows,h1,h2⟩:=Iv h;exact⟨z,H,d,t,rows,List.mem_cons_of_mem _ h1,h2⟩
  unfold jI at h
  split at h
  .rename_i d hd
   split at h
   .rename_i t rows hb
    rcases List.mem_cons.1 h with rfl|h
    .exact⟨e.2.1,e.2.2.1,d,t,rows,by rw[<-hd];exact List.mem_cons_self ..,hb⟩
    .exact old h
   .exact old h
  .exact old h
theorem Sy(hs:bE P cx w st a){b:List Nat}{i:Nat}{bk:bY}{es:List (Nat×Bool×List Nat×Option Nat)}{fs:List (Nat×Bool×List Nat)}{rf:List (Nat×Nat)}{ids:List Nat}{j:Nat}(hb:ga b w i bk es fs rf)(hj:j∈jI st.ob es)(hF:∀p,p∈ids->w.F p):
 j<i/\∀wr,(j,wr)∈bk.es->∀p,p∈ids->p∉wr:=by
 obtain⟨z,H,d,t,rows,h1,h2⟩:=Iv hj
 refine⟨hb.el _ h1,λwr h3 p h4 h5=>?_⟩
 obtain⟨l,h6,m⟩:=hb.ap j z H d h1 wr h3
 have m:=m p h5
 obtain⟨_,_,_,⟨q,_⟩|⟨o,ver,mv,c,ex,sh,cap,q,_,_,_,_,_,_,u⟩⟩:=hs.h.arr d t rows false h2
 .rw[q]at h6;cases h6;cases m
 .rw[q]at h6;cases h6;cases m;grind
theorem R1{h:AHeap}{s x:TypeId}{u v y:AV}{h':AHeap}(e:ky P h s x u v=some (y,h')):∀p,p∈h'.wr->p∈h.wr\/p∈gd y:=by
 have wr:∀{o:Nat}{z:bT},∀p,p∈(h.aG o z).wr->p∈h.wr\/p=o:=λp hp=>mC hp
 unfold ky at e
 repeat' split at e
 all_goals first|(cases e;done)|(cases e;exactλp hp=>.inl hp)|(cases e;exactλp hp=>(wr p hp).imp id λe=>by rw[e];exact List.mem_singleton.2 rfl)|(rename_i hw;cases e;exactλp hp=>(Iu hw p hp).imp id λe=>by rw[e];exact List.mem_singleton.2 rfl)
theorem RB{h:AHeap}{s x:TypeId}{u v:AV}{r:AV×AHeap}(e:oe P h s x u v=some r):∀p,p∈r.2.wr->p∈h.wr\/p∈gd r.1:=by
 unfold oe at e
 split at e
 .grind[R1]
 .unfold xR at e
  repeat' split at e
  all_goals first|(cases e;done)|(cases e;exactλp hp=>.inl hp)
theorem Sz{m:Rec}{o:Oper}{ρ':Operand->AV}{cm cm':bu}{y:AV}{h h':AHeap}{v:SV}{d:Nat}(hv:RV P w v y)(hd:rG o v=some d)(he:cu P m cx ρ' o cm h=some (.val y cm' h')):∃l,w.s d=some l/\∀p,p∈h'.wr->p∈h.wr\/l.obj=some p:=by
 unfold rG at hd
 split at hd
 .rename_i args c i
  split at hd
  .rename_i u
   cases hd
   have key:∀p,p∈h'.wr->p∈h.wr\/p∈gd y:=by
    simp only[cu,aJ,i,fE]at he
    have hb:∀r,fe P h .append c o.type (args.toList.map ρ')=some r->∃j,r.1=.val j/\∀p,p∈r.2.wr->p∈h.wr\/p∈gd j:=by
     intro r hr
     generalize args.toList.map ρ'=l at hr
     unfold fe at hr
     split at hr<;>try(first|(cases hr;done)|(rename_i e _;cases e;done)|(rename_i e;cases e;done))
     rename_i x z _
     split at hr
     .rename_i s t _ _;cases hz:oe P h s t x z with|none=>grind|some q=>grind[RB]
     .cases hr
    cases hq:fe P h .append c o.type (args.toList.map ρ')with|none=>grind|some q=>grind
   cases hv with|ck h1=>exact⟨_,h1,λp hp=>(key p hp).imp id λe=>by cases e⟩|bX h1=>exact⟨_,h1,λp hp=>(key p hp).imp id λe=>by rw[List.mem_singleton.1 e];rfl⟩
  .cases hd
 .cases hd
theorem L7{ops:Array Oper}{w0:Wd}{dT:Tr ai}{h0:AHeap}{n1 i aj:Nat}{es:List (Nat×Bool×List Nat×Option Nat)}{fs:List (Nat×Bool×List Nat)}{rf:List (Nat×Nat)}{bk:bY}{b:List Nat}{o:Oper}{L:List Nat}(hLL:∀j,j∈L->j∈jI st.ob es)(hAF:(aX o.op||bN o.op)=true)(hs:bE P cx w st a)(hd:iO cx.tn o.dst)(S:aT w0 dT h0 w st.ob a.h)(xb:h0.next<=aj)
 (q:jQ a.h aj n1)(han:aX o.op=true->aj<n1)(hb:ga b w i bk es fs rf){k:ad->Option ρ}{r:ρ}(hr:j8 P A R (λ_ _ _=>none) o st k=some r)(hw:cf ops o a.tm=some true):
 ∃w' st' a' E,(∀K,FF P K cx ops b o i aj bk a (if aX o.op then aj+1 else aj) E a')/\bE P cx w' st' a'/\aT w0 dT h0 w' st'.ob a'.h/\jQ a'.h (if aX o.op then aj+1 else aj) n1/\ga b w' (i+1) E es (mg st o i L fs) (l3 st o i rf)/\k st'=some r:=by
 have M:∀x,x∈o.op.operands.toList->RV P w (bw st.tm x) (cX (tmpsOf o) a.tm x):=λx hx=>by rw[lU hx];exact er hs.tm x
 have T:bN o.op=true->ga b w (i+1) {bk with fs:=(i,de o a.tm)::bk.fs} es (mg st o i L fs) (l3 st o i rf):=by
  intro hF
  have old:∀(bD:List (Nat×Bool×List Nat))(G:List (Nat×Nat)),(∀j,j∈fs->j∈bD)->(∀p,p∈rf->p∈G)->(de o a.tm=[]\/(i,ow st o,L)∈bD\/vk w G i (de o a.tm))->(∀p,p∈de o a.tm->w.g p≠none/\¬Lp w.g p)->ga b w (i+1) {bk with fs:=(i,de o a.tm)::bk.fs} es bD G:=by
   intro bD G h1 h2 h3 h4
   refine⟨λj ids e=>?_,λj ids e=>(List.mem_cons.1 e).elim (λe=>by grind) (hb.lc j ids),λe he=>Nat.lt_succ_of_lt (hb.el e he),λj wr e=>⟨Nat.lt_succ_of_lt (hb.le j wr e).1,(hb.le j wr e).2⟩,hb.ap⟩
   rcases List.mem_cons.1 e with e|e
   .cases e;exact⟨Nat.lt_succ_self _,h3.imp id (.imp (λe=>⟨_,_,e,λhz=>⟨It hs hz,(λj wr H e1 _ e3=>absurd e3 (by have:=(hb.le j wr e1).1;omega)),λj hj=>Sy (bk:=bk) (fs:=fs) (rf:=rf) hs hb (hLL j hj) (It hs hz)⟩⟩) id)⟩
   .exact⟨Nat.lt_succ_of_lt (hb.lf j ids e).1,(hb.lf j ids e).2.imp id (.imp (λ⟨z,L,e1,h⟩=>⟨z,L,h1 _ e1,h⟩) λh=>h.mono (λ_ _ h=>h) h2)⟩
  unfold mg l3
  rw[hF,Bool.true_and]
  cases hl:iF o.op with
  |false=>simp_all[de]
  |true=>
   have Q:∀p,p∈de o a.tm->w.g p≠none/\¬Lp w.g p:=by
    intro p hp
    unfold de at hp
    rw[if_pos hl]at hp
    obtain⟨t,h1,h2⟩:=List.mem_flatMap.1 hp
    simp only[tmpsOf,List.mem_filterMap]at h1
    obtain⟨x,h3,h4⟩:=h1
    have hx:x=.tmp t:=by grind
    subst hx;exact TX hs.h (er hs.tm _) (Sx hr hF hl _ h3) p h2
   cases hj:mc st o with|none=>grind|some j=>obtain⟨k',p,h1,h2,h3⟩:=RA hs hj hl;exact old _ _ (λ_ h=>h) (λ_ h=>List.mem_cons_of_mem _ h) (.inr (.inr ⟨j,k',p,List.mem_cons_self ..,h1,h2,h3⟩)) Q
 have mv:∀(x:Operand)(u:ad),x∈o.op.operands.toList->bN o.op=true->aX o.op=false->bE P cx w u a->(∀h:AHeap,aJ P (cX (tmpsOf o) a.tm) o h=some (.val (ev a.tm x),h))->u.ob=st.ob->k (jO u o.dst x)=some r->
  ∃w' st' a' E,(∀K,FF P K cx ops b o i aj bk a (if aX o.op then aj+1 else aj) E a')/\bE P cx w' st' a'/\aT w0 dT h0 w' st'.ob a'.h/\
  jQ a'.h (if aX o.op then aj+1 else aj) n1/\ga b w' (i+1) E es (mg st o i L fs) (l3 st o i rf)/\k st'=some r:=by
  intro x u hx hF hA Z he hob hk
  obtain⟨a',q1,q2,q3⟩:=J7 (n:=cx.tn) (x:=x) Z hd
  have N3:(jO u o.dst x).ob=u.ob:=by
   unfold jO cP
   simp only
   split
   .grind
   .grind
  exact⟨w,_,a',{bk with fs:=(i,de o a.tm)::bk.fs},λK=>⟨λrest=>xv hw (.inr (.inl ⟨hA,hF,by rw[hA];rfl,rfl,_,he _,q1⟩)),λrest=>xx hw (.inr (.inl ⟨hA,hF,by rw[hA];rfl,rfl,_,he _,q1⟩))⟩,q2,by grind,by grind,T hF,hk⟩
 unfold j8 at hr
 split at hr
 .rename_i x m
  have hx:x∈o.op.operands.toList:=by rw[m];simp[Op.operands]
  exact mv x st hx (by rw[m];rfl) (by rw[m];rfl) hs (λh=>by simp only[aJ,m,lU hx]) rfl hr
 .rename_i x m
  have hx:x∈o.op.operands.toList:=by rw[m];simp[Op.operands]
  exact mv x st hx (by rw[m];rfl) (by rw[m];rfl) hs (λh=>by simp only[aJ,m,lU hx]) rfl hr
 .rename_i c x y m
  have hF:bN o.op=true:=by rw[m];rfl
  have hA:aX o.op=false:=by rw[m];rfl
  have hc:c∈o.op.operands.toList:=by rw[m];simp[Op.operands]
  have hx:x∈o.op.operands.toList:=by rw[m];simp[Op.operands]
  have hy:y∈o.op.operands.toList:=by rw[m];simp[Op.operands]
  split at hr
  .rename_i d
   split at hr
   .rename_i t ht
    have J:=uM hs ht
    have C:cX (tmpsOf o) a.tm (.tmp d)=.sc (.bool t):=by rw[lU hc];simp only[ev,J]
    rcases kr hr with⟨rfl,hr⟩|⟨rfl,hr⟩
    .exact mv x _ hx hF hA (jc hs J) (λh=>by simp only[aJ,m];rw[C,lU hx];rfl) rfl hr
    .exact mv y _ hy hF hA (jc hs J) (λh=>by simp only[aJ,m];rw[C,lU hy];rfl) rfl hr
   .cases hr
  .rename_i t
   have C:cX (tmpsOf o) a.tm (.const (.bool t))=.sc (.bool t):=rfl
   cases t
   .exact mv y st hy hF hA hs (λh=>by simp only[aJ,m];rw[C,lU hy];rfl) rfl hr
   .exact mv x st hx hF hA hs (λh=>by simp only[aJ,m];rw[C,lU hx];rfl) rfl hr
  .cases hr
 .split at hr
  .cases hr
  .have N:∀(S':ad)(v:SV),(cP S' o.dst v).ob=S'.ob:=λS' v=>by cases o.dst<;>rfl
   cases hA:aX o.op with
   |true=>
    obtain⟨F,I,obj,y,v,x,lk,q1,q2,q3,V,U,X,q7,q8⟩:=(KX hs.h M hA hr).ok
    have D:=han hA
    obtain⟨w',c1,c2,c3,c4,c5⟩:=K2 (h':={a.h with bU:=a.h.bU.put aj obj}) (a:=aj) q1 q2 q3 X q7 q8 (q.2 aj (ao _) D) (Nat.lt_of_lt_of_le D q.1) (Tr.aQ ..) (λo e=>Tr.aB _ _ e) (ao _)
     (λo ho=>by
      have ho':a.h.next<=o:=ho
      have:o≠aj:=by have:=q.1;omega
      show(a.h.bU.put aj obj).get o=none;rw[Tr.aB _ _ this];exact hs.h.new o ho') rfl rfl S xb
    have Y:bE P cx w' {st with ob:=I.put st.nx x,nx:=st.nx+1} {a with h:={a.h with bU:=a.h.bU.put aj obj}}:=⟨c1,hs.tm.mono c3 c4,hs.al,hs.df.mono c3 c4,hs.cm,hs.rn,hs.kd,hs.co.1,λd e=>⟨(hs.co.2 d e).1,by show(a.h.bU.put aj obj).get d=_;rw[Tr.aB _ _ (by rintro rfl;have:=(hs.co.2 _ e).2;rw[q.2 _ (ao _) D]at this;cases this)];exact(hs.co.2 d e).2⟩⟩
    obtain⟨a',p1,p2,p3⟩:=hZ (n:=cx.tn) Y c5 hd
    have O:bN o.op=false:=by cases m:o.op<;>rw[m]at hA<;>simp_all[aX,bN]
    refine⟨w',_,a',bk,λK=>⟨λrest=>xv hw (.inl ⟨hA,by simp,rfl,_,_,V _,p1⟩),λrest=>xx hw (.inl ⟨hA,by simp,rfl,_,_,V _,p1⟩)⟩,p2,by grind,?_,?_,U⟩
    .rw[p3];refine⟨q.1,λp h1 h2=>?_⟩;have h1:aj+1<=p:=h1;show(a.h.bU.put aj obj).get p=none;rw[Tr.aB _ _ (by omega)];exact q.2 p (by omega) h2
    .have e1:mg st o i L fs=fs:=by unfold mg;rw[O];rfl
     have e2:l3 st o i rf=rf:=by unfold l3;rw[O];rfl
     rw[e1,e2];exact hb.mono c3 c4 (Nat.le_succ _)
   |false=>
    have hF:bN o.op=true:=by grind
    obtain⟨F,I,q1,q2,q3,v,y,V,U,X⟩:=JW (h1:={a.h with bU:=eR a.h (de o a.tm)}) hs.h M (λhl x hx=>TW hs.h hl hx) hF hr;obtain⟨a',p1,p2,p3⟩:=hZ (n:=cx.tn) (hs.step (st':={st with ob:=I}) q1 (.bg q2 q3) rfl rfl) X hd;exact⟨_,_,a',{bk with fs:=(i,de o a.tm)::bk.fs},λK=>⟨λrest=>xv hw (.inr (.inl ⟨hA,hF,rfl,rfl,_,U,p1⟩)),λrest=>xx hw (.inr (.inl ⟨hA,hF,rfl,rfl,_,U,p1⟩))⟩,p2,by rw[p3,N];exact S.trans (.bg q2 q3),by grind,(T hF).mono (aK.more _ _) (λ_ _ h=>h) (ao _),V⟩
theorem Xa(hR:eA P A R){ops:Array Oper}{w0:Wd}{dT:Tr ai}{h0:AHeap}{n1 i aj:Nat}{es:List (Nat×Bool×List Nat×Option Nat)}{fs:List (Nat×Bool×List Nat)}{rf:List (Nat×Nat)}{bk:bY}{b:List Nat}{o:Oper}(hA:aX o.op=false)(hF:bN o.op=false)(hs:bE P cx w st a)(hd:iO cx.tn o.dst)(Q:aT w0 dT h0 w st.ob a.h)
 (I:jQ a.h aj n1)(hb:ga b w i bk es fs rf){k:SV->ad->Option ρ}{kp:TypeId->List AV->ad->Option ρ}{r:ρ}(hr:tz (match gA A st o with|true=>[]|false=>oX st o) st (λst k kp=>gX P A R kp o st k) k kp=some r)(hw:cf ops o a.tm=some true):
 (∃m w' c v a' S,(∀X,m<=X->FF P (bz P X) cx ops b o i aj bk a aj S a')/\bE P cx w' (cP c o.dst v) a'/\aT w0 dT h0 w' (cP c o.dst v).ob a'.h/\jQ a'.h aj n1/\ga b w' (i+1) S (match gA A st o with|true=>es|false=>(i,oi st o,oX st o,rG o v)::es) fs rf/\k v c=some r)\/
 (∃m w' c h' t row y,cu P (bz P m) cx (cX (tmpsOf o) a.tm) o .none a.h.inner=some (.aE y h')/\bE P cx w' {c with tm:=.leaf,al:=[]} {a with tm:=.leaf,h:=a.h.outer h'}/\aT w0 dT h0 w' c.ob (a.h.outer h')/\kp t row c=some r/\gM P t row y):=by
 have Y:∀x,x∈o.op.operands.toList->RV P w (bw st.tm x) (cX (tmpsOf o) a.tm x):=λx hx=>by rw[lU hx];exact er hs.tm x
 have N:∀(c:ad)(v:SV),(cP c o.dst v).ob=c.ob:=λc v=>by cases o.dst<;>rfl
 have Z:af P w st.ob st.nx a.h.inner:=hs.h.mL (λ_=>rfl) rfl
 obtain⟨h1,C⟩:=J9 hR cx .none _ Z Y hr
 rcases h1 with⟨m,w',c,h',v,y,q1,q2,q3,V,U,J,T,q8,q9⟩|⟨m,w',c,h',t,row,y,q1,q2,q3,V,U,J,T⟩
 .have E:af P w' c.ob c.nx (a.h.outer h'):=q1.mL (λ_=>rfl) rfl
  obtain⟨a',p1,p2,p3⟩:=hZ (n:=cx.tn) (hs.step E q2.outer q3 V) T hd
  refine .inl ⟨m,w',c,v,a',{bk with es:=(i,h'.wr)::bk.es},λX hm=>⟨λrest=>?_,λrest=>?_⟩,p2,by rw[p3,N];exact Q.trans q2.outer,by rw[p3];exact I.aq hs.h q2.outer,?_,U⟩
  .exact xv hw (.inr (.inr ⟨hA,hF,rfl,_,_,_,rfl,sK (hY P hm) J,p1⟩))
  .exact xx hw (.inr (.inr ⟨hA,hF,rfl,_,_,_,rfl,sK (hY P hm) J,p1⟩))
  .have M:gA A st o=true->∀p,p∈h'.wr->Lp w.g p:=by
    intro hp p hm
    have h1:=q8 (by rw[hp]) hp
    have e2:=q2.dA (λ_ e=>by cases e) p hm
    rw[q2.floor]at e2
    have e2:p<a.h.next:=e2
    rcases h1 p hm with e|e|e
    .cases e
    .have e:a.h.next<=p:=e;omega
    .rw[show w.g=a.h.get from funext hs.h.g];exact e
   have lz:∀j ids,j<i->(∃z L,(j,z,L)∈fs/\(z=true->EX w bk es j L ids))->∃z L,(j,z,L)∈fs/\(z=true->EX w' {bk with es:=(i,h'.wr)::bk.es} (match gA A st o with|true=>es|false=>(i,oi st o,oX st o,rG o v)::es) j L ids):=by
    rintro j ids hji⟨z,L,e1,h⟩
    refine⟨z,L,e1,λhz=>⟨λp hp=>q2.le.F p ((h hz).1 p hp),?_,λK G=>⟨((h hz).2.2 K G).1,λwr e2=>by
     rcases List.mem_cons.1 e2 with e2|e2
     .cases e2;exact absurd ((h hz).2.2 i G).1 (by omega)
     .exact((h hz).2.2 K G).2 wr e2⟩⟩⟩
    intro K wr H e2 e3 e4 p hp
    have old:(K,true,H)∈es->p∉wr:=λe5=>by
     rcases List.mem_cons.1 e2 with e2|e2
     .cases e2;exact absurd (hb.el _ e5) (Nat.lt_irrefl i)
     .exact(h hz).2.1 K wr H e2 e5 e4 p hp
    cases hp':gA A st o with
    |true=>grind
    |false=>
     rw[hp']at e3
     rcases List.mem_cons.1 e3 with e3|e3
     .obtain⟨rfl,e5,_⟩:K=i/\true=oi st o/\H=_:=by simpa using e3
      rcases List.mem_cons.1 e2 with e2|e2
      .cases e2;exactλe=>Rz hs e5.symm (h0:=a.h.inner) rfl J p e ((h hz).1 p hp)
      .exact absurd (hb.le _ _ e2).1 (Nat.lt_irrefl _)
     grind
   refine⟨λj ids e=>⟨Nat.lt_succ_of_lt (hb.lf j ids e).1,(hb.lf j ids e).2.imp id (.imp (lz j ids (hb.lf j ids e).1) λh=>h.mono q2.s λ_ h=>h)⟩,λj ids e p q=>Na q2.le (hb.lc j ids e p q),λe he=>?_,λj wr e=>?_,?_⟩
   .cases hp:gA A st o with
    |true=>rw[hp]at he;exact Nat.lt_succ_of_lt (hb.el e he)
    |false=>
     rw[hp]at he
     rcases List.mem_cons.1 he with rfl|he
     .grind
     .exact Nat.lt_succ_of_lt (hb.el e he)
   .rcases List.mem_cons.1 e with e|e
    .cases e
     refine⟨Nat.lt_succ_self _,?_⟩
     cases hp:gA A st o with
     |true=>exact .inl λp e=>EY q2.le (M hp p e)
     |false=>
      rw[hp]at q9 C
      refine .inr ⟨_,_,_,List.mem_cons_self ..,λd hd=>?_⟩
      obtain⟨x4,h4,h5⟩:=C d hd
      obtain⟨l4,h2⟩:=hs.h.hidden h4 h5
      have O:live st.ob d:=⟨_,h4,by rintro rfl;cases h5⟩
      refine⟨_,q2.s _ _ h2,λp h3 hp2=>?_⟩
      rcases q9 p hp2 with e|e|⟨i',k',e5,e6,e7,e8⟩|e
      .cases e
      .have:p<a.h.next:=hs.h.lt d _ p h2 h3;have e:a.h.next<=p:=e;omega
      .exact e5 (by rw[hs.h.inj i' d _ _ p e6 O e7 h2 e8 h3];exact hd)
      .exact hs.h.lv O h2 h3 e
    .refine⟨Nat.lt_succ_of_lt (hb.le j wr e).1,(hb.le j wr e).2.imp (λh p q=>EY q2.le (h p q)) λ⟨z,H,D,e1,h⟩=>⟨z,H,D,?_,h.mono q2.s⟩⟩;grind
   .intro j z H d e wr e2
    have old:(j,z,H,some d)∈es->∃l,w'.s d=some l/\∀p,p∈wr->l.obj=some p:=λe=>by
     rcases List.mem_cons.1 e2 with e2|e2
     .cases e2;exact absurd (hb.el _ e) (Nat.lt_irrefl _)
     .obtain⟨l,h1,h2⟩:=hb.ap j z H d e wr e2;exact⟨l,q2.s _ _ h1,h2⟩
    cases hp:gA A st o with
    |true=>grind
    |false=>
     rw[hp]at e
     rcases List.mem_cons.1 e with e|e
     .obtain⟨rfl,_,_,e5⟩:j=i/\z=oi st o/\H=oX st o/\some d=rG o v:=by grind
      rcases List.mem_cons.1 e2 with e2|e2
      .cases e2;obtain⟨l,h1,h2⟩:=Sz T e5.symm J;exact⟨l,h1,λp hp=>(h2 p hp).elim (λe=>by cases e) id⟩
      .exact absurd (hb.le _ _ e2).1 (Nat.lt_irrefl _)
     grind
 .have E:af P w' c.ob c.nx (a.h.outer h'):=q1.mL (λ_=>rfl) rfl;have u:=hs.step E q2.outer q3 V;refine .inr ⟨m,w',c,h',t,row,y,J,?_,Q.trans q2.outer,U,T⟩;exact⟨E,⟨λt v e=>by simp[Tr.get]at e⟩,(λ_ _ e=>by cases e),u.df,u.cm,u.rn,u.kd,u.co⟩
end
end Go.AI
end

section
namespace Go.AI
variable [Kn]
section
variable {P:Program}{w w':Wd}{st:ad}{a:av}{ρ:Type}{A:cQ}{R:dg A.pn}{cx:Ctx}{kp:TypeId->List AV->ad->Option ρ}
theorem Iw{ops:Array Oper}{o:Oper}{rest:List Oper}{i aj:Nat}{bk:bY}{c:Rec}(hw:cf ops o a.tm=some false){a':av}(h:a.put cx.tn o.dst dm=some a'):ey P c cx ops (o::rest) i aj bk a=ey P c cx ops rest (i+1) (if aX o.op then aj+1 else aj) bk a':=by rw[ey];grind
theorem R2{ops:Array Oper}{o:Oper}{rest:List Oper}{i aj:Nat}{bk:bY}{b:List Nat}{c:Rec}(hw:cf ops o a.tm=some false){a':av}(h:a.put cx.tn o.dst dm=some a'):ez P c cx ops b (o::rest) i aj bk a=ez P c cx ops b rest (i+1) (if aX o.op then aj+1 else aj) bk a':=by rw[ez];grind
theorem yD{ops:Array Oper}{b:List Nat}{m:Nat}{k:List (Nat×Bool×List Nat)->List (Nat×Nat)->Option ρ}{r:ρ}{w0:Wd}{dT:Tr ai}{h0:AHeap}{n1:Nat}{es:List (Nat×Bool×List Nat×Option Nat)}:∀{l:List Oper}{i aj:Nat}{fs:List (Nat×Bool×List Nat)}{rf:List (Nat×Nat)}{w:Wd}{st:ad}{a:av}{bk:bY},bE P cx w st a->(∀o,o∈l->iO cx.tn o.dst)->
 aT w0 dT h0 w st.ob a.h->h0.next<=aj->aj+eB l<=n1->jQ a.h aj n1->ga b w i bk es fs rf->iM P A R ops b m k l i fs rf st=some r->
 ∃w' n' kf bD u,(∀J,hV P J cx ops b m l i aj bk a=some kf)/\ga b w' n' kf es bD u/\k bD u=some r
 |[],i,aj,fs,rf,w,st,a,bk,hs,_,U,_,_,_,hb,hr=>⟨w,i,bk,fs,rf,λ_=>rfl,hb,hr⟩
 |o::rest,i,aj,fs,rf,w,st,a,bk,hs,hd,U,xb,O,z,hb,hr=>by
  have X:=hd o (List.mem_cons_self ..)
  have Q:∀o,o∈rest->iO cx.tn o.dst:=λo e=>hd o (List.mem_cons_of_mem _ e)
  have C:(if aX o.op then aj+1 else aj)+eB rest<=n1:=by simp only[eB]at O;cases e:aX o.op with|true=>grind|false=>grind
  have S:aX o.op=true->aj<n1:=by intro e;simp only[eB,e,if_true]at O;omega
  have T:h0.next<=(if aX o.op then aj+1 else aj):=by grind
  have put:∀(c:ad)(v:SV)(x:AV),c.ob=st.ob->bE P cx w c a->RV P w v x->∃N,a.put cx.tn o.dst x=some N/\bE P cx w (cP c o.dst v) N/\aT w0 dT h0 w (cP c o.dst v).ob N.h/\jQ N.h (if aX o.op then aj+1 else aj) n1:=by
   intro c v x G E hv
   obtain⟨N,p1,p2,p3⟩:=hZ (n:=cx.tn) (v:=v) (x:=x) E hv X
   have N3:(cP c o.dst v).ob=st.ob:=by rw[<-G];cases o.dst<;>rfl
   refine⟨N,p1,p2,by grind,?_⟩;rw[p3];refine⟨z.1,λp h1 h2=>z.2 p ?_ h2⟩;grind
  have run:∀(c:ad),c.ob=st.ob->bE P cx w c a->cf ops o a.tm=some true->(b.getD i 0).testBit m=false->(match aX o.op||bN o.op with
   |true=>j8 P A R (λ_ _ _=>none) o c λst'=>(match bN o.op&&iF o.op,mc c o with|true,some j=>iM P A R ops b m k rest (i+1) fs ((i,j)::rf) st'|true,none=>iM P A R ops b m k rest (i+1) ((i,ow c o,[])::fs) rf st'|false,_=>iM P A R ops b m k rest (i+1) fs rf st')
   |false=>none)=some r->∃w' n' kf bD u,(∀J,hV P J cx ops b m (o::rest) i aj bk a=some kf)/\ga b w' n' kf es bD u/\k bD u=some r:=by
   intro c G E hw q F
   split at F
   .rename_i I
    obtain⟨w1,BI,N,Py,q1,q2,q3,q4,q5,q6⟩:=L7 (i:=i) (L:=[]) (λ_ e=>by cases e) (bk:=bk) (n1:=n1) (cx:=cx) I E X (by rw[G];exact U) xb z S hb F hw
    have q7:iM P A R ops b m k rest (i+1) (mg c o i [] fs) (l3 c o i rf) BI=some r:=by unfold mg l3;rw[<-q6];grind
    obtain⟨w2,n2,kf,M,K,r1,Z,Y⟩:=yD q2 Q q3 T C q4 q5 q7;refine⟨w2,n2,kf,M,K,λJ=>?_,Z,Y⟩;unfold hV;rw[q];simp only[I,if_true];rw[(q1 J).1];exact r1 J
   .cases F
  have skip:∀(c:ad),c.ob=st.ob->bE P cx w c a->cf ops o a.tm=some false->(b.getD i 0).testBit m=false->(aX o.op||bN o.op)=true->iM P A R ops b m k rest (i+1) fs rf (cP c o.dst (.bl []))=some r->∃w' n' kf bD u,(∀J,hV P J cx ops b m (o::rest) i aj bk a=some kf)/\ga b w' n' kf es bD u/\k bD u=some r:=by intro c G E hw q I F;obtain⟨N,p1,p2,p3,p4⟩:=put c (.bl []) dm G E (.bl .nil);obtain⟨w2,n2,kf,M,K,r1,Z,Y⟩:=yD p2 Q p3 T C p4 (hb.mono (.refl _) (λ_ _ h=>h) (Nat.le_succ _)) F;refine⟨w2,n2,kf,M,K,λJ=>?_,Z,Y⟩;unfold hV;rw[q];simp only[I,if_true];rw[Iw hw p1];exact r1 J
  unfold iM at hr
  split at hr
  .rename_i q;obtain⟨N,p1,p2,p3,p4⟩:=put st .aA .aA rfl hs (.aA _);obtain⟨w2,n2,kf,M,K,r1,Z,Y⟩:=yD p2 Q p3 T C p4 (hb.mono (.refl _) (λ_ _ h=>h) (Nat.le_succ _)) hr;grind[refine,hV]
  .rename_i q
   split at hr
   .rename_i I
    unfold tb at hr
    split at hr
    .grind[cf]
    .rename_i j want hg
     split at hr
     .rename_i d V
      split at hr
      .rename_i b D
       have D:=uM hs D
       split at hr
       .rcases kr hr with⟨rfl,hr⟩|⟨rfl,hr⟩
        .exact run (known st d true) rfl (jc hs D) (by simp[cf,hg,V,D]) q (by grind)
        grind[jc,known,cf]
       .rcases kr hr with⟨rfl,hr⟩|⟨rfl,hr⟩
        .grind[jc,known,cf]
        .exact run (known st d false) rfl (jc hs D) (by simp[cf,hg,V,D]) q (by grind)
      .grind[CW,cf]
      .cases hr
     .cases hr
   .cases hr
def EZ(P:Program)(cx:Ctx)(ops:Array Oper)(b:List Nat)(w0:Wd)(dT:Tr ai)(h0:AHeap)(l:List Oper)(i aj:Nat)(bk:bY)(a:av)(k:List (Nat×Bool×List Nat×Option Nat)->List (Nat×Bool×List Nat)->List (Nat×Nat)->ad->Option ρ)(kp:TypeId->List AV->ad->Option ρ)(r:ρ):Prop:=(∃m w' st' a' o n' j bD c,ey P (bz P m) cx ops l i aj bk a=some (o,a')/\bE P cx w' st' a'/\aT w0 dT h0 w' st'.ob a'.h/\ga b w' n' o j bD c/\k j bD c st'=some r)\/(∃m w' st' a' t row y,ez P (bz P m) cx ops b l i aj bk a=some (.panic y,a')/\bE P cx w' st' a'/\aT w0 dT h0 w' st'.ob a'.h/\kp t row st'=some r/\gM P t row y)
theorem x5(hR:eA P A R){ops:Array Oper}{b:List Nat}{k:List (Nat×Bool×List Nat×Option Nat)->List (Nat×Bool×List Nat)->List (Nat×Nat)->ad->Option ρ}{r:ρ}{w0:Wd}{dT:Tr ai}{h0:AHeap}{n1:Nat}:∀{l:List Oper}{i aj:Nat}{es:List (Nat×Bool×List Nat×Option Nat)}{fs:List (Nat×Bool×List Nat)}{rf:List (Nat×Nat)}{w:Wd}{st:ad}{a:av}{bk:bY},bE P cx w st a->(∀o,o∈l->iO cx.tn o.dst)->
 aT w0 dT h0 w st.ob a.h->h0.next<=aj->aj+eB l<=n1->jQ a.h aj n1->ga b w i bk es fs rf->iP P A R kp ops b l i es fs rf st k=some r->EZ P cx ops b w0 dT h0 l i aj bk a k kp r
 |[],i,aj,es,fs,rf,w,st,a,bk,hs,_,G,_,_,_,hb,hr=>.inl ⟨0,w,{st with al:=[]},a,bk,i,es,fs,rf,rfl,⟨hs.h,hs.tm,λ_ _ e=>(by cases e),hs.df,hs.cm,hs.rn,hs.kd,hs.co⟩,G,hb,hr⟩
 |o::rest,i,aj,es,fs,rf,w,st,a,bk,hs,hd,G,xb,N4,z,hb,hr=>by
  have Z:=hd o (List.mem_cons_self ..)
  have Y:∀o,o∈rest->iO cx.tn o.dst:=λo e=>hd o (List.mem_cons_of_mem _ e)
  have q:(if aX o.op then aj+1 else aj)+eB rest<=n1:=by simp only[eB]at N4;cases e:aX o.op with|true=>grind|false=>grind
  have Yu:aX o.op=true->aj<n1:=by intro e;simp only[eB,e,if_true]at N4;omega
  have J:h0.next<=(if aX o.op then aj+1 else aj):=by grind
  have run:∀(c:ad),c.ob=st.ob->bE P cx w c a->cf ops o a.tm=some true->(match aX o.op||bN o.op with
   |true=>j8 P A R (λ_ _ _=>none) o c λst'=>(match bN o.op&&iF o.op,mc c o with|true,some j=>iP P A R kp ops b rest (i+1) es fs ((i,j)::rf) st' k|true,none=>iP P A R kp ops b rest (i+1) es ((i,ow c o,jI c.ob es)::fs) rf st' k|false,_=>iP P A R kp ops b rest (i+1) es fs rf st' k)
   |false=>match uH c.tm o.op.operands.toList with|true=>none|false=>tz (match gA A c o with|true=>[]|false=>oX c o) c (λst k kp=>gX P A R kp o st k) (λv st'=>iP P A R kp ops b rest (i+1) (match gA A c o with|true=>es|false=>(i,oi c o,oX c o,rG o v)::es) fs rf (cP st' o.dst v) k) (λt row st'=>iM P A R ops b i (λfs rf=>match vP b fs es rf with|true=>kp t row {st' with tm:=.leaf,al:=[]}|false=>none) rest (i+1) fs rf (cP c o.dst .aA)))=some r->EZ P cx ops b w0 dT h0 (o::rest) i aj bk a k kp r:=by
   intro c O M hw E
   split at E
   .rename_i C
    obtain⟨w1,BI,a2,Py,q1,q2,q3,q4,q5,q6⟩:=L7 (i:=i) (L:=jI c.ob es) (λ_ e=>e) (bk:=bk) (n1:=n1) (cx:=cx) C M Z (by rw[O];exact G) xb z Yu hb E hw
    have q7:iP P A R kp ops b rest (i+1) es (mg c o i (jI c.ob es) fs) (l3 c o i rf) BI k=some r:=by unfold mg l3;rw[<-q6];cases bN o.op&&iF o.op<;>cases mc c o<;>rfl
    rcases x5 hR q2 Y q3 J q q4 q5 q7 with⟨m,w2,u,U,T,n3,S,Q,K,D,F,V,r4,r5⟩|⟨m,w2,u,U,t,row,y,D,F⟩
    .exact .inl ⟨m,w2,u,U,T,n3,S,Q,K,by rw[(q1 _).1];exact D,F,V,r4,r5⟩
    .exact .inr ⟨m,w2,u,U,t,row,y,by rw[(q1 _).2];exact D,F⟩
   .rename_i C
    rw[Bool.or_eq_false_iff]at C
    split at E
    .cases E
    rcases Xa (i:=i) (bk:=bk) (n1:=n1) (cx:=cx) hR C.1 C.2 M Z (by rw[O];exact G) z hb E hw with⟨m,w1,S1,v,a2,Py,q1,q2,q3,q4,q5,q6⟩|⟨m,w1,S1,h1,t,row,y,q1,q2,q3,q4,q5⟩
    .rw[C.1]at q J
     rcases x5 hR q2 Y q3 J q q4 q5 q6 with⟨m',w2,u,U,T,n3,S,Q,K,D,F,V,r4,r5⟩|⟨m',w2,u,U,t,row,y,D,F⟩
     .refine .inl ⟨max m m',w2,u,U,T,n3,S,Q,K,?_,F,V,r4,r5⟩;rw[(q1 _ (Nat.le_max_left ..)).1];exact qt (hY P (Nat.le_max_right ..)) D
     .refine .inr ⟨max m m',w2,u,U,t,row,y,?_,F⟩;rw[(q1 _ (Nat.le_max_left ..)).2];exact(qv (hY P (Nat.le_max_right ..)) D).1
    .obtain⟨a2,p1,p2,p3⟩:=hZ (n:=cx.tn) (v:=.aA) (x:=.aA) M (.aA _) Z
     have N:(cP c o.dst .aA).ob=st.ob:=by rw[<-O];cases o.dst<;>rfl
     rw[C.1]at q J
     obtain⟨w2,n2,kf,fs2,rf2,D,F,V⟩:=yD p2 Y (by rw[N,p3];exact G) J q (by grind) (hb.mono (.refl _) (λ_ _ h=>h) (Nat.le_succ _)) q4
     split at V
     .rename_i hc;refine .inr ⟨m,w1,_,_,t,row,y,?_,q2,q3,V,q5⟩;rw[ez];simp only[hw,C.1,C.2,q1,p1];have D:=D (bz P m);simp only[Bool.false_eq_true,if_false]at D⊢;rw[D];simp only[K6 F hc,if_true]
     .cases V
  have skip:∀(c:ad),c.ob=st.ob->bE P cx w c a->cf ops o a.tm=some false->iP P A R kp ops b rest (i+1) es fs rf (cP c o.dst (.bl [])) k=some r->EZ P cx ops b w0 dT h0 (o::rest) i aj bk a k kp r:=by
   intro c O M hw E
   obtain⟨a2,p1,p2,p3⟩:=hZ (n:=cx.tn) (v:=.bl []) (x:=dm) M (.bl .nil) Z
   have N:(cP c o.dst (.bl [])).ob=st.ob:=by rw[<-O];cases o.dst<;>rfl
   have X:jQ a2.h (if aX o.op then aj+1 else aj) n1:=by rw[p3];refine⟨z.1,λp h1 h2=>z.2 p ?_ h2⟩;grind
   rcases x5 hR p2 Y (by rw[N,p3];exact G) J q X (hb.mono (.refl _) (λ_ _ h=>h) (Nat.le_succ _)) E with⟨m',w2,u,U,T,n3,S,Q,K,D,F,V,r4,r5⟩|⟨m,w2,u,U,t,row,y,D,F⟩
   .exact .inl ⟨m',w2,u,U,T,n3,S,Q,K,by rw[Iw hw p1];exact D,F,V,r4,r5⟩
   .exact .inr ⟨m,w2,u,U,t,row,y,by rw[R2 hw p1];exact D,F⟩
  unfold iP at hr
  unfold tb at hr
  split at hr
  .grind[cf]
  .rename_i j want hg
   split at hr
   .rename_i d Pz
    split at hr
    .rename_i b I
     have I:=uM hs I
     split at hr
     .rcases kr hr with⟨rfl,hr⟩|⟨rfl,hr⟩
      .exact run (known st d true) rfl (jc hs I) (by simp[cf,hg,Pz,I]) hr
      grind[jc,known,cf]
     .rcases kr hr with⟨rfl,hr⟩|⟨rfl,hr⟩
      .grind[jc,known,cf]
      .exact run (known st d false) rfl (jc hs I) (by simp[cf,hg,Pz,I]) hr
    .grind[CW,cf]
    .cases hr
   .cases hr
theorem Dn{h:AHeap}:∀(n o:Nat),(∀p,o<=p->h.get p=none)->tv h n o=true|0,_,_=>rfl|n+1,o,hn=>by simp only[tv,aZ];exact⟨by grind,Dn n (o+1) λp hp=>hn p (by omega)⟩
theorem Vt(u:eA P A R){D:Bool}{ops:Array Oper}{draw:Bool}{id:Nat}{k:ad->Option ρ}{r:ρ}(hs:bE P cx w st a)(hd:∀o,o∈ops.toList->iO cx.tn o.dst)(hr:wy P A R D kp ops draw st k=some r):
 k0 P cx w st a k kp r λm ex a'=>evalCode P (bz P m) cx (.region id ops draw) a=some (ex,a'):=by
 unfold wy at hr
 split at hr
 .grind[DQ,evalCode]
 .have hb:af P w st.ob st.nx {a.h with next:=a.h.next+eB ops.toList}:=⟨hs.h.g,hs.h.box,hs.h.arr,hs.h.ba,hs.h.inj,λi k o h1 h2=>Nat.lt_of_lt_of_le (hs.h.lt i k o h1 h2) (Nat.le_add_right ..),hs.h.nx,λo f=>⟨Nat.lt_of_lt_of_le (hs.h.bJ o f).1 (Nat.le_add_right ..),(hs.h.bJ o f).2⟩,λo ho=>hs.h.new o (by grind),hs.h.mp,hs.h.tr⟩
  have p:aT w st.ob a.h w st.ob {a.h with next:=a.h.next+eB ops.toList}:=⟨.refl w,λ_ _ e=>e,Nat.le_add_right ..,rfl,λ_ _ _=>rfl,λ_ e=>.inr e,λ_ e=>.inl e,λ_ e=>.inl e,λe=>e,λ_ _ cs e=>⟨cs,e⟩⟩
  rcases x5 (b:=eh ops.toList []) (a:={a with h:={a.h with next:=a.h.next+eB ops.toList}}) (bk:={es:=[],fs:=[]}) (n1:=a.h.next+eB ops.toList) (cx:=cx) u ⟨hb,hs.tm,hs.al,hs.df,hs.cm,hs.rn,hs.kd,⟨hs.co.1.1.imp (λe=>e) λe=>Nat.le_trans e (Nat.le_add_right ..),hs.co.1.2⟩,hs.co.2⟩ hd p (ao _) (ao _) ⟨ao _,λo h1 _=>hs.h.new o h1⟩ ⟨λ_ _ e=>(by cases e),λ_ _ e=>(by cases e),λ_ e=>(by cases e),λ_ _ e=>(by cases e),λ_ _ _ _ e=>(by cases e)⟩ hr with⟨m,w',st',a',C,n',z,bD,q,q1,q2,q3,j,c⟩|⟨m,w',st',a',t,row,y,q1,q2,q3,j,c⟩
  case inr=>
   simp only at j
   split at j
   .rename_i hc;refine .inr ⟨m,w',st',a',t,row,y,?_,q2,q3,j,c⟩;show evalCode P _ cx (.region id ops true) a=_;rw[evalCode];simp only[if_true,oh];rw[hc,Dn _ _ hs.h.new];simp only[Bool.and_self,if_true];have:=qv (hY P (ao m)) q1;grind
   .cases j
  simp only at c
  split at c
  .rename_i hc;simp only[aZ]at hc;refine .inl ⟨m,w',st',a',?_,q2,q3,c⟩;show evalCode P _ cx (.region id ops true) a=_;rw[evalCode];simp only[if_true,oh];rw[hc.1,Dn _ _ hs.h.new];simp only[Bool.and_self,if_true,q1];grind[K6,mU,eh]
  .cases c
end
end Go.AI
end

section
namespace Go.AI
variable [Kn]
section
variable {P:Program}{w w':Wd}{h h':AHeap}{tm:Tr SV}{bO:Tr AV}{A:cQ}{R:dg A.pn}
inductive iS(P:Program)(w:Wd)(bO:Tr AV):List (Tmp×Nat×TypeId)->List SV->Prop|nil:iS P w bO [] []|aA{t:Tmp×Nat×TypeId}{ts:List (Tmp×Nat×TypeId)}{vs:List SV}:iS P w bO ts vs->iS P w bO (t::ts) (.aA::vs)|cons{t:Tmp}{m:Nat}{e:TypeId}{x:AV}{v:SV}{ts:List (Tmp×Nat×TypeId)}{vs:List SV}:bO.get t=some x->RV P w v x->iS P w bO ts vs->iS P w bO ((t,m,e)::ts) (v::vs)
theorem iS.mono(hl:aK w w')(hs:∀i k,w.s i=some k->w'.s i=some k){ts:List (Tmp×Nat×TypeId)}{vs:List SV}(hc:iS P w bO ts vs):iS P w' bO ts vs:=by induction hc with|nil=>exact .nil|aA _ ih=>exact .aA ih|cons a b _ ih=>exact .cons a (b.mono hl hs) ih
theorem iS.gr(L:List Nat){ts:List (Tmp×Nat×TypeId)}{vs:List SV}(hc:iS P w bO ts vs):iS P (w.sub L) bO ts (iK L vs):=by induction hc with|nil=>exact .nil|aA _ ih=>exact .aA ih|cons a b _ ih=>exact .cons a (b.gr L) ih
theorem iS.abn{ts:List (Tmp×Nat×TypeId)}{vs:List SV}(hc:iS P w bO ts vs):dZ P w (tc ts vs) bO:=by induction hc with|nil=>exact⟨λt v e=>by cases e⟩|aA _ ih=>exact ih|@cons t m e x v ts vs a b _ ih=>cases v with|aA=>exact ih|_=>exact ih.wA a b
theorem Vu{st:ad}(hs:af P w st.ob st.nx h){m:Nat}{e:TypeId}{v:SV}{x:AV}(hx:RV P w v x):∃w',jm P w h st (o7 P m e v st).2 w'/\RV P w' (o7 P m e v st).1 x:=by
 unfold o7
 split
 .cases hx;exact CQ hs _
 .cases hx;exact⟨w,.refl hs,.dl (.nil _)⟩
 .obtain⟨F,q1,q2,c⟩:=lN hs [SV.own _];exact⟨_,q1,oO q2 c (by simp) hx⟩
 .obtain⟨F,q1,q2,c⟩:=lN hs [SV.om _];exact⟨_,q1,oO q2 c (by simp) hx⟩
 .cases hx;exact⟨w,.refl hs,.ls .nil⟩
 .exact⟨w,.refl hs,hx⟩
theorem TY{st:ad}{m:Nat}{e:TypeId}:o7 P m e .aA st=(.aA,st):=by simp_all[o7]
theorem Dp:∀(ts:List (Tmp×Nat×TypeId)){st:ad}{w:Wd},af P w st.ob st.nx h->dZ P w tm bO->∃w',jm P w h st (oW P tm ts st).2 w'/\iS P w' bO ts (oW P tm ts st).1
 |[],st,w,hs,_=>⟨w,.refl hs,.nil⟩
 |(t,m,e)::ts,st,w,hs,ht=>by
  simp only[oW]
  cases hg:tm.get t with
  |none=>
   have he:bw tm (.tmp t)=.aA:=by simp only[bw,hg]
   rw[he,TY];obtain⟨w1,q1,q2⟩:=Dp ts hs ht;exact⟨w1,q1,.aA q2⟩
  |some v=>
   have he:bw tm (.tmp t)=v:=by simp only[bw,hg]
   rw[he];obtain⟨x,j,i⟩:=ht.tm t v hg;obtain⟨w1,q1,q2⟩:=Vu (m:=m) (e:=e) hs i;obtain⟨w2,c,o⟩:=Dp ts q1.1 (ht.mono q1.2.1.le q1.2.1.s);exact⟨w2,q1.trans c,.cons j (q2.mono c.2.1.le c.2.1.s) o⟩
inductive Fr where|code(c:Code)|blk(id:Nat)
def BP(P:Program)(cx:Ctx)(c:Code)(a:av)(ex:bP)(a':av):Prop:=∃m,evalCode P (bz P m) cx c a=some (ex,a')
def dq(P:Program)(cx:Ctx):List Fr->bP->av->bP->av->Prop|[],ex,a,ct,aF=>ct=ex/\aF=a|.code c::fs,.normal,a,ct,aF=>∃j m,BP P cx c a j m/\dq P cx fs j m ct aF|.code _::fs,ex,a,ct,aF=>dq P cx fs ex a ct aF|.blk id::fs,.exit i,a,ct,aF=>if i=id then dq P cx fs .normal a ct aF else dq P cx fs (.exit i) a ct aF|.blk _::fs,ex,a,ct,aF=>dq P cx fs ex a ct aF
def dJ(P:Program)(cx:Ctx)(c:Code)(fs:List Fr)(a:av)(ct:bP)(aF:av):Prop:=∃i j,BP P cx c a i j/\dq P cx fs i j ct aF
inductive Site(key:Nat):Code->List Fr->Code->List Fr->Prop|mf{a b c':Code}{fs bD:List Fr}:Site key a (.code b::fs) c' bD->Site key (.seq a b) fs c' bD|jX{a b c':Code}{fs bD:List Fr}:Site key b fs c' bD->Site key (.seq a b) fs c' bD|l1{c:Operand}{a b c':Code}{fs bD:List Fr}:Site key a fs c' bD->Site key (.cond c a b) fs c' bD|l2{c:Operand}{a b c':Code}{fs bD:List Fr}:Site key b fs c' bD->Site key (.cond c a b) fs c' bD|blk{id:Nat}{b c':Code}{fs bD:List Fr}:Site key b (.blk id::fs) c' bD->Site key (.block id b) fs c' bD|here{id:Nat}{b:Code}{fs:List Fr}:key=2*id->Site key (.block id (.loop b)) fs (.loop b) (.blk id::fs)|behind{id:Nat}{b:Code}{fs:List Fr}:key=2*id+1->Site key (.block id b) fs .skip fs|loop{b c':Code}{fs bD:List Fr}:Site key b (.code (.loop b)::fs) c' bD->Site key (.loop b) fs c' bD|scope{b c':Code}{fs bD:List Fr}:Site key b fs c' bD->Site key (.scope b) fs c' bD|region{id:Nat}{ops:Array Oper}{draw:Bool}{fs:List Fr}:key=1000000+id->Site key (.region id ops draw) fs (.region id ops draw) fs
theorem Site.kc{key:Nat}{c c':Code}{fs bD:List Fr}(hs:Site key c fs c' bD):0<cA key c:=by
 induction hs with
 |mf _ ih=>simp only[cA];omega
 |jX _ ih=>simp only[cA];omega
 |l1 _ ih=>simp only[cA];omega
 |l2 _ ih=>simp only[cA];omega
 |blk _ ih=>simp only[cA];omega
 |@here id b fs e=>
  have:Nat.beq (key/2) id=true:=by rw[e];simp
  simp only[cA,this];omega
 |@behind id b fs e=>
  have:Nat.beq (key/2) id=true:=by
   have:key/2=id:=by omega
   rw[this];simp
  simp only[cA,this];omega|loop _ ih=>simpa only[cA]using ih|scope _ ih=>simpa only[cA]using ih|@region id ops draw fs e=>simp_all[cA]
theorem kt(key:Nat):∀(c:Code),dO key c=true↔0<cA key c|.seq a b=>by simp only[dO,cA,Bool.or_eq_true,kt key a,kt key b];omega|.cond _ a b=>by simp only[dO,cA,Bool.or_eq_true,kt key a,kt key b];omega|.block id b=>by simp only[dO,cA,Bool.or_eq_true,kt key b];grind|.loop b=>by simp only[dO,cA,kt key b]|.scope b=>by simp only[dO,cA,kt key b]|.region id _ _=>by grind[dO,cA]|.skip=>by simp[dO,cA]|.label _=>by simp[dO,cA]|.exit _=>by simp[dO,cA]|.goto _=>by simp[dO,cA]|.ret=>by simp[dO,cA]|.refuse _=>by simp[dO,cA]|.rangeFunc ..=>by simp[dO,cA]
def Ends(P:Program)(nb:Nat)(w:Wd)(ob:Tr ai)(h:AHeap)(Q:bP->av->Wd->Tr ai->Nat->Prop)(run:bP->av->Prop):Prop:=∃ct aF w' ob' nx',run ct aF/\af P w' ob' nx' aF.h/\fl nb w ob h w' ob' aF.h/\Q ct aF w' ob' nx'
theorem Ends.imp{nb:Nat}{ob:Tr ai}{Q:bP->av->Wd->Tr ai->Nat->Prop}{run c:bP->av->Prop}(he:Ends P nb w ob h Q run)(hi:∀ex a,run ex a->c ex a):Ends P nb w ob h Q c:=by obtain⟨ct,aF,w',ob',nx',q1,q2⟩:=he;exact⟨ct,aF,w',ob',nx',hi _ _ q1,q2⟩
theorem Ends.aq{nb:Nat}{ob c:Tr ai}{Q:bP->av->Wd->Tr ai->Nat->Prop}{run:bP->av->Prop}(hf:aT w ob h w' c h')(he:Ends P nb w' c h' Q run):Ends P nb w ob h Q run:=by obtain⟨ct,aF,w1,ob',nx',q1,q2,q3,i⟩:=he;exact⟨ct,aF,w1,ob',nx',q1,q2,fl.trans hf q3,i⟩
def zU(P:Program)(R:Rec)(fn:Func):bP->av->Option (cH×AHeap)|.normal,a=>cj P R fn a.tm a.df .ret a.h|.ret,a=>cj P R fn a.tm a.df .ret a.h|.panic v,a=>cj P R fn a.tm a.df (.aE v false) a.h|.exit _,_=>none
def QC(P:Program)(fn:Func)(shs psh:List Sh)(nb:Nat)(p:Bool)(r:AT p (bB shs) (bB psh))(ex:bP)(a:av)(w:Wd)(ob:Tr ai)(_:Nat):Prop:=a.cm=.none/\∃m out h2,zU P (bz P m) fn ex a=some (out,h2)/\iq p r (λr=>∃y,out=.ret y/\dR P w ob nb a.h fn.resultTypes.toList shs r y h2) (λt row b=>∃y,out=.aE y/\gM P t row y/\dR P w ob nb a.h [] psh b dm h2)
def K7(P:Program)(A:cQ)(R:dg A.pn):Prop:=∀f key shs psh nb r9 au df r,R.jump f key shs psh nb r9 au df=some r->∃fn code ts,P.funcs[f]?=some fn/\fn.body=some code/\A.cut f key=some ts/\∀c fs,Site key code [] c fs->∀(w:Wd)(a:av)(cx:Ctx),af P w (bH au 0 .leaf) au.length a.h->dZ P w (tc ts r9) a.tm->fQ P w df a.df->a.cm=.none->cx.round=none->a.h.floor<=a.h.next->tO a.df->(∀d,dK.da d∈a.df->a.h.floor<=d/\a.h.get d=some (.b8 (some [])))->cx.fn=f->fn.ntmps<=cx.tn->Ends P nb w (bH au 0 .leaf) a.h (QC P fn shs psh nb (A.pn f) r) (dJ P cx c fs a)
theorem CX:∀{xs ys:List Nat},zL xs ys=true->∀(p:Nat)(x:Nat),xs[p]?=some x->ys[p]?=some x|[],_,_,p,x,e=>by simp at e|_::_,[],h,_,_,_=>by cases h|x::xs,y::ys,h,p,z,e=>by simp only[zL,aZ]at h;have:=Nat.eq_of_beq_eq_true h.1;subst this;cases p with|zero=>exact e|succ p=>simpa using CX h.2 p z (by simpa using e)
theorem Vv{ob:Tr ai}{L:List Nat}{i j:Nat}{t:TypeId}{cs:List SV}(hL:L[j]?=some i)(e:ob.get i=some (.box t cs)):(bH (bW ob L L) 0 .leaf).get j=some (.box t (iK L cs)):=by grind[qD,sG,jY]
theorem fQ.gr(L:List Nat):∀{l:List (FuncId×List SV)}{ds:List dK},fQ P w l ds->fQ P (w.sub L) (Fv L l) ds:=by intro l ds h;induction h with|nil=>exact .nil|cons a _ ih=>exact .cons (a.gr L) ih|da _ ih=>exact .da ih
theorem Ka(hJ:K7 P A R){cx:Ctx}{st:ad}{a:av}(hs:bE P cx w st a){f key nb:Nat}{shs psh:List Sh}{r:AT (A.pn f) (bB shs) (bB psh)}(hr:tx P A R f shs psh nb key st=some r){fn:Func}{code:Code}(E:P.funcs[f]?=some fn)(hb:fn.body=some code)
 {c:Code}{fs:List Fr}(p:Site key code [] c fs)(gm:fn.ntmps<=cx.tn)(I:cx.fn=f):Ends P nb w st.ob a.h (QC P fn shs psh nb (A.pn f) r) (dJ P cx c fs a):=by
 unfold tx at hr
 split at hr
 case h_2=>cases hr
 rename_i ts G C
 have D:a.cm=.none:=by have:=hs.cm;rw[G]at this;cases hc:a.cm<;>rw[hc]at this<;>first|rfl|exact this.elim
 simp only at hr
 split at hr
 .cases hr
 rename_i aY au L M hc
 split at hr
 case h_2=>cases hr
 rename_i m
 obtain⟨S,J,K,e1,e2,e3,hj⟩:=hJ _ _ _ _ _ _ _ _ _ hr
 rw[E]at e1;cases e1
 rw[hb]at e2;cases e2
 rw[C]at e3;cases e3
 obtain⟨w1,q1,q2⟩:=Dp ts hs.h hs.tm
 unfold lS at hc
 simp only at hc
 split at hc
 case h_2=>cases hc
 rename_i q
 simp only[aZ]at q
 simp only[an,aV]at hc
 obtain⟨rfl,rfl,rfl,rfl⟩:=hc
 obtain⟨w2,N,u,U,T⟩:=uE (bx:=A.bx f) (qZ (oW P st.tm ts st).2.ob 200 (upto nb++Fu st.df++dw (oW P st.tm ts st).1) []) q1.1
 have z:=N.sub q.1 q.2
 have hE:=hj c fs p (w2.sub _) a cx (by rw[xJ];exact z) ((q2.mono u.le u.s).gr _).abn (((hs.df.mono q1.2.1.le q1.2.1.s).mono u.le u.s).gr _) D (hs.xa (by grind)) (hs.co.1.1.resolve_left (by grind)) hs.co.1.2 hs.co.2 I gm
 refine Ends.aq (q1.2.1.trans u) ?_
 obtain⟨ct,aF,w',ob',nx',p1,Q,j,O⟩:=hE
 refine⟨ct,aF,w',ob',nx',p1,Q,?_,O⟩
 refine⟨(aK.sub w2 _).trans j.le,λi k hi e=>j.s i k hi ?_,j.next,j.floor,λo h1 h2 h3=>j.b0 o h1 (λe=>h2 e.kH) h3,λo e=>(j.own o e).imp (λe=>e) Ow.kH,λo e=>?_,λo e=>?_,j.dA,λi t cs hi e=>?_⟩
 .have:=CX m i i (x1 hi);simp_all[Option.bind_some,Wd.sub]
 .rcases j.F o e with e|e|e
  .exact .inl e
  .grind
  .exact .inr (.inr e.kH)
 .rcases j.wr o e with e|e|e|e
  .exact .inl e
  .grind
  .exact .inr (.inr (.inl e.kH))
  grind
 .have hL:=CX m i i (x1 hi);exact j.bx i t _ hi (Vv hL e)
end
end Go.AI
end

section
namespace Go.AI
variable [Kn]
section
variable {P:Program}{w w':Wd}{ob ob':Tr ai}{nx:Nat}{h h':AHeap}{ρ:Type}{l:Nat}
theorem eC{y:bT}{o:Nat}(e:o≠l):(h.aG l y).get o=h.get o:=by simp only[AHeap.get,AHeap.aG,Tr.aB _ _ e]
theorem qo{y:bT}:(h.aG l y).get l=some y:=by simp only[AHeap.get,AHeap.aG,Tr.aQ]
theorem DR(hs:af P w ob nx h){x y:bT}(hx:h.get l=some x)(j:nJ x=true):gq w (w.heap (h.aG l y).get):=⟨λ_ f=>f,λo f v mv c fz el ex sh e=>⟨v,[],fz,el,ex,sh,by
 have i:o≠l:=by rintro rfl;rw[hs.g,hx]at e;cases e;cases j
 show(h.aG l y).get o=_
 rw[eC i,List.append_nil,<-hs.g];exact e,ao _⟩,λo f es cl e=>by
 have i:o≠l:=by rintro rfl;rw[hs.g,hx]at e;cases e;cases j
 show(h.aG l y).get o=_;rw[eC i,<-hs.g];exact e⟩
theorem af.E0(hs:af P w ob nx h){x y:bT}(hx:h.get l=some x)(u:nJ x=true):af P (w.heap (h.aG l y).get) ob nx (h.aG l y):=by
 have hc:=DR (y:=y) hs hx u
 have j:∀{o:Nat}{v mv fz:Nat}{c:List AV}{el:TypeId}{ex sh:Bool},h.get o=some (.cells v mv c fz el ex sh)->(h.aG l y).get o=some (.cells v mv c fz el ex sh):=λe=>by
  rw[eC]
  .exact e
  .rintro rfl;rw[hx]at e;cases e;cases u
 have K:∀{o cl:Nat}{es:List (AV×AV×Nat)},h.get o=some (.map es cl)->(h.aG l y).get o=some (.map es cl):=λe=>by
  rw[eC]
  .exact e
  .rintro rfl;rw[hx]at e;cases e;cases u
 refine⟨λ_=>rfl,?_,?_,?_,hs.inj,hs.lt,hs.nx,?_,?_,λi t rows z e=>?_,λi t rows z e=>?_⟩
 .intro i t cs e;obtain⟨o,c,sh,b1,b2,b3,N,Q⟩:=hs.box i t cs e;exact⟨o,c,sh,b1,j b2,ak.kX hc (λ_ _ e=>e) (xY N) b3,N,Q⟩
 .intro i t rows z e
  obtain⟨E,M,L,D⟩:=hs.arr i t rows z e
  refine⟨E,M,L,?_⟩
  rcases D with q|⟨o,ver,mv,c,ex,sh,cap,q1,q2,q3,p,m,I,G,F⟩
  .exact .inl q
  .exact .inr ⟨o,ver,mv,c,ex,sh,cap,q1,q2,j q3,p,m,I.bI hc,G,F⟩
 .intro i s el e
  obtain⟨E,D⟩:=hs.ba i s el e
  refine⟨E,?_⟩
  rcases D with q|⟨o,ver,mv,ex,fz,cap,O,q1,q2,q3,p,m,G⟩
  .exact .inl q
  .exact .inr ⟨o,ver,mv,ex,fz,cap,O,q1,q2,j q3,p,m,G⟩
 .intro o f
  refine⟨(hs.bJ o f).1,?_⟩
  by_cases e:o=l
  .subst e;rw[qo];simp
  .rw[eC e];exact(hs.bJ o f).2
 .intro o ho
  have C:h.next<=o:=ho
  have:o≠l:=by rintro rfl;rw[hs.new o C]at hx;cases hx
  rw[eC this];exact hs.new o C
 .obtain⟨e1,o,es,cl,q1,q2,q3,p,m⟩:=hs.mp i t rows z e;exact⟨e1,o,es,cl,q1,q2,K q3,p.bI hc,m⟩
 .obtain⟨E,M,L,D⟩:=hs.tr i t rows z e
  refine⟨E,M,L,?_⟩
  rcases D with q|⟨o,ver,mv,c,ex,sh,n,q1,q3,p,m,J,I,F⟩
  .exact .inl q
  .exact .inr ⟨o,ver,mv,c,ex,sh,n,q1,j q3,p,m,J,I.bI hc,F⟩
structure iT(l nb:Nat)(w:Wd)(ob:Tr ai)(h:AHeap)(w':Wd)(ob':Tr ai)(h':AHeap):Prop where
 c:gq w w'
 lp:∀o x,o≠l->w.g o=some x->nJ x=true->w'.g o=some x
 n:∀o,o≠l->w.g o≠none->w'.g o≠none/\(Lp w'.g o->Lp w.g o)
 s:∀i k,i<nb->w.s i=some k->w'.s i=some k
 next:h.next<=h'.next
 floor:h'.floor=h.floor
 b0:∀o,o<h.next->¬Ow w ob o->o≠l->h'.get o=h.get o
 own:∀o,Ow w' ob' o->h.next<=o\/Ow w ob o
 F:∀o,w'.F o->w.F o\/h.next<=o\/Ow w ob o
 wr:∀o,o∈h'.wr->o∈h.wr\/h.next<=o\/Ow w ob o\/Lp h.get o\/o=l
 dA:(∀o,o∈h.wr->o<h.floor)->∀o,o∈h'.wr->o<h'.floor
 bx:∀i t cs,i<nb->ob.get i=some (.box t cs)->∃aH,ob'.get i=some (.box t aH)
theorem iT.of{nb:Nat}(a:fl nb w ob h w' ob' h'):iT l nb w ob h w' ob' h':=⟨a.le.c,λo x _ e i=>a.le.l o x e i,λo _ e=>a.le.n o e,a.s,a.next,a.floor,λo h1 h2 _=>a.b0 o h1 h2 id,a.own,a.F,λo e=>(a.wr o e).imp id (.imp id (.imp id λe=>e.elim .inl False.elim)),a.dA,a.bx⟩
theorem iT.aG{nb:Nat}(hs:af P w ob nx h){x y:bT}(hx:h.get l=some x)(j:nJ x=true):iT l nb w ob h (w.heap (h.aG l y).get) ob (h.aG l y)where
 c:=DR hs hx j
 lp:=λo x e1 e _=>by show(h.aG l y).get o=_;rw[eC e1,<-hs.g];exact e
 n:=λo e1 e=>by show(h.aG l y).get o≠none/\(Lp (h.aG l y).get o->Lp w.g o);unfold Lp;rw[eC e1,<-hs.g];grind
 s:=λ_ _ _ e=>e
 next:=ao _
 floor:=rfl
 b0:=λo _ _ e=>eC e
 own:=λo e=>.inr e
 F:=λo e=>.inl e
 wr:=λo e=>by
  rcases mC e with e|e
  .exact .inl e
  grind
 dA:=λe=>oo e
 bx:=λi t cs _ e=>⟨cs,e⟩
theorem iT.trans{nb:Nat}{p:Wd}{j:Tr ai}{u:AHeap}(a:iT l nb w ob h w' ob' h')(b:iT l nb w' ob' h' p j u):iT l nb w ob h p j u where
 c:=⟨λo f=>b.c.F o (a.c.F o f),λo f v mv c fz el ex sh e=>by obtain⟨E,d1,L,e1,C,I,q1,q2⟩:=a.c.g o f v mv c fz el ex sh e;obtain⟨D,d2,K,e2,z,G,q3,J⟩:=b.c.g o (a.c.F o f) _ _ _ _ _ _ _ q1;grind,λo f es cl e=>b.c.m o (a.c.F o f) es cl (a.c.m o f es cl e)⟩
 lp:=λo x e1 e i=>b.lp o x e1 (a.lp o x e1 e i) i
 n:=λo e1 e=>⟨(b.n o e1 (a.n o e1 e).1).1,λq=>(a.n o e1 e).2 ((b.n o e1 (a.n o e1 e).1).2 q)⟩
 s:=λi k hi e=>b.s i k hi (a.s i k hi e)
 next:=Nat.le_trans a.next b.next
 floor:=b.floor.trans a.floor
 b0:=λo h1 h2 hx=>by rw[b.b0 o (Nat.lt_of_lt_of_le h1 a.next) (λh3=>(a.own o h3).elim (λh4=>absurd h1 (by omega)) h2) hx];exact a.b0 o h1 h2 hx
 own:=λo e=>by
  rcases b.own o e with h1|h1
  .exact .inl (Nat.le_trans a.next h1)
  .exact a.own o h1
 F:=λo e=>by
  rcases b.F o e with h1|h1|h1
  .exact a.F o h1
  .exact .inr (.inl (Nat.le_trans a.next h1))
  .exact .inr (a.own o h1)
 wr:=λo e=>by
  rcases Nat.lt_or_ge o h.next with q|q
  .by_cases h2:Ow w ob o
   .grind
   .by_cases h3:o=l
    .grind
    .rcases b.wr o e with h1|h1|h1|h1|h1
     .exact a.wr o h1
     .exact absurd (Nat.le_trans a.next h1) (by omega)
     .exact .inr ((a.own o h1).imp id .inl)
     .obtain⟨x,e3,e4⟩:=h1;exact .inr (.inr (.inr (.inl ⟨x,by rw[<-a.b0 o q h2 h3];exact e3,e4⟩)))
     grind
  grind
 dA:=λe=>b.dA (a.dA e);bx:=λi t cs hi e=>let⟨c1,e1⟩:=a.bx i t cs hi e;b.bx i t c1 hi e1
theorem iT.full{nb:Nat}(a:iT l nb w ob h w' ob' h')(hg:w.g=h.get)(p:w'.g=h'.get){x:bT}(hx:h.get l=some x)(j:nJ x=true)(q:h'.get l=some x):fl nb w ob h w' ob' h' where
 le:=⟨a.c.F,λo y e i=>by
  by_cases e1:o=l
  .simp_all
  .exact a.lp o y e1 e i,λo e=>by
  by_cases e1:o=l
  .subst e1;rw[p,hg];exact⟨by grind,λ_=>⟨x,hx,j⟩⟩
  .exact a.n o e1 e,a.c.g,a.c.m⟩
 s:=a.s
 next:=a.next
 floor:=a.floor
 b0:=λo h1 h2 _=>by
  by_cases e1:o=l
  .grind
  .exact a.b0 o h1 h2 e1
 own:=a.own
 F:=a.F
 wr:=λo e=>by
  rcases a.wr o e with e|e|e|e|e
  .exact .inl e
  .grind
  .grind
  .grind
  .subst e;exact .inr (.inr (.inr (.inl ⟨x,hx,j⟩)))
 dA:=a.dA
 bx:=a.bx
theorem TZ{v:SV}{tm:Tr AV}{t:Tmp}(hv:M5 v=true)(hr:RV P w v (ev tm (.tmp t))):∃x,tm.get t=some x/\RV P w v x:=by simp only[ev]at hr;cases hg:tm.get t with|some x=>grind|none=>rw[hg]at hr;exfalso;cases hr with|aA=>cases hv|fJ=>cases hv|ea=>cases hv|dl h=>cases h|cI h=>cases h|md h=>cases h|ls h=>cases h
theorem ya{tm:Tr AV}:∀{ts:List Tmp}{vs:List SV}{ys:List AV}{tr:Tr SV},ak P w vs (ts.map (λt=>ev tm (.tmp t))++ys)->dZ P w tr tm->dZ P w (np ts vs tr) tm
 |[],vs,ys,tr,_,ht=>by unfold np;exact ht
 |t::ts,[],ys,tr,h,_=>by cases h
 |t::ts,v::vs,ys,tr,.cons a b,ht=>by
  unfold np
  split
  .rename_i hv;obtain⟨x,h1,h2⟩:=TZ hv a;exact ya b (ht.wA h1 h2)
  .exact ya b ht
theorem Kb{n tn:Nat}(hn:n<=tn):∀{ps:List Tmp}{vs:List SV}{ys:List AV}{tr se:Tr SV}{tm:Tr AV},vQ n ps vs tr=some se->ak P w vs ys->dZ P w tr tm->∃bO,lO tn ps ys tm=some bO/\dZ P w se bO
 |[],[],_,tr,se,tm,hr,.nil,ht=>by simp only[vQ,an]at hr;subst hr;exact⟨tm,rfl,ht⟩
 |[],_::_,_,_,_,_,hr,_,_=>by cases hr
 |_::_,[],_,_,_,_,hr,_,_=>by cases hr
 |p::ps,v::vs,_,tr,se,tm,hr,.cons a b,ht=>by
  simp only[vQ]at hr
  split at hr
  .rename_i hp
   have hp:p<n:=by simpa[Nat.blt_eq]using hp
   obtain⟨bO,h1,h2⟩:=Kb hn hr b (ht.put a);exact⟨bO,by simp only[lO];grind,h2⟩
  .cases hr
theorem af.abo(hs:af P w ob nx h)(hg:∀o,o<h.next->h'.get o=h.get o)(hn:h.next<=h'.next)(p:∀o,h'.next<=o->h'.get o=none)(hf:h'.floor=h.floor)(hw:h'.wr=h.wr):
 af P (w.heap h'.get) ob nx h'/\aT w ob h (w.heap h'.get) ob h':=by
 have z:∀{o:Nat}{x:bT},h.get o=some x->o<h.next:=λ{o x}e=>by
  rcases Nat.lt_or_ge o h.next with q|q
  .exact q
  .rw[hs.new o q]at e;cases e
 have u:aK w (w.heap h'.get):=⟨λ_ f=>f,λo x e _=>by rw[hs.g]at e;show h'.get o=_;grind,λo e=>by rw[hs.g]at e;obtain⟨x,hx⟩:=Option.ne_none_iff_exists'.1 e;show h'.get o≠none/\(Lp h'.get o->Lp w.g o);unfold Lp;rw[hg o (z hx),hs.g];grind,λo f v mv c fz el ex sh e=>⟨v,[],fz,el,ex,sh,by rw[hs.g]at e;show h'.get o=_;grind,ao _⟩,λo f es cl e=>by rw[hs.g]at e;show h'.get o=_;grind⟩
 have m:∀j y,ob.get j=some y->cN P (w.heap h'.get) h' j y:=by intro j y e;cases y with|gone=>trivial|_=>exact(hs.fO e).move u (λ_ _ e=>e) λk o h1 h2=>⟨hg o (hs.lt j k o h1 h2),λf=>f⟩
 refine⟨⟨λ_=>rfl,λi t cs e=>m i _ e,λi t rows l e=>m i _ e,λi s l e=>m i _ e,hs.inj,λi k o h1 h2=>Nat.lt_of_lt_of_le (hs.lt i k o h1 h2) hn,hs.nx,λo f=>⟨Nat.lt_of_lt_of_le (hs.bJ o f).1 hn,by rw[hg o (hs.bJ o f).1];exact(hs.bJ o f).2⟩,p,λi t rows l e=>m i _ e,λi t rows l e=>m i _ e⟩,⟨u,λ_ _ e=>e,hn,hf,λo h1 _=>hg o h1,λo e=>.inr e,λo e=>.inl e,λo e=>by grind,λe=>by grind,λi t cs e=>⟨cs,e⟩⟩⟩
end
end Go.AI
end

section
namespace Go.AI
variable [Kn]
def lK(P:Program):gZ->bP->Prop|.normal,.normal=>True|.ret,.ret=>True|.exit i,.exit j=>i=j|.aE t row,.panic y=>gM P t row y|_,_=>False
theorem lK.normal{P:Program}{x:bP}(h:lK P .normal x):x=.normal:=by cases x<;>first|rfl|exact h.elim
theorem lK.ret{P:Program}{x:bP}(h:lK P .ret x):x=.ret:=by cases x<;>first|rfl|exact h.elim
theorem lK.exit{P:Program}{i:Nat}{x:bP}(h:lK P (.exit i) x):x=.exit i:=by cases x with|exit j=>have:i=j:=h;rw[this]|_=>exact h.elim
theorem lK.aE{P:Program}{t:TypeId}{row:List AV}{x:bP}(h:lK P (.aE t row) x):∃y,x=.panic y/\gM P t row y:=by cases x with|panic y=>exact⟨y,rfl,h⟩|_=>exact h.elim
theorem lK.ne{P:Program}{e:gZ}{x:bP}(h:lK P e x)(hn:e≠.normal):x≠.normal:=by rintro rfl;cases e<;>first|exact hn rfl|exact h.elim
section
variable {P:Program}{cx:Ctx}{fs:List Fr}{a aF:av}{ct:bP}
theorem BP.le{c:Code}{ex:bP}{a':av}(h:BP P cx c a ex a'):∃i,∀m,i<=m->evalCode P (bz P m) cx c a=some (ex,a'):=by obtain⟨m,e⟩:=h;exact⟨m,λj hm=>iA (hY P hm) e⟩
theorem dJ.seq{c b:Code}(h:dJ P cx c (.code b::fs) a ct aF):dJ P cx (.seq c b) fs a ct aF:=by obtain⟨i,m,h1,h2⟩:=h;obtain⟨m1,h1⟩:=h1.le;have other:i≠.normal->dq P cx fs i m ct aF->dJ P cx (.seq c b) fs a ct aF:=λhn hf=>⟨i,m,⟨m1,by simp_all[ao,evalCode]⟩,hf⟩;cases i with|normal=>obtain⟨j,o,h3,h4⟩:=h2;obtain⟨m2,h3⟩:=h3.le;refine⟨j,o,⟨max m1 m2,?_⟩,h4⟩;simp_all[Nat.le_max_left,Nat.le_max_right,evalCode]|exit id=>exact other (by simp) h2|ret=>exact other (by simp) h2|panic v=>exact other (by simp) h2
theorem dJ.loop{b:Code}(h:dJ P cx b (.code (.loop b)::fs) a ct aF):dJ P cx (.loop b) fs a ct aF:=by obtain⟨c,j,h1,h2⟩:=h;obtain⟨m1,h1⟩:=h1.le;have other:c≠.normal->dq P cx fs c j ct aF->dJ P cx (.loop b) fs a ct aF:=λhn hf=>⟨c,j,⟨m1+1,by rw[evalCode];show mD P (bz P m1) b cx a=_;simp_all[ao,mD]⟩,hf⟩;cases c with|normal=>obtain⟨i,m,h3,h4⟩:=h2;obtain⟨m2,h3⟩:=h3.le;refine⟨i,m,⟨max m1 m2+1,?_⟩,h4⟩;rw[evalCode];show mD P (bz P (max m1 m2)) b cx a=_;simp_all[Nat.le_max_left,Nat.le_max_right,mD,evalCode]|exit id=>exact other (by simp) h2|ret=>exact other (by simp) h2|panic v=>exact other (by simp) h2
theorem dJ.block{id:Nat}{b:Code}(h:dJ P cx b (.blk id::fs) a ct aF):dJ P cx (.block id b) fs a ct aF:=by
 obtain⟨j,c,⟨m1,h1⟩,h2⟩:=h
 cases j with
 |exit i=>
  simp only[dq]at h2
  split at h2
  .rename_i e;exact⟨.normal,c,⟨m1,by rw[evalCode,h1];grind⟩,h2⟩
  .rename_i e;exact⟨.exit i,c,⟨m1,by rw[evalCode,h1];grind⟩,h2⟩|normal=>exact⟨_,c,⟨m1,by rw[evalCode,h1]⟩,h2⟩|ret=>exact⟨_,c,⟨m1,by rw[evalCode,h1]⟩,h2⟩|panic v=>exact⟨_,c,⟨m1,by rw[evalCode,h1]⟩,h2⟩
theorem dJ.scope{b:Code}(h:dJ P cx b fs a ct aF):dJ P cx (.scope b) fs a ct aF:=by obtain⟨c,i,⟨m1,h1⟩,h2⟩:=h;exact⟨c,i,⟨m1,by rw[evalCode];exact h1⟩,h2⟩
theorem dJ.skip(h:dJ P cx .skip fs a ct aF):dq P cx fs .normal a ct aF:=by obtain⟨c,i,⟨m1,h1⟩,h2⟩:=h;rw[evalCode]at h1;grind
theorem dq.code{b:Code}{ex:bP}(hn:ex≠.normal)(h:dq P cx fs ex a ct aF):dq P cx (.code b::fs) ex a ct aF:=by cases ex with|normal=>grind|_=>exact h
variable {A:cQ}{R:dg A.pn}{f:FuncId}{nb:Nat}{fn:Func}{la tC:Code}{ρ:Type}{J:Nat->ad->Option ρ}{Q:ρ->bP->av->Wd->Tr ai->Nat->Prop}
def mq(P:Program)(nb:Nat)(cx:Ctx)(Q:ρ->bP->av->Wd->Tr ai->Nat->Prop)(fs:List Fr)(k:gZ->ad->Option ρ):Prop:=∀ex c st w a r,bE P cx w st a->lK P ex c->k ex st=some r->Ends P nb w st.ob a.h (Q r) (dq P cx fs c a)
def uf(P:Program)(nb:Nat)(cx:Ctx)(Q:ρ->bP->av->Wd->Tr ai->Nat->Prop)(la:Code)(J:Nat->ad->Option ρ):Prop:=∀key st w a r c fs,bE P cx w st a->J key st=some r->Site key la [] c fs->Ends P nb w st.ob a.h (Q r) (dJ P cx c fs a)
theorem R3{n m:Nat}(hn:n<=m){id:Nat}{ops:Array Oper}{draw:Bool}(h:dx n (.region id ops draw)=true):∀o,o∈ops.toList->iO m o.dst:=by
 intro o ho
 simp only[dx,List.all_eq_true]at h
 have:=h o ho
 cases hd:o.dst with
 |none=>trivial
 |some d=>
  rw[hd]at this
  have h2:d<n:=by simpa[Nat.blt_eq]using this
  exact Nat.lt_of_lt_of_le h2 hn
theorem Kc(hC:eA P A R)(gm:fn.ntmps<=cx.tn){j:Bool}{id:Nat}{ops:Array Oper}{draw:Bool}{k:gZ->ad->Option ρ}{st:ad}{w:Wd}{r:ρ}(ht:dx fn.ntmps (.region id ops draw)=true)(hk:mq P nb cx Q fs k)(hs:bE P cx w st a)
 (hr:wy P A R j (λt row st=>k (.aE t row) st) ops draw st (λst=>k .normal st)=some r):Ends P nb w st.ob a.h (Q r) (dJ P cx (.region id ops draw) fs a):=by
 rcases Vt (id:=id) (cx:=cx) hC hs (R3 gm ht) hr with⟨m,w',st',a',q1,q2,q3,c⟩|⟨m,w',st',a',t,row,y,q1,q2,q3,c,i⟩
 .exact Ends.aq q3 ((hk .normal .normal _ _ _ _ q2 trivial c).imp λ_ _ e=>⟨_,_,⟨m,q1⟩,e⟩)
 .exact Ends.aq q3 ((hk (.aE t row) (.panic y) _ _ _ _ q2 i c).imp λ_ _ e=>⟨_,_,⟨m,q1⟩,e⟩)
structure FG(P:Program)(cx:Ctx)(f:FuncId)(fn:Func)(la:Code):Prop where
 h1:cx.fn=f
 h2:P.funcs[f]?=some fn
 h3:fn.body=some la
 h4:fn.ntmps<=cx.tn
theorem Xb(hC:eA P A R)(iv:FG P cx f fn tC){fo:Operand}{ps:Array Tmp}{hd bd:Code}{k:gZ->ad->Option ρ}{st:ad}{w:Wd}{r:ρ}(I:cL tC ps.toList hd bd)(hk:mq P nb cx Q fs k)(hs:bE P cx w st a)
 (hr:Fy P A R f st fo k=some r):Ends P nb w st.ob a.h (Q r) (dJ P cx (.rangeFunc fo ps hd bd) fs a):=by
 unfold Fy at hr
 split at hr
 case h_2=>cases hr
 rename_i g caps ts hf hcm hlp
 split at hr
 case h_2=>cases hr
 rename_i fg hfg
 split at hr
 case h_2=>cases hr
 rename_i cg hbg
 have Y:=hs.xa (by grind)
 have G1:=hs.co.1.1.resolve_left (by grind)
 have hx:=er hs.tm fo
 rw[hf]at hx
 obtain⟨xs,E,BK⟩:∃xs,ak P w caps xs/\nF (ev a.tm fo)=some (.func g,[],xs):=by generalize hy:ev a.tm fo=y at hx;cases hx with|fn a=>exact⟨_,a,rfl⟩|fp=>exact⟨[],.nil,rfl⟩
 let G:bT:=.loop .ready none cx.fn cx.tn a.tm ps.toList hd bd a.h.next
 let h1:AHeap:=(a.h.alloc (.b8 (some []))).alloc G
 have M:h1.get (a.h.next+1)=some G:=by show((a.h.bU.put a.h.next (.b8 (some []))).put (a.h.next+1) G).get (a.h.next+1)=_;rw[Tr.aQ]
 have hdo:h1.get a.h.next=some (.b8 (some [])):=by show((a.h.bU.put a.h.next (.b8 (some []))).put (a.h.next+1) G).get a.h.next=_;rw[Tr.aB _ _ (by omega),Tr.aQ]
 have hold:∀o,o≠a.h.next->o≠a.h.next+1->h1.get o=a.h.get o:=λo e1 e2=>by show((a.h.bU.put a.h.next (.b8 (some []))).put (a.h.next+1) G).get o=_;rw[Tr.aB _ _ e2,Tr.aB _ _ e1];rfl
 have hn1:h1.next=a.h.next+2:=rfl
 obtain⟨K,C⟩:=hs.h.abo (h':=h1) (λo e=>hold o (by omega) (by omega)) (by grind) (λo e=>by rw[hold o (by omega) (by omega)];exact hs.h.new o (by omega)) rfl rfl
 have U:RV P (w.heap h1.get) (.yl f ts (ts.map λt=>bw st.tm (.tmp t))) (.ej (a.h.next+1)):=by refine .yl (show h1.get (a.h.next+1)=some (.loop .ready none f cx.tn a.tm ps.toList hd bd a.h.next)by rw[<-iv.h1];exact M) ⟨fn,tC,iv.h2,iv.h3,iv.h4,I⟩ ?_;exact ak.map _ λt _=>(er hs.tm _).mono C.le C.s
 rcases J6 hC (w:=w.heap h1.get) (h:=h1) K (.cons U (E.mono C.le C.s)) hr with⟨m,w',st',h',v,y,q1,q2,q3,S,O,q6,_,_⟩|⟨_,_,_,_,_,_,_,_,_,_,_,O,_⟩
 case inr=>cases O
 have L:h'.get (a.h.next+1)=some G:=by rw[<-q1.g];exact q2.le.l _ _ M rfl
 have ad7:a.h.next+2<=h'.next:=by rw[<-hn1];exact q2.next
 have Z:∀{o:Nat}{x:bT},h1.get o=some x->¬w8 x->¬Ow (w.heap h1.get) st.ob o:=by rintro o x e1 e2⟨i,k,p1,p2,p3⟩;obtain⟨_,q,c⟩:=K.cells p1 p2 p3;rw[e1]at q;cases q;exact e2 c
 let T:bT:=.loop .exhausted none cx.fn cx.tn a.tm ps.toList hd bd a.h.next
 let h2:AHeap:=h'.aG (a.h.next+1) T
 have X:af P (w'.heap h2.get) st'.ob st'.nx h2:=q1.E0 L rfl
 have z:∀{o:Nat},o≠a.h.next+1->h2.get o=h'.get o:=λe=>eC e
 have D:h2.floor=a.h.floor:=q2.floor
 have N:∀d,d<h1.next->∀x,h1.get d=some x->¬w8 x->d≠a.h.next+1->h2.get d=some x:=λd e1 x e2 e3 e4=>by rw[z e4,q2.b0 d e1 (Z e2 e3)];exact e2
 have u:∀{o:Nat}{x:bT},a.h.get o=some x->o<a.h.next:=λ{o x}e=>by
  rcases Nat.lt_or_ge o a.h.next with q|q
  .exact q
  .rw[hs.h.new o q]at e;cases e
 have j:=C.trans q2
 have p:aT w st.ob a.h (w'.heap h2.get) st'.ob h2:=by
  refine⟨⟨j.le.F,λo x e i=>?_,λo e=>?_,λo f v mv c fz el ex sh e=>?_,λo f es cl e=>?_⟩,j.s,j.next,j.floor,λo e1 e2=>?_,j.own,j.F,λo e=>?_,λe=>oo (j.dA e),j.bx⟩
  .have:=u (by rw[<-hs.h.g];exact e);show h2.get o=_;rw[z (by omega),<-q1.g];exact j.le.l o x e i
  .have e':=e;rw[hs.h.g]at e';obtain⟨x,hx⟩:=Option.ne_none_iff_exists'.1 e';have:=u hx;have q:=j.le.n o e;show h2.get o≠none/\(Lp h2.get o->Lp w.g o);unfold Lp at q⊢;rw[z (by omega),<-q1.g];exact q
  .have:=u (by rw[<-hs.h.g];exact e);obtain⟨v',d',eW,eY,eZ,eN,p1,p2⟩:=j.le.g o f v mv c fz el ex sh e;exact⟨v',d',eW,eY,eZ,eN,by show h2.get o=_;rw[z (by omega),<-q1.g];exact p1,p2⟩
  .have:=u (by rw[<-hs.h.g];exact e);show h2.get o=_;rw[z (by omega),<-q1.g];exact j.le.m o f es cl e
  .rw[z (by omega)];exact j.b0 o e1 e2
  .rcases mC e with e|e
   .exact j.wr o e
   grind
 have e1:st'.al=st.al:=congrArg (·.1) S
 have e2:st'.df=st.df:=congrArg (·.2.1) S
 have e3:st'.cm=st.cm:=congrArg (·.2.2) S
 have V:bE P cx (w'.heap h2.get) st' {a with h:=h2,df:=.da a.h.next::a.df}:=by
  refine⟨X,by rw[q3];exact hs.tm.mono p.le p.s,by rw[e1];exact hs.al,by rw[e2];exact .da (hs.df.mono p.le p.s),by rw[e3];exact hs.cm,.inl Y,by grind,⟨.inr ?_,λe=>?_,hs.co.1.2⟩,λd w9=>?_⟩
  .show h2.floor<=h2.next;rw[D];have:h2.next=h'.next:=rfl;omega
  .have:=u (hs.co.2 _ e).2;omega
  .show h2.floor<=d/\h2.get d=_
   rw[D]
   rcases List.mem_cons.1 w9 with e|e
   .cases e;exact⟨G1,N _ (by omega) _ hdo (by intro h;cases h) (by omega)⟩
   .obtain⟨p1,p2⟩:=hs.co.2 d e;have:=u p2;exact⟨p1,N d (by omega) _ (by grind) (by intro h;cases h) (by omega)⟩
 refine Ends.aq p ((hk .normal .normal _ _ _ _ V trivial O).imp λ_ _ e=>⟨_,_,⟨m,?_⟩,e⟩);rw[evalCode];grind[List.singleton_append,jB]
section
variable (hC:eA P A R)(hJ:uf P nb cx Q la J)(gm:fn.ntmps<=cx.tn)(iv:FG P cx f fn tC)
include hC hJ gm iv
theorem Je{id:Nat}{k:gZ->ad->Option ρ}{b:Code}(i:∀key c' bD,Site key (.block id b) fs c' bD->Site key la [] c' bD)(hk:mq P nb cx Q fs k):
 mq P nb cx Q (.blk id::fs) (λex st=>match(match ex with|.exit c=>Nat.beq c id|.normal=>true|_=>false)with
 |true=>(match A.cut f (2*id+1)with|some _=>J (2*id+1) st|none=>k .normal st)
 |false=>k ex st):=by
 intro ex o st w a r hs hx hr
 have m:(match A.cut f (2*id+1)with
  |some _=>J (2*id+1) st
  |none=>k .normal st)=some r->Ends P nb w st.ob a.h (Q r) (dq P cx fs .normal a):=by
  intro e
  split at e
  .exact(hJ _ _ _ _ _ _ _ hs e (i _ _ _ (.behind rfl))).imp λ_ _=>dJ.skip
  .exact hk .normal .normal _ _ _ _ hs trivial e
 cases ex with|normal=>obtain rfl:=hx.normal;exact m hr|ret=>obtain rfl:=hx.ret;exact hk .ret .ret _ _ _ _ hs trivial hr|aE t row=>obtain⟨y,rfl,hy⟩:=hx.aE;exact hk (.aE t row) (.panic y) _ _ _ _ hs hy hr|exit c=>obtain rfl:=hx.exit;simp only at hr;cases j:Nat.beq c id with|true=>simp_all[Nat.eq_of_beq_eq_true,if_true,dq]|false=>rw[j]at hr;have:=Nat.ne_of_beq_eq_false j;exact(hk (.exit c) (.exit c) _ _ _ _ hs rfl hr).imp λ_ _ e=>by simp only[dq,this,if_false];exact e
theorem jd:∀(c:Code){o:Option Nat}{fs:List Fr}{k:gZ->ad->Option ρ}{st:ad}{w:Wd}{a:av}{r:ρ},(∀key c' bD,Site key c fs c' bD->Site key la [] c' bD)->
 (∀i b,o=some i->c=.loop b->Site (2*i) la [] c fs)->(∀qs x y,cL c qs x y->cL tC qs x y)->dx fn.ntmps c=true->mq P nb cx Q fs k->bE P cx w st a->eD P A R f J o c st k=some r->Ends P nb w st.ob a.h (Q r) (dJ P cx c fs a)
 |.skip,o,fs,k,st,w,a,r,_,_,_,_,hk,hs,hr=>(hk .normal .normal _ _ _ _ hs trivial hr).imp λ_ _ e=>⟨_,_,⟨0,rfl⟩,e⟩
 |.label _,o,fs,k,st,w,a,r,_,_,_,_,hk,hs,hr=>(hk .normal .normal _ _ _ _ hs trivial hr).imp λ_ _ e=>⟨_,_,⟨0,rfl⟩,e⟩
 |.region id ops draw,o,fs,k,st,w,a,r,j,_,p,ht,hk,hs,hr=>by
  rw[eD]at hr
  split at hr
  .exact hJ _ _ _ _ _ _ _ hs hr (j _ _ _ (.region rfl))
  .exact Kc hC gm ht hk hs hr
 |.seq c b,o,fs,k,st,w,a,r,j,_,p,ht,hk,hs,hr=>by rw[eD]at hr;simp only[dx,aZ]at ht;refine(jd c (fs:=.code b::fs) (λkey c' bD e=>j _ _ _ (.mf e)) (λi b e=>by cases e) (λ_ _ _ e=>p _ _ _ (.mf e)) ht.1 (λex L K w1 G M u q C=>?_) hs hr).imp λ_ _=>dJ.seq;cases ex with|normal=>obtain rfl:=q.normal;exact jd b (λkey c' bD e=>j _ _ _ (.jX e)) (λi b e=>by cases e) (λ_ _ _ e=>p _ _ _ (.jX e)) ht.2 hk u C|exit id=>exact(hk _ _ _ _ _ _ u q C).imp λ_ _=>dq.code (q.ne (by simp))|ret=>exact(hk _ _ _ _ _ _ u q C).imp λ_ _=>dq.code (q.ne (by simp))|aE t row=>exact(hk _ _ _ _ _ _ u q C).imp λ_ _=>dq.code (q.ne (by simp))
 |.cond c x y,o,fs,k,st,w,a,r,j,_,p,ht,hk,hs,hr=>by
  rw[eD]at hr
  simp only[dx,aZ]at ht
  split at hr
  .rename_i t I
   have he:=er hs.tm c
   rw[I]at he
   have F:ev a.tm c=.sc (.bool t):=by generalize ev a.tm c=z at he;cases he;rfl
   rcases kr hr with⟨rfl,hr⟩|⟨rfl,hr⟩
   .refine(jd x (λkey c' bD e=>j _ _ _ (.l1 e)) (λi b e=>by cases e) (λ_ _ _ e=>p _ _ _ (.l1 e)) ht.1 hk hs hr).imp λ_ _ e=>?_;obtain⟨D,G,⟨m,h1⟩,h2⟩:=e;exact⟨D,G,⟨m,by rw[evalCode,F];exact h1⟩,h2⟩
   .refine(jd y (λkey c' bD e=>j _ _ _ (.l2 e)) (λi b e=>by cases e) (λ_ _ _ e=>p _ _ _ (.l2 e)) ht.2 hk hs hr).imp λ_ _ e=>?_;obtain⟨D,G,⟨m,h1⟩,h2⟩:=e;exact⟨D,G,⟨m,by rw[evalCode,F];exact h1⟩,h2⟩
  .cases hr
 |.block id b,o,fs,k,st,w,a,r,j,_,p,ht,hk,hs,hr=>by rw[eD]at hr;simp only[dx]at ht;exact(jd b (fs:=.blk id::fs) (λkey c' bD e=>j _ _ _ (.blk e)) (λi b' e1 e2=>by cases e1;subst e2;exact j _ _ _ (.here rfl)) (λ_ _ _ e=>p _ _ _ (.blk e)) ht (Je hC hJ gm iv j hk) hs hr).imp λ_ _=>dJ.block
 |.loop b,o,fs,k,st,w,a,r,j,E,p,ht,hk,hs,hr=>by cases o with|none=>exact jG hr rfl|some i=>exact hJ _ _ _ _ _ _ _ hs (show J (2*i) st=some r from hr) (E _ _ rfl rfl)
 |.exit id,o,fs,k,st,w,a,r,_,_,_,_,hk,hs,hr=>(hk (.exit id) (.exit id) _ _ _ _ hs rfl hr).imp λ_ _ e=>⟨_,_,⟨0,rfl⟩,e⟩|.scope b,o,fs,k,st,w,a,r,j,_,p,ht,hk,hs,hr=>by rw[eD]at hr;simp only[dx]at ht;exact(jd b (λkey c' bD e=>j _ _ _ (.scope e)) (λi b e=>by cases e) (λ_ _ _ e=>p _ _ _ (.scope e)) ht hk hs hr).imp λ_ _=>dJ.scope|.ret,o,fs,k,st,w,a,r,_,_,_,_,hk,hs,hr=>(hk .ret .ret _ _ _ _ hs trivial hr).imp λ_ _ e=>⟨_,_,⟨0,rfl⟩,e⟩|.goto _,o,fs,k,st,w,a,r,_,_,_,_,hk,hs,hr=>by rw[eD]at hr<;>grind|.refuse _,o,fs,k,st,w,a,r,_,_,_,_,hk,hs,hr=>by rw[eD]at hr<;>grind|.rangeFunc fo ps hd bd,o,fs,k,st,w,a,r,_,_,p,_,hk,hs,hr=>Xb hC iv (p _ _ _ .here) hk hs (by rw[eD]at hr;exact hr)
theorem mH{key:Nat}{N:Code}{E:List Fr}(h0:Site key la [] N E):∀(c:Code){C:Option Nat}{fs:List Fr}{k:gZ->ad->Option ρ}{st:ad}{w:Wd}{a:av}{r:ρ},Site key c fs N E->cA key c<=1->
 (∀i,C=some i->key/2≠i)->(∀i b,C=some i->c=.loop b->Site (2*i) la [] c fs)->(∀key c' bD,Site key c fs c' bD->Site key la [] c' bD)->(∀qs x y,cL c qs x y->cL tC qs x y)->dx fn.ntmps c=true->mq P nb cx Q fs k->bE P cx w st a->fX P A R f J key C c st k=some r->Ends P nb w st.ob a.h (Q r) (dJ P cx N E a)
 |.seq c b,C,fs,k,st,w,a,r,o,p,_,_,j,z,ht,hk,hs,hr=>by
  rw[fX]at hr
  simp only[dx,aZ]at ht
  simp only[cA]at p
  cases o with
  |mf o=>have hc:=o.kc;rw[(kt key c).2 hc]at hr;refine mH h0 c o (by omega) (λi e=>by cases e) (λi b e=>by cases e) (λkey c' bD e=>j _ _ _ (.mf e)) (λ_ _ _ e=>z _ _ _ (.mf e)) ht.1 (λex K F w1 S O u m q=>?_) hs hr;cases ex with|normal=>obtain rfl:=m.normal;exact jd hC hJ gm iv b (λkey c' bD e=>j _ _ _ (.jX e)) (λi b e=>by cases e) (λ_ _ _ e=>z _ _ _ (.jX e)) ht.2 hk u q|exit id=>exact(hk _ _ _ _ _ _ u m q).imp λ_ _=>dq.code (m.ne (by simp))|ret=>exact(hk _ _ _ _ _ _ u m q).imp λ_ _=>dq.code (m.ne (by simp))|aE t row=>exact(hk _ _ _ _ _ _ u m q).imp λ_ _=>dq.code (m.ne (by simp))
  |jX o=>
   have hc:=o.kc
   have:dO key c=false:=by cases e:dO key c with|false=>rfl|true=>have:=(kt key c).1 e;omega
   rw[this]at hr;exact mH h0 b o (by omega) (λi e=>by cases e) (λi b e=>by cases e) (λkey c' bD e=>j _ _ _ (.jX e)) (λ_ _ _ e=>z _ _ _ (.jX e)) ht.2 hk hs hr
 |.cond c x y,C,fs,k,st,w,a,r,o,p,_,_,j,z,ht,hk,hs,hr=>by
  rw[fX]at hr
  simp only[dx,aZ]at ht
  simp only[cA]at p
  cases o with
  |l1 o=>have hc:=o.kc;rw[(kt key x).2 hc]at hr;exact mH h0 x o (by omega) (λi e=>by cases e) (λi b e=>by cases e) (λkey c' bD e=>j _ _ _ (.l1 e)) (λ_ _ _ e=>z _ _ _ (.l1 e)) ht.1 hk hs hr
  |l2 o=>
   have hc:=o.kc
   have:dO key x=false:=by cases e:dO key x with|false=>rfl|true=>have:=(kt key x).1 e;omega
   rw[this]at hr;exact mH h0 y o (by omega) (λi e=>by cases e) (λi b e=>by cases e) (λkey c' bD e=>j _ _ _ (.l2 e)) (λ_ _ _ e=>z _ _ _ (.l2 e)) ht.2 hk hs hr
 |.block id b,C,fs,k,st,w,a,r,o,p,_,_,j,z,ht,hk,hs,hr=>by
  rw[fX]at hr
  simp only[dx]at ht
  simp only[cA]at p
  have D:=Je (f:=f) (id:=id) (b:=b) hC hJ gm iv j hk
  cases o with
  |blk o=>
   have hc:=o.kc
   have G:key/2≠id:=by
    intro e
    have:Nat.beq (key/2) id=true:=by rw[e];simp
    rw[this]at p;simp only at p;omega
   have:Nat.beq key (2*id+1)=false:=by cases e:Nat.beq key (2*id+1)with|false=>rfl|true=>have:=Nat.eq_of_beq_eq_true e;omega
   rw[this]at hr;exact mH h0 b o (by omega) (λi e=>by grind) (λi b' e1 e2=>by cases e1;subst e2;exact j _ _ _ (.here rfl)) (λkey c' bD e=>j _ _ _ (.blk e)) (λ_ _ _ e=>z _ _ _ (.blk e)) ht D hs hr
  |@here _ b1 _ e=>
   subst e
   have:Nat.beq (2*id) (2*id+1)=false:=by cases e:Nat.beq (2*id) (2*id+1)with|false=>rfl|true=>simp_all
   rw[this]at hr
   simp only[dx]at ht
   simp only at hr
   rw[fX]at hr
   have M:Nat.beq (2*id) (2*id)=true:=by simp
   simp only[M]at hr;refine(jd hC hJ gm iv b1 (fs:=.code (.loop b1)::.blk id::fs) (λkey c' bD e=>j _ _ _ (.blk (.loop e))) (λi b e=>by cases e) (λ_ _ _ e=>z _ _ _ (.blk (.loop e))) ht (λex K F w1 S O u m q=>?_) hs hr).imp λ_ _=>dJ.loop;cases ex with|normal=>obtain rfl:=m.normal;exact hJ _ _ _ _ _ _ _ u q h0|exit T=>exact(D _ _ _ _ _ _ u m q).imp λ_ _=>dq.code (m.ne (by simp))|ret=>exact(D _ _ _ _ _ _ u m q).imp λ_ _=>dq.code (m.ne (by simp))|aE t row=>exact(D _ _ _ _ _ _ u m q).imp λ_ _=>dq.code (m.ne (by simp))
  |behind e=>
   have:Nat.beq key (2*id+1)=true:=by rw[e];simp
   rw[this]at hr;exact(hk .normal .normal _ _ _ _ hs trivial hr).imp λ_ _ e=>⟨_,_,⟨0,rfl⟩,e⟩
 |.loop b,C,fs,k,st,w,a,r,o,p,G,I,j,z,ht,hk,hs,hr=>by
  simp only[dx]at ht
  simp only[cA]at p
  cases o with
  |loop o=>
   have L:fX P A R f J key none b st (λex st=>match ex with
    |.normal=>(match C with|some i=>J (2*i) st|none=>none)
    |ex=>k ex st)=some r:=by
    cases C with
    |none=>exact hr
    |some i=>
     have:Nat.beq key (2*i)=false:=by cases e:Nat.beq key (2*i)with|false=>rfl|true=>have:=Nat.eq_of_beq_eq_true e;exact absurd (by omega) (G i rfl)
     rw[fX]at hr;simp only[this]at hr;exact hr
   refine mH h0 b o p (λi e=>by cases e) (λi b e=>by cases e) (λkey c' bD e=>j _ _ _ (.loop e)) (λ_ _ _ e=>z _ _ _ (.loop e)) ht (λex K F w1 S O u m q=>?_) hs L
   cases ex with
   |normal=>obtain rfl:=m.normal;simp only at q;cases C with|none=>cases q|some i=>exact hJ _ _ _ _ _ _ _ u q (I i b rfl rfl)
   |exit id=>exact(hk _ _ _ _ _ _ u m q).imp λ_ _=>dq.code (m.ne (by simp))|ret=>exact(hk _ _ _ _ _ _ u m q).imp λ_ _=>dq.code (m.ne (by simp))|aE t row=>exact(hk _ _ _ _ _ _ u m q).imp λ_ _=>dq.code (m.ne (by simp))
 |.scope b,C,fs,k,st,w,a,r,o,p,_,_,j,z,ht,hk,hs,hr=>by rw[fX]at hr;simp only[dx]at ht;simp only[cA]at p;cases o with|scope o=>exact mH h0 b o p (λi e=>by cases e) (λi b e=>by cases e) (λkey c' bD e=>j _ _ _ (.scope e)) (λ_ _ _ e=>z _ _ _ (.scope e)) ht hk hs hr
 |.region id ops draw,C,fs,k,st,w,a,r,o,_,_,_,_,_,ht,hk,hs,hr=>by rw[fX]at hr;cases o with|region e=>exact Kc hC gm ht hk hs hr
 |.skip,_,_,_,_,_,_,_,o,_,_,_,_,_,_,_,_,_=>by cases o|.label _,_,_,_,_,_,_,_,o,_,_,_,_,_,_,_,_,_=>by cases o|.exit _,_,_,_,_,_,_,_,o,_,_,_,_,_,_,_,_,_=>by cases o|.ret,_,_,_,_,_,_,_,o,_,_,_,_,_,_,_,_,_=>by cases o|.goto _,_,_,_,_,_,_,_,o,_,_,_,_,_,_,_,_,_=>by cases o|.refuse _,_,_,_,_,_,_,_,o,_,_,_,_,_,_,_,_,_=>by cases o|.rangeFunc _ _ _ _,_,_,_,_,_,_,_,o,_,_,_,_,_,_,_,_,_=>by cases o
end
end
end Go.AI
end

section
namespace Go.AI
variable [Kn]
section
variable {P:Program}{w:Wd}{ob:Tr ai}{nx:Nat}{h:AHeap}{A:cQ}
theorem yb{st:ad}{tm:Tr AV}{h:AHeap}(hs:af P w st.ob st.nx h)(ht:dZ P w st.tm tm):∀{rs:List ResultVar}{vs:List SV},nq P st rs=some vs->∃ys,(∀fn:Func,ja P fn tm h rs=some ys)/\ak P w vs ys
 |[],vs,h=>by simp only[nq,an]at h;subst h;exact⟨[],λ_=>rfl,.nil⟩
 |.tmp t::rs,vs,h=>by simp only[nq]at h;obtain⟨us,h1,rfl⟩:=rh h;obtain⟨ys,q1,q2⟩:=yb hs ht h1;exact⟨ev tm (.tmp t)::ys,λfn=>by simp only[ja,q1 fn],.cons (er ht _) q2⟩
 |.cell c t::rs,vs,h=>by
  simp only[nq]at h
  split at h
  .rename_i v us h1 h2;cases h;obtain⟨ys,q1,q2⟩:=yb hs ht h2;obtain⟨v',y,m,j,i⟩:=KR (h1:=h) hs (er ht (.tmp c)) (λ_ _=>rfl) h1;cases m;exact⟨y::ys,λfn=>by simp only[ja,q1 fn,j],.cons i q2⟩
  .cases h
theorem dR.aq{w':Wd}{ob':Tr ai}{h':AHeap}{nb:Nat}{ts:List TypeId}{shs:List Sh}{r:RT (bB shs)}{v:AV}{h2:AHeap}(hf:aT w ob h w' ob' h')(hp:dR P w' ob' nb h' ts shs r v h2):dR P w ob nb h ts shs r v h2:=by obtain⟨w1,c,i,vs,ys,q1,q2,q3⟩:=hp;exact⟨w1,c,i,vs,ys,q1,eL.trans (.of hf) q2 (fl.xw (nb:=nb) (.of hf)),q3⟩
theorem Jf{d:Nat}(hs:af P w ob nx h)(hd:h.get d=some (.b8 (some [])))(u:h.floor<=d):af P (w.heap (h.aG d (.b8 none)).get) ob nx (h.aG d (.b8 none))/\∀nb,eL (XW h) nb w ob h (w.heap (h.aG d (.b8 none)).get) ob (h.aG d (.b8 none)):=by
 have p:aK w (w.heap (h.aG d (.b8 none)).get):=⟨λ_ f=>f,λo x e i=>by
  have e1:o≠d:=by rintro rfl;rw[hs.g,hd]at e;cases e;cases i
  show(h.aG d (.b8 none)).get o=_
  rw[eC e1,<-hs.g];exact e,λo e=>by
  show(h.aG d (.b8 none)).get o≠none/\(Lp (h.aG d (.b8 none)).get o->Lp w.g o)
  by_cases e1:o=d
  .subst e1;unfold Lp;rw[qo];exact⟨by simp,λ⟨x,q1,q2⟩=>by cases q1;cases q2⟩
  .unfold Lp;rw[eC e1,<-hs.g];grind,λo f v mv c fz el ex sh e=>⟨v,[],fz,el,ex,sh,by
  have e1:o≠d:=by rintro rfl;rw[hs.g,hd]at e;cases e
  show(h.aG d (.b8 none)).get o=_
  rw[eC e1,<-hs.g,List.append_nil];exact e,ao _⟩,λo f es cl e=>by
  have e1:o≠d:=by rintro rfl;rw[hs.g,hd]at e;cases e
  show(h.aG d (.b8 none)).get o=_;rw[eC e1,<-hs.g];exact e⟩
 have C:d<h.next:=by
  rcases Nat.lt_or_ge d h.next with q|q
  .exact q
  .rw[hs.new d q]at hd;cases hd
 have m:∀j y,ob.get j=some y->cN P (w.heap (h.aG d (.b8 none)).get) (h.aG d (.b8 none)) j y:=by intro j y e;cases y with|gone=>trivial|_=>refine(hs.fO e).move p (λ_ _ e=>e) λk o h1 h2=>⟨eC λe1=>?_,λf=>f⟩;obtain⟨_,q,c⟩:=hs.cells ⟨_,e,by simp⟩ h1 h2;subst e1;rw[hd]at q;cases q;cases c
 refine⟨⟨λ_=>rfl,λi t cs e=>m i _ e,λi t rows l e=>m i _ e,λi s l e=>m i _ e,hs.inj,hs.lt,hs.nx,λo f=>⟨(hs.bJ o f).1,?_⟩,λo ho=>?_,λi t rows l e=>m i _ e,λi t rows l e=>m i _ e⟩,λnb=>⟨p,λ_ _ _ e=>e,ao _,rfl,λo _ _ e=>eC λe1=>e (e1▸⟨u,hd⟩),λo e=>.inr e,λo e=>.inl e,λo e=>?_,λe=>oo e,λi t cs _ e=>⟨cs,e⟩⟩⟩
 .by_cases e1:o=d
  .subst e1;rw[qo];simp
  .rw[eC e1];exact(hs.bJ o f).2
 .have z:h.next<=o:=ho;rw[eC (by omega)];exact hs.new o z
 .rcases mC e with e|rfl
  .exact .inl e
  .exact .inr (.inr (.inr (.inr ⟨u,hd⟩)))
theorem yc{R:Rec}{fn:Func}{tm:Tr AV}{m:bu}{nb:Nat}:∀{ds:List dK}{w:Wd}{h:AHeap},fQ P w [] ds->af P w ob nx h->tO ds->(∀d,dK.da d∈ds->h.floor<=d/\h.get d=some (.b8 (some [])))->
 ∃h2,cj P R fn tm ds m h=cj P R fn tm [] m h2/\af P (w.heap h2.get) ob nx h2/\eL (XW h) nb w ob h (w.heap h2.get) ob h2
 |[],w,h,_,hs,_,_=>⟨h,rfl,by rw[show w.heap h.get=w by cases w;simp only[Wd.heap];congr 1;exact(funext hs.g).symm];exact hs,by rw[show w.heap h.get=w by cases w;simp only[Wd.heap];congr 1;exact(funext hs.g).symm];exact .of (.refl _ _ _)⟩
 |.fn _ _ _::ds,w,h,hd,_,_,_=>by cases hd
 |.da d::ds,w,h,.da hd,hs,hn,hc=>by
  obtain⟨e1,e2⟩:=hc d (List.mem_cons_self ..)
  obtain⟨q1,q2⟩:=Jf hs e2 e1
  obtain⟨h2,p,j,i⟩:=yc (R:=R) (fn:=fn) (tm:=tm) (m:=m) (nb:=nb) (hd.K3 rfl) q1 hn.2 λc e=>by
   obtain⟨p1,p2⟩:=hc c (List.mem_cons_of_mem _ e)
   have:c≠d:=by rintro rfl;exact hn.1 e
   exact⟨p1,by rw[eC this];exact p2⟩
  refine⟨h2,?_,j,(q2 nb).trans i λo e h1 h2=>?_⟩
  .simp only[cj,e2];exact p
  .obtain⟨p1,p2⟩:=e
   have:o≠d:=by rintro rfl;rw[qo]at p2;cases p2
   rw[eC this]at p2;exact⟨p1,p2⟩
theorem K8{st:ad}{h:AHeap}{nb:Nat}{ts:List TypeId}{vs:List SV}{ys:List AV}{shs:List Sh}{r:RT (bB shs)}(hs:af P w st.ob st.nx h)(hv:ak P w vs ys)(hr:rH P shs nb ts vs st=some r){X:Nat->Prop}:ry P X w st.ob nb h ts shs r (wz ys) h:=by
 unfold rH at hr
 simp only at hr
 split at hr
 .rename_i c;simp only[aZ]at c;exact⟨w,st.ob,st.nx,vs,ys,hs,.of (.refl _ _ _),hv,rfl,c.1,c.2,hr⟩
 .cases hr
theorem K9{st:ad}{h:AHeap}{tm:Tr AV}{nb:Nat}{fn:Func}{shs:List Sh}{r:RT (bB shs)}(hs:af P w st.ob st.nx h)(ht:dZ P w st.tm tm)(hr:o8 P shs nb fn st=some r):
 ∃y,lh P fn tm h=some y/\∀X,ry P X w st.ob nb h fn.resultTypes.toList shs r y h:=by
 unfold o8 at hr
 split at hr
 .rename_i vs hv;obtain⟨ys,q1,q2⟩:=yb hs ht hv;refine⟨wz ys,?_,λ_=>K8 hs q2 hr⟩;unfold lh;rw[q1 fn];cases ys with|nil=>rfl|cons y l=>cases l<;>rfl
 .cases hr
def xc(P:Program)(fn:Func)(shs psh:List Sh)(nb:Nat)(p:Bool)(r:AT p (bB shs) (bB psh))(w:Wd)(ob:Tr ai)(h:AHeap)(tm:Tr AV)(ds:List dK)(m:bu):Prop:=∃n out h2,cj P (bz P n) fn tm ds m h=some (out,h2)/\iq p r (λr=>∃y,out=.ret y/\dR P w ob nb h fn.resultTypes.toList shs r y h2) (λt row b=>∃y,out=.aE y/\gM P t row y/\dR P w ob nb h [] psh b dm h2)
theorem La{ρ:Type}{t:TypeId}{k:TypeId->Option ρ}{r:ρ}:∀{ts:List TypeId},Fz t k ts=some r->k t=some r
 |[],h=>by cases h
 |t0::ts,h=>by
  rcases kr h with⟨e,h⟩|⟨_,h⟩
  .rw[Nat.eq_of_beq_eq_true e];exact h
  .exact La h
theorem dR.da{w':Wd}{nb:Nat}{h2 h3:AHeap}{ts:List TypeId}{shs:List Sh}{r:RT (bB shs)}{v:AV}(hf:eL (XW h) nb w ob h w' ob h2)(hp:ry P (λ_=>False) w' ob nb h2 ts shs r v h3):dR P w ob nb h ts shs r v h3:=by obtain⟨w1,c,i,vs,ys,q1,q2,q3⟩:=hp;exact⟨w1,c,i,vs,ys,q1,hf.trans q2 (λ_ e=>e.elim),q3⟩
theorem dR.Nb{w':Wd}{nb d:Nat}{h3:AHeap}{ts:List TypeId}{shs:List Sh}{r:RT (bB shs)}{v:AV}(hf:eL (XW h) nb w ob h w' ob (h.aG d (.b8 none)))(hp:dR P w' ob nb (h.aG d (.b8 none)) ts shs r v h3):dR P w ob nb h ts shs r v h3:=by
 obtain⟨w1,c,i,vs,ys,q1,q2,q3⟩:=hp
 refine⟨w1,c,i,vs,ys,q1,hf.trans q2 (λo e h1 h2=>?_),q3⟩
 obtain⟨p1,p2⟩:=e
 have:o≠d:=by rintro rfl;rw[qo]at p2;cases p2
 rw[eC this]at p2;exact⟨p1,p2⟩
theorem xN{A:cQ}{R:dg A.pn}(hC:eA P A R){fn:Func}{shs psh:List Sh}{nb:Nat}{p:Bool}{r:AT p (bB shs) (bB psh)}{tm:Tr AV}:∀{ds:List dK}{l:List (FuncId×List SV)}{st:ad}{w:Wd}{h:AHeap},af P w st.ob st.nx h->dZ P w st.tm tm->fQ P w l ds->tO ds->(∀d,dK.da d∈ds->h.floor<=d/\h.get d=some (.b8 (some [])))->
 (jf P A R shs psh nb fn p l .ret st=some r->xc P fn shs psh nb p r w st.ob h tm ds .ret)/\
 (∀t row y,gM P t row y->jf P A R shs psh nb fn p l (.aE t row false) st=some r->xc P fn shs psh nb p r w st.ob h tm ds (.aE y false))
 |[],l,st,w,h,hs,ht,hd,_,_=>by
  cases hd
  refine⟨λhr=>?_,λt row y hy hr=>?_⟩
  .have hq:∀a,o8 P shs nb fn st=some a->∃y,lh P fn tm h=some y/\dR P w st.ob nb h fn.resultTypes.toList shs a y h:=λa e=>let⟨y,q1,q2⟩:=K9 hs ht e;⟨y,q1,q2 _⟩;cases hf:o8 P shs nb fn st with|none=>simp only[jf,hf]at hr;cases p<;>cases hr|some a=>obtain⟨y,q1,q2⟩:=hq a hf;refine⟨0,.ret y,h,by simp only[cj,q1,Option.map_some],?_⟩;grind[W6,jf]
  .refine⟨0,.aE y,h,rfl,?_⟩;simp only[jf]at hr;exact Vm hr λa' e=>⟨y,rfl,hy,K8 hs .nil e⟩
 |.da d::i,l,st,w,h,hs,ht,hd,hn,hc=>by
  cases hd with
  |da hd=>
  obtain⟨c1,c2⟩:=hc d (List.mem_cons_self ..)
  obtain⟨K,z⟩:=Jf hs c2 c1
  have u:=(z 0).le
  have ih:=xN hC (shs:=shs) (psh:=psh) (nb:=nb) (p:=p) (r:=r) (fn:=fn) (ds:=i) (l:=l) K (ht.mono u λ_ _ e=>e) (hd.mono u λ_ _ e=>e) hn.2 λJ e=>by
   obtain⟨p1,p2⟩:=hc J (List.mem_cons_of_mem _ e)
   have:J≠d:=by rintro rfl;exact hn.1 e
   exact⟨p1,by rw[eC this];exact p2⟩
  have go:∀md,xc P fn shs psh nb p r (w.heap (h.aG d (.b8 none)).get) st.ob (h.aG d (.b8 none)) tm i md->xc P fn shs psh nb p r w st.ob h tm (.da d::i) md:=by rintro md⟨n,out,h2,D,C⟩;refine⟨n,out,h2,?_,C.imp (λ_⟨y,a,b⟩=>⟨y,a,dR.Nb (z nb) b⟩) λ_ _ _⟨y,a,b,c⟩=>⟨y,a,b,dR.Nb (z nb) c⟩⟩;rw[cj];simp only[c2];exact D
  exact⟨λhr=>go _ (ih.1 hr),λt row y hy hr=>go _ (ih.2 t row y hy hr)⟩
 |.fn V cap xs::i,l,st,w,h,hs,ht,hd,hn,hc=>by
  cases hd with
  |@cons g args _ _ l _ hx hd=>
  have go:∀{md:iY}{cm cm':bu}{k:Bool->ad->Option (AT p (bB shs) (bB psh))},BO P md cm->vO P A R st g md args k=some r->
   (∀b cm' st',ue md b cm'->k b st'=some r->jf P A R shs psh nb fn p l .ret st'=some r/\(cm'=.ret\/∃y,cm'=.aE y true))->xc P fn shs psh nb p r w st.ob h tm (.fn (.func g) cap xs::i) cm:=by
   intro md cm _ k E hr hk
   obtain⟨m,I,w',st',h',b,y,cm',q1,q2,q3,N,S,M,q,L⟩:=TT hC hs E hx hr
   obtain⟨e1,e2⟩:=hk b cm' st' L M
   have F:=K4 (st:=st) (a:={tm:=tm,df:=i,cm:=.none,h:=h}) hs (λd e=>hc d (List.mem_cons_of_mem _ e)) q3
   obtain⟨n,out,h2,D,C⟩:=(xN hC (ds:=i) q2 (by rw[N];exact ht.mono q3.le q3.s) (hd.mono q3.le q3.s) hn F).1 e1
   obtain⟨code,hb⟩:∃code,I.body=some code:=by cases m with|zero=>cases q|succ m=>have q:jC P (bz P m) .deferred g (xs++cap) cm h=some (.ret y,cm',h'):=q;obtain⟨O,code,U,T⟩:=Ck (show i7 P (bz P m) .deferred g (xs++cap) cm h=_ from q);grind
   refine⟨max m n,out,h2,?_,C.imp (λ_⟨y,a,b⟩=>⟨y,a,b.aq q3⟩) λ_ _ _⟨y,a,b,c⟩=>⟨y,a,b,c.aq q3⟩⟩
   have G:jB P h g (xs++cap)=some (.enter g (xs++cap),h):=by simp only[jB,q1,hb]
   have o:(bz P (max m n)).call .deferred g (xs++cap) cm h=some (.ret y,cm',h'):=(hY P (Nat.le_max_left ..)).call _ _ _ _ _ _ q
   have j:cj P (bz P (max m n)) fn tm i .ret h'=some (out,h2):=CR (hY P (Nat.le_max_right ..)) D
   rw[cj]
   simp only[G,o]
   rcases e2 with rfl|⟨Q,rfl⟩
   .exact j
   .exact j
  refine⟨λhr=>?_,λt row y hy hr=>?_⟩
  .simp only[jf]at hr;exact go (md:=.ret) (cm:=.ret) (cm':=.ret) trivial hr λb cm' st' hd hk=>⟨hk,.inl hd⟩
  .simp only[jf]at hr
   have hr:=La hr
   refine go (md:=.aE t row false) (cm:=.aE y false) (cm':=.ret) ⟨rfl,hy⟩ hr λb cm' st' hd hk=>?_
   rcases kr hk with⟨rfl,hk⟩|⟨_,hk⟩
   .exact⟨hk,.inr (hd rfl)⟩
   .cases hk
theorem Lb{A:cQ}{R:dg A.pn}(hC:eA P A R){f:FuncId}{fn:Func}{shs psh:List Sh}{nb:Nat}{cx:Ctx}:mq P nb cx (QC P fn shs psh nb (A.pn f)) [] (AJ P A R f shs psh nb fn):=by
 intro ex i st w a r hs hx hr
 have j:st.cm=.no->a.cm=.none:=by intro e;have:=hs.cm;rw[e]at this;cases hc:a.cm<;>rw[hc]at this<;>first|rfl|exact this.elim
 have fin:i≠.panic dm->(i=.normal\/i=.ret)->st.cm=.no->jf P A R shs psh nb fn (A.pn f) st.df .ret {st with df:=[],cm:=.no}=some r->Ends P nb w st.ob a.h (QC P fn shs psh nb (A.pn f) r) (dq P cx [] i a):=by intro _ hex c hr;obtain⟨n,out,h2,q1,q2⟩:=(xN hC (st:={st with df:=[],cm:=.no}) hs.h hs.tm hs.df hs.co.1.2 hs.co.2).1 hr;refine⟨i,a,w,st.ob,st.nx,⟨rfl,rfl⟩,hs.h,.of (.refl _ _ _),j c,n,out,h2,?_,q2⟩;rcases hex with rfl|rfl<;>exact q1
 unfold AJ at hr
 cases c:st.cm with
 |no=>rw[c]at hr;cases ex with|exit id=>cases hr|normal=>exact fin (by rw[hx.normal];simp) (.inl hx.normal) c hr|ret=>exact fin (by rw[hx.ret];simp) (.inr hx.ret) c hr|aE t row=>obtain⟨y,rfl,hy⟩:=hx.aE;obtain⟨n,out,h2,q1,q2⟩:=(xN hC (st:={st with df:=[],cm:=.no}) hs.h hs.tm hs.df hs.co.1.2 hs.co.2).2 t row y hy hr;exact⟨.panic y,a,w,st.ob,st.nx,⟨rfl,rfl⟩,hs.h,.of (.refl _ _ _),j c,n,out,h2,q1,q2⟩
 |_=>grind
def QD(P:Program)(fn:Func)(shs:List Sh)(nb:Nat)(md:iY)(r:Bool×RT (bB shs))(ex:bP)(a:av)(w:Wd)(ob:Tr ai)(_:Nat):Prop:=ue md r.1 a.cm/\∃m y h2,zU P (bz P m) fn ex a=some (.ret y,h2)/\dR P w ob nb a.h fn.resultTypes.toList shs r.2 y h2
theorem Vw{fn:Func}{shs:List Sh}{nb:Nat}{cx:Ctx}{md:iY}:mq P nb cx (QD P fn shs nb md) [] (AL P shs nb fn md):=by
 intro ex i st w a r hs hx hr
 have c:∀b,AK md st.cm=some b->ue md b a.cm:=by
  intro b e
  have hc:=hs.cm
  unfold AK at e
  split at e
  .rename_i t row b1 t' dz b2 hq;cases e;rw[hq]at hc;intro hb;cases ha:a.cm with|aE y b'=>rw[ha]at hc;have:b=b':=hc.1;grind|_=>rw[ha]at hc;exact hc.elim
  .rename_i hq;rw[hq]at hc;cases ha:a.cm<;>rw[ha]at hc<;>first|rfl|exact hc.elim
  .cases e
 have fin:∀b,AK md st.cm=some b->st.df=[]->ask (o8 P shs nb fn st) (λr=>some (b,r))=some r->∃y h2,cj P (bz P 0) fn a.tm a.df .ret a.h=some (.ret y,h2)/\ue md r.1 a.cm/\dR P w st.ob nb a.h fn.resultTypes.toList shs r.2 y h2:=by intro b e1 e2 e3;obtain⟨j,h1,h2⟩:=y5 e3;cases h2;obtain⟨h2,c1,c2,c3⟩:=yc (R:=bz P 0) (fn:=fn) (tm:=a.tm) (m:=.ret) (nb:=nb) (by have:=hs.df;grind) hs.h hs.co.1.2 hs.co.2;obtain⟨y,q1,q2⟩:=K9 c2 (hs.tm.mono c3.le λ_ _ e=>e) h1;exact⟨y,h2,by rw[c1];simp only[cj,q1,Option.map_some],c b e1,dR.da c3 (q2 _)⟩
 unfold AL at hr
 split at hr
 .rename_i b e2 e1;obtain rfl:=hx.normal;obtain⟨y,h2,q1,q2,q3⟩:=fin b e1 e2 hr;exact⟨.normal,a,w,st.ob,st.nx,⟨rfl,rfl⟩,hs.h,.of (.refl _ _ _),q2,0,y,h2,q1,q3⟩
 .rename_i b e2 e1;obtain rfl:=hx.ret;obtain⟨y,h2,q1,q2,q3⟩:=fin b e1 e2 hr;exact⟨.ret,a,w,st.ob,st.nx,⟨rfl,rfl⟩,hs.h,.of (.refl _ _ _),q2,0,y,h2,q1,q3⟩
 .cases hr
theorem CY{args:List SV}{xs:List AV}(hx:ak P w args xs):dZ P w (bH args 0 .leaf) (gC xs 0 .leaf):=by refine⟨λt v e=>?_⟩;rw[qD]at e;obtain⟨x,h1,h2⟩:=hx.get t v e;refine⟨x,?_,h2⟩;rw[Cs];grind
theorem Dq{m n:Nat}{kd:CallKind}{fn:Func}{code:Code}{f:FuncId}{xs:List AV}{cm:bu}{h:AHeap}(j:P.funcs[f]?=some fn)(hb:fn.body=some code){ex:bP}{a:av}{out:cH}{h2:AHeap}
 (he:evalCode P (bz P m) {fn:=f,tn:=max fn.ntmps xs.length,kind:=kd,round:=none} code {tm:=gC xs 0 .leaf,df:=[],cm,h:=h.inner}=some (ex,a))(ho:zU P (bz P n) fn ex a=some (out,h2)):
 i7 P (bz P (max m n)) kd f xs cm h=some (out,a.cm,h.outer h2):=by
 have o:=iA (hY P (Nat.le_max_left m n)) he
 unfold i7
 simp only[j,hb,o]
 have c:∀md,cj P (bz P n) fn a.tm a.df md a.h=some (out,h2)->mG h a.cm (cj P (bz P (max m n)) fn a.tm a.df md a.h)=some (out,a.cm,h.outer h2):=by intro md e;rw[CR (hY P (Nat.le_max_right m n)) e];rfl
 cases ex with|normal=>exact c _ ho|ret=>exact c _ ho|panic y=>exact c _ ho|exit i=>cases ho
theorem dR.FH{w':Wd}{ob':Tr ai}{h':AHeap}{nb:Nat}{ts:List TypeId}{shs:List Sh}{r:RT (bB shs)}{v:AV}{h2:AHeap}(hf:fl nb w ob h w' ob' h')(hp:dR P w' ob' nb h' ts shs r v h2):dR P w ob nb h ts shs r v h2:=by obtain⟨w1,c,i,vs,ys,q1,q2,q3⟩:=hp;exact⟨w1,c,i,vs,ys,q1,eL.trans hf.N2 q2 hf.xw,q3⟩
theorem fl.full{nx:Nat}{w':Wd}{ob':Tr ai}{h':AHeap}(hs:af P w ob nx h)(a:fl nx w ob h w' ob' h'):aT w ob h w' ob' h' where
 le:=a.le
 s:=λi k e=>by
  rcases Nat.lt_or_ge i nx with q|q
  .exact a.s i k q e
  .rw[(hs.nx i q).1]at e;cases e
 next:=a.next
 floor:=a.floor
 b0:=λo h1 h2=>a.b0 o h1 h2 id
 own:=a.own
 F:=a.F
 wr:=λo e=>(a.wr o e).imp id (.imp id (.imp id λe=>e.elim id False.elim))
 dA:=a.dA
 bx:=λi t cs e=>a.bx i t cs (hs.oZ e) e
def QI{ρ:Type}(P:Program)(fn:Func)(c:ad)(k:SV->ad->Option ρ)(kp:TypeId->List AV->ad->Option ρ)(nb:Nat)(r:ρ)(ex:bP)(a:av)(w:Wd)(ob:Tr ai)(nx:Nat):Prop:=a.cm=.none/\∃h2,af P (w.heap h2.get) ob nx h2/\eL (XW a.h) nb w ob a.h (w.heap h2.get) ob h2/\((∃v y,(ex=.normal\/ex=.ret)/\cj P (bz P 0) fn a.tm a.df .ret a.h=some (.ret y,h2)/\RV P (w.heap h2.get) v y/\k v {c with ob:=ob,nx:=nx}=some r)\/∃t row y,ex=.panic y/\cj P (bz P 0) fn a.tm a.df (.aE y false) a.h=some (.aE y,h2)/\gM P t row y/\kp t row {c with ob:=ob,nx:=nx}=some r)
theorem Lc{ρ:Type}{fn:Func}{c:ad}{k:SV->ad->Option ρ}{kp:TypeId->List AV->ad->Option ρ}{nb:Nat}{cx:Ctx}:mq P nb cx (QI P fn c k kp nb) [] (rJ P fn c k kp):=by
 intro ex i st w a r hs hx hr
 have hc:st.df=[]/\st.cm=.no:=by unfold rJ at hr;cases ex with|exit id=>cases hr|_=>grind
 have o:fQ P w [] a.df:=by have:=hs.df;grind
 have p:a.cm=.none:=by have:=hs.cm;rw[hc.2]at this;cases hq:a.cm<;>rw[hq]at this<;>first|rfl|exact this.elim
 have j:(ex=.normal\/ex=.ret)->∃vs,nq P st fn.results.toList=some vs/\(match vs with|[v]=>k v {c with ob:=st.ob,nx:=st.nx}|vs=>k (.bl vs) {c with ob:=st.ob,nx:=st.nx})=some r:=by intro he;unfold rJ at hr;rw[hc.1,hc.2]at hr;rcases he with rfl|rfl;all_goals grind
 have out:(ex=.normal\/ex=.ret)->(i=.normal\/i=.ret)->Ends P nb w st.ob a.h (QI P fn c k kp nb r) (dq P cx [] i a):=by
  intro he q
  obtain⟨vs,e1,e2⟩:=j he
  obtain⟨h2,c1,c2,c3⟩:=yc (R:=bz P 0) (fn:=fn) (tm:=a.tm) (m:=.ret) (nb:=nb) o hs.h hs.co.1.2 hs.co.2
  obtain⟨ys,q1,q2⟩:=yb c2 (hs.tm.mono c3.le λ_ _ e=>e) e1
  have key:∀{vs:List SV}{ys:List AV},ja P fn a.tm h2 fn.results.toList=some ys->ak P (w.heap h2.get) vs ys->∃v y,lh P fn a.tm h2=some y/\RV P (w.heap h2.get) v y/\(match vs with|[v]=>k v {c with ob:=st.ob,nx:=st.nx}|vs=>k (.bl vs) {c with ob:=st.ob,nx:=st.nx})=k v {c with ob:=st.ob,nx:=st.nx}:=by intro vs ys q1 q2;cases q2 with|nil=>exact⟨.bl [],.tuple [],by unfold lh;rw[q1],.bl .nil,rfl⟩|cons a b=>cases b with|nil=>exact⟨_,_,by unfold lh;rw[q1],a,rfl⟩|cons a' b'=>exact⟨_,_,by unfold lh;rw[q1],.bl (.cons a (.cons a' b')),rfl⟩
  obtain⟨v,y,p1,p2,p3⟩:=key (q1 fn) q2;exact⟨i,a,w,st.ob,st.nx,⟨rfl,rfl⟩,hs.h,.of (.refl _ _ _),p,h2,c2,c3,.inl ⟨v,y,q,by rw[c1];simp only[cj,p1,Option.map_some],p2,p3.symm.trans e2⟩⟩
 cases ex with|exit id=>cases hr|normal=>exact out (.inl rfl) (.inl hx.normal)|ret=>exact out (.inr rfl) (.inr hx.ret)|aE t row=>obtain⟨y,rfl,hy⟩:=hx.aE;unfold rJ at hr;rw[hc.1,hc.2]at hr;obtain⟨h2,c1,c2,c3⟩:=yc (R:=bz P 0) (fn:=fn) (tm:=a.tm) (m:=.aE y false) (nb:=nb) o hs.h hs.co.1.2 hs.co.2;exact⟨.panic y,a,w,st.ob,st.nx,⟨rfl,rfl⟩,hs.h,.of (.refl _ _ _),p,h2,c2,c3,.inr ⟨t,row,y,rfl,by rw[c1];rfl,hy,hr⟩⟩
theorem Xc{A:cQ}(G:o9 P A){n:Nat}(hC:eA P A (dh P A n)){ρ:Type}(f:FuncId)(args:List SV)(st:ad)(k:SV->ad->Option ρ)(kp:TypeId->List AV->ad->Option ρ)(r:ρ)(hr:(dh P A (n+1)).inl f args st k kp=some r)(w:Wd)(h:AHeap)(xs:List AV)
 (hs:af P w st.ob st.nx h)(hx:ak P w args xs):tN P w h st f xs k kp r False:=by
 simp only[dh]at hr
 split at hr
 case h_2=>cases hr
 rename_i fn j
 split at hr
 case h_2=>cases hr
 rename_i code hb
 split at hr
 case h_2=>cases hr
 rename_i ht
 simp only[aZ,Option.isNone_iff_eq_none]at ht
 have p:af P w st.ob st.nx h.inner:=hs.mL (λ_=>rfl) rfl
 have C:bE P {fn:=f,tn:=max fn.ntmps xs.length,kind:=.normal,round:=none} w ⟨bH args 0 .leaf,st.ob,st.nx,[],[],.no⟩ {tm:=gC xs 0 .leaf,df:=[],cm:=.none,h:=h.inner}:=⟨p,CY hx,λ_ _ e=>(by cases e),.nil,trivial,.inl rfl,.inl rfl,⟨.inr (ao _),trivial⟩,λ_ e=>(by cases e)⟩
 have hC:eA P A.BH (dh P A n):=⟨⟨hC.kn.none,hC.kn.some⟩,hC.call,hC.wt,hC.inl,hC.gP⟩
 have I:∀m,uf P st.nx {fn:=f,tn:=max fn.ntmps xs.length,kind:=.normal,round:=none} (QI P fn st k kp st.nx) code (BG P A.BH (dh P A n) f code (rJ P fn st k kp) m):=by
  intro m
  induction m with
  |zero=>exactλkey st w a r c fs h1 h2 h3=>by cases h2
  |succ m ih=>
   intro key st w a r c fs h1 h2 h3
   simp only[BG]at h2
   split at h2
   .rename_i L;exact mH hC ih (Nat.le_max_left ..) ⟨rfl,j,hb,Nat.le_max_left ..⟩ h3 code h3 (by simp_all) (λi e=>by cases e) (λi b e=>by cases e) (λ_ _ _ e=>e) (λ_ _ _ e=>e) ht.1 Lc h1 h2
   .cases h2
 have hE:=jd hC (I _) (Nat.le_max_left ..) ⟨rfl,j,hb,Nat.le_max_left ..⟩ code (fs:=[]) (λ_ _ _ e=>e) (λi b e=>by cases e) (λ_ _ _ e=>e) ht.1 Lc C hr
 obtain⟨ct,aF,w',ob',nx',⟨M,O,⟨m,D⟩,rfl,rfl⟩,N,hF,E,h2,F,K,hq⟩:=hE
 have q:af P (w'.heap h2.get) ob' nx' (h.outer h2):=F.mL (λ_=>rfl) rfl
 have J:fl st.nx w st.ob h.inner (w'.heap h2.get) ob' h2:=eL.W4 (X:=XW h.inner) (λo h1 h2=>by have h3:h.next<=o:=h2.1;have h4:o<h.next:=h1;omega) (eL.trans hF.N2 K hF.xw)
 have u:aT w st.ob h (w'.heap h2.get) ob' (h.outer h2):=(J.full p).outer
 have call:∀out,zU P (bz P 0) fn ct aF=some (out,h2)->(bz P (max m 0+1)).call .normal f xs .none h=some (out,.none,h.outer h2):=by intro out ho;have z:=Dq j hb D ho;rw[E]at z;show jC P (bz P (max m 0)) .normal f xs .none h=_;unfold jC;rw[G.none f ht.2];exact z
 rcases hq with⟨v,y,hex,q1,q2,q3⟩|⟨t,row,y,rfl,q1,q2,q3⟩
 .refine .inl ⟨_,_,{st with ob:=ob',nx:=nx'},_,v,y,q,u,rfl,rfl,q3,call (.ret y) ?_,q2,λe=>e.elim⟩;rcases hex with rfl|rfl<;>exact q1
 .exact .inr ⟨_,_,{st with ob:=ob',nx:=nx'},_,t,row,y,q,u,rfl,rfl,q3,call (.aE y) q1,q2⟩
def QH{α:Type}(P:Program)(cx:Ctx)(k:ad->Option α)(r:α)(ex:bP)(a:av)(w:Wd)(ob:Tr ai)(nx:Nat):Prop:=ex=.normal/\∃st,bE P cx w st a/\st.ob=ob/\st.nx=nx/\k st=some r
theorem Nc{α:Type}{nb:Nat}{cx:Ctx}{k:ad->Option α}:mq P nb cx (QH P cx k) [] (λex st=>match ex with|.normal=>k st|_=>none):=by intro ex c st w a r hs hx hr;cases ex with|normal=>obtain rfl:=hx.normal;exact⟨.normal,a,w,st.ob,st.nx,⟨rfl,rfl⟩,hs.h,.of (.refl _ _ _),rfl,st,hs,rfl,rfl,hr⟩|_=>cases hr
theorem Vx{shs:List Sh}{nb:Nat}:FA P shs nb=λex st=>match ex with|.normal=>(match st.df with|[]=>rH P shs nb [] [] st|_=>none)|_=>none:=by funext ex st;unfold FA;grind
theorem Xd{A:cQ}(hKn:o9 P A){n:Nat}(hC:eA P A (dh P A n)){f:FuncId}{ts:List Tmp}{aY:List SV}{au:List ai}{shs:List Sh}{r:RT (bB shs)}(hr:(dh P A (n+1)).gP f ts aY au shs=some r)(hny:eE aY=true)
 {w:Wd}{h:AHeap}{l tn dd:Nat}{tm:Tr AV}{ps:List Tmp}{hd bd:Code}{ys:List AV}(hs:af P w (bH au 0 .leaf) au.length h)(hg:h.get l=some (.loop .ready none f tn tm ps hd bd dd))(hin:ET P f tn ps hd bd)(hx:ak P w aY (ts.map (λt=>ev tm (.tmp t))++ys)):
 ∃m h',(bz P m).round l ys h=some (.ret (.sc (.bool true)),h')/\ry P (λ_=>False) w (bH au 0 .leaf) au.length h [] shs r dm h':=by
 obtain⟨fn,code,i1,i2,i3,i4⟩:=hin
 simp only[dh,i1,i2]at hr
 split at hr
 case h_2=>cases hr
 rename_i ps' w9 bd' C
 split at hr
 case h_2=>cases hr
 rename_i lI G S
 simp only[aZ]at G
 rw[i4.find (Nat.eq_of_beq_eq_true G.1.1)]at C
 cases C
 have hts:∀{w0:Wd},dZ P w0 .leaf tm:=⟨λt v e=>by simp[Tr.get]at e⟩
 have L:ak P w (aY.drop ts.length) ys:=by have:=hx.drop ts.length;grind
 obtain⟨bO,p1,p2⟩:=Kb i3 S L (ya hx hts)
 have iv:FG P {fn:=f,tn:=tn,kind:=.normal,round:=some l} f fn code:=⟨rfl,i1,i2,i3⟩
 have hst:bE P {fn:=f,tn:=tn,kind:=.normal,round:=some l} w ⟨lI,bH au 0 .leaf,au.length,[],[],.gP⟩ {tm:=bO,df:=[],cm:=.none,h:=h}:=⟨hs,p2,λ_ _ e=>(by cases e),.nil,trivial,.inr rfl,.inr (.inl rfl),⟨.inl rfl,trivial⟩,λ_ e=>(by cases e)⟩
 have hJ:∀{α:Type}(Q:α->bP->av->Wd->Tr ai->Nat->Prop)(c:Code),uf P au.length {fn:=f,tn:=tn,kind:=.normal,round:=some l} Q c (λ_ _=>none):=λQ c key st w a r c fs h1 h2 h3=>by cases h2
 have sb1:∀qs x y,cL hd qs x y->cL hd qs x y:=λ_ _ _ e=>e
 have lift:∀{c qs x y},(c=hd\/c=bd)->cL c qs x y->cL code qs x y:=by
  intro c qs x y e1 e2
  have ad8:∀{c0:Code}{q:List Tmp}{u v:Code},cL c0 q u v->(cL u qs x y\/cL v qs x y)->cL c0 qs x y:=by intro c0 q u v O;induction O with|here=>intro e;exact e.elim .hd .bd|hd _ ih=>exactλe=>.hd (ih e)|bd _ ih=>exactλe=>.bd (ih e)|mf _ ih=>exactλe=>.mf (ih e)|jX _ ih=>exactλe=>.jX (ih e)|l1 _ ih=>exactλe=>.l1 (ih e)|l2 _ ih=>exactλe=>.l2 (ih e)|blk _ ih=>exactλe=>.blk (ih e)|loop _ ih=>exactλe=>.loop (ih e)|scope _ ih=>exactλe=>.scope (ih e)
  rcases e1 with rfl|rfl
  .grind
  .grind
 have hE:=jd (nb:=au.length) (Q:=QH P _ _) hC (hJ _ hd) i3 iv hd (fs:=[]) (λ_ _ _ e=>e) (λi b e=>by cases e) (λ_ _ _ e=>lift (.inl rfl) e) G.1.2 Nc hst hr
 obtain⟨ct,aF,w1,ob1,nx1,⟨ex1,a1,⟨m1,Y⟩,rfl,rfl⟩,J,PA,hex,F,j,rfl,rfl,p⟩:=hE
 subst hex
 unfold NW at p
 simp only at p
 split at p
 case h_2=>cases p
 rename_i T Z
 have I:aF.h.get l=some (.loop .ready none f tn tm ps hd bd dd):=by rw[<-J.g];exact PA.le.l l _ (by rw[hs.g];exact hg) rfl
 have D:F.cm=.gP:=j.rn.resolve_left (by simp)
 let lb:bT:=.loop .busy none f tn tm ps hd bd dd
 have hS2:=J.E0 (y:=lb) I rfl
 have hc2:=DR (y:=lb) J I rfl
 have hT2:dZ P (w1.heap (aF.h.aG l lb).get) (np (ts++ps++rq hd) ((ts++ps++rq hd).map λt=>bw F.tm (.tmp t)) .leaf) aF.tm:=by refine ya (ys:=[]) ?_ ⟨λt v e=>by simp[Tr.get]at e⟩;rw[List.append_nil];exact ak.kX hc2 (λ_ _ e=>e) T (ak.map _ λt _=>er j.tm _)
 have R:bE P {fn:=f,tn:=tn,kind:=.normal,round:=some l} (w1.heap (aF.h.aG l lb).get) {F with tm:=np (ts++ps++rq hd) ((ts++ps++rq hd).map λt=>bw F.tm (.tmp t)) .leaf,al:=[]} {aF with h:=aF.h.aG l lb}:=by refine⟨hS2,hT2,λ_ _ e=>(by cases e),j.df.K3 Z,j.cm,.inr D,.inr (.inl D),⟨.inl D,j.co.1.2⟩,λd e=>?_⟩;obtain⟨c1,c2⟩:=j.co.2 d e;exact⟨c1,by grind[eC]⟩
 rw[Vx]at p
 have hE2:=jd (nb:=au.length) (Q:=QH P _ _) hC (hJ _ bd) i3 iv bd (fs:=[]) (λ_ _ _ e=>e) (λi b e=>by cases e) (λ_ _ _ e=>lift (.inr rfl) e) G.2 Nc R p
 obtain⟨ad9,E,w3,ob3,nx3,⟨ex2,a2,⟨m2,X⟩,rfl,rfl⟩,M,PB,V,K,aea,rfl,rfl,o⟩:=hE2
 subst V
 have U:E.h.get l=some lb:=by rw[<-M.g];exact PB.le.l l _ (show(aF.h.aG l lb).get l=_ from qo) rfl
 let N:bT:=.loop .ready none f tn tm ps hd bd dd
 have hS4:=M.E0 (y:=N) U rfl
 have BN:fl au.length w (bH au 0 .leaf) h (w3.heap (E.h.aG l N).get) K.ob (E.h.aG l N):=((((iT.of PA).trans (iT.aG (y:=lb) J I rfl)).trans (iT.of PB)).trans (iT.aG (y:=N) M U rfl)).full (funext hs.g) rfl hg rfl qo
 simp only at o
 split at o
 case h_2=>cases o
 unfold rH at o
 simp only at o
 split at o
 case h_2=>cases o
 rename_i z;simp only[aZ]at z;refine⟨max m1 m2+1,E.h.aG l N,?_,w3.heap (E.h.aG l N).get,K.ob,K.nx,[],[],hS4,BN,.nil,rfl,z.1,z.2,o⟩;show qx P (bz P (max m1 m2)) l ys h=_;unfold qx;rw[hg];simp only[p1,iA (hY P (Nat.le_max_left m1 m2)) Y,I];have e2:=iA (hY P (Nat.le_max_right m1 m2)) X;grind[sD]
theorem Ld(P:Program)(A:cQ)(o:o9 P A):∀n,eA P A (dh P A n)/\K7 P A (dh P A n)
 |0=>⟨⟨o,λ_ _ _ _ _ _ e=>(by cases e),λ_ _ _ _ _ _ _ e=>(by cases e),λ_ _ _ _ _ _ e=>(by cases e),λ_ _ _ _ _ _ e=>(by cases e)⟩,λ_ _ _ _ _ _ _ _ _ e=>(by cases e)⟩
 |n+1=>by
  obtain⟨hC,hJ⟩:=Ld P A o n
  refine⟨⟨o,λf args au shs psh r hr w h xs hs hx=>?_,λf md args au shs b r hr w h xs cm hs hx hm=>?_,λf args st k kp r hr w h xs hs hx=>Xc o hC f args st k kp r hr w h xs hs hx,λf ts aY au shs r hr K C w h l tn dd tm ps hd bd ys hs hg M hx=>Xd o hC hr K hs hg M hx⟩,λf key shs psh nb r9 au df r hr=>?_⟩
  .simp only[dh]at hr
   split at hr
   case h_2=>cases hr
   rename_i fn j
   split at hr
   case h_2=>cases hr
   rename_i code hb
   split at hr
   case h_2=>cases hr
   rename_i ht
   simp only[aZ,Option.isNone_iff_eq_none]at ht
   have p:bE P {fn:=f,tn:=max fn.ntmps xs.length,kind:=.normal,round:=none} w ⟨bH args 0 .leaf,bH au 0 .leaf,au.length,[],[],.no⟩ {tm:=gC xs 0 .leaf,df:=[],cm:=.none,h:=h.inner}:=⟨hs.mL (λ_=>rfl) rfl,CY hx,λ_ _ e=>(by cases e),.nil,trivial,.inl rfl,.inl rfl,⟨.inr (ao _),trivial⟩,λ_ e=>(by cases e)⟩
   have z:uf P au.length {fn:=f,tn:=max fn.ntmps xs.length,kind:=.normal,round:=none} (QC P fn shs psh au.length (A.pn f)) code (tx P A (dh P A n) f shs psh au.length):=λkey st w a r c fs h1 h2 h3=>Ka hJ h1 h2 j hb h3 (Nat.le_max_left ..) rfl
   have hE:=jd hC z (Nat.le_max_left ..) ⟨rfl,j,hb,Nat.le_max_left ..⟩ code (fs:=[]) (λ_ _ _ e=>e) (λi b e=>by cases e) (λ_ _ _ e=>e) ht.1 (Lb hC) p hr
   obtain⟨ct,aF,w',ob',nx',⟨R,U,⟨m,E⟩,rfl,rfl⟩,T,hF,u,m2,out,h2,ho,hq⟩:=hE
   have D:=Dq j hb E ho
   rw[u]at D
   have h3:(bz P (max m m2+1)).call .normal f xs .none h=some (out,.none,h.outer h2):=by show jC P (bz P (max m m2)) .normal f xs .none h=_;unfold jC;rw[o.none f ht.2];exact D
   exact⟨max m m2+1,fn,h2,j,hq.imp (λ_⟨y,e1,e2⟩=>⟨y,by grind,e2.FH hF⟩) λ_ _ _⟨y,e1,e2,e3⟩=>⟨y,by grind,e2,e3.FH hF⟩⟩
  .simp only[dh]at hr
   split at hr
   case h_2=>cases hr
   rename_i fn j
   split at hr
   case h_2=>cases hr
   rename_i code hb
   have J:dx fn.ntmps code=true/\eD P A (dh P A n) f (λ_ _=>none) none code ⟨bH args 0 .leaf,bH au 0 .leaf,au.length,[],[],md⟩ (AL P shs au.length fn md)=some (b,r):=by cases ht:dx fn.ntmps code with|false=>grind|true=>grind
   obtain⟨ht,hr⟩:=J
   have p:bE P {fn:=f,tn:=max fn.ntmps xs.length,kind:=.deferred,round:=none} w ⟨bH args 0 .leaf,bH au 0 .leaf,au.length,[],[],md⟩ {tm:=gC xs 0 .leaf,df:=[],cm:=cm,h:=h.inner}:=⟨hs.mL (λ_=>rfl) rfl,CY hx,λ_ _ e=>(by cases e),.nil,hm,.inl rfl,.inr (.inr rfl),⟨.inr (ao _),trivial⟩,λ_ e=>(by cases e)⟩
   have z:uf P au.length {fn:=f,tn:=max fn.ntmps xs.length,kind:=.deferred,round:=none} (QD P fn shs au.length md) code (λ_ _=>none):=λkey st w a r c fs h1 h2 h3=>by cases h2
   have hE:=jd hC z (Nat.le_max_left ..) ⟨rfl,j,hb,Nat.le_max_left ..⟩ code (fs:=[]) (λ_ _ _ e=>e) (λi b e=>by cases e) (λ_ _ _ e=>e) ht Vw p hr;obtain⟨ct,aF,w',ob',nx',⟨R,U,⟨m,E⟩,rfl,rfl⟩,T,hF,u,m2,y,h2,ho,hq⟩:=hE;have D:=Dq j hb E ho;exact⟨max m m2+1,fn,y,h2,_,j,D,u,hq.FH hF⟩
  .simp only[dh]at hr
   split at hr
   case h_2=>cases hr
   rename_i fn j
   split at hr
   case h_2=>cases hr
   rename_i code hb
   split at hr
   case h_2=>cases hr
   rename_i ts F
   split at hr
   case h_2=>cases hr
   rename_i C;simp only[aZ]at C;have S:=Nat.eq_of_beq_eq_true C.2;refine⟨fn,code,ts,j,hb,F,λc fs q w a cx hs ht O u I N L Q G gm=>?_⟩;have p:bE P cx w ⟨tc ts r9,bH au 0 .leaf,au.length,[],df,.no⟩ a:=⟨hs,ht,λ_ _ e=>(by cases e),O,by rw[u];trivial,.inl I,.inl rfl,⟨.inr N,L⟩,Q⟩;have z:uf P nb cx (QC P fn shs psh nb (A.pn f)) code (tx P A (dh P A n) f shs psh nb):=λkey st w a r c fs h1 h2 h3=>Ka hJ h1 h2 j hb h3 gm G;exact mH hC z gm ⟨G,j,hb,gm⟩ q code q (by omega) (λi e=>by cases e) (λi b e=>by cases e) (λ_ _ _ e=>e) (λ_ _ _ e=>e) C.1 (Lb hC) p hr
theorem Vy(hP:ProgOK P)(c:tg P)(i:o9 P A){n:Nat}{f:FuncId}{args:List SV}{au:List ai}{shs psh:List Sh}{r:AT (A.pn f) (bB shs) (bB psh)}(hr:(dh P A n).call f args au shs psh=some r){xs:List AV}(hs:af P w (bH au 0 .leaf) au.length h)(hx:ak P w args xs):∃fn h',P.funcs[f]?=some fn/\iq (A.pn f) r (λr=>∃y,dI P f xs h (.ret y) (h.outer h')/\dR P w (bH au 0 .leaf) au.length h.inner fn.resultTypes.toList shs r y h') (λt row b=>∃y,dI P f xs h (.aE y) (h.outer h')/\gM P t row y/\dR P w (bH au 0 .leaf) au.length h.inner [] psh b dm h'):=by obtain⟨m,fn,h',q1,q2⟩:=(Ld P A i n).1.call f args au shs psh r hr w h xs hs hx;exact⟨fn,h',q1,q2.imp (λ_⟨y,a,b⟩=>⟨y,(DL hP c m).call _ _ _ _ _ _ a,b⟩) λ_ _ _⟨y,a,b⟩=>⟨y,(DL hP c m).call _ _ _ _ _ _ a,b⟩⟩
def w00S:Wd:={g:=λ_=>none,F:=λ_=>False,s:=λ_=>none}
theorem abp:af P w00S (bH [] 0 .leaf) 0 h0 where
 g:=λ_=>rfl
 box:=λ_ _ _ e=>by cases e
 arr:=λ_ _ _ _ e=>by cases e
 ba:=λ_ _ _ e=>by cases e
 inj:=λ_ _ _ _ _ _ _ e=>by cases e
 lt:=λ_ _ _ e=>by cases e
 nx:=λ_ _=>⟨rfl,rfl⟩
 bJ:=λ_ e=>e.elim
 new:=λ_ _=>rfl
 mp:=λ_ _ _ _ e=>by cases e
 tr:=λ_ _ _ _ e=>by cases e
theorem iq.ret{l m:List LT}:∀{p:Bool}{a:AT p l m}{r:RT l}{Q:RT l->Prop}{Q':TypeId->List AV->RT m->Prop},iq p a Q Q'->iq p a (λx=>x=r) (λ_ _ _=>False)->Q r|false,_,_,_,_,h,e=>by have e:_=_:=e;subst e;exact h|true,.ret _,_,_,_,h,e=>by have e:_=_:=e;subst e;exact h|true,.aE _ _ _,_,_,_,_,e=>False.elim e
theorem T2(hP:ProgOK P)(c:tg P)(i:o9 P A){n:Nat}{f:FuncId}{args:List SV}{shs psh:List Sh}{r:AT (A.pn f) (bB shs) (bB psh)}(hr:(dh P A n).call f args [] shs psh=some r){j:RT (bB shs)}(hq:iq (A.pn f) r (λx=>x=j) (λ_ _ _=>False)){xs:List AV}(hx:ak P w00S args xs):∃fn y h',P.funcs[f]?=some fn/\dI P f xs h0 (.ret y) h'/\∃w' ob' nx' vs ys,af P w' ob' nx' h'/\ak P w' vs ys/\y=(wz ys)/\nr P fn.resultTypes.toList vs=true/\bQ P ob' shs (ku P fn.resultTypes.toList vs)=some j:=by obtain⟨fn,h',q1,q2⟩:=Vy hP c i hr abp hx;obtain⟨y,q2,w',ob',nx',vs,ys,p1,p2,p3,o,q,m,p⟩:=q2.ret hq;refine⟨fn,y,_,q1,q2,w',ob',nx',vs,ys,p1.mL (λ_=>rfl) rfl,p3,o,m,?_⟩;simp_all[List.append_nil,mE,upto]
end
end Go.AI
end

section
namespace Go.AI
variable [Kn]
section
variable {P:Program}{A:cQ}
theorem SA(hP:ProgOK P)(p:tg P)(q:o9 P A){n:Nat}{f:FuncId}{args:List SV}{b:Bool}{r:AT (A.pn f) (bB [.bool]) []}(hr:(dh P A n).call f args [] [.bool] []=some r)(hq:iq (A.pn f) r (λx=>x=b) (λ_ _ _=>False)){xs:List AV}(hx:ak P w00S args xs){t:TypeId}(m:∀fn,P.funcs[f]?=some fn->fn.resultTypes.toList=[t])(o:dG P t=some false):
 ∃h',dI P f xs h0 (.ret (.sc (.bool b))) h':=by
 obtain⟨fn,y,h',q1,q2,w',ob',nx',vs,ys,q3,z,rfl,j,i⟩:=T2 hP p q hr hq hx
 rw[m fn q1]at j i
 refine⟨h',?_⟩
 have hy:wz ys=.sc (.bool b):=by
  cases z with
  |nil=>cases j
  |@cons v x c w a rest=>
   have hl:c=[]:=by cases c with|nil=>rfl|cons u us=>simp[nr]at j
   subst hl;cases rest;simp only[ku,o]at i;have i:bQ P ob' (.bool::[]) (v::[])=some b:=i;obtain⟨b',r',rfl,_,h2⟩:=Jd i;cases a;have:b=b':=h2;rw[this];rfl
 grind
end
end Go.AI
end
