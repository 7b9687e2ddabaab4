/- A part of the proof. -/
import Derived.Test.YteibmaelhdbgfaaGreatDoorSd
set_option linter.all false

section
namespace Go.AI
variable [Kn]
section
variable {P:Program}{w w':Wd}{ob ob':Tr aq}{nx:Nat}{h h':AHeap}{st:ae}{a:aD}{ρ:Type}{A:dr}{R:dJ A.pn}{cx:Ctx}
theorem yO(h:AHeap)(o:Nat):∀(ids:List Nat),o∈ids->(∀p,h.next<=p->h.get p=none)->(fB h ids).get o=h.get o
 |[],hm,_=>by cases hm
 |p::ids,hm,hn=>by
  have rest:o∉ids->o=p:=λe=>(List.mem_cons.1 hm).resolve_right e
  unfold fB
  split
  .split
   .rename_i x hx
    by_cases e:o=p
    .subst e;rw[Tr.a7,hx]
    .rw[Tr.aL _ _ e];exact yO h o ids ((List.mem_cons.1 hm).resolve_left e) hn
   .rename_i hx
    by_cases e:o∈ids
    .exact yO h o ids e hn
    .have:=rest e;subst this;rw[hx];cases hg:(fB h ids).get o with|none=>rfl|some y=>exact absurd (yD h ids o y hg).1 e
  .rename_i hlt
   by_cases e:o∈ids
   .exact yO h o ids e hn
   .have:=rest e;subst this;rw[hn o (by omega)];cases hg:(fB h ids).get o with|none=>rfl|some y=>exact absurd (yD h ids o y hg).1 e
theorem lJ{o:Oper}{x:Operand}(hx:x∈o.op.operands.toList):dy (tmpsOf o) a.tm x=ev a.tm x:=by
 cases x with
 |tmp t=>
  have:(tmpsOf o).contains t=true:=by simp only[List.contains_iff_mem,tmpsOf,List.mem_filterMap];exact⟨.tmp t,hx,rfl⟩
  simp only[dy,this,if_true]|_=>rfl
theorem Wa(v:Value):jD (bz v)=[]:=by cases v<;>rfl
theorem Yl{o:Oper}{tm:Tr AV}(hs:ah P w ob nx h)(hl:jt o.op=true){x:Operand}(hx:x∈o.op.operands.toList):kM h {h with cj:=fB h (dH o tm)} (dy (tmpsOf o) tm x):=by
 intro p hp
 show(fB h (dH o tm)).get p=h.get p
 refine yO h p _ ?_ hs.new
 cases x with
 |tmp t=>
  have ht:t∈tmpsOf o:=by simp only[tmpsOf,List.mem_filterMap];exact⟨.tmp t,hx,rfl⟩
  have:(tmpsOf o).contains t=true:=by grind
  simp only[dy,this,if_true]at hp;unfold dH;grind|const v=>simp only[dy,ev,Wa]at hp;cases hp|global g=>cases hp|func f=>cases hp
theorem a8.outer(hf:a8 w ob h.inner w' ob' h'):a8 w ob h w' ob' (h.outer h'):=
 ⟨hf.le,hf.s,hf.next,rfl,hf.ck,hf.own,hf.F,λo e=>by
  rcases C3 e with e|e
  .exact .inl e
  .rcases hf.wr o e with e|e
   .cases e
   .exact .inr e,λe=>Dm e,hf.bx⟩
def j2(h:AHeap)(a n:Nat):Prop:=n<=h.next/\∀o,a<=o->o<n->h.get o=none
theorem j2.ax{a n:Nat}(hf:j2 h a n)(hs:ah P w ob nx h)(hr:a8 w ob h w' ob' h'):j2 h' a n:=by refine⟨Nat.le_trans hf.1 hr.next,λo h1 h2=>?_⟩;rw[hr.ck o (Nat.lt_of_lt_of_le h2 hf.1) λ⟨j,k,e1,e2,e3⟩=>hs.there e1 e2 e3 (hf.2 o h1 h2)];exact hf.2 o h1 h2
def u6(w:Wd)(rf:List (Nat×Nat))(i:Nat)(ids:List Nat):Prop:=∃d k o,(i,d)∈rf/\w.s d=some k/\k.obj=some o/\ids=[o]
def Fy(w:Wd)(k:cz)(es:List (Nat×Bool×List Nat))(i:Nat)(ids:List Nat):Prop:=(∀p,p∈ids->w.F p)/\∀j wr H,(j,wr)∈k.es->(j,true,H)∈es->i<j->∀p,p∈ids->p∉wr
def Bf(w:Wd)(H:List Nat)(wr:List Nat):Prop:=∀d,d∈H->∃k,w.s d=some k/\∀o,k.obj=some o->o∉wr
structure gV(b:List Nat)(w:Wd)(n:Nat)(k:cz)(es:List (Nat×Bool×List Nat))(fs:List (Nat×Bool))(rf:List (Nat×Nat)):Prop where
 lf:∀i ids,(i,ids)∈k.fs->i<n/\(ids=[]\/(∃z,(i,z)∈fs/\(z=true->Fy w k es i ids))\/u6 w rf i ids)
 lc:∀i ids,(i,ids)∈k.fs->∀p,p∈ids->w.g p≠none/\¬Lp w.g p
 el:∀e,e∈es->e.1<n
 le:∀j wr,(j,wr)∈k.es->j<n/\((∀p,p∈wr->Lp w.g p)\/∃z H,(j,z,H)∈es/\Bf w H wr)
theorem Bf.mono{H wr:List Nat}(h:Bf w H wr)(hs:∀i k,w.s i=some k->w'.s i=some k):Bf w' H wr:=λd e=>let⟨k,a,b⟩:=h d e;⟨k,hs _ _ a,b⟩
theorem u6.mono{rf c:List (Nat×Nat)}{i:Nat}{ids:List Nat}(hl:u6 w rf i ids)(hs:∀i k,w.s i=some k->w'.s i=some k)(hr:∀p,p∈rf->p∈c):u6 w' c i ids:=let⟨d,k,o,h1,h2,h3,h4⟩:=hl;⟨d,k,o,hr _ h1,hs _ _ h2,h3,h4⟩
theorem Fz(hl:aX w w'){p:Nat}(h:Lp w.g p):Lp w'.g p:=let⟨x,e,i⟩:=h;⟨x,hl.l p x e i,i⟩
theorem Qt(hl:aX w w'){p:Nat}(h:w.g p≠none/\¬Lp w.g p):w'.g p≠none/\¬Lp w'.g p:=⟨(hl.n p h.1).1,λe=>h.2 ((hl.n p h.1).2 e)⟩
theorem gV.mono{b:List Nat}{n n':Nat}{k:cz}{es:List (Nat×Bool×List Nat)}{fs:List (Nat×Bool)}{rf:List (Nat×Nat)}(hb:gV b w n k es fs rf)(hl:aX w w')(hs:∀i k,w.s i=some k->w'.s i=some k)(hn:n<=n'):gV b w' n' k es fs rf:=⟨λi ids e=>⟨Nat.lt_of_lt_of_le (hb.lf i ids e).1 hn,(hb.lf i ids e).2.imp id (.imp (λ⟨z,h1,h2⟩=>⟨z,h1,λhz=>⟨λp hp=>hl.F p ((h2 hz).1 p hp),(h2 hz).2⟩⟩) λh=>h.mono hs λ_ h=>h)⟩,λi ids e p q=>Qt hl (hb.lc i ids e p q),λe he=>Nat.lt_of_lt_of_le (hb.el e he) hn,λj wr e=>⟨Nat.lt_of_lt_of_le (hb.le j wr e).1 hn,(hb.le j wr e).2.imp (λh p q=>Fz hl (h p q)) λ⟨z,H,h1,h2⟩=>⟨z,H,h1,h2.mono hs⟩⟩⟩
theorem Ms:∀{L:List Nat}{x:Nat},mR L x=true->x∈L
 |[],_,h=>by cases h
 |y::ys,x,h=>by
  simp only[mR,Bool.or_eq_true]at h
  rcases h with h|h
  .simp_all
  .exact List.mem_cons_of_mem _ (Ms h)
theorem N0{b:List Nat}{n:Nat}{k:cz}{es:List (Nat×Bool×List Nat)}{fs:List (Nat×Bool)}{rf:List (Nat×Nat)}(hb:gV b w n k es fs rf)(hs:vc b fs es rf=true):mz b k=true:=by
 unfold mz
 rw[List.all_eq_true]
 rintro⟨i,ids⟩hi
 rw[List.all_eq_true]
 rintro⟨j,wr⟩hj
 simp only[Bool.or_eq_true]
 have apart:(∀p,p∈ids->p∉wr)->(ids.all λo=>!wr.contains o)=true:=λh=>by grind
 rcases(hb.le j wr hj).2 with h1|⟨z,H,h2,h3⟩
 .exact .inr (apart λo ho e=>(hb.lc i ids hi o ho).2 (h1 o e))
 unfold vc at hs
 split at hs
 .cases h2
 rw[List.all_eq_true]at hs
 have hs:=hs _ h2
 rw[bB,List.all_eq_true,List.all_eq_true]at hs
 rcases(hb.lf i ids hi).2 with rfl|⟨z',h1,h4⟩|⟨d,F,D,h1,h4,h5,rfl⟩
 .grind
 .have:=hs.1 _ h1
  simp only[Bool.or_eq_true,bB]at this
  rcases this with(h5|h5)|⟨⟨h5,h6⟩,c⟩
  .grind
  .grind
  .have h6:z=true:=h6;subst h6;exact .inr (apart ((h4 h5).2 j wr H hj h2 (by simpa[Nat.blt_eq]using c)))
 .have:=hs.2 _ h1
  simp only[Bool.or_eq_true]at this
  rcases this with(h6|h6)|h6
  .grind
  .grind
  .obtain⟨E,c,I⟩:=h3 d (Ms h6);grind
theorem ah.aiu(hs:ah P w ob nx h){i:Nat}(hi:i<nx):ah P w (ob.put i .gone) nx h:=by
 have c:∀j x,x≠.gone->(ob.put i .gone).get j=some x->ob.get j=some x:=by
  intro j x hx hj
  by_cases e:j=i
  .subst e;rw[Tr.a7]at hj;grind
  .rw[Tr.aL _ _ e]at hj;exact hj
 have z:∀j,live (ob.put i .gone) j->live ob j:=λj⟨x,h1,h2⟩=>⟨x,c j x h2 h1,h2⟩;refine⟨hs.g,λj t cs e=>hs.box j t cs (c _ _ (by simp) e),λj t rows l e=>hs.arr j t rows l (c _ _ (by simp) e),λj s l e=>hs.bh j s l (c _ _ (by simp) e),λa b k l o h1 h2=>hs.inj a b k l o (z _ h1) (z _ h2),hs.lt,?_,hs.bU,hs.new,λj t rows l e=>hs.mp j t rows l (c _ _ (by simp) e),λj t rows l e=>hs.tr j t rows l (c _ _ (by simp) e)⟩;intro j hj;exact⟨(hs.nx j hj).1,by rw[Tr.aL _ _ (by omega)];exact(hs.nx j hj).2⟩
theorem uk{i:Nat}{o:Nat}(ho:Ow w (ob.put i .gone) o):∃j k,j≠i/\live ob j/\w.s j=some k/\k.obj=some o:=by
 obtain⟨j,k,⟨x,h1,h2⟩,h3,h4⟩:=ho
 have e:j≠i:=by rintro rfl;rw[Tr.a7]at h1;cases h1;exact h2 rfl
 rw[Tr.aL _ _ e]at h1;exact⟨j,k,e,⟨x,h1,h2⟩,h3,h4⟩
theorem ah.Pu{nx':Nat}(hs:ah P w ob nx h){i:Nat}{t:TypeId}{cs:List SV}(hi:ob.get i=some (.box t cs))(z:ah P w' ob' nx' h')(hf:a8 w (ob.put i .gone) h w' ob' h'):
 ah P w' (ob'.put i (.box t cs)) nx' h'/\a8 w ob h w' (ob'.put i (.box t cs)) h':=by
 obtain⟨o,c,sh,O,b2,b3,b4,Z⟩:=hs.box i t cs hi
 have M:live ob i:=⟨_,hi,by simp⟩
 have hlt:o<h.next:=hs.lt i _ o O rfl
 have J:¬Ow w (ob.put i .gone) o:=λe=>by obtain⟨j,k,e1,e2,e3,N⟩:=uk e;exact e1 (hs.inj j i k _ o e2 M e3 O N rfl)
 have L:¬Ow w' ob' o:=λe=>(hf.own o e).elim (λe=>absurd hlt (by omega)) J
 have D:w'.s i=some (.box o c.length):=hf.s _ _ O
 have V:dp P w' h' i (.box t cs):=(hs.gJ hi).move hf.le hf.s λk o' h1 h2=>by rw[O]at h1;cases h1;cases h2;exact⟨hf.ck o hlt J,λf=>(hf.F o f).elim id λe=>e.elim (λe=>absurd hlt (by omega)) λe=>absurd e J⟩
 have E:∀j x,(ob'.put i (.box t cs)).get j=some x->dp P w' h' j x:=by
  intro j x hx
  by_cases e:j=i
  .subst e;rw[Tr.a7]at hx;grind
  .rw[Tr.aL _ _ e]at hx;exact z.gJ hx
 have I:∀j,j≠i->live (ob'.put i (.box t cs)) j->live ob' j:=λj e⟨x,h1,h2⟩=>⟨x,by rw[Tr.aL _ _ e]at h1;exact h1,h2⟩
 have U:∀j k p,j≠i->live (ob'.put i (.box t cs)) j->w'.s j=some k->k.obj=some p->p≠o:=λj k p e1 e2 e3 N X=>L ⟨j,k,I j e1 e2,e3,by rw[N,X]⟩
 refine⟨⟨z.g,λj t cs e=>E j _ e,λj t rows l e=>E j _ e,λj s l e=>E j _ e,?_,z.lt,?_,z.bU,z.new,λj t rows l e=>E j _ e,λj t rows l e=>E j _ e⟩,⟨hf.le,hf.s,hf.next,hf.floor,?_,?_,?_,?_,hf.ea,?_⟩⟩
 .intro T Q k l p h1 h2 h3 h4 h5 h6
  by_cases e1:T=i
  .by_cases e2:Q=i
   .rw[e1,e2]
   .subst e1;rw[D]at h3;cases h3;cases h5;grind
  .by_cases e2:Q=i
   .subst e2;rw[D]at h4;cases h4;cases h6;grind
   .exact z.inj T Q k l p (I _ e1 h1) (I _ e2 h2) h3 h4 h5 h6
 .intro j hj
  have e:j≠i:=by rintro rfl;rw[(z.nx j hj).1]at D;cases D
  exact⟨(z.nx j hj).1,by rw[Tr.aL _ _ e];exact(z.nx j hj).2⟩
 .intro p hp hn;exact hf.ck p hp λe=>by obtain⟨j,k,_,e2,e3,N⟩:=uk e;exact hn ⟨j,k,e2,e3,N⟩
 .rintro p⟨j,k,e1,e2,e3⟩
  by_cases e:j=i
  .subst e;rw[D]at e2;cases e2;cases e3;exact .inr ⟨j,_,M,O,rfl⟩
  .rcases hf.own p ⟨j,k,I j e e1,e2,e3⟩with h1|h1
   .grind
   .obtain⟨K,k',_,h2,h3,h4⟩:=uk h1;exact .inr ⟨K,k',h2,h3,h4⟩
 .intro p f
  rcases hf.F p f with h1|h1|h1
  .grind
  .grind
  .obtain⟨K,k',_,h2,h3,h4⟩:=uk h1;exact .inr (.inr ⟨K,k',h2,h3,h4⟩)
 .intro p e
  rcases hf.wr p e with h1|h1|h1|h1
  .grind
  .grind
  .obtain⟨K,k',_,h2,h3,h4⟩:=uk h1;exact .inr (.inr (.inl ⟨K,k',h2,h3,h4⟩))
  grind
 .intro j t1 S e
  by_cases e1:j=i
  .subst e1;rw[hi]at e;cases e;exact⟨cs,Tr.a7 ..⟩
  .obtain⟨Y,h1⟩:=hf.bx j t1 S (by rw[Tr.aL _ _ e1];exact e);exact⟨Y,by rw[Tr.aL _ _ e1];exact h1⟩
def WrH(w:Wd)(ob:Tr aq)(h:AHeap)(H:List Nat)(h':AHeap):Prop:=∀p,p∈h'.wr->p∈h.wr\/h.next<=p\/(∃i k,i∉H/\live ob i/\w.s i=some k/\k.obj=some p)\/Lp h.get p
def OpH(P:Program)(A:dr)(H:List Nat)(w:Wd)(h:AHeap)(S:ae)(o:Oper)(k:SV->ae->Option ρ)(kp:TypeId->List AV->ae->Option ρ)(r:ρ)(cx:Ctx)(cm:bD)(ρ':Operand->AV):Prop:=(∃m w' c h' v y,ah P w' c.ob c.nx h'/\a8 w S.ob h w' c.ob h'/\c.tm=S.tm/\c.r=S.r/\k v c=some r/\cV P (bE P m) cx ρ' o cm h=some (.val y cm h')/\RV P w' v y/\(H=[]->hO A S o=true->E2 h h')/\WrH w S.ob h H h')\/(∃m w' c h' t row y,ah P w' c.ob c.nx h'/\a8 w S.ob h w' c.ob h'/\c.tm=S.tm/\c.r=S.r/\kp t row c=some r/\cV P (bE P m) cx ρ' o cm h=some (.aN y h')/\gY P t row y)
theorem Mt(I:fb P A R){o:Oper}{ρ':Operand->AV}{r:ρ}(cx:Ctx)(cm:bD):∀(H:List Nat){S:ae}{k:SV->ae->Option ρ}{kp:TypeId->List AV->ae->Option ρ},ah P w S.ob S.nx h->(∀x,x∈o.op.operands.toList->RV P w (bH S.tm x) (ρ' x))->
 sr H S (λst k kp=>h9 P A R kp o st k) k kp=some r->OpH P A H w h S o k kp r cx cm ρ'/\∀j,j∈H->∃t cs,S.ob.get j=some (.box t cs)
 |[],S,k,kp,hs,c,hr=>by
  refine⟨?_,λj e=>by cases e⟩
  rcases Pt I hs c hr cx cm with⟨m,w',z,h',v,y,q1,q2,q3,q4,q5,q6,q7,q8⟩|h1
  .exact .inl ⟨m,w',z,h',v,y,q1,q2,q3,q4,q5,q6,q7,λ_=>q8,λp e=>(q2.wr p e).imp id (.imp id (.imp (λ⟨i,k,e1,e2,e3⟩=>⟨i,k,by simp,e1,e2,e3⟩) id))⟩
  .exact .inr h1
 |j::js,S,k,kp,hs,c,hr=>by
  unfold sr at hr
  split at hr
  .rename_i t cs hj
   have D:=hs.oy hj
   have K:live S.ob j:=⟨_,hj,by simp⟩
   obtain⟨h1,h2⟩:=Mt I cx cm js (S:={S with ob:=S.ob.put j .gone}) (hs.aiu D) c hr
   have J:∀i,live (S.ob.put j .gone) i->i≠j/\live S.ob i:=λi⟨x,e1,e2⟩=>by
    have e:i≠j:=by rintro rfl;rw[Tr.a7]at e1;cases e1;exact e2 rfl
    rw[Tr.aL _ _ e]at e1;exact⟨e,x,e1,e2⟩
   refine⟨?_,λi e=>by
    rcases List.mem_cons.1 e with rfl|e
    .grind
    .obtain⟨t',aS,h3⟩:=h2 i e
     have e2:i≠j:=by rintro rfl;rw[Tr.a7]at h3;cases h3
     rw[Tr.aL _ _ e2]at h3;grind⟩
   rcases h1 with⟨m,w',z,h',v,y,q1,q2,q3,q4,q5,q6,q7,_,q9⟩|⟨m,w',z,h',t',row,y,q1,q2,q3,q4,q5,q6,q7⟩
   .obtain⟨F,E⟩:=hs.Pu hj q1 q2
    refine .inl ⟨m,w',{z with ob:=z.ob.put j (.box t cs)},h',v,y,F,E,q3,q4,q5,q6,q7,(λe=>by cases e),λp e=>?_⟩
    rcases q9 p e with e|e|⟨i,k,e1,e2,e3,L⟩|e
    .exact .inl e
    .grind
    .grind
    grind
   .obtain⟨F,E⟩:=hs.Pu hj q1 q2;exact .inr ⟨m,w',{z with ob:=z.ob.put j (.box t cs)},h',t',row,y,F,E,q3,q4,q5,q6,q7⟩
  .cases hr
theorem aa7{v:SV}{x:AV}(hv:RV P w v x)(hf:R4 v=true):∀p,p∈jD x->w.F p:=by
 cases v with
 |sc v=>cases hv;intro p hp;cases hp
 |dl t rows=>cases hv with|dl hr=>cases hr with|sl _ _ c _ _ _ _ _ _ _=>intro p hp;rw[List.mem_singleton.1 hp];exact c|_=>intro p hp;cases hp
 |dj t r o=>cases hv with|dj hp=>cases hp with|cI _=>intro p hp;cases hp|ref c _ _ _ _ _ _=>intro p hp;rw[List.mem_singleton.1 hp];exact c
 |md t rows=>cases hv with|md hr=>cases hr with|mk _ c _ _=>intro p hp;rw[List.mem_singleton.1 hp];exact c
 |pb t cs o=>cases hv with|pb c _ _ _ _ _ _ _=>intro p hp;rw[List.mem_singleton.1 hp];exact c
 |_=>cases hf
theorem Wb(hs:bN P cx w st a){o:Oper}(hf:nQ st o=true):∀p,p∈dH o a.tm->w.F p:=by
 intro p hp
 unfold dH at hp
 split at hp
 .obtain⟨t,h1,h2⟩:=List.mem_flatMap.1 hp
  simp only[tmpsOf,List.mem_filterMap]at h1
  obtain⟨x,h3,h4⟩:=h1
  have hx:x=.tmp t:=by grind
  subst hx;unfold nQ at hf;rw[List.all_eq_true]at hf;exact aa7 (fe hs.tm _) (hf _ h3) p h2
 .cases hp
theorem Wc{o ver n off:Nat}{new:List AV}{h':AHeap}(e:iq h o ver n off new=some h'):∀p,p∈h'.wr->p∈h.wr\/p=o:=by
 unfold iq at e
 split at e
 .split at e
  .cases e;intro p hp;have hp:p∈jw h.wr h.floor o:=hp;unfold jw at hp;grind
  .cases e
 .cases e
theorem Vy(hs:bN P cx w st a){o:Oper}(hf:pR st o=true){L:Rec}{cm cm':bD}{y:AV}{h0 h':AHeap}(I:h0.wr=[])(he:cV P L cx (dy (tmpsOf o) a.tm) o cm h0=some (.val y cm' h')):∀p,p∈h'.wr->¬w.F p:=by
 unfold pR at hf
 split at hf
 .rename_i t x v z
  split at hf
  .rename_i i off hx
   split at hf
   .rename_i t' cs hb
    obtain⟨E,c,sh,K,Q,O,N,J⟩:=hs.h.box i t' cs hb
    have hr:=fe (P:=P) (w:=w) hs.tm x
    rw[hx]at hr
    have hm:x∈o.op.operands.toList:=by rw[z];simp[Op.operands]
    rw[<-lJ (a:=a) hm]at hr
    generalize hy:dy (tmpsOf o) a.tm x=M at hr
    cases hr with
    |ref h1=>
     rw[K]at h1;cases h1
     simp only[cV,aV,z,hy,nV]at he
     cases D:bt P t with
     |none=>grind
     |some s=>
      rw[D]at he
      simp only at he
      split at he
      .simp_all
      .rename_i q hq
       cases he
       split at hq
       .cases hw:iq h0 E 0 c.length off (a6 (dy (tmpsOf o) a.tm v))with
        |none=>grind
        |some h1=>
         rw[hw]at hq;cases hq
         intro p hp
         rcases Wc hw p hp with e|rfl
         .grind
         .exact J
       .cases hq
      all_goals first
       |cases he
       |(rename_i q hq;exfalso;split at hq
         .cases hw:iq h0 E 0 c.length off (a6 (dy (tmpsOf o) a.tm v))with|none=>rw[hw]at hq;cases hq|some h1=>rw[hw]at hq;cases hq
         .cases hq)
   .cases hf
  .cases hf
 .cases hf
theorem yn{ops:Array Oper}{o:Oper}{rest:List Oper}{i ao:Nat}{bk:cz}{z:Rec}(hw:cC ops o a.tm=some true){c:cz}{gq:Nat}{a':aD}
 (h:(bg o.op=true/\gq=ao+1/\c=bk/\∃v x,aV P (dy (tmpsOf o) a.tm) o {cj:=.leaf,next:=ao,floor:=0,wr:=[]}=some (.val v,{cj:=Tr.leaf.put ao x,next:=ao+1,floor:=0,wr:=[]})/\({a with h:={a.h with cj:=a.h.cj.put ao x}}:aD).put cx.tn o.dst v=some a')\/(bg o.op=false/\cd o.op=true/\gq=ao/\c={bk with fs:=(i,dH o a.tm)::bk.fs}/\∃v,aV P (dy (tmpsOf o) a.tm) o {a.h with cj:=fB a.h (dH o a.tm)}=some (.val v,{a.h with cj:=fB a.h (dH o a.tm)})/\a.put cx.tn o.dst v=some a')\/(bg o.op=false/\cd o.op=false/\gq=ao/\∃v cm h',c={bk with es:=(i,h'.wr)::bk.es}/\cV P z cx (dy (tmpsOf o) a.tm) o .none a.h.inner=some (.val v cm h')/\({a with h:=a.h.outer h'}:aD).put cx.tn o.dst v=some a')):
 e9 P z cx ops (o::rest) i ao bk a=e9 P z cx ops rest (i+1) gq c a':=by
 rw[e9]
 simp only[hw]
 rcases h with⟨h1,rfl,rfl,v,x,h2,h3⟩|⟨h1,h2,rfl,rfl,v,h3,h4⟩|⟨h1,h2,rfl,v,cm,h',rfl,h3,h4⟩
 .simp only[h1,if_true,h2];have:({cj:=Tr.leaf.put ao x,next:=ao+1,floor:=0,wr:=[]}:AHeap).get ao=some x:=Tr.a7 ..;grind
 .grind
 grind
theorem yp{ops:Array Oper}{o:Oper}{rest:List Oper}{i ao:Nat}{bk:cz}{b:List Nat}{z:Rec}(hw:cC ops o a.tm=some true){c:cz}{gq:Nat}{a':aD}
 (h:(bg o.op=true/\gq=ao+1/\c=bk/\∃v x,aV P (dy (tmpsOf o) a.tm) o {cj:=.leaf,next:=ao,floor:=0,wr:=[]}=some (.val v,{cj:=Tr.leaf.put ao x,next:=ao+1,floor:=0,wr:=[]})/\({a with h:={a.h with cj:=a.h.cj.put ao x}}:aD).put cx.tn o.dst v=some a')\/(bg o.op=false/\cd o.op=true/\gq=ao/\c={bk with fs:=(i,dH o a.tm)::bk.fs}/\∃v,aV P (dy (tmpsOf o) a.tm) o {a.h with cj:=fB a.h (dH o a.tm)}=some (.val v,{a.h with cj:=fB a.h (dH o a.tm)})/\a.put cx.tn o.dst v=some a')\/(bg o.op=false/\cd o.op=false/\gq=ao/\∃v cm h',c={bk with es:=(i,h'.wr)::bk.es}/\cV P z cx (dy (tmpsOf o) a.tm) o .none a.h.inner=some (.val v cm h')/\({a with h:=a.h.outer h'}:aD).put cx.tn o.dst v=some a')):
 fa P z cx ops b (o::rest) i ao bk a=fa P z cx ops b rest (i+1) gq c a':=by
 rw[fa]
 simp only[hw]
 rcases h with⟨h1,rfl,rfl,v,x,h2,h3⟩|⟨h1,h2,rfl,rfl,v,h3,h4⟩|⟨h1,h2,rfl,v,cm,h',rfl,h3,h4⟩
 .simp only[h1,if_true,h2];have:({cj:=Tr.leaf.put ao x,next:=ao+1,floor:=0,wr:=[]}:AHeap).get ao=some x:=Tr.a7 ..;grind
 .grind
 grind
def Hy(P:Program)(z:Rec)(cx:Ctx)(ops:Array Oper)(b:List Nat)(o:Oper)(i ao:Nat)(bk:cz)(a:aD)(gq:Nat)(c:cz)(a':aD):Prop:=(∀rest,e9 P z cx ops (o::rest) i ao bk a=e9 P z cx ops rest (i+1) gq c a')/\∀rest,fa P z cx ops b (o::rest) i ao bk a=fa P z cx ops b rest (i+1) gq c a'
def lZ(st:ae)(o:Oper)(i:Nat)(fs:List (Nat×Bool)):List (Nat×Bool):=match cd o.op&&jt o.op,mT st o with|true,none=>(i,nQ st o)::fs|_,_=>fs
def lS(st:ae)(o:Oper)(i:Nat)(rf:List (Nat×Nat)):List (Nat×Nat):=match cd o.op&&jt o.op,mT st o with|true,some j=>(i,j)::rf|_,_=>rf
theorem Vz(hs:bN P cx w st a){o:Oper}{j:Nat}(hj:mT st o=some j)(hl:jt o.op=true):∃k p,w.s j=some k/\k.obj=some p/\dH o a.tm=[p]:=by
 unfold mT at hj
 split at hj
 .rename_i t x c
  split at hj
  .rename_i z off hx
   cases hj
   have hr:=fe hs.tm x
   rw[hx]at hr
   cases x with
   |tmp d=>
    generalize hy:ev a.tm (.tmp d)=y at hr
    cases hr with
    |ref h1=>
     refine⟨_,_,h1,rfl,?_⟩
     unfold dH
     rw[if_pos hl]
     have:tmpsOf o=[d]:=by unfold tmpsOf;rw[c];rfl
     rw[this];simp only[List.flatMap_cons,List.flatMap_nil,hy,jD,List.append_nil]
   |const v=>
    exfalso
    simp only[bH]at hx
    cases v with
    |func fn F E=>cases fn with|func D=>simp only[gx]at hx;grind|_=>cases hx
    |_=>cases hx
   |global g=>cases hx|func f=>cases hx
  .cases hj
 .cases hj
def Seen(ob:Tr aq):SV->Prop|.ref i _=>live ob i|.own i=>live ob i|.dI i _ _=>live ob i|.om i=>live ob i|.md _ _=>True|.pb _ _ _=>True|.dj _ _ _=>True|.dl _ _=>True|.sc _=>True|_=>False
theorem Ym(hs:ah P w ob nx h){v:SV}{x:AV}(hv:RV P w v x)(hk:Seen ob v):∀p,p∈jD x->w.g p≠none/\¬Lp w.g p:=by
 have own:∀{i:Nat}{k:Lk}{o:Nat},live ob i->w.s i=some k->k.obj=some o->w.g o≠none/\¬Lp w.g o:=λh1 h2 h3=>by have:=hs.la h1 h2 h3;rw[show w.g=h.get from funext hs.g];exact⟨hs.there h1 h2 h3,this⟩
 have z:∀{o v mv fz:Nat}{c:List AV}{el:TypeId}{ex sh:Bool},w.g o=some (.cells v mv c fz el ex sh)->w.g o≠none/\¬Lp w.g o:=λe=>⟨by rw[e];simp,by rintro⟨x,e1,e2⟩;rw[e]at e1;cases e1;cases e2⟩
 cases v with
 |sc v=>cases hv;intro p hp;cases hp
 |dl t rows=>cases hv with|dl hr=>cases hr with|sl _ _ _ D _ _ _ _ _ _=>intro p hp;rw[List.mem_singleton.1 hp];exact z D|_=>intro p hp;cases hp
 |own i=>cases hv with|cM _=>intro p hp;cases hp|cu e=>intro p hp;rw[List.mem_singleton.1 hp];exact own hk e rfl
 |ref i o=>cases hv with|ref e=>intro p hp;rw[List.mem_singleton.1 hp];exact own hk e rfl
 |dI i j o=>cases hv with|dI e _=>intro p hp;rw[List.mem_singleton.1 hp];exact own hk e rfl
 |dj t r o=>cases hv with|dj hp=>cases hp with|cI _=>intro p hp;cases hp|ref _ D _ _ _ _ _=>intro p hp;rw[List.mem_singleton.1 hp];exact z D
 |om i=>cases hv with|om e=>intro p hp;rw[List.mem_singleton.1 hp];exact own hk e rfl
 |md t rows=>cases hv with|md hr=>cases hr with|mk _ _ c _=>intro p hp;rw[List.mem_singleton.1 hp];exact⟨by rw[c];simp,by rintro⟨x,e1,e2⟩;rw[c]at e1;cases e1;cases e2⟩
 |pb t cs o=>cases hv with|pb _ D _ _ _ _ _ _=>intro p hp;rw[List.mem_singleton.1 hp];exact z D
 |_=>exact hk.elim
theorem W8{kp:TypeId->List AV->ae->Option ρ}{o:Oper}{k:ae->Option ρ}{r:ρ}(hr:ke P A R kp o st k=some r)(hF:cd o.op=true)(hl:jt o.op=true):∀x,x∈o.op.operands.toList->Seen st.ob (bH st.tm x):=by
 unfold ke at hr
 have F:∀{i:Nat}{x:aq},st.ob.get i=some x->x≠.gone->live st.ob i:=λh1 h2=>⟨_,h1,h2⟩
 have h1:h9 P A R kp o st (λv st=>k (dq st o.dst v))=some r:=by
  split at hr
  .rename_i h;rw[h]at hl;cases hl
  .rename_i h;rw[h]at hl;cases hl
  .rename_i h;rw[h]at hl;cases hl
  .grind
 clear hr
 unfold h9 at h1
 cases E:o.op with
 |load t x=>
  rw[E]at h1
  intro y hy
  have:y=x:=by simpa[Op.operands]using hy
  subst this
  simp only[va]at h1
  split at h1
  .rename_i i off _ _ D
   rw[D]
   split at h1
   .rename_i hb;exact F hb (by simp)
   .cases h1
  .rename_i D;rw[D];trivial
  .rename_i i j off _ _ D
   rw[D]
   split at h1
   .rename_i hb;exact F hb (by simp)
   .cases h1
  .rename_i D;rw[D];trivial
  .cases h1
 |convert s d x=>
  rw[E]at h1
  intro y hy
  have:y=x:=by simpa[Op.operands]using hy
  subst this
  simp only at h1
  split at h1
  .rename_i D;rw[D];trivial
  .rename_i D;rw[D];trivial
  .rename_i D;rw[D];trivial
  .rename_i i off D
   rw[D]
   split at h1
   .rename_i hb _ _;exact F hb (by simp)
   .rename_i hb _ _;exact F hb (by simp)
   .cases h1
  .rename_i i D
   rw[D]
   split at h1
   .rename_i hb;exact F hb (by simp)
   .cases h1
  .cases h1
 |lookup t x i ok=>
  rw[E]at h1
  intro y hy
  simp only[Az]at h1
  split at h1
  .rename_i e rows s _ hm hi
   have hy:y=x\/y=i:=by simpa[Op.operands]using hy
   rcases hy with rfl|rfl
   .unfold mF at hm
    split at hm
    .rename_i D;rw[D];trivial
    .rename_i j D
     rw[D]
     split at hm
     .rename_i hb;exact F hb (by simp)
     .cases hm
    .cases hm
   .rw[hi];trivial
  .cases h1
 |call c=>
  rw[E]at h1 hF
  obtain⟨callee,args,J⟩:=c
  cases callee with
  |invoke _ _=>cases hF
  |value f=>cases hF
  |builtin b=>
   simp only at h1
   intro y hy
   have hy:y∈args.toList:=by simpa[Op.operands,Call.operands]using hy
   generalize I:args.toList=l at h1 hy
   have one:∀{x:SV},l.map (bH st.tm)=[x]->bH st.tm y=x:=by intro x e;cases l with|nil=>cases e|cons z K=>simp_all
   unfold yQ at h1
   split at h1
   .cases hF
   .rename_i x hx
    rw[one hx]
    split at h1
    .rename_i n t hn _
     unfold lT at hn
     split at hn
     .trivial
     .trivial
     .split at hn
      .rename_i hb;exact F hb (by simp)
      .rename_i hb;exact F hb (by simp)
      .rename_i hb;exact F hb (by simp)
      .cases hn
     .trivial
     .cases hn
    .cases h1
   .rename_i i hx
    rw[one hx]
    split at h1
    .rename_i hb;exact F hb (by simp)
    .cases h1
   .rename_i hx;rw[one hx];trivial
   .cases hF
   .cases hF
   .cases h1
 |_=>rw[E]at hl;cases hl
theorem Pv{ops:Array Oper}{w0:Wd}{eL:Tr aq}{h0:AHeap}{n1 i ao:Nat}{es:List (Nat×Bool×List Nat)}{fs:List (Nat×Bool)}{rf:List (Nat×Nat)}{bk:cz}{b:List Nat}{o:Oper}(hAF:(bg o.op||cd o.op)=true)(hs:bN P cx w st a)(hd:iZ cx.tn o.dst)(X:a8 w0 eL h0 w st.ob a.h)(s9:h0.next<=ao)
 (E:j2 a.h ao n1)(han:bg o.op=true->ao<n1)(hb:gV b w i bk es fs rf){k:ae->Option ρ}{r:ρ}(hr:ke P A R (λ_ _ _=>none) o st k=some r)(hw:cC ops o a.tm=some true):
 ∃w' st' a' L,(∀Q,Hy P Q cx ops b o i ao bk a (if bg o.op then ao+1 else ao) L a')/\bN P cx w' st' a'/\a8 w0 eL h0 w' st'.ob a'.h/\j2 a'.h (if bg o.op then ao+1 else ao) n1/\gV b w' (i+1) L es (lZ st o i fs) (lS st o i rf)/\k st'=some r:=by
 have S:∀x,x∈o.op.operands.toList->RV P w (bH st.tm x) (dy (tmpsOf o) a.tm x):=λx hx=>by rw[lJ hx];exact fe hs.tm x
 have Y:cd o.op=true->gV b w (i+1) {bk with fs:=(i,dH o a.tm)::bk.fs} es (lZ st o i fs) (lS st o i rf):=by
  intro hF
  have old:∀(bK:List (Nat×Bool))(M:List (Nat×Nat)),(∀j,j∈fs->j∈bK)->(∀p,p∈rf->p∈M)->(dH o a.tm=[]\/(i,nQ st o)∈bK\/u6 w M i (dH o a.tm))->(∀p,p∈dH o a.tm->w.g p≠none/\¬Lp w.g p)->gV b w (i+1) {bk with fs:=(i,dH o a.tm)::bk.fs} es bK M:=by
   intro bK M h1 h2 h3 h4
   refine⟨λj ids e=>?_,λj ids e=>(List.mem_cons.1 e).elim (λe=>by grind) (hb.lc j ids),λe he=>Nat.lt_succ_of_lt (hb.el e he),λj wr e=>⟨Nat.lt_succ_of_lt (hb.le j wr e).1,(hb.le j wr e).2⟩⟩
   rcases List.mem_cons.1 e with e|e
   .cases e;exact⟨Nat.lt_succ_self _,h3.imp id (.imp (λe=>⟨_,e,λhz=>⟨Wb hs hz,λj wr H e1 _ e3=>absurd e3 (by have:=(hb.le j wr e1).1;omega)⟩⟩) id)⟩
   .exact⟨Nat.lt_succ_of_lt (hb.lf j ids e).1,(hb.lf j ids e).2.imp id (.imp (λ⟨z,e1,h⟩=>⟨z,h1 _ e1,h⟩) λh=>h.mono (λ_ _ h=>h) h2)⟩
  unfold lZ lS
  rw[hF,Bool.true_and]
  cases hl:jt o.op with
  |false=>exact old _ _ (λ_ h=>h) (λ_ h=>h) (.inl (by unfold dH;rw[hl];rfl)) (λp hp=>by unfold dH at hp;grind)
  |true=>
   have V:∀p,p∈dH o a.tm->w.g p≠none/\¬Lp w.g p:=by
    intro p hp
    unfold dH at hp
    rw[if_pos hl]at hp
    obtain⟨t,h1,h2⟩:=List.mem_flatMap.1 hp
    simp only[tmpsOf,List.mem_filterMap]at h1
    obtain⟨x,h3,h4⟩:=h1
    have hx:x=.tmp t:=by grind
    subst hx;exact Ym hs.h (fe hs.tm _) (W8 hr hF hl _ h3) p h2
   cases hj:mT st o with|none=>grind|some j=>obtain⟨k',p,h1,h2,h3⟩:=Vz hs hj hl;exact old _ _ (λ_ h=>h) (λ_ h=>List.mem_cons_of_mem _ h) (.inr (.inr ⟨j,k',p,List.mem_cons_self ..,h1,h2,h3⟩)) V
 have mv:∀(x:Operand)(I:ae),x∈o.op.operands.toList->cd o.op=true->bg o.op=false->bN P cx w I a->(∀h:AHeap,aV P (dy (tmpsOf o) a.tm) o h=some (.val (ev a.tm x),h))->I.ob=st.ob->k (jZ I o.dst x)=some r->
  ∃w' st' a' L,(∀Q,Hy P Q cx ops b o i ao bk a (if bg o.op then ao+1 else ao) L a')/\bN P cx w' st' a'/\a8 w0 eL h0 w' st'.ob a'.h/\
  j2 a'.h (if bg o.op then ao+1 else ao) n1/\gV b w' (i+1) L es (lZ st o i fs) (lS st o i rf)/\k st'=some r:=by
  intro x I hx hF hA T8 he hob hk
  obtain⟨a',q1,q2,q3⟩:=Mq (n:=cx.tn) (x:=x) T8 hd
  have S9:(jZ I o.dst x).ob=I.ob:=by
   unfold jZ dq
   simp only
   split
   .grind
   .grind
  exact⟨w,_,a',{bk with fs:=(i,dH o a.tm)::bk.fs},λQ=>⟨λrest=>yn hw (.inr (.inl ⟨hA,hF,by rw[hA];rfl,rfl,_,he _,q1⟩)),λrest=>yp hw (.inr (.inl ⟨hA,hF,by rw[hA];rfl,rfl,_,he _,q1⟩))⟩,q2,by grind,by grind,Y hF,hk⟩
 unfold ke at hr
 split at hr
 .rename_i x D
  have hx:x∈o.op.operands.toList:=by rw[D];simp[Op.operands]
  exact mv x st hx (by rw[D];rfl) (by rw[D];rfl) hs (λh=>by simp only[aV,D,lJ hx]) rfl hr
 .rename_i x D
  have hx:x∈o.op.operands.toList:=by rw[D];simp[Op.operands]
  exact mv x st hx (by rw[D];rfl) (by rw[D];rfl) hs (λh=>by simp only[aV,D,lJ hx]) rfl hr
 .rename_i c x y D
  have hF:cd o.op=true:=by rw[D];rfl
  have hA:bg o.op=false:=by rw[D];rfl
  have hc:c∈o.op.operands.toList:=by rw[D];simp[Op.operands]
  have hx:x∈o.op.operands.toList:=by rw[D];simp[Op.operands]
  have hy:y∈o.op.operands.toList:=by rw[D];simp[Op.operands]
  split at hr
  .rename_i d
   split at hr
   .rename_i t ht
    have O:=tW hs ht
    have J:dy (tmpsOf o) a.tm (.tmp d)=.sc (.bool t):=by rw[lJ hc];simp only[ev,O]
    rcases jQ hr with⟨rfl,hr⟩|⟨rfl,hr⟩
    .exact mv x _ hx hF hA (hT hs O) (λh=>by simp only[aV,D];rw[J,lJ hx];rfl) rfl hr
    .exact mv y _ hy hF hA (hT hs O) (λh=>by simp only[aV,D];rw[J,lJ hy];rfl) rfl hr
   .cases hr
  .rename_i t
   have J:dy (tmpsOf o) a.tm (.const (.bool t))=.sc (.bool t):=rfl
   cases t
   .exact mv y st hy hF hA hs (λh=>by simp only[aV,D];rw[J,lJ hy];rfl) rfl hr
   .exact mv x st hx hF hA hs (λh=>by simp only[aV,D];rw[J,lJ hx];rfl) rfl hr
  .cases hr
 .split at hr
  .cases hr
  .have T:∀(S':ae)(v:SV),(dq S' o.dst v).ob=S'.ob:=λS' v=>by cases o.dst<;>rfl
   cases hA:bg o.op with
   |true=>
    obtain⟨F,N,obj,y,v,x,lk,q1,q2,q3,q4,q5,q6,q7,q8⟩:=(NR hs.h S hA hr).ok
    have K:=han hA
    obtain⟨w',c1,c2,c3,c4,c5⟩:=NW (h':={a.h with cj:=a.h.cj.put ao obj}) (a:=ao) q1 q2 q3 q6 q7 q8 (E.2 ao (aC _) K) (Nat.lt_of_lt_of_le K E.1) (Tr.a7 ..) (λo e=>Tr.aL _ _ e) (aC _)
     (λo ho=>by
      have ho':a.h.next<=o:=ho
      have:o≠ao:=by have:=E.1;omega
      show(a.h.cj.put ao obj).get o=none;rw[Tr.aL _ _ this];exact hs.h.new o ho') rfl rfl X s9
    have Z:bN P cx w' {st with ob:=N.put st.nx x,nx:=st.nx+1} {a with h:={a.h with cj:=a.h.cj.put ao obj}}:=⟨c1,hs.tm.mono c3 c4,hs.al,hs.df.mono c3 c4,hs.cm,hs.rn,hs.kd,hs.co.1,λd e=>⟨(hs.co.2 d e).1,by show(a.h.cj.put ao obj).get d=_;rw[Tr.aL _ _ (by rintro rfl;have:=(hs.co.2 _ e).2;rw[E.2 _ (aC _) K]at this;cases this)];exact(hs.co.2 d e).2⟩⟩
    obtain⟨a',p1,p2,p3⟩:=iv (n:=cx.tn) Z c5 hd
    have U:cd o.op=false:=by cases D:o.op<;>rw[D]at hA<;>simp_all[bg,cd]
    refine⟨w',_,a',bk,λQ=>⟨λrest=>yn hw (.inl ⟨hA,by simp,rfl,_,_,q4 _,p1⟩),λrest=>yp hw (.inl ⟨hA,by simp,rfl,_,_,q4 _,p1⟩)⟩,p2,by grind,?_,?_,q5⟩
    .rw[p3];refine⟨E.1,λp h1 h2=>?_⟩;have h1:ao+1<=p:=h1;show(a.h.cj.put ao obj).get p=none;rw[Tr.aL _ _ (by omega)];exact E.2 p (by omega) h2
    .have e1:lZ st o i fs=fs:=by unfold lZ;rw[U];rfl
     have e2:lS st o i rf=rf:=by unfold lS;rw[U];rfl
     rw[e1,e2];exact hb.mono c3 c4 (Nat.le_succ _)
   |false=>
    have hF:cd o.op=true:=by grind
    obtain⟨F,N,q1,q2,q3,v,y,q4,q5,q6⟩:=Mf (h1:={a.h with cj:=fB a.h (dH o a.tm)}) hs.h S (λhl x hx=>Yl hs.h hl hx) hF hr;obtain⟨a',p1,p2,p3⟩:=iv (n:=cx.tn) (hs.step (st':={st with ob:=N}) q1 (.bo q2 q3) rfl rfl) q6 hd;exact⟨_,_,a',{bk with fs:=(i,dH o a.tm)::bk.fs},λQ=>⟨λrest=>yn hw (.inr (.inl ⟨hA,hF,rfl,rfl,_,q5,p1⟩)),λrest=>yp hw (.inr (.inl ⟨hA,hF,rfl,rfl,_,q5,p1⟩))⟩,p2,by rw[p3,T];exact X.trans (.bo q2 q3),by grind,(Y hF).mono (aX.more _ _) (λ_ _ h=>h) (aC _),q4⟩
theorem acw(hR:fb P A R){ops:Array Oper}{w0:Wd}{eL:Tr aq}{h0:AHeap}{n1 i ao:Nat}{es:List (Nat×Bool×List Nat)}{fs:List (Nat×Bool)}{rf:List (Nat×Nat)}{bk:cz}{b:List Nat}{o:Oper}(hA:bg o.op=false)(hF:cd o.op=false)(hs:bN P cx w st a)(hd:iZ cx.tn o.dst)(Q:a8 w0 eL h0 w st.ob a.h)
 (K:j2 a.h ao n1)(hb:gV b w i bk es fs rf){k:SV->ae->Option ρ}{kp:TypeId->List AV->ae->Option ρ}{r:ρ}(hr:sr (match hO A st o with|true=>[]|false=>qv st o) st (λst k kp=>h9 P A R kp o st k) k kp=some r)(hw:cC ops o a.tm=some true):
 (∃m w' D v a' S,(∀T,m<=T->Hy P (bE P T) cx ops b o i ao bk a ao S a')/\bN P cx w' (dq D o.dst v) a'/\a8 w0 eL h0 w' (dq D o.dst v).ob a'.h/\j2 a'.h ao n1/\gV b w' (i+1) S (match hO A st o with|true=>es|false=>(i,pR st o,qv st o)::es) fs rf/\k v D=some r)\/
 (∃m w' D h' t row y,cV P (bE P m) cx (dy (tmpsOf o) a.tm) o .none a.h.inner=some (.aN y h')/\bN P cx w' {D with tm:=.leaf,al:=[]} {a with tm:=.leaf,h:=a.h.outer h'}/\a8 w0 eL h0 w' D.ob (a.h.outer h')/\kp t row D=some r/\gY P t row y):=by
 have V:∀x,x∈o.op.operands.toList->RV P w (bH st.tm x) (dy (tmpsOf o) a.tm x):=λx hx=>by rw[lJ hx];exact fe hs.tm x
 have N:∀(D:ae)(v:SV),(dq D o.dst v).ob=D.ob:=λD v=>by cases o.dst<;>rfl
 have X:ah P w st.ob st.nx a.h.inner:=hs.h.mu (λ_=>rfl) rfl
 obtain⟨h1,I⟩:=Mt hR cx .none _ X V hr
 rcases h1 with⟨m,w',D,h',v,y,q1,q2,q3,q4,q5,q6,q7,q8,q9⟩|⟨m,w',D,h',t,row,y,q1,q2,q3,q4,q5,q6,q7⟩
 .have J:ah P w' D.ob D.nx (a.h.outer h'):=q1.mu (λ_=>rfl) rfl
  obtain⟨a',p1,p2,p3⟩:=iv (n:=cx.tn) (hs.step J q2.outer q3 q4) q7 hd
  refine .inl ⟨m,w',D,v,a',{bk with es:=(i,h'.wr)::bk.es},λT hm=>⟨λrest=>?_,λrest=>?_⟩,p2,by rw[p3,N];exact Q.trans q2.outer,by rw[p3];exact K.ax hs.h q2.outer,?_,q5⟩
  .exact yn hw (.inr (.inr ⟨hA,hF,rfl,_,_,_,rfl,rI (iu P hm) q6,p1⟩))
  .exact yp hw (.inr (.inr ⟨hA,hF,rfl,_,_,_,rfl,rI (iu P hm) q6,p1⟩))
  .have M:hO A st o=true->∀p,p∈h'.wr->Lp w.g p:=by
    intro hp p hm
    have h1:=q8 (by rw[hp]) hp
    have e2:=q2.ea (λ_ e=>by cases e) p hm
    rw[q2.floor]at e2
    have e2:p<a.h.next:=e2
    rcases h1 p hm with e|e|e
    .cases e
    .have e:a.h.next<=p:=e;omega
    .rw[show w.g=a.h.get from funext hs.h.g];exact e
   have lz:∀j ids,(∃z,(j,z)∈fs/\(z=true->Fy w bk es j ids))->∃z,(j,z)∈fs/\(z=true->Fy w' {bk with es:=(i,h'.wr)::bk.es} (match hO A st o with|true=>es|false=>(i,pR st o,qv st o)::es) j ids):=by
    rintro j ids⟨z,e1,h⟩
    refine⟨z,e1,λhz=>⟨λp hp=>q2.le.F p ((h hz).1 p hp),?_⟩⟩
    intro U wr H e2 e3 e4 p hp
    have old:(U,true,H)∈es->p∉wr:=λL=>by
     rcases List.mem_cons.1 e2 with e2|e2
     .cases e2;exact absurd (hb.el _ L) (Nat.lt_irrefl i)
     .exact(h hz).2 U wr H e2 L e4 p hp
    cases Z:hO A st o with
    |true=>grind
    |false=>
     rw[Z]at e3
     rcases List.mem_cons.1 e3 with e3|e3
     .obtain⟨rfl,L,_⟩:U=i/\true=pR st o/\H=_:=by simpa using e3
      rcases List.mem_cons.1 e2 with e2|e2
      .cases e2;exactλe=>Vy hs L.symm (h0:=a.h.inner) rfl q6 p e ((h hz).1 p hp)
      .exact absurd (hb.le _ _ e2).1 (Nat.lt_irrefl _)
     grind
   refine⟨λj ids e=>⟨Nat.lt_succ_of_lt (hb.lf j ids e).1,(hb.lf j ids e).2.imp id (.imp (lz j ids) λh=>h.mono q2.s λ_ h=>h)⟩,λj ids e p q=>Qt q2.le (hb.lc j ids e p q),λe he=>?_,λj wr e=>?_⟩
   .cases hp:hO A st o with
    |true=>rw[hp]at he;exact Nat.lt_succ_of_lt (hb.el e he)
    |false=>
     rw[hp]at he
     rcases List.mem_cons.1 he with rfl|he
     .grind
     .exact Nat.lt_succ_of_lt (hb.el e he)
   .rcases List.mem_cons.1 e with e|e
    .cases e
     refine⟨Nat.lt_succ_self _,?_⟩
     cases hp:hO A st o with
     |true=>exact .inl λp e=>Fz q2.le (M hp p e)
     |false=>
      rw[hp]at q9 I
      refine .inr ⟨_,_,List.mem_cons_self ..,λd hd=>?_⟩
      obtain⟨t,cs,h4⟩:=I d hd
      obtain⟨o2,c,sh,h2,_,_,_,_⟩:=hs.h.box d t cs h4
      have O:live st.ob d:=⟨_,h4,by simp⟩
      refine⟨_,q2.s _ _ h2,λp h3 Y=>?_⟩
      rcases q9 p Y with e|e|⟨i',k',L,e6,e7,e8⟩|e
      .cases e
      .have:p<a.h.next:=hs.h.lt d _ p h2 h3;have e:a.h.next<=p:=e;omega
      .exact L (by rw[hs.h.inj i' d _ _ p e6 O e7 h2 e8 h3];exact hd)
      .exact hs.h.la O h2 h3 e
    .refine⟨Nat.lt_succ_of_lt (hb.le j wr e).1,(hb.le j wr e).2.imp (λh p q=>Fz q2.le (h p q)) λ⟨z,H,e1,h⟩=>⟨z,H,?_,h.mono q2.s⟩⟩;grind
 .have J:ah P w' D.ob D.nx (a.h.outer h'):=q1.mu (λ_=>rfl) rfl;have E:=hs.step J q2.outer q3 q4;refine .inr ⟨m,w',D,h',t,row,y,q6,?_,Q.trans q2.outer,q5,q7⟩;exact⟨J,⟨λt v e=>by simp[Tr.get]at e⟩,(λ_ _ e=>by cases e),E.df,E.cm,E.rn,E.kd,E.co⟩
end
end Go.AI
end

section
namespace Go.AI
variable [Kn]
section
variable {P:Program}{w w':Wd}{st:ae}{a:aD}{ρ:Type}{A:dr}{R:dJ A.pn}{cx:Ctx}{kp:TypeId->List AV->ae->Option ρ}
theorem JX{ops:Array Oper}{o:Oper}{rest:List Oper}{i ao:Nat}{bk:cz}{c:Rec}(hw:cC ops o a.tm=some false){a':aD}(h:a.put cx.tn o.dst dS=some a'):e9 P c cx ops (o::rest) i ao bk a=e9 P c cx ops rest (i+1) (if bg o.op then ao+1 else ao) bk a':=by rw[e9];grind
theorem We{ops:Array Oper}{o:Oper}{rest:List Oper}{i ao:Nat}{bk:cz}{b:List Nat}{c:Rec}(hw:cC ops o a.tm=some false){a':aD}(h:a.put cx.tn o.dst dS=some a'):fa P c cx ops b (o::rest) i ao bk a=fa P c cx ops b rest (i+1) (if bg o.op then ao+1 else ao) bk a':=by rw[fa];grind
theorem zz{ops:Array Oper}{b:List Nat}{m:Nat}{k:List (Nat×Bool)->List (Nat×Nat)->Option ρ}{r:ρ}{w0:Wd}{eL:Tr aq}{h0:AHeap}{n1:Nat}{es:List (Nat×Bool×List Nat)}:∀{l:List Oper}{i ao:Nat}{fs:List (Nat×Bool)}{rf:List (Nat×Nat)}{w:Wd}{st:ae}{a:aD}{bk:cz},bN P cx w st a->(∀o,o∈l->iZ cx.tn o.dst)->
 a8 w0 eL h0 w st.ob a.h->h0.next<=ao->ao+fy l<=n1->j2 a.h ao n1->gV b w i bk es fs rf->iX P A R ops b m k l i fs rf st=some r->
 ∃w' n' kf bK E,(∀S,ir P S cx ops b m l i ao bk a=some kf)/\gV b w' n' kf es bK E/\k bK E=some r
 |[],i,ao,fs,rf,w,st,a,bk,hs,_,rh,_,_,_,hb,hr=>⟨w,i,bk,fs,rf,λ_=>rfl,hb,hr⟩
 |o::rest,i,ao,fs,rf,w,st,a,bk,hs,hd,rh,s9,Hz,I,hb,hr=>by
  have ri:=hd o (List.mem_cons_self ..)
  have U:∀o,o∈rest->iZ cx.tn o.dst:=λo e=>hd o (List.mem_cons_of_mem _ e)
  have J:(if bg o.op then ao+1 else ao)+fy rest<=n1:=by simp only[fy]at Hz;cases e:bg o.op with|true=>grind|false=>grind
  have V:bg o.op=true->ao<n1:=by grind
  have X:h0.next<=(if bg o.op then ao+1 else ao):=by grind
  have put:∀(c:ae)(v:SV)(x:AV),c.ob=st.ob->bN P cx w c a->RV P w v x->∃T,a.put cx.tn o.dst x=some T/\bN P cx w (dq c o.dst v) T/\a8 w0 eL h0 w (dq c o.dst v).ob T.h/\j2 T.h (if bg o.op then ao+1 else ao) n1:=by
   intro c v x N L hv
   obtain⟨T,p1,p2,p3⟩:=iv (n:=cx.tn) (v:=v) (x:=x) L hv ri
   have S9:(dq c o.dst v).ob=st.ob:=by rw[<-N];cases o.dst<;>rfl
   refine⟨T,p1,p2,by grind,?_⟩;rw[p3];refine⟨I.1,λp h1 h2=>I.2 p ?_ h2⟩;grind
  have run:∀(c:ae),c.ob=st.ob->bN P cx w c a->cC ops o a.tm=some true->(b.getD i 0).testBit m=false->(match bg o.op||cd o.op with
   |true=>ke P A R (λ_ _ _=>none) o c λst'=>(match cd o.op&&jt o.op,mT c o with|true,some j=>iX P A R ops b m k rest (i+1) fs ((i,j)::rf) st'|true,none=>iX P A R ops b m k rest (i+1) ((i,nQ c o)::fs) rf st'|false,_=>iX P A R ops b m k rest (i+1) fs rf st')
   |false=>none)=some r->∃w' n' kf bK E,(∀S,ir P S cx ops b m (o::rest) i ao bk a=some kf)/\gV b w' n' kf es bK E/\k bK E=some r:=by
   intro c N L hw z M
   split at M
   .rename_i F
    obtain⟨w1,wi,T,Uy,q1,q2,q3,q4,q5,q6⟩:=Pv (i:=i) (bk:=bk) (n1:=n1) (cx:=cx) F L ri (by rw[N];exact rh) s9 I V hb M hw
    have q7:iX P A R ops b m k rest (i+1) (lZ c o i fs) (lS c o i rf) wi=some r:=by unfold lZ lS;rw[<-q6];grind
    obtain⟨Y,Z,kf,Q,K,r1,r2,r3⟩:=zz q2 U q3 X J q4 q5 q7;refine⟨Y,Z,kf,Q,K,λS=>?_,r2,r3⟩;unfold ir;rw[z];simp only[F,if_true];rw[(q1 S).1];exact r1 S
   .cases M
  have skip:∀(c:ae),c.ob=st.ob->bN P cx w c a->cC ops o a.tm=some false->(b.getD i 0).testBit m=false->(bg o.op||cd o.op)=true->iX P A R ops b m k rest (i+1) fs rf (dq c o.dst (.bC []))=some r->∃w' n' kf bK E,(∀S,ir P S cx ops b m (o::rest) i ao bk a=some kf)/\gV b w' n' kf es bK E/\k bK E=some r:=by intro c N L hw z F M;obtain⟨T,p1,p2,p3,p4⟩:=put c (.bC []) dS N L (.bC .nil);obtain⟨Y,Z,kf,Q,K,r1,r2,r3⟩:=zz p2 U p3 X J p4 (hb.mono (.refl _) (λ_ _ h=>h) (Nat.le_succ _)) M;refine⟨Y,Z,kf,Q,K,λS=>?_,r2,r3⟩;unfold ir;rw[z];simp only[F,if_true];rw[JX hw p1];exact r1 S
  unfold iX at hr
  split at hr
  .rename_i z;obtain⟨T,p1,p2,p3,p4⟩:=put st .aM .aM rfl hs (.aM _);obtain⟨Y,Z,kf,Q,K,r1,r2,r3⟩:=zz p2 U p3 X J p4 (hb.mono (.refl _) (λ_ _ h=>h) (Nat.le_succ _)) hr;refine⟨Y,Z,kf,Q,K,λS=>?_,r2,r3⟩;unfold ir;grind
  .rename_i z
   split at hr
   .rename_i F
    unfold rX at hr
    split at hr
    .rename_i hg;exact run st rfl hs (by simp only[cC,hg]) z (by grind)
    .rename_i j want hg
     split at hr
     .rename_i d O
      split at hr
      .rename_i b D
       have D:=tW hs D
       split at hr
       .rcases jQ hr with⟨rfl,hr⟩|⟨rfl,hr⟩
        .exact run (known st d true) rfl (hT hs D) (by simp[cC,hg,O,D]) z (by grind)
        .exact skip (known st d false) rfl (hT hs D) (by simp[cC,hg,O,D]) z F hr
       .rcases jQ hr with⟨rfl,hr⟩|⟨rfl,hr⟩
        .exact skip (known st d true) rfl (hT hs D) (by simp[cC,hg,O,D]) z F hr
        .exact run (known st d false) rfl (hT hs D) (by simp[cC,hg,O,D]) z (by grind)
      .rename_i D;have D:=Dn hs D;exact skip st rfl hs (by simp only[cC,hg,O,D]) z F hr
      .cases hr
     .cases hr
   .cases hr
def FA(P:Program)(cx:Ctx)(ops:Array Oper)(b:List Nat)(w0:Wd)(eL:Tr aq)(h0:AHeap)(l:List Oper)(i ao:Nat)(bk:cz)(a:aD)(k:List (Nat×Bool×List Nat)->List (Nat×Bool)->List (Nat×Nat)->ae->Option ρ)(kp:TypeId->List AV->ae->Option ρ)(r:ρ):Prop:=(∃m w' st' a' z n' o bK c,e9 P (bE P m) cx ops l i ao bk a=some (z,a')/\bN P cx w' st' a'/\a8 w0 eL h0 w' st'.ob a'.h/\gV b w' n' z o bK c/\k o bK c st'=some r)\/(∃m w' st' a' t row y,fa P (bE P m) cx ops b l i ao bk a=some (.panic y,a')/\bN P cx w' st' a'/\a8 w0 eL h0 w' st'.ob a'.h/\kp t row st'=some r/\gY P t row y)
theorem ze(hR:fb P A R){ops:Array Oper}{b:List Nat}{k:List (Nat×Bool×List Nat)->List (Nat×Bool)->List (Nat×Nat)->ae->Option ρ}{r:ρ}{w0:Wd}{eL:Tr aq}{h0:AHeap}{n1:Nat}:∀{l:List Oper}{i ao:Nat}{es:List (Nat×Bool×List Nat)}{fs:List (Nat×Bool)}{rf:List (Nat×Nat)}{w:Wd}{st:ae}{a:aD}{bk:cz},bN P cx w st a->(∀o,o∈l->iZ cx.tn o.dst)->
 a8 w0 eL h0 w st.ob a.h->h0.next<=ao->ao+fy l<=n1->j2 a.h ao n1->gV b w i bk es fs rf->ja P A R kp ops b l i es fs rf st k=some r->FA P cx ops b w0 eL h0 l i ao bk a k kp r
 |[],i,ao,es,fs,rf,w,st,a,bk,hs,_,K,_,_,_,hb,hr=>.inl ⟨0,w,{st with al:=[]},a,bk,i,es,fs,rf,rfl,⟨hs.h,hs.tm,λ_ _ e=>(by cases e),hs.df,hs.cm,hs.rn,hs.kd,hs.co⟩,K,hb,hr⟩
 |o::rest,i,ao,es,fs,rf,w,st,a,bk,hs,hd,K,s9,Hz,F,hb,hr=>by
  have ri:=hd o (List.mem_cons_self ..)
  have CF:∀o,o∈rest->iZ cx.tn o.dst:=λo e=>hd o (List.mem_cons_of_mem _ e)
  have D:(if bg o.op then ao+1 else ao)+fy rest<=n1:=by simp only[fy]at Hz;cases e:bg o.op with|true=>grind|false=>grind
  have agI:bg o.op=true->ao<n1:=by grind
  have L:h0.next<=(if bg o.op then ao+1 else ao):=by grind
  have run:∀(c:ae),c.ob=st.ob->bN P cx w c a->cC ops o a.tm=some true->(match bg o.op||cd o.op with
   |true=>ke P A R (λ_ _ _=>none) o c λst'=>(match cd o.op&&jt o.op,mT c o with|true,some j=>ja P A R kp ops b rest (i+1) es fs ((i,j)::rf) st' k|true,none=>ja P A R kp ops b rest (i+1) es ((i,nQ c o)::fs) rf st' k|false,_=>ja P A R kp ops b rest (i+1) es fs rf st' k)
   |false=>match tv c.tm o.op.operands.toList with|true=>none|false=>sr (match hO A c o with|true=>[]|false=>qv c o) c (λst k kp=>h9 P A R kp o st k) (λv st'=>ja P A R kp ops b rest (i+1) (match hO A c o with|true=>es|false=>(i,pR c o,qv c o)::es) fs rf (dq st' o.dst v) k) (λt row st'=>iX P A R ops b i (λfs rf=>match vc b fs es rf with|true=>kp t row {st' with tm:=.leaf,al:=[]}|false=>none) rest (i+1) fs rf (dq c o.dst .aM)))=some r->FA P cx ops b w0 eL h0 (o::rest) i ao bk a k kp r:=by
   intro c S O hw J
   split at J
   .rename_i I
    obtain⟨w1,wi,a2,Uy,q1,q2,q3,q4,q5,q6⟩:=Pv (i:=i) (bk:=bk) (n1:=n1) (cx:=cx) I O ri (by rw[S];exact K) s9 F agI hb J hw
    have q7:ja P A R kp ops b rest (i+1) es (lZ c o i fs) (lS c o i rf) wi k=some r:=by unfold lZ lS;rw[<-q6];grind
    rcases ze hR q2 CF q3 L D q4 q5 q7 with⟨m,M,E,Y,X,n3,V,U,N,r1,r2,r3,r4,r5⟩|⟨m,M,E,Y,t,row,y,r1,r2⟩
    .exact .inl ⟨m,M,E,Y,X,n3,V,U,N,by rw[(q1 _).1];exact r1,r2,r3,r4,r5⟩
    .exact .inr ⟨m,M,E,Y,t,row,y,by rw[(q1 _).2];exact r1,r2⟩
   .rename_i I
    rw[Bool.or_eq_false_iff]at I
    split at J
    .cases J
    rcases acw (i:=i) (bk:=bk) (n1:=n1) (cx:=cx) hR I.1 I.2 O ri (by rw[S];exact K) F hb J hw with⟨m,w1,S1,v,a2,Uy,q1,q2,q3,q4,q5,q6⟩|⟨m,w1,S1,h1,t,row,y,q1,q2,q3,q4,q5⟩
    .rw[I.1]at D L
     rcases ze hR q2 CF q3 L D q4 q5 q6 with⟨m',M,E,Y,X,n3,V,U,N,r1,r2,r3,r4,r5⟩|⟨m',M,E,Y,t,row,y,r1,r2⟩
     .refine .inl ⟨max m m',M,E,Y,X,n3,V,U,N,?_,r2,r3,r4,r5⟩;rw[(q1 _ (Nat.le_max_left ..)).1];exact pL (iu P (Nat.le_max_right ..)) r1
     .refine .inr ⟨max m m',M,E,Y,t,row,y,?_,r2⟩;rw[(q1 _ (Nat.le_max_left ..)).2];exact(pM (iu P (Nat.le_max_right ..)) r1).1
    .obtain⟨a2,p1,p2,p3⟩:=iv (n:=cx.tn) (v:=.aM) (x:=.aM) O (.aM _) ri
     have Q:(dq c o.dst .aM).ob=st.ob:=by rw[<-S];cases o.dst<;>rfl
     rw[I.1]at D L
     obtain⟨M,n2,kf,fs2,rf2,r1,r2,r3⟩:=zz p2 CF (by rw[Q,p3];exact K) L D (by grind) (hb.mono (.refl _) (λ_ _ h=>h) (Nat.le_succ _)) q4
     split at r3
     .rename_i hc;refine .inr ⟨m,w1,_,_,t,row,y,?_,q2,q3,r3,q5⟩;rw[fa];simp only[hw,I.1,I.2,q1,p1];have r1:=r1 (bE P m);simp only[Bool.false_eq_true,if_false]at r1⊢;rw[r1];simp only[N0 r2 hc,if_true]
     .cases r3
  have skip:∀(c:ae),c.ob=st.ob->bN P cx w c a->cC ops o a.tm=some false->ja P A R kp ops b rest (i+1) es fs rf (dq c o.dst (.bC [])) k=some r->FA P cx ops b w0 eL h0 (o::rest) i ao bk a k kp r:=by
   intro c S O hw J
   obtain⟨a2,p1,p2,p3⟩:=iv (n:=cx.tn) (v:=.bC []) (x:=dS) O (.bC .nil) ri
   have Q:(dq c o.dst (.bC [])).ob=st.ob:=by rw[<-S];cases o.dst<;>rfl
   have Z:j2 a2.h (if bg o.op then ao+1 else ao) n1:=by rw[p3];refine⟨F.1,λp h1 h2=>F.2 p ?_ h2⟩;grind
   rcases ze hR p2 CF (by rw[Q,p3];exact K) L D Z (hb.mono (.refl _) (λ_ _ h=>h) (Nat.le_succ _)) J with⟨m',M,E,Y,X,n3,V,U,N,r1,r2,r3,r4,r5⟩|⟨m,M,E,Y,t,row,y,r1,r2⟩
   .exact .inl ⟨m',M,E,Y,X,n3,V,U,N,by rw[JX hw p1];exact r1,r2,r3,r4,r5⟩
   .exact .inr ⟨m,M,E,Y,t,row,y,by rw[We hw p1];exact r1,r2⟩
  unfold ja at hr
  unfold rX at hr
  split at hr
  .rename_i hg;exact run st rfl hs (by simp only[cC,hg]) hr
  .rename_i j want hg
   split at hr
   .rename_i d T
    split at hr
    .rename_i b z
     have z:=tW hs z
     split at hr
     .rcases jQ hr with⟨rfl,hr⟩|⟨rfl,hr⟩
      .exact run (known st d true) rfl (hT hs z) (by simp[cC,hg,T,z]) hr
      .exact skip (known st d false) rfl (hT hs z) (by simp[cC,hg,T,z]) hr
     .rcases jQ hr with⟨rfl,hr⟩|⟨rfl,hr⟩
      .exact skip (known st d true) rfl (hT hs z) (by simp[cC,hg,T,z]) hr
      .exact run (known st d false) rfl (hT hs z) (by simp[cC,hg,T,z]) hr
    .rename_i z;have z:=Dn hs z;exact skip st rfl hs (by simp only[cC,hg,T,z]) hr
    .cases hr
   .cases hr
theorem DR{h:AHeap}:∀(n o:Nat),(∀p,o<=p->h.get p=none)->sn h n o=true|0,_,_=>rfl|n+1,o,hn=>by simp only[sn,bB];exact⟨by grind,DR n (o+1) λp hp=>hn p (by omega)⟩
theorem aa8(D:fb P A R){I:Bool}{ops:Array Oper}{draw:Bool}{id:Nat}{k:ae->Option ρ}{r:ρ}(hs:bN P cx w st a)(hd:∀o,o∈ops.toList->iZ cx.tn o.dst)(hr:vA P A R I kp ops draw st k=some r):
 kN P cx w st a k kp r λm ex a'=>evalCode P (bE P m) cx (.region id ops draw) a=some (ex,a'):=by
 unfold vA at hr
 split at hr
 .rcases Ef (ops:=ops) D hs hd hr with⟨m,w',st',a',q1,q2,q3,q4⟩|⟨m,w',st',a',t,row,y,q1,q2,q3,q4,q5⟩
  .exact .inl ⟨m,w',st',a',by show evalCode P _ cx (.region id ops false) a=_;rw[evalCode];grind,q2,q3,q4⟩
  .exact .inr ⟨m,w',st',a',t,row,y,by show evalCode P _ cx (.region id ops false) a=_;rw[evalCode];grind,q2,q3,q4,q5⟩
 .have hb:ah P w st.ob st.nx {a.h with next:=a.h.next+fy ops.toList}:=⟨hs.h.g,hs.h.box,hs.h.arr,hs.h.bh,hs.h.inj,λi k o h1 h2=>Nat.lt_of_lt_of_le (hs.h.lt i k o h1 h2) (Nat.le_add_right ..),hs.h.nx,λo f=>⟨Nat.lt_of_lt_of_le (hs.h.bU o f).1 (Nat.le_add_right ..),(hs.h.bU o f).2⟩,λo ho=>hs.h.new o (by grind),hs.h.mp,hs.h.tr⟩
  have c:a8 w st.ob a.h w st.ob {a.h with next:=a.h.next+fy ops.toList}:=⟨.refl w,λ_ _ e=>e,Nat.le_add_right ..,rfl,λ_ _ _=>rfl,λ_ e=>.inr e,λ_ e=>.inl e,λ_ e=>.inl e,λe=>e,λ_ _ cs e=>⟨cs,e⟩⟩
  rcases ze (b:=fi ops.toList []) (a:={a with h:={a.h with next:=a.h.next+fy ops.toList}}) (bk:={es:=[],fs:=[]}) (n1:=a.h.next+fy ops.toList) (cx:=cx) D ⟨hb,hs.tm,hs.al,hs.df,hs.cm,hs.rn,hs.kd,⟨hs.co.1.1.imp (λe=>e) λe=>Nat.le_trans e (Nat.le_add_right ..),hs.co.1.2⟩,hs.co.2⟩ hd c (aC _) (aC _) ⟨aC _,λo h1 _=>hs.h.new o h1⟩ ⟨λ_ _ e=>(by cases e),λ_ _ e=>(by cases e),λ_ e=>(by cases e),λ_ _ e=>(by cases e)⟩ hr with⟨m,w',st',a',z,n',F,bK,E,q1,q2,q3,q4,q5⟩|⟨m,w',st',a',t,row,y,q1,q2,q3,q4,q5⟩
  case inr=>
   simp only at q4
   split at q4
   .rename_i hc;refine .inr ⟨m,w',st',a',t,row,y,?_,q2,q3,q4,q5⟩;show evalCode P _ cx (.region id ops true) a=_;rw[evalCode];simp only[if_true,nG];rw[hc,DR _ _ hs.h.new];simp only[Bool.and_self,if_true];have:=pM (iu P (aC m)) q1;grind
   .cases q4
  simp only at q5
  split at q5
  .rename_i hc;simp only[bB]at hc;refine .inl ⟨m,w',st',a',?_,q2,q3,q5⟩;show evalCode P _ cx (.region id ops true) a=_;rw[evalCode];simp only[if_true,nG];rw[hc.1,DR _ _ hs.h.new];simp only[Bool.and_self,if_true,q1];have:mz (fi ops.toList []) z=true:=N0 q4 hc.2;grind
  .cases q5
end
end Go.AI
end

section
namespace Go.AI
variable [Kn]
section
variable {P:Program}{w w':Wd}{h h':AHeap}{tm:Tr SV}{bY:Tr AV}{A:dr}{R:dJ A.pn}
inductive je(P:Program)(w:Wd)(bY:Tr AV):List (Tmp×Nat×TypeId)->List SV->Prop|nil:je P w bY [] []|aM{t:Tmp×Nat×TypeId}{ts:List (Tmp×Nat×TypeId)}{vs:List SV}:je P w bY ts vs->je P w bY (t::ts) (.aM::vs)|cons{t:Tmp}{m:Nat}{e:TypeId}{x:AV}{v:SV}{ts:List (Tmp×Nat×TypeId)}{vs:List SV}:bY.get t=some x->RV P w v x->je P w bY ts vs->je P w bY ((t,m,e)::ts) (v::vs)
theorem je.mono(hl:aX w w')(hs:∀i k,w.s i=some k->w'.s i=some k){ts:List (Tmp×Nat×TypeId)}{vs:List SV}(hc:je P w bY ts vs):je P w' bY ts vs:=by induction hc with|nil=>exact .nil|aM _ c=>exact .aM c|cons a b _ c=>exact .cons a (b.mono hl hs) c
theorem je.gK(L:List Nat){ts:List (Tmp×Nat×TypeId)}{vs:List SV}(hc:je P w bY ts vs):je P (w.sub L) bY ts (iV L vs):=by induction hc with|nil=>exact .nil|aM _ c=>exact .aM c|cons a b _ c=>exact .cons a (b.gK L) c
theorem je.aiv{ts:List (Tmp×Nat×TypeId)}{vs:List SV}(hc:je P w bY ts vs):eQ P w (rY ts vs) bY:=by induction hc with|nil=>exact⟨λt v e=>by cases e⟩|aM _ c=>exact c|@cons t m e x v ts vs a b _ c=>cases v with|aM=>exact c|_=>exact c.vZ a b
theorem aa9{st:ae}(hs:ah P w st.ob st.nx h){m:Nat}{e:TypeId}{v:SV}{x:AV}(hx:RV P w v x):∃w',jC P w h st (oA P m e v st).2 w'/\RV P w' (oA P m e v st).1 x:=by
 unfold oA
 split
 .cases hx;exact Dj hs _
 .cases hx;exact⟨w,.refl hs,.dl (.nil _)⟩
 .obtain⟨F,q1,q2,c⟩:=lx hs [SV.own _];exact⟨_,q1,oo q2 c (by simp) hx⟩
 .obtain⟨F,q1,q2,c⟩:=lx hs [SV.om _];exact⟨_,q1,oo q2 c (by simp) hx⟩
 .cases hx;exact⟨w,.refl hs,.ls .nil⟩
 .exact⟨w,.refl hs,hx⟩
theorem Yn{st:ae}{m:Nat}{e:TypeId}:oA P m e .aM st=(.aM,st):=by unfold oA;grind
theorem DS:∀(ts:List (Tmp×Nat×TypeId)){st:ae}{w:Wd},ah P w st.ob st.nx h->eQ P w tm bY->∃w',jC P w h st (ot P tm ts st).2 w'/\je P w' bY ts (ot P tm ts st).1
 |[],st,w,hs,_=>⟨w,.refl hs,.nil⟩
 |(t,m,e)::ts,st,w,hs,ht=>by
  simp only[ot]
  cases hg:tm.get t with
  |none=>
   have he:bH tm (.tmp t)=.aM:=by simp only[bH,hg]
   rw[he,Yn];obtain⟨w1,q1,q2⟩:=DS ts hs ht;exact⟨w1,q1,.aM q2⟩
  |some v=>
   have he:bH tm (.tmp t)=v:=by simp only[bH,hg]
   rw[he];obtain⟨x,o,c⟩:=ht.tm t v hg;obtain⟨w1,q1,q2⟩:=aa9 (m:=m) (e:=e) hs c;obtain⟨z,r1,r2⟩:=DS ts q1.1 (ht.mono q1.2.1.le q1.2.1.s);exact⟨z,q1.trans r1,.cons o (q2.mono r1.2.1.le r1.2.1.s) r2⟩
inductive Fr where|code(c:Code)|blk(id:Nat)
def CG(P:Program)(cx:Ctx)(c:Code)(a:aD)(ex:b7)(a':aD):Prop:=∃m,evalCode P (bE P m) cx c a=some (ex,a')
def dP(P:Program)(cx:Ctx):List Fr->b7->aD->b7->aD->Prop|[],ex,a,cP,aF=>cP=ex/\aF=a|.code c::fs,.normal,a,cP,aF=>∃z D,CG P cx c a z D/\dP P cx fs z D cP aF|.code _::fs,ex,a,cP,aF=>dP P cx fs ex a cP aF|.blk id::fs,.exit o,a,cP,aF=>if o=id then dP P cx fs .normal a cP aF else dP P cx fs (.exit o) a cP aF|.blk _::fs,ex,a,cP,aF=>dP P cx fs ex a cP aF
def ew(P:Program)(cx:Ctx)(c:Code)(fs:List Fr)(a:aD)(cP:b7)(aF:aD):Prop:=∃o z,CG P cx c a o z/\dP P cx fs o z cP aF
inductive Site(key:Nat):Code->List Fr->Code->List Fr->Prop|lY{a b c':Code}{fs bK:List Fr}:Site key a (.code b::fs) c' bK->Site key (.seq a b) fs c' bK|j8{a b c':Code}{fs bK:List Fr}:Site key b fs c' bK->Site key (.seq a b) fs c' bK|lQ{c:Operand}{a b c':Code}{fs bK:List Fr}:Site key a fs c' bK->Site key (.cond c a b) fs c' bK|lR{c:Operand}{a b c':Code}{fs bK:List Fr}:Site key b fs c' bK->Site key (.cond c a b) fs c' bK|blk{id:Nat}{b c':Code}{fs bK:List Fr}:Site key b (.blk id::fs) c' bK->Site key (.block id b) fs c' bK|here{id:Nat}{b:Code}{fs:List Fr}:key=2*id->Site key (.block id (.loop b)) fs (.loop b) (.blk id::fs)|behind{id:Nat}{b:Code}{fs:List Fr}:key=2*id+1->Site key (.block id b) fs .skip fs|loop{b c':Code}{fs bK:List Fr}:Site key b (.code (.loop b)::fs) c' bK->Site key (.loop b) fs c' bK|scope{b c':Code}{fs bK:List Fr}:Site key b fs c' bK->Site key (.scope b) fs c' bK|region{id:Nat}{ops:Array Oper}{draw:Bool}{fs:List Fr}:key=1000000+id->Site key (.region id ops draw) fs (.region id ops draw) fs
theorem Site.kq{key:Nat}{c c':Code}{fs bK:List Fr}(hs:Site key c fs c' bK):0<cU key c:=by
 induction hs with
 |lY _ o=>simp only[cU];omega
 |j8 _ o=>simp only[cU];omega
 |lQ _ o=>simp only[cU];omega
 |lR _ o=>simp only[cU];omega
 |blk _ o=>simp only[cU];omega
 |@here id b fs e=>
  have:Nat.beq (key/2) id=true:=by simp_all
  simp only[cU,this];omega
 |@behind id b fs e=>
  have:Nat.beq (key/2) id=true:=by
   have:key/2=id:=by omega
   rw[this];simp
  simp only[cU,this];omega
 |loop _ o=>simpa only[cU]using o
 |scope _ o=>simpa only[cU]using o
 |@region id ops draw fs e=>
  have:Nat.beq key (1000000+id)=true:=by simp_all
  simp only[cU,this];omega
theorem kv(key:Nat):∀(c:Code),eG key c=true↔0<cU key c|.seq a b=>by simp only[eG,cU,Bool.or_eq_true,kv key a,kv key b];omega|.cond _ a b=>by simp only[eG,cU,Bool.or_eq_true,kv key a,kv key b];omega|.block id b=>by simp only[eG,cU,Bool.or_eq_true,kv key b];grind|.loop b=>by simp only[eG,cU,kv key b]|.scope b=>by simp only[eG,cU,kv key b]|.region id _ _=>by simp only[eG,cU];grind|.skip=>by simp[eG,cU]|.label _=>by simp[eG,cU]|.exit _=>by simp[eG,cU]|.goto _=>by simp[eG,cU]|.ret=>by simp[eG,cU]|.refuse _=>by simp[eG,cU]|.rangeFunc ..=>by simp[eG,cU]
def Ends(P:Program)(nb:Nat)(w:Wd)(ob:Tr aq)(h:AHeap)(Q:b7->aD->Wd->Tr aq->Nat->Prop)(run:b7->aD->Prop):Prop:=∃cP aF w' ob' nx',run cP aF/\ah P w' ob' nx' aF.h/\fP nb w ob h w' ob' aF.h/\Q cP aF w' ob' nx'
theorem Ends.imp{nb:Nat}{ob:Tr aq}{Q:b7->aD->Wd->Tr aq->Nat->Prop}{run c:b7->aD->Prop}(he:Ends P nb w ob h Q run)(hi:∀ex a,run ex a->c ex a):Ends P nb w ob h Q c:=by obtain⟨cP,aF,w',ob',nx',q1,q2⟩:=he;exact⟨cP,aF,w',ob',nx',hi _ _ q1,q2⟩
theorem Ends.ax{nb:Nat}{ob c:Tr aq}{Q:b7->aD->Wd->Tr aq->Nat->Prop}{run:b7->aD->Prop}(hf:a8 w ob h w' c h')(he:Ends P nb w' c h' Q run):Ends P nb w ob h Q run:=by obtain⟨cP,aF,w1,ob',nx',q1,q2,q3,q4⟩:=he;exact⟨cP,aF,w1,ob',nx',q1,q2,fP.trans hf q3,q4⟩
def Bg(P:Program)(R:Rec)(fn:Func):b7->aD->Option (di×AHeap)|.normal,a=>cH P R fn a.tm a.df .ret a.h|.ret,a=>cH P R fn a.tm a.df .ret a.h|.panic v,a=>cH P R fn a.tm a.df (.aN v false) a.h|.exit _,_=>none
def QC(P:Program)(fn:Func)(shs psh:List Sh)(nb:Nat)(p:Bool)(r:AT p (bF shs) (bF psh))(ex:b7)(a:aD)(w:Wd)(ob:Tr aq)(_:Nat):Prop:=a.cm=.none/\∃m out h2,Bg P (bE P m) fn ex a=some (out,h2)/\iH p r (λr=>∃y,out=.ret y/\eK P w ob nb a.h fn.resultTypes.toList shs r y h2) (λt row b=>∃y,out=.aN y/\gY P t row y/\eK P w ob nb a.h [] psh b dS h2)
def N1(P:Program)(A:dr)(R:dJ A.pn):Prop:=∀f key shs psh nb qT aA df r,R.jump f key shs psh nb qT aA df=some r->∃fn code ts,P.funcs[f]?=some fn/\fn.body=some code/\A.cut f key=some ts/\∀c fs,Site key code [] c fs->∀(w:Wd)(a:aD)(cx:Ctx),ah P w (bP aA 0 .leaf) aA.length a.h->eQ P w (rY ts qT) a.tm->gd P w df a.df->a.cm=.none->cx.round=none->a.h.floor<=a.h.next->sU a.df->(∀d,ey.dD d∈a.df->a.h.floor<=d/\a.h.get d=some (.cE (some [])))->cx.fn=f->fn.ntmps<=cx.tn->Ends P nb w (bP aA 0 .leaf) a.h (QC P fn shs psh nb (A.pn f) r) (ew P cx c fs a)
theorem Dp:∀{xs ys:List Nat},AA xs ys=true->∀(p:Nat)(x:Nat),xs[p]?=some x->ys[p]?=some x|[],_,_,p,x,e=>by simp at e|_::_,[],h,_,_,_=>by cases h|x::xs,y::ys,h,p,z,e=>by simp only[AA,bB]at h;have:=Nat.eq_of_beq_eq_true h.1;subst this;cases p with|zero=>exact e|succ p=>simpa using Dp h.2 p z (by grind)
theorem aba{ob:Tr aq}{L:List Nat}{i j:Nat}{t:TypeId}{cs:List SV}(hL:L[j]?=some i)(e:ob.get i=some (.box t cs)):(bP (cq ob L L) 0 .leaf).get j=some (.box t (iV L cs)):=by rw[pV,rz,hL];simp only[Option.map_some,j9,e]
theorem gd.gK(L:List Nat):∀{l:List (FuncId×List SV)}{ds:List ey},gd P w l ds->gd P (w.sub L) (FN L l) ds:=by intro l ds h;induction h with|nil=>exact .nil|cons a _ c=>exact .cons (a.gK L) c|dD _ c=>exact .dD c
theorem Mu(hJ:N1 P A R){cx:Ctx}{st:ae}{a:aD}(hs:bN P cx w st a){f key nb:Nat}{shs psh:List Sh}{r:AT (A.pn f) (bF shs) (bF psh)}(hr:sq P A R f shs psh nb key st=some r){fn:Func}{code:Code}(hfn:P.funcs[f]?=some fn)(hb:fn.body=some code)
 {c:Code}{fs:List Fr}(E:Site key code [] c fs)(gE:fn.ntmps<=cx.tn)(N:cx.fn=f):Ends P nb w st.ob a.h (QC P fn shs psh nb (A.pn f) r) (ew P cx c fs a):=by
 unfold sq at hr
 split at hr
 case h_2=>cases hr
 rename_i ts I K
 have M:a.cm=.none:=by have:=hs.cm;rw[I]at this;cases hc:a.cm<;>rw[hc]at this<;>first|rfl|exact this.elim
 simp only at hr
 split at hr
 .cases hr
 rename_i bu aA L T hc
 split at hr
 case h_2=>cases hr
 rename_i D
 obtain⟨Y,O,S,e1,e2,e3,hj⟩:=hJ _ _ _ _ _ _ _ _ _ hr
 rw[hfn]at e1;cases e1
 rw[hb]at e2;cases e2
 rw[K]at e3;cases e3
 obtain⟨w1,q1,q2⟩:=DS ts hs.h hs.tm
 unfold lF at hc
 simp only at hc
 split at hc
 case h_2=>cases hc
 rename_i hok
 simp only[bB]at hok
 simp only[ad,av]at hc
 obtain⟨rfl,rfl,rfl,rfl⟩:=hc
 obtain⟨Q,r1,r2,r3,r4⟩:=tj (bx:=A.bx f) (qf (ot P st.tm ts st).2.ob 200 (upto nb++FM st.df++dV (ot P st.tm ts st).1) []) q1.1
 have J:=r1.sub hok.1 hok.2
 have X:=hj c fs E (Q.sub _) a cx (by rw[yL];exact J) ((q2.mono r2.le r2.s).gK _).aiv (((hs.df.mono q1.2.1.le q1.2.1.s).mono r2.le r2.s).gK _) M (hs.wM (by rw[I];simp)) (hs.co.1.1.resolve_left (by rw[I];simp)) hs.co.1.2 hs.co.2 N gE
 refine Ends.ax (q1.2.1.trans r2) ?_
 obtain⟨cP,aF,w',ob',nx',p1,V,z,U⟩:=X
 refine⟨cP,aF,w',ob',nx',p1,V,?_,U⟩
 refine⟨(aX.sub Q _).trans z.le,λi k hi e=>z.s i k hi ?_,z.next,z.floor,λo h1 h2 h3=>z.ck o h1 (λe=>h2 e.kJ) h3,λo e=>(z.own o e).imp (λe=>e) Ow.kJ,λo e=>?_,λo e=>?_,z.ea,λi t cs hi e=>?_⟩
 .have:=Dp D i i (zd hi);simp only[Wd.sub,this,Option.bind_some];exact e
 .rcases z.F o e with e|e|e
  .exact .inl e
  .exact .inr (.inl e)
  .exact .inr (.inr e.kJ)
 .rcases z.wr o e with e|e|e|e
  .exact .inl e
  .exact .inr (.inl e)
  .exact .inr (.inr (.inl e.kJ))
  .exact .inr (.inr (.inr e))
 .have hL:=Dp D i i (zd hi);exact z.bx i t _ hi (aba hL e)
end
end Go.AI
end

section
namespace Go.AI
variable [Kn]
section
variable {P:Program}{w w':Wd}{ob ob':Tr aq}{nx:Nat}{h h':AHeap}{ρ:Type}{l:Nat}
theorem ff{y:cr}{o:Nat}(e:o≠l):(h.aU l y).get o=h.get o:=by simp only[AHeap.get,AHeap.aU,Tr.aL _ _ e]
theorem pI{y:cr}:(h.aU l y).get l=some y:=by simp only[AHeap.get,AHeap.aU,Tr.a7]
theorem Eg(hs:ah P w ob nx h){x y:cr}(hx:h.get l=some x)(D:nc x=true):gH w (w.heap (h.aU l y).get):=⟨λ_ f=>f,λo f v mv c fz el ex sh e=>⟨v,[],fz,el,ex,sh,by
 have z:o≠l:=by rintro rfl;rw[hs.g,hx]at e;cases e;cases D
 show(h.aU l y).get o=_
 rw[ff z,List.append_nil,<-hs.g];exact e,aC _⟩,λo f es cl e=>by
 have z:o≠l:=by rintro rfl;rw[hs.g,hx]at e;cases e;cases D
 show(h.aU l y).get o=_;rw[ff z,<-hs.g];exact e⟩
theorem ah.FB(hs:ah P w ob nx h){x y:cr}(hx:h.get l=some x)(D:nc x=true):ah P (w.heap (h.aU l y).get) ob nx (h.aU l y):=by
 have hc:=Eg (y:=y) hs hx D
 have z:∀{o:Nat}{v mv fz:Nat}{c:List AV}{el:TypeId}{ex sh:Bool},h.get o=some (.cells v mv c fz el ex sh)->(h.aU l y).get o=some (.cells v mv c fz el ex sh):=λe=>by
  rw[ff]
  .exact e
  .rintro rfl;rw[hx]at e;cases e;cases D
 have L:∀{o cl:Nat}{es:List (AV×AV×Nat)},h.get o=some (.map es cl)->(h.aU l y).get o=some (.map es cl):=λe=>by
  rw[ff]
  .exact e
  .rintro rfl;rw[hx]at e;cases e;cases D
 refine⟨λ_=>rfl,?_,?_,?_,hs.inj,hs.lt,hs.nx,?_,?_,λi t rows E e=>?_,λi t rows E e=>?_⟩
 .intro i t cs e;obtain⟨o,c,sh,T,S,R,O,Q⟩:=hs.box i t cs e;exact⟨o,c,sh,T,z S,au.kL hc (λ_ _ e=>e) (za O) R,O,Q⟩
 .intro i t rows E e
  obtain⟨J,N,M,I⟩:=hs.arr i t rows E e
  refine⟨J,N,M,?_⟩
  rcases I with q|⟨o,ver,mv,c,ex,sh,cap,q1,q2,q3,q4,q5,q6,q7,q8⟩
  .exact .inl q
  .exact .inr ⟨o,ver,mv,c,ex,sh,cap,q1,q2,z q3,q4,q5,q6.bX hc,q7,q8⟩
 .intro i s el e
  obtain⟨J,I⟩:=hs.bh i s el e
  refine⟨J,?_⟩
  rcases I with q|⟨o,ver,mv,ex,fz,cap,q0,q1,q2,q3,q4,q5,q7⟩
  .exact .inl q
  .exact .inr ⟨o,ver,mv,ex,fz,cap,q0,q1,q2,z q3,q4,q5,q7⟩
 .intro o f
  refine⟨(hs.bU o f).1,?_⟩
  by_cases e:o=l
  .subst e;rw[pI];simp
  .rw[ff e];exact(hs.bU o f).2
 .intro o ho
  have F:h.next<=o:=ho
  have:o≠l:=by rintro rfl;rw[hs.new o F]at hx;cases hx
  rw[ff this];exact hs.new o F
 .obtain⟨e1,o,es,cl,q1,q2,q3,q4,q5⟩:=hs.mp i t rows E e;exact⟨e1,o,es,cl,q1,q2,L q3,q4.bX hc,q5⟩
 .obtain⟨J,N,M,I⟩:=hs.tr i t rows E e
  refine⟨J,N,M,?_⟩
  rcases I with q|⟨o,ver,mv,c,ex,sh,n,q1,q3,q4,q5,K,q6,q8⟩
  .exact .inl q
  .exact .inr ⟨o,ver,mv,c,ex,sh,n,q1,z q3,q4,q5,K,q6.bX hc,q8⟩
structure jf(l nb:Nat)(w:Wd)(ob:Tr aq)(h:AHeap)(w':Wd)(ob':Tr aq)(h':AHeap):Prop where
 c:gH w w'
 lp:∀o x,o≠l->w.g o=some x->nc x=true->w'.g o=some x
 n:∀o,o≠l->w.g o≠none->w'.g o≠none/\(Lp w'.g o->Lp w.g o)
 s:∀i k,i<nb->w.s i=some k->w'.s i=some k
 next:h.next<=h'.next
 floor:h'.floor=h.floor
 ck:∀o,o<h.next->¬Ow w ob o->o≠l->h'.get o=h.get o
 own:∀o,Ow w' ob' o->h.next<=o\/Ow w ob o
 F:∀o,w'.F o->w.F o\/h.next<=o\/Ow w ob o
 wr:∀o,o∈h'.wr->o∈h.wr\/h.next<=o\/Ow w ob o\/Lp h.get o\/o=l
 ea:(∀o,o∈h.wr->o<h.floor)->∀o,o∈h'.wr->o<h'.floor
 bx:∀i t cs,i<nb->ob.get i=some (.box t cs)->∃aS,ob'.get i=some (.box t aS)
theorem jf.of{nb:Nat}(a:fP nb w ob h w' ob' h'):jf l nb w ob h w' ob' h':=⟨a.le.c,λo x _ e i=>a.le.l o x e i,λo _ e=>a.le.n o e,a.s,a.next,a.floor,λo h1 h2 _=>a.ck o h1 h2 id,a.own,a.F,λo e=>(a.wr o e).imp id (.imp id (.imp id λe=>e.elim .inl False.elim)),a.ea,a.bx⟩
theorem jf.aU{nb:Nat}(hs:ah P w ob nx h){x y:cr}(hx:h.get l=some x)(z:nc x=true):jf l nb w ob h (w.heap (h.aU l y).get) ob (h.aU l y)where
 c:=Eg hs hx z
 lp:=λo x e1 e _=>by show(h.aU l y).get o=_;rw[ff e1,<-hs.g];exact e
 n:=λo e1 e=>by show(h.aU l y).get o≠none/\(Lp (h.aU l y).get o->Lp w.g o);unfold Lp;rw[ff e1,<-hs.g];grind
 s:=λ_ _ _ e=>e
 next:=aC _
 floor:=rfl
 ck:=λo _ _ e=>ff e
 own:=λo e=>.inr e
 F:=λo e=>.inl e
 wr:=λo e=>by
  rcases nD e with e|e
  .exact .inl e
  grind
 ea:=λe=>nM e
 bx:=λi t cs _ e=>⟨cs,e⟩
theorem jf.trans{nb:Nat}{D:Wd}{z:Tr aq}{E:AHeap}(a:jf l nb w ob h w' ob' h')(b:jf l nb w' ob' h' D z E):jf l nb w ob h D z E where
 c:=⟨λo f=>b.c.F o (a.c.F o f),λo f v mv c fz el ex sh e=>by obtain⟨v1,d1,R,e1,L,O,q1,q2⟩:=a.c.g o f v mv c fz el ex sh e;obtain⟨M,S,Q,e2,K,N,q3,q4⟩:=b.c.g o (a.c.F o f) _ _ _ _ _ _ _ q1;grind,λo f es cl e=>b.c.m o (a.c.F o f) es cl (a.c.m o f es cl e)⟩
 lp:=λo x e1 e i=>b.lp o x e1 (a.lp o x e1 e i) i
 n:=λo e1 e=>⟨(b.n o e1 (a.n o e1 e).1).1,λq=>(a.n o e1 e).2 ((b.n o e1 (a.n o e1 e).1).2 q)⟩
 s:=λi k hi e=>b.s i k hi (a.s i k hi e)
 next:=Nat.le_trans a.next b.next
 floor:=b.floor.trans a.floor
 ck:=λo h1 h2 hx=>by rw[b.ck o (Nat.lt_of_lt_of_le h1 a.next) (λh3=>(a.own o h3).elim (λh4=>absurd h1 (by omega)) h2) hx];exact a.ck o h1 h2 hx
 own:=λo e=>by
  rcases b.own o e with h1|h1
  .exact .inl (Nat.le_trans a.next h1)
  .exact a.own o h1
 F:=λo e=>by
  rcases b.F o e with h1|h1|h1
  .exact a.F o h1
  .exact .inr (.inl (Nat.le_trans a.next h1))
  .exact .inr (a.own o h1)
 wr:=λo e=>by
  rcases Nat.lt_or_ge o h.next with q|q
  .by_cases h2:Ow w ob o
   .grind
   .by_cases h3:o=l
    .grind
    .rcases b.wr o e with h1|h1|h1|h1|h1
     .exact a.wr o h1
     .exact absurd (Nat.le_trans a.next h1) (by omega)
     .exact .inr ((a.own o h1).imp id .inl)
     .obtain⟨x,e3,I⟩:=h1;exact .inr (.inr (.inr (.inl ⟨x,by rw[<-a.ck o q h2 h3];exact e3,I⟩)))
     grind
  grind
 ea:=λe=>b.ea (a.ea e);bx:=λi t cs hi e=>let⟨J,e1⟩:=a.bx i t cs hi e;b.bx i t J hi e1
theorem jf.full{nb:Nat}(a:jf l nb w ob h w' ob' h')(hg:w.g=h.get)(D:w'.g=h'.get){x:cr}(hx:h.get l=some x)(z:nc x=true)(E:h'.get l=some x):fP nb w ob h w' ob' h' where
 le:=⟨a.c.F,λo y e i=>by
  by_cases e1:o=l
  .simp_all
  .exact a.lp o y e1 e i,λo e=>by
  by_cases e1:o=l
  .subst e1;rw[D,hg];exact⟨by grind,λ_=>⟨x,hx,z⟩⟩
  .exact a.n o e1 e,a.c.g,a.c.m⟩
 s:=a.s
 next:=a.next
 floor:=a.floor
 ck:=λo h1 h2 _=>by
  by_cases e1:o=l
  .grind
  .exact a.ck o h1 h2 e1
 own:=a.own
 F:=a.F
 wr:=λo e=>by
  rcases a.wr o e with e|e|e|e|e
  .exact .inl e
  .grind
  .grind
  .grind
  .subst e;exact .inr (.inr (.inr (.inl ⟨x,hx,z⟩)))
 ea:=a.ea
 bx:=a.bx
theorem Yo{v:SV}{tm:Tr AV}{t:Tmp}(hv:PG v=true)(hr:RV P w v (ev tm (.tmp t))):∃x,tm.get t=some x/\RV P w v x:=by simp only[ev]at hr;cases hg:tm.get t with|some x=>grind|none=>rw[hg]at hr;exfalso;cases hr with|aM=>cases hv|fY=>cases hv|aR=>cases hv|dl h=>cases h|dj h=>cases h|md h=>cases h|ls h=>cases h
theorem zf{tm:Tr AV}:∀{ts:List Tmp}{vs:List SV}{ys:List AV}{tr:Tr SV},au P w vs (ts.map (λt=>ev tm (.tmp t))++ys)->eQ P w tr tm->eQ P w (mI ts vs tr) tm
 |[],vs,ys,tr,_,ht=>by unfold mI;exact ht
 |t::ts,[],ys,tr,h,_=>by cases h
 |t::ts,v::vs,ys,tr,.cons a b,ht=>by
  unfold mI
  split
  .rename_i hv;obtain⟨x,h1,h2⟩:=Yo hv a;exact zf b (ht.vZ h1 h2)
  .exact zf b ht
theorem Mv{n tn:Nat}(hn:n<=tn):∀{ps:List Tmp}{vs:List SV}{ys:List AV}{tr re:Tr SV}{tm:Tr AV},ve n ps vs tr=some re->au P w vs ys->eQ P w tr tm->∃bY,ly tn ps ys tm=some bY/\eQ P w re bY
 |[],[],_,tr,re,tm,hr,.nil,ht=>by simp only[ve,ad]at hr;subst hr;exact⟨tm,rfl,ht⟩
 |[],_::_,_,_,_,_,hr,_,_=>by cases hr
 |_::_,[],_,_,_,_,hr,_,_=>by cases hr
 |p::ps,v::vs,_,tr,re,tm,hr,.cons a b,ht=>by
  simp only[ve]at hr
  split at hr
  .rename_i hp
   have hp:p<n:=by simp_all
   obtain⟨bY,h1,h2⟩:=Mv hn hr b (ht.put a);exact⟨bY,by simp only[ly];grind,h2⟩
  .cases hr
theorem ah.aiw(hs:ah P w ob nx h)(hg:∀o,o<h.next->h'.get o=h.get o)(hn:h.next<=h'.next)(D:∀o,h'.next<=o->h'.get o=none)(hf:h'.floor=h.floor)(hw:h'.wr=h.wr):
 ah P (w.heap h'.get) ob nx h'/\a8 w ob h (w.heap h'.get) ob h':=by
 have hlt:∀{o:Nat}{x:cr},h.get o=some x->o<h.next:=λ{o x}e=>by
  rcases Nat.lt_or_ge o h.next with q|q
  .exact q
  .rw[hs.new o q]at e;cases e
 have E:aX w (w.heap h'.get):=⟨λ_ f=>f,λo x e _=>by rw[hs.g]at e;show h'.get o=_;grind,λo e=>by rw[hs.g]at e;obtain⟨x,hx⟩:=Option.ne_none_iff_exists'.1 e;show h'.get o≠none/\(Lp h'.get o->Lp w.g o);unfold Lp;rw[hg o (hlt hx),hs.g];grind,λo f v mv c fz el ex sh e=>⟨v,[],fz,el,ex,sh,by rw[hs.g]at e;show h'.get o=_;grind,aC _⟩,λo f es cl e=>by rw[hs.g]at e;show h'.get o=_;grind⟩
 have z:∀j y,ob.get j=some y->dp P (w.heap h'.get) h' j y:=by intro j y e;cases y with|gone=>trivial|_=>exact(hs.gJ e).move E (λ_ _ e=>e) λk o h1 h2=>⟨hg o (hs.lt j k o h1 h2),λf=>f⟩
 refine⟨⟨λ_=>rfl,λi t cs e=>z i _ e,λi t rows l e=>z i _ e,λi s l e=>z i _ e,hs.inj,λi k o h1 h2=>Nat.lt_of_lt_of_le (hs.lt i k o h1 h2) hn,hs.nx,λo f=>⟨Nat.lt_of_lt_of_le (hs.bU o f).1 hn,by rw[hg o (hs.bU o f).1];exact(hs.bU o f).2⟩,D,λi t rows l e=>z i _ e,λi t rows l e=>z i _ e⟩,⟨E,λ_ _ e=>e,hn,hf,λo h1 _=>hg o h1,λo e=>.inr e,λo e=>.inl e,λo e=>by grind,λe=>by grind,λi t cs e=>⟨cs,e⟩⟩⟩
end
end Go.AI
end

section
namespace Go.AI
variable [Kn]
def lv(P:Program):ig->b7->Prop|.normal,.normal=>True|.ret,.ret=>True|.exit i,.exit j=>i=j|.aN t row,.panic y=>gY P t row y|_,_=>False
theorem lv.normal{P:Program}{x:b7}(h:lv P .normal x):x=.normal:=by cases x<;>first|rfl|exact h.elim
theorem lv.ret{P:Program}{x:b7}(h:lv P .ret x):x=.ret:=by cases x<;>first|rfl|exact h.elim
theorem lv.exit{P:Program}{i:Nat}{x:b7}(h:lv P (.exit i) x):x=.exit i:=by cases x with|exit j=>have:i=j:=h;rw[this]|_=>exact h.elim
theorem lv.aN{P:Program}{t:TypeId}{row:List AV}{x:b7}(h:lv P (.aN t row) x):∃y,x=.panic y/\gY P t row y:=by cases x with|panic y=>exact⟨y,rfl,h⟩|_=>exact h.elim
theorem lv.ne{P:Program}{e:ig}{x:b7}(h:lv P e x)(hn:e≠.normal):x≠.normal:=by rintro rfl;cases e<;>first|exact hn rfl|exact h.elim
section
variable {P:Program}{cx:Ctx}{fs:List Fr}{a aF:aD}{cP:b7}
theorem CG.le{c:Code}{ex:b7}{a':aD}(h:CG P cx c a ex a'):∃o,∀m,o<=m->evalCode P (bE P m) cx c a=some (ex,a'):=by obtain⟨m,e⟩:=h;exact⟨m,λz hm=>iL (iu P hm) e⟩
theorem ew.seq{c b:Code}(h:ew P cx c (.code b::fs) a cP aF):ew P cx (.seq c b) fs a cP aF:=by obtain⟨o,E,h1,h2⟩:=h;obtain⟨z,h1⟩:=h1.le;have other:o≠.normal->dP P cx fs o E cP aF->ew P cx (.seq c b) fs a cP aF:=λhn hf=>⟨o,E,⟨z,by rw[evalCode,h1 z (aC _)];grind⟩,hf⟩;cases o with|normal=>obtain⟨D,I,h3,h4⟩:=h2;obtain⟨F,h3⟩:=h3.le;refine⟨D,I,⟨max z F,?_⟩,h4⟩;rw[evalCode,h1 _ (Nat.le_max_left ..)];grind|exit id=>exact other (by simp) h2|ret=>exact other (by simp) h2|panic v=>exact other (by simp) h2
theorem ew.loop{b:Code}(h:ew P cx b (.code (.loop b)::fs) a cP aF):ew P cx (.loop b) fs a cP aF:=by obtain⟨c,E,h1,h2⟩:=h;obtain⟨o,h1⟩:=h1.le;have other:c≠.normal->dP P cx fs c E cP aF->ew P cx (.loop b) fs a cP aF:=λhn hf=>⟨c,E,⟨o+1,by rw[evalCode];show mg P (bE P o) b cx a=_;unfold mg;grind⟩,hf⟩;cases c with|normal=>obtain⟨D,F,h3,h4⟩:=h2;obtain⟨z,h3⟩:=h3.le;refine⟨D,F,⟨max o z+1,?_⟩,h4⟩;rw[evalCode];show mg P (bE P (max o z)) b cx a=_;unfold mg;rw[h1 _ (Nat.le_max_left ..)];have:=h3 _ (Nat.le_max_right o z);rw[evalCode]at this;exact this|exit id=>exact other (by simp) h2|ret=>exact other (by simp) h2|panic v=>exact other (by simp) h2
theorem ew.block{id:Nat}{b:Code}(h:ew P cx b (.blk id::fs) a cP aF):ew P cx (.block id b) fs a cP aF:=by
 obtain⟨D,o,⟨c,h1⟩,h2⟩:=h
 cases D with
 |exit z=>
  simp only[dP]at h2
  split at h2
  .rename_i e;exact⟨.normal,o,⟨c,by rw[evalCode,h1];grind⟩,h2⟩
  .rename_i e;exact⟨.exit z,o,⟨c,by rw[evalCode,h1];grind⟩,h2⟩|normal=>exact⟨_,o,⟨c,by rw[evalCode,h1]⟩,h2⟩|ret=>exact⟨_,o,⟨c,by rw[evalCode,h1]⟩,h2⟩|panic v=>exact⟨_,o,⟨c,by rw[evalCode,h1]⟩,h2⟩
theorem ew.scope{b:Code}(h:ew P cx b fs a cP aF):ew P cx (.scope b) fs a cP aF:=by obtain⟨c,z,⟨o,h1⟩,h2⟩:=h;exact⟨c,z,⟨o,by rw[evalCode];exact h1⟩,h2⟩
theorem ew.skip(h:ew P cx .skip fs a cP aF):dP P cx fs .normal a cP aF:=by obtain⟨c,z,⟨o,h1⟩,h2⟩:=h;rw[evalCode]at h1;grind
theorem dP.code{b:Code}{ex:b7}(hn:ex≠.normal)(h:dP P cx fs ex a cP aF):dP P cx (.code b::fs) ex a cP aF:=by cases ex with|normal=>grind|_=>exact h
variable {A:dr}{R:dJ A.pn}{f:FuncId}{nb:Nat}{fn:Func}{kO sF:Code}{ρ:Type}{J:Nat->ae->Option ρ}{Q:ρ->b7->aD->Wd->Tr aq->Nat->Prop}
def l8(P:Program)(nb:Nat)(cx:Ctx)(Q:ρ->b7->aD->Wd->Tr aq->Nat->Prop)(fs:List Fr)(k:ig->ae->Option ρ):Prop:=∀ex c st w a r,bN P cx w st a->lv P ex c->k ex st=some r->Ends P nb w st.ob a.h (Q r) (dP P cx fs c a)
def ta(P:Program)(nb:Nat)(cx:Ctx)(Q:ρ->b7->aD->Wd->Tr aq->Nat->Prop)(kO:Code)(J:Nat->ae->Option ρ):Prop:=∀key st w a r c fs,bN P cx w st a->J key st=some r->Site key kO [] c fs->Ends P nb w st.ob a.h (Q r) (ew P cx c fs a)
theorem Wf{n m:Nat}(hn:n<=m){id:Nat}{ops:Array Oper}{draw:Bool}(h:dW n (.region id ops draw)=true):∀o,o∈ops.toList->iZ m o.dst:=by
 intro o ho
 simp only[dW,List.all_eq_true]at h
 have:=h o ho
 cases hd:o.dst with
 |none=>trivial
 |some d=>
  rw[hd]at this
  have h2:d<n:=by simp_all
  exact Nat.lt_of_lt_of_le h2 hn
theorem Mw(hC:fb P A R)(gE:fn.ntmps<=cx.tn){c:Bool}{id:Nat}{ops:Array Oper}{draw:Bool}{k:ig->ae->Option ρ}{st:ae}{w:Wd}{r:ρ}(ht:dW fn.ntmps (.region id ops draw)=true)(hk:l8 P nb cx Q fs k)(hs:bN P cx w st a)
 (hr:vA P A R c (λt row st=>k (.aN t row) st) ops draw st (λst=>k .normal st)=some r):Ends P nb w st.ob a.h (Q r) (ew P cx (.region id ops draw) fs a):=by
 rcases aa8 (id:=id) (cx:=cx) hC hs (Wf gE ht) hr with⟨m,w',st',a',q1,q2,q3,q4⟩|⟨m,w',st',a',t,row,y,q1,q2,q3,q4,q5⟩
 .exact Ends.ax q3 ((hk .normal .normal _ _ _ _ q2 trivial q4).imp λ_ _ e=>⟨_,_,⟨m,q1⟩,e⟩)
 .exact Ends.ax q3 ((hk (.aN t row) (.panic y) _ _ _ _ q2 q5 q4).imp λ_ _ e=>⟨_,_,⟨m,q1⟩,e⟩)
structure HA(P:Program)(cx:Ctx)(f:FuncId)(fn:Func)(kO:Code):Prop where
 h1:cx.fn=f
 h2:P.funcs[f]?=some fn
 h3:fn.body=some kO
 h4:fn.ntmps<=cx.tn
theorem acx(hC:fb P A R)(gF:HA P cx f fn sF){fo:Operand}{ps:Array Tmp}{hd bd:Code}{k:ig->ae->Option ρ}{st:ae}{w:Wd}{r:ρ}(O:dn sF ps.toList hd bd)(hk:l8 P nb cx Q fs k)(hs:bN P cx w st a)
 (hr:FQ P A R f st fo k=some r):Ends P nb w st.ob a.h (Q r) (ew P cx (.rangeFunc fo ps hd bd) fs a):=by
 unfold FQ at hr
 split at hr
 case h_2=>cases hr
 rename_i g caps ts hf Y hlp
 split at hr
 case h_2=>cases hr
 rename_i fg hfg
 split at hr
 case h_2=>cases hr
 rename_i cg gG
 have T:=hs.wM (by rw[Y];simp)
 have HI:=hs.co.1.1.resolve_left (by rw[Y];simp)
 have hx:=fe hs.tm fo
 rw[hf]at hx
 obtain⟨xs,N,hfn⟩:∃xs,au P w caps xs/\mO (ev a.tm fo)=some (.func g,[],xs):=by generalize hy:ev a.tm fo=y at hx;cases hx with|fn a=>exact⟨_,a,rfl⟩|fR=>exact⟨[],.nil,rfl⟩
 let M:cr:=.loop .ready none cx.fn cx.tn a.tm ps.toList hd bd a.h.next
 let h1:AHeap:=(a.h.alloc (.cE (some []))).alloc M
 have V:h1.get (a.h.next+1)=some M:=by show((a.h.cj.put a.h.next (.cE (some []))).put (a.h.next+1) M).get (a.h.next+1)=_;rw[Tr.a7]
 have hdo:h1.get a.h.next=some (.cE (some [])):=by show((a.h.cj.put a.h.next (.cE (some []))).put (a.h.next+1) M).get a.h.next=_;rw[Tr.aL _ _ (by omega),Tr.a7]
 have hold:∀o,o≠a.h.next->o≠a.h.next+1->h1.get o=a.h.get o:=λo e1 e2=>by show((a.h.cj.put a.h.next (.cE (some []))).put (a.h.next+1) M).get o=_;rw[Tr.aL _ _ e2,Tr.aL _ _ e1];rfl
 have U:h1.next=a.h.next+2:=rfl
 obtain⟨S,I⟩:=hs.h.aiw (h':=h1) (λo e=>hold o (by omega) (by omega)) (by rw[U];omega) (λo e=>by rw[hold o (by omega) (by omega)];exact hs.h.new o (by omega)) rfl rfl
 have hyl:RV P (w.heap h1.get) (.yl f ts (ts.map λt=>bH st.tm (.tmp t))) (.eB (a.h.next+1)):=by refine .yl (show h1.get (a.h.next+1)=some (.loop .ready none f cx.tn a.tm ps.toList hd bd a.h.next)by rw[<-gF.h1];exact V) ⟨fn,sF,gF.h2,gF.h3,gF.h4,O⟩ ?_;exact au.map _ λt _=>(fe hs.tm _).mono I.le I.s
 rcases Mp hC (w:=w.heap h1.get) (h:=h1) S (.cons hyl (N.mono I.le I.s)) hr with⟨m,w',st',h',v,y,q1,q2,q3,q4,q5,q6,_,_⟩|⟨_,_,_,_,_,_,_,_,_,_,_,q5,_⟩
 case inr=>cases q5
 have K:h'.get (a.h.next+1)=some M:=by rw[<-q1.g];exact q2.le.l _ _ V rfl
 have akD:a.h.next+2<=h'.next:=by rw[<-U];exact q2.next
 have hno:∀{o:Nat}{x:cr},h1.get o=some x->¬wL x->¬Ow (w.heap h1.get) st.ob o:=by rintro o x e1 e2⟨i,k,p1,p2,p3⟩;obtain⟨_,q,c⟩:=S.cells p1 p2 p3;rw[e1]at q;cases q;exact e2 c
 let Z:cr:=.loop .exhausted none cx.fn cx.tn a.tm ps.toList hd bd a.h.next
 let h2:AHeap:=h'.aU (a.h.next+1) Z
 have Ui:ah P (w'.heap h2.get) st'.ob st'.nx h2:=q1.FB K rfl
 have E:∀{o:Nat},o≠a.h.next+1->h2.get o=h'.get o:=λe=>ff e
 have L:h2.floor=a.h.floor:=q2.floor
 have X:∀d,d<h1.next->∀x,h1.get d=some x->¬wL x->d≠a.h.next+1->h2.get d=some x:=λd e1 x e2 e3 e4=>by rw[E e4,q2.ck d e1 (hno e2 e3)];exact e2
 have hlt:∀{o:Nat}{x:cr},a.h.get o=some x->o<a.h.next:=λ{o x}e=>by
  rcases Nat.lt_or_ge o a.h.next with q|q
  .exact q
  .rw[hs.h.new o q]at e;cases e
 have z:=I.trans q2
 have D:a8 w st.ob a.h (w'.heap h2.get) st'.ob h2:=by
  refine⟨⟨z.le.F,λo x e i=>?_,λo e=>?_,λo f v mv c fz el ex sh e=>?_,λo f es cl e=>?_⟩,z.s,z.next,z.floor,λo e1 e2=>?_,z.own,z.F,λo e=>?_,λe=>nM (z.ea e),z.bx⟩
  .have:=hlt (by rw[<-hs.h.g];exact e);show h2.get o=_;rw[E (by omega),<-q1.g];exact z.le.l o x e i
  .have e':=e;rw[hs.h.g]at e';obtain⟨x,hx⟩:=Option.ne_none_iff_exists'.1 e';have:=hlt hx;have q:=z.le.n o e;show h2.get o≠none/\(Lp h2.get o->Lp w.g o);unfold Lp at q⊢;rw[E (by omega),<-q1.g];exact q
  .have:=hlt (by rw[<-hs.h.g];exact e);obtain⟨v',d',fF,fG,eY,fw,p1,p2⟩:=z.le.g o f v mv c fz el ex sh e;exact⟨v',d',fF,fG,eY,fw,by show h2.get o=_;rw[E (by omega),<-q1.g];exact p1,p2⟩
  .have:=hlt (by rw[<-hs.h.g];exact e);show h2.get o=_;rw[E (by omega),<-q1.g];exact z.le.m o f es cl e
  .rw[E (by omega)];exact z.ck o e1 e2
  .rcases nD e with e|e
   .exact z.wr o e
   .exact .inr (.inl (by omega))
 have e1:st'.al=st.al:=congrArg (·.1) q4
 have e2:st'.df=st.df:=congrArg (·.2.1) q4
 have e3:st'.cm=st.cm:=congrArg (·.2.2) q4
 have Ix:bN P cx (w'.heap h2.get) st' {a with h:=h2,df:=.dD a.h.next::a.df}:=by
  refine⟨Ui,by rw[q3];exact hs.tm.mono D.le D.s,by rw[e1];exact hs.al,by rw[e2];exact .dD (hs.df.mono D.le D.s),by rw[e3];exact hs.cm,.inl T,by rw[e3];exact hs.kd,⟨.inr ?_,λe=>?_,hs.co.1.2⟩,λd s7=>?_⟩
  .show h2.floor<=h2.next;rw[L];have:h2.next=h'.next:=rfl;omega
  .have:=hlt (hs.co.2 _ e).2;omega
  .show h2.floor<=d/\h2.get d=_
   rw[L]
   rcases List.mem_cons.1 s7 with e|e
   .cases e;exact⟨HI,X _ (by omega) _ hdo (by intro h;cases h) (by omega)⟩
   .obtain⟨p1,p2⟩:=hs.co.2 d e;have:=hlt p2;exact⟨p1,X d (by omega) _ (by rw[hold d (by omega) (by omega)];exact p2) (by intro h;cases h) (by omega)⟩
 refine Ends.ax D ((hk .normal .normal _ _ _ _ Ix trivial q5).imp λ_ _ e=>⟨_,_,⟨m,?_⟩,e⟩)
 rw[evalCode]
 simp only[T,hfn]
 have hac:iM P h1 g ([]++[.eB (a.h.next+1)]++xs)=some (.enter g (.eB (a.h.next+1)::xs),h1):=by simp only[iM,hfg,gG,List.nil_append,List.singleton_append]
 show(match iM P h1 g ([]++[.eB (a.h.next+1)]++xs)with|some (.enter g args,h)=>_|_=>_)=_;rw[hac];simp only[q6,K,M];rfl
section
variable (hC:fb P A R)(hJ:ta P nb cx Q kO J)(gE:fn.ntmps<=cx.tn)(gF:HA P cx f fn sF)
include hC hJ gE gF
theorem Ld{id:Nat}{k:ig->ae->Option ρ}{b:Code}(z:∀key c' bK,Site key (.block id b) fs c' bK->Site key kO [] c' bK)(hk:l8 P nb cx Q fs k):
 l8 P nb cx Q (.blk id::fs) (λex st=>match(match ex with|.exit c=>Nat.beq c id|.normal=>true|_=>false)with
 |true=>(match A.cut f (2*id+1)with|some _=>J (2*id+1) st|none=>k .normal st)
 |false=>k ex st):=by
 intro ex E st w a r hs hx hr
 have D:(match A.cut f (2*id+1)with
  |some _=>J (2*id+1) st
  |none=>k .normal st)=some r->Ends P nb w st.ob a.h (Q r) (dP P cx fs .normal a):=by
  intro e
  split at e
  .exact(hJ _ _ _ _ _ _ _ hs e (z _ _ _ (.behind rfl))).imp λ_ _=>ew.skip
  .exact hk .normal .normal _ _ _ _ hs trivial e
 cases ex with|normal=>obtain rfl:=hx.normal;exact D hr|ret=>obtain rfl:=hx.ret;exact hk .ret .ret _ _ _ _ hs trivial hr|aN t row=>obtain⟨y,rfl,hy⟩:=hx.aN;exact hk (.aN t row) (.panic y) _ _ _ _ hs hy hr|exit c=>obtain rfl:=hx.exit;simp only at hr;cases o:Nat.beq c id with|true=>rw[o]at hr;have:=Nat.eq_of_beq_eq_true o;exact(D hr).imp λ_ _ e=>by simp only[dP,this,if_true];exact e|false=>rw[o]at hr;have:=Nat.ne_of_beq_eq_false o;exact(hk (.exit c) (.exit c) _ _ _ _ hs rfl hr).imp λ_ _ e=>by simp only[dP,this,if_false];exact e
theorem jo:∀(c:Code){D:Option Nat}{fs:List Fr}{k:ig->ae->Option ρ}{st:ae}{w:Wd}{a:aD}{r:ρ},(∀key c' bK,Site key c fs c' bK->Site key kO [] c' bK)->
 (∀i b,D=some i->c=.loop b->Site (2*i) kO [] c fs)->(∀qs x y,dn c qs x y->dn sF qs x y)->dW fn.ntmps c=true->l8 P nb cx Q fs k->bN P cx w st a->fh P A R f J D c st k=some r->Ends P nb w st.ob a.h (Q r) (ew P cx c fs a)
 |.skip,D,fs,k,st,w,a,r,_,_,_,_,hk,hs,hr=>(hk .normal .normal _ _ _ _ hs trivial hr).imp λ_ _ e=>⟨_,_,⟨0,rfl⟩,e⟩
 |.label _,D,fs,k,st,w,a,r,_,_,_,_,hk,hs,hr=>(hk .normal .normal _ _ _ _ hs trivial hr).imp λ_ _ e=>⟨_,_,⟨0,rfl⟩,e⟩
 |.region id ops draw,D,fs,k,st,w,a,r,o,_,E,ht,hk,hs,hr=>by
  rw[fh]at hr
  split at hr
  .exact hJ _ _ _ _ _ _ _ hs hr (o _ _ _ (.region rfl))
  .exact Mw hC gE ht hk hs hr
 |.seq c b,D,fs,k,st,w,a,r,o,_,E,ht,hk,hs,hr=>by rw[fh]at hr;simp only[dW,bB]at ht;refine(jo c (fs:=.code b::fs) (λkey c' bK e=>o _ _ _ (.lY e)) (λi b e=>by cases e) (λ_ _ _ e=>E _ _ _ (.lY e)) ht.1 (λex U T w1 O r1 I F K=>?_) hs hr).imp λ_ _=>ew.seq;cases ex with|normal=>obtain rfl:=F.normal;exact jo b (λkey c' bK e=>o _ _ _ (.j8 e)) (λi b e=>by cases e) (λ_ _ _ e=>E _ _ _ (.j8 e)) ht.2 hk I K|exit id=>exact(hk _ _ _ _ _ _ I F K).imp λ_ _=>dP.code (F.ne (by simp))|ret=>exact(hk _ _ _ _ _ _ I F K).imp λ_ _=>dP.code (F.ne (by simp))|aN t row=>exact(hk _ _ _ _ _ _ I F K).imp λ_ _=>dP.code (F.ne (by simp))
 |.cond c x y,D,fs,k,st,w,a,r,o,_,E,ht,hk,hs,hr=>by
  rw[fh]at hr
  simp only[dW,bB]at ht
  split at hr
  .rename_i t S
   have he:=fe hs.tm c
   rw[S]at he
   have N:ev a.tm c=.sc (.bool t):=by generalize ev a.tm c=z at he;cases he;rfl
   rcases jQ hr with⟨rfl,hr⟩|⟨rfl,hr⟩
   .refine(jo x (λkey c' bK e=>o _ _ _ (.lQ e)) (λi b e=>by cases e) (λ_ _ _ e=>E _ _ _ (.lQ e)) ht.1 hk hs hr).imp λ_ _ e=>?_;obtain⟨L,O,⟨m,h1⟩,h2⟩:=e;exact⟨L,O,⟨m,by rw[evalCode,N];exact h1⟩,h2⟩
   .refine(jo y (λkey c' bK e=>o _ _ _ (.lR e)) (λi b e=>by cases e) (λ_ _ _ e=>E _ _ _ (.lR e)) ht.2 hk hs hr).imp λ_ _ e=>?_;obtain⟨L,O,⟨m,h1⟩,h2⟩:=e;exact⟨L,O,⟨m,by rw[evalCode,N];exact h1⟩,h2⟩
  .cases hr
 |.block id b,D,fs,k,st,w,a,r,o,_,E,ht,hk,hs,hr=>by rw[fh]at hr;simp only[dW]at ht;exact(jo b (fs:=.blk id::fs) (λkey c' bK e=>o _ _ _ (.blk e)) (λi b' e1 e2=>by cases e1;subst e2;exact o _ _ _ (.here rfl)) (λ_ _ _ e=>E _ _ _ (.blk e)) ht (Ld hC hJ gE gF o hk) hs hr).imp λ_ _=>ew.block
 |.loop b,D,fs,k,st,w,a,r,o,M,E,ht,hk,hs,hr=>by cases D with|none=>exact jU hr rfl|some i=>exact hJ _ _ _ _ _ _ _ hs (show J (2*i) st=some r from hr) (M _ _ rfl rfl)
 |.exit id,D,fs,k,st,w,a,r,_,_,_,_,hk,hs,hr=>(hk (.exit id) (.exit id) _ _ _ _ hs rfl hr).imp λ_ _ e=>⟨_,_,⟨0,rfl⟩,e⟩|.scope b,D,fs,k,st,w,a,r,o,_,E,ht,hk,hs,hr=>by rw[fh]at hr;simp only[dW]at ht;exact(jo b (λkey c' bK e=>o _ _ _ (.scope e)) (λi b e=>by cases e) (λ_ _ _ e=>E _ _ _ (.scope e)) ht hk hs hr).imp λ_ _=>ew.scope|.ret,D,fs,k,st,w,a,r,_,_,_,_,hk,hs,hr=>(hk .ret .ret _ _ _ _ hs trivial hr).imp λ_ _ e=>⟨_,_,⟨0,rfl⟩,e⟩|.goto _,D,fs,k,st,w,a,r,_,_,_,_,hk,hs,hr=>by rw[fh]at hr<;>grind|.refuse _,D,fs,k,st,w,a,r,_,_,_,_,hk,hs,hr=>by rw[fh]at hr<;>grind|.rangeFunc fo ps hd bd,D,fs,k,st,w,a,r,_,_,E,_,hk,hs,hr=>acx hC gF (E _ _ _ .here) hk hs (by rw[fh]at hr;exact hr)
theorem ml{key:Nat}{Y:Code}{N:List Fr}(h0:Site key kO [] Y N):∀(c:Code){L:Option Nat}{fs:List Fr}{k:ig->ae->Option ρ}{st:ae}{w:Wd}{a:aD}{r:ρ},Site key c fs Y N->cU key c<=1->
 (∀i,L=some i->key/2≠i)->(∀i b,L=some i->c=.loop b->Site (2*i) kO [] c fs)->(∀key c' bK,Site key c fs c' bK->Site key kO [] c' bK)->(∀qs x y,dn c qs x y->dn sF qs x y)->dW fn.ntmps c=true->l8 P nb cx Q fs k->bN P cx w st a->gm P A R f J key L c st k=some r->Ends P nb w st.ob a.h (Q r) (ew P cx Y N a)
 |.seq c b,L,fs,k,st,w,a,r,D,E,_,_,o,K,ht,hk,hs,hr=>by
  rw[gm]at hr
  simp only[dW,bB]at ht
  simp only[cU]at E
  cases D with
  |lY D=>have hc:=D.kq;rw[(kv key c).2 hc]at hr;refine ml h0 c D (by omega) (λi e=>by cases e) (λi b e=>by cases e) (λkey c' bK e=>o _ _ _ (.lY e)) (λ_ _ _ e=>K _ _ _ (.lY e)) ht.1 (λex T O w1 a1 r1 I z F=>?_) hs hr;cases ex with|normal=>obtain rfl:=z.normal;exact jo hC hJ gE gF b (λkey c' bK e=>o _ _ _ (.j8 e)) (λi b e=>by cases e) (λ_ _ _ e=>K _ _ _ (.j8 e)) ht.2 hk I F|exit id=>exact(hk _ _ _ _ _ _ I z F).imp λ_ _=>dP.code (z.ne (by simp))|ret=>exact(hk _ _ _ _ _ _ I z F).imp λ_ _=>dP.code (z.ne (by simp))|aN t row=>exact(hk _ _ _ _ _ _ I z F).imp λ_ _=>dP.code (z.ne (by simp))
  |j8 D=>
   have hc:=D.kq
   have:eG key c=false:=by cases e:eG key c with|false=>rfl|true=>have:=(kv key c).1 e;omega
   rw[this]at hr;exact ml h0 b D (by omega) (λi e=>by cases e) (λi b e=>by cases e) (λkey c' bK e=>o _ _ _ (.j8 e)) (λ_ _ _ e=>K _ _ _ (.j8 e)) ht.2 hk hs hr
 |.cond c x y,L,fs,k,st,w,a,r,D,E,_,_,o,K,ht,hk,hs,hr=>by
  rw[gm]at hr
  simp only[dW,bB]at ht
  simp only[cU]at E
  cases D with
  |lQ D=>have hc:=D.kq;rw[(kv key x).2 hc]at hr;exact ml h0 x D (by omega) (λi e=>by cases e) (λi b e=>by cases e) (λkey c' bK e=>o _ _ _ (.lQ e)) (λ_ _ _ e=>K _ _ _ (.lQ e)) ht.1 hk hs hr
  |lR D=>
   have hc:=D.kq
   have:eG key x=false:=by cases e:eG key x with|false=>rfl|true=>have:=(kv key x).1 e;omega
   rw[this]at hr;exact ml h0 y D (by omega) (λi e=>by cases e) (λi b e=>by cases e) (λkey c' bK e=>o _ _ _ (.lR e)) (λ_ _ _ e=>K _ _ _ (.lR e)) ht.2 hk hs hr
 |.block id b,L,fs,k,st,w,a,r,D,E,_,_,o,K,ht,hk,hs,hr=>by
  rw[gm]at hr
  simp only[dW]at ht
  simp only[cU]at E
  have M:=Ld (f:=f) (id:=id) (b:=b) hC hJ gE gF o hk
  cases D with
  |blk D=>
   have hc:=D.kq
   have V:key/2≠id:=by
    intro e
    have:Nat.beq (key/2) id=true:=by simp_all
    rw[this]at E;simp only at E;omega
   have:Nat.beq key (2*id+1)=false:=by cases e:Nat.beq key (2*id+1)with|false=>rfl|true=>have:=Nat.eq_of_beq_eq_true e;omega
   rw[this]at hr;exact ml h0 b D (by omega) (λi e=>by grind) (λi b' e1 e2=>by cases e1;subst e2;exact o _ _ _ (.here rfl)) (λkey c' bK e=>o _ _ _ (.blk e)) (λ_ _ _ e=>K _ _ _ (.blk e)) ht M hs hr
  |@here _ Z _ e=>
   subst e
   have:Nat.beq (2*id) (2*id+1)=false:=by cases e:Nat.beq (2*id) (2*id+1)with|false=>rfl|true=>simp_all
   rw[this]at hr
   simp only[dW]at ht
   simp only at hr
   rw[gm]at hr
   have X:Nat.beq (2*id) (2*id)=true:=by simp
   simp only[X]at hr;refine(jo hC hJ gE gF Z (fs:=.code (.loop Z)::.blk id::fs) (λkey c' bK e=>o _ _ _ (.blk (.loop e))) (λi b e=>by cases e) (λ_ _ _ e=>K _ _ _ (.blk (.loop e))) ht (λex T O w1 a1 r1 I z F=>?_) hs hr).imp λ_ _=>ew.loop;cases ex with|normal=>obtain rfl:=z.normal;exact hJ _ _ _ _ _ _ _ I F h0|exit id'=>exact(M _ _ _ _ _ _ I z F).imp λ_ _=>dP.code (z.ne (by simp))|ret=>exact(M _ _ _ _ _ _ I z F).imp λ_ _=>dP.code (z.ne (by simp))|aN t row=>exact(M _ _ _ _ _ _ I z F).imp λ_ _=>dP.code (z.ne (by simp))
  |behind e=>
   have:Nat.beq key (2*id+1)=true:=by simp_all
   rw[this]at hr;exact(hk .normal .normal _ _ _ _ hs trivial hr).imp λ_ _ e=>⟨_,_,⟨0,rfl⟩,e⟩
 |.loop b,L,fs,k,st,w,a,r,D,E,V,S,o,K,ht,hk,hs,hr=>by
  simp only[dW]at ht
  simp only[cU]at E
  cases D with
  |loop D=>
   have U:gm P A R f J key none b st (λex st=>match ex with
    |.normal=>(match L with|some i=>J (2*i) st|none=>none)
    |ex=>k ex st)=some r:=by
    cases L with
    |none=>exact hr
    |some i=>
     have:Nat.beq key (2*i)=false:=by cases e:Nat.beq key (2*i)with|false=>rfl|true=>simp_all
     rw[gm]at hr;grind
   refine ml h0 b D E (λi e=>by cases e) (λi b e=>by cases e) (λkey c' bK e=>o _ _ _ (.loop e)) (λ_ _ _ e=>K _ _ _ (.loop e)) ht (λex T O w1 a1 r1 I z F=>?_) hs U
   cases ex with
   |normal=>obtain rfl:=z.normal;simp only at F;cases L with|none=>cases F|some i=>exact hJ _ _ _ _ _ _ _ I F (S i b rfl rfl)
   |exit id=>exact(hk _ _ _ _ _ _ I z F).imp λ_ _=>dP.code (z.ne (by simp))|ret=>exact(hk _ _ _ _ _ _ I z F).imp λ_ _=>dP.code (z.ne (by simp))|aN t row=>exact(hk _ _ _ _ _ _ I z F).imp λ_ _=>dP.code (z.ne (by simp))
 |.scope b,L,fs,k,st,w,a,r,D,E,_,_,o,K,ht,hk,hs,hr=>by rw[gm]at hr;simp only[dW]at ht;simp only[cU]at E;cases D with|scope D=>exact ml h0 b D E (λi e=>by cases e) (λi b e=>by cases e) (λkey c' bK e=>o _ _ _ (.scope e)) (λ_ _ _ e=>K _ _ _ (.scope e)) ht hk hs hr
 |.region id ops draw,L,fs,k,st,w,a,r,D,_,_,_,_,_,ht,hk,hs,hr=>by rw[gm]at hr;cases D with|region e=>exact Mw hC gE ht hk hs hr
 |.skip,_,_,_,_,_,_,_,D,_,_,_,_,_,_,_,_,_=>by cases D|.label _,_,_,_,_,_,_,_,D,_,_,_,_,_,_,_,_,_=>by cases D|.exit _,_,_,_,_,_,_,_,D,_,_,_,_,_,_,_,_,_=>by cases D|.ret,_,_,_,_,_,_,_,D,_,_,_,_,_,_,_,_,_=>by cases D|.goto _,_,_,_,_,_,_,_,D,_,_,_,_,_,_,_,_,_=>by cases D|.refuse _,_,_,_,_,_,_,_,D,_,_,_,_,_,_,_,_,_=>by cases D|.rangeFunc _ _ _ _,_,_,_,_,_,_,_,D,_,_,_,_,_,_,_,_,_=>by cases D
end
end
end Go.AI
end

section
namespace Go.AI
variable [Kn]
section
variable {P:Program}{w:Wd}{ob:Tr aq}{nx:Nat}{h:AHeap}{A:dr}
theorem zg{st:ae}{tm:Tr AV}{h:AHeap}(hs:ah P w st.ob st.nx h)(ht:eQ P w st.tm tm):∀{rs:List ResultVar}{vs:List SV},mJ P st rs=some vs->∃ys,(∀fn:Func,jn P fn tm h rs=some ys)/\au P w vs ys
 |[],vs,h=>by simp only[mJ,ad]at h;subst h;exact⟨[],λ_=>rfl,.nil⟩
 |.tmp t::rs,vs,h=>by simp only[mJ]at h;obtain⟨us,h1,rfl⟩:=qt h;obtain⟨ys,q1,q2⟩:=zg hs ht h1;exact⟨ev tm (.tmp t)::ys,λfn=>by simp only[jn,q1 fn],.cons (fe ht _) q2⟩
 |.cell c t::rs,vs,h=>by
  simp only[mJ]at h
  split at h
  .rename_i v us h1 h2;cases h;obtain⟨ys,q1,q2⟩:=zg hs ht h2;obtain⟨v',y,r1,r2,r3⟩:=NN (h1:=h) hs (fe ht (.tmp c)) (λ_ _=>rfl) h1;cases r1;exact⟨y::ys,λfn=>by simp only[jn,q1 fn,r2],.cons r3 q2⟩
  .cases h
theorem eK.ax{w':Wd}{ob':Tr aq}{h':AHeap}{nb:Nat}{ts:List TypeId}{shs:List Sh}{r:RT (bF shs)}{v:AV}{h2:AHeap}(hf:a8 w ob h w' ob' h')(hp:eK P w' ob' nb h' ts shs r v h2):eK P w ob nb h ts shs r v h2:=by obtain⟨w1,c,o,vs,ys,q1,q2,q3⟩:=hp;exact⟨w1,c,o,vs,ys,q1,fu.trans (.of hf) q2 (fP.xw (nb:=nb) (.of hf)),q3⟩
theorem Lg{d:Nat}(hs:ah P w ob nx h)(hd:h.get d=some (.cE (some [])))(E:h.floor<=d):ah P (w.heap (h.aU d (.cE none)).get) ob nx (h.aU d (.cE none))/\∀nb,fu (XW h) nb w ob h (w.heap (h.aU d (.cE none)).get) ob (h.aU d (.cE none)):=by
 have D:aX w (w.heap (h.aU d (.cE none)).get):=⟨λ_ f=>f,λo x e i=>by
  have e1:o≠d:=by rintro rfl;rw[hs.g,hd]at e;cases e;cases i
  show(h.aU d (.cE none)).get o=_
  rw[ff e1,<-hs.g];exact e,λo e=>by
  show(h.aU d (.cE none)).get o≠none/\(Lp (h.aU d (.cE none)).get o->Lp w.g o)
  by_cases e1:o=d
  .subst e1;unfold Lp;rw[pI];exact⟨by simp,λ⟨x,q1,q2⟩=>by cases q1;cases q2⟩
  .unfold Lp;rw[ff e1,<-hs.g];grind,λo f v mv c fz el ex sh e=>⟨v,[],fz,el,ex,sh,by
  have e1:o≠d:=by rintro rfl;rw[hs.g,hd]at e;cases e
  show(h.aU d (.cE none)).get o=_
  rw[ff e1,<-hs.g,List.append_nil];exact e,aC _⟩,λo f es cl e=>by
  have e1:o≠d:=by rintro rfl;rw[hs.g,hd]at e;cases e
  show(h.aU d (.cE none)).get o=_;rw[ff e1,<-hs.g];exact e⟩
 have I:d<h.next:=by
  rcases Nat.lt_or_ge d h.next with q|q
  .exact q
  .rw[hs.new d q]at hd;cases hd
 have z:∀j y,ob.get j=some y->dp P (w.heap (h.aU d (.cE none)).get) (h.aU d (.cE none)) j y:=by intro j y e;cases y with|gone=>trivial|_=>refine(hs.gJ e).move D (λ_ _ e=>e) λk o h1 h2=>⟨ff λe1=>?_,λf=>f⟩;obtain⟨_,q,c⟩:=hs.cells ⟨_,e,by simp⟩ h1 h2;subst e1;rw[hd]at q;cases q;cases c
 refine⟨⟨λ_=>rfl,λi t cs e=>z i _ e,λi t rows l e=>z i _ e,λi s l e=>z i _ e,hs.inj,hs.lt,hs.nx,λo f=>⟨(hs.bU o f).1,?_⟩,λo ho=>?_,λi t rows l e=>z i _ e,λi t rows l e=>z i _ e⟩,λnb=>⟨D,λ_ _ _ e=>e,aC _,rfl,λo _ _ e=>ff λe1=>e (e1▸⟨E,hd⟩),λo e=>.inr e,λo e=>.inl e,λo e=>?_,λe=>nM e,λi t cs _ e=>⟨cs,e⟩⟩⟩
 .by_cases e1:o=d
  .subst e1;rw[pI];simp
  .rw[ff e1];exact(hs.bU o f).2
 .have F:h.next<=o:=ho;rw[ff (by omega)];exact hs.new o F
 .rcases nD e with e|rfl
  .exact .inl e
  .exact .inr (.inr (.inr (.inr ⟨E,hd⟩)))
theorem zh{R:Rec}{fn:Func}{tm:Tr AV}{m:bD}{nb:Nat}:∀{ds:List ey}{w:Wd}{h:AHeap},gd P w [] ds->ah P w ob nx h->sU ds->(∀d,ey.dD d∈ds->h.floor<=d/\h.get d=some (.cE (some [])))->
 ∃h2,cH P R fn tm ds m h=cH P R fn tm [] m h2/\ah P (w.heap h2.get) ob nx h2/\fu (XW h) nb w ob h (w.heap h2.get) ob h2
 |[],w,h,_,hs,_,_=>⟨h,rfl,by rw[show w.heap h.get=w by cases w;simp only[Wd.heap];congr 1;exact(funext hs.g).symm];exact hs,by rw[show w.heap h.get=w by cases w;simp only[Wd.heap];congr 1;exact(funext hs.g).symm];exact .of (.refl _ _ _)⟩
 |.fn _ _ _::ds,w,h,hd,_,_,_=>by cases hd
 |.dD d::ds,w,h,.dD hd,hs,hn,hc=>by
  obtain⟨e1,e2⟩:=hc d (List.mem_cons_self ..)
  obtain⟨q1,q2⟩:=Lg hs e2 e1
  obtain⟨h2,r1,r2,r3⟩:=zh (R:=R) (fn:=fn) (tm:=tm) (m:=m) (nb:=nb) (hd.NX rfl) q1 hn.2 λc e=>by
   obtain⟨p1,p2⟩:=hc c (List.mem_cons_of_mem _ e)
   have:c≠d:=by rintro rfl;exact hn.1 e
   exact⟨p1,by rw[ff this];exact p2⟩
  refine⟨h2,?_,r2,(q2 nb).trans r3 λo e h1 h2=>?_⟩
  .simp only[cH,e2];exact r1
  .obtain⟨p1,p2⟩:=e
   have:o≠d:=by rintro rfl;rw[pI]at p2;cases p2
   rw[ff this]at p2;exact⟨p1,p2⟩
theorem N2{st:ae}{h:AHeap}{nb:Nat}{ts:List TypeId}{vs:List SV}{ys:List AV}{shs:List Sh}{r:RT (bF shs)}(hs:ah P w st.ob st.nx h)(hv:au P w vs ys)(hr:qE P shs nb ts vs st=some r){X:Nat->Prop}:qB P X w st.ob nb h ts shs r (vY ys) h:=by
 unfold qE at hr
 simp only at hr
 split at hr
 .rename_i hok;simp only[bB]at hok;exact⟨w,st.ob,st.nx,vs,ys,hs,.of (.refl _ _ _),hv,rfl,hok.1,hok.2,hr⟩
 .cases hr
theorem N3{st:ae}{h:AHeap}{tm:Tr AV}{nb:Nat}{fn:Func}{shs:List Sh}{r:RT (bF shs)}(hs:ah P w st.ob st.nx h)(ht:eQ P w st.tm tm)(hr:oB P shs nb fn st=some r):
 ∃y,kR P fn tm h=some y/\∀X,qB P X w st.ob nb h fn.resultTypes.toList shs r y h:=by
 unfold oB at hr
 split at hr
 .rename_i vs hv;obtain⟨ys,q1,q2⟩:=zg hs ht hv;refine⟨vY ys,?_,λ_=>N2 hs q2 hr⟩;unfold kR;rw[q1 fn];cases ys with|nil=>rfl|cons y l=>cases l<;>rfl
 .cases hr
def wN(P:Program)(fn:Func)(shs psh:List Sh)(nb:Nat)(p:Bool)(r:AT p (bF shs) (bF psh))(w:Wd)(ob:Tr aq)(h:AHeap)(tm:Tr AV)(ds:List ey)(m:bD):Prop:=∃n out h2,cH P (bE P n) fn tm ds m h=some (out,h2)/\iH p r (λr=>∃y,out=.ret y/\eK P w ob nb h fn.resultTypes.toList shs r y h2) (λt row b=>∃y,out=.aN y/\gY P t row y/\eK P w ob nb h [] psh b dS h2)
theorem N4{ρ:Type}{t:TypeId}{k:TypeId->Option ρ}{r:ρ}:∀{ts:List TypeId},FR t k ts=some r->k t=some r
 |[],h=>by cases h
 |t0::ts,h=>by
  rcases jQ h with⟨e,h⟩|⟨_,h⟩
  .simp_all
  .exact N4 h
theorem eK.dD{w':Wd}{nb:Nat}{h2 h3:AHeap}{ts:List TypeId}{shs:List Sh}{r:RT (bF shs)}{v:AV}(hf:fu (XW h) nb w ob h w' ob h2)(hp:qB P (λ_=>False) w' ob nb h2 ts shs r v h3):eK P w ob nb h ts shs r v h3:=by obtain⟨w1,c,o,vs,ys,q1,q2,q3⟩:=hp;exact⟨w1,c,o,vs,ys,q1,hf.trans q2 (λ_ e=>e.elim),q3⟩
theorem eK.Qu{w':Wd}{nb d:Nat}{h3:AHeap}{ts:List TypeId}{shs:List Sh}{r:RT (bF shs)}{v:AV}(hf:fu (XW h) nb w ob h w' ob (h.aU d (.cE none)))(hp:eK P w' ob nb (h.aU d (.cE none)) ts shs r v h3):eK P w ob nb h ts shs r v h3:=by
 obtain⟨w1,c,z,vs,ys,q1,q2,q3⟩:=hp
 refine⟨w1,c,z,vs,ys,q1,hf.trans q2 (λo e h1 h2=>?_),q3⟩
 obtain⟨p1,p2⟩:=e
 have:o≠d:=by rintro rfl;rw[pI]at p2;cases p2
 rw[ff this]at p2;exact⟨p1,p2⟩
theorem yP{A:dr}{R:dJ A.pn}(hC:fb P A R){fn:Func}{shs psh:List Sh}{nb:Nat}{p:Bool}{r:AT p (bF shs) (bF psh)}{tm:Tr AV}:∀{ds:List ey}{l:List (FuncId×List SV)}{st:ae}{w:Wd}{h:AHeap},ah P w st.ob st.nx h->eQ P w st.tm tm->gd P w l ds->sU ds->(∀d,ey.dD d∈ds->h.floor<=d/\h.get d=some (.cE (some [])))->
 (ju P A R shs psh nb fn p l .ret st=some r->wN P fn shs psh nb p r w st.ob h tm ds .ret)/\
 (∀t row y,gY P t row y->ju P A R shs psh nb fn p l (.aN t row false) st=some r->wN P fn shs psh nb p r w st.ob h tm ds (.aN y false))
 |[],l,st,w,h,hs,ht,hd,_,_=>by
  cases hd
  refine⟨λhr=>?_,λt row y hy hr=>?_⟩
  .have hq:∀a,oB P shs nb fn st=some a->∃y,kR P fn tm h=some y/\eK P w st.ob nb h fn.resultTypes.toList shs a y h:=λa e=>let⟨y,q1,q2⟩:=N3 hs ht e;⟨y,q1,q2 _⟩;cases hf:oB P shs nb fn st with|none=>simp only[ju,hf]at hr;cases p<;>cases hr|some a=>obtain⟨y,q1,q2⟩:=hq a hf;refine⟨0,.ret y,h,by simp only[cH,q1,Option.map_some],?_⟩;simp only[ju]at hr;exact acr hr λa' e=>by grind
  .refine⟨0,.aN y,h,rfl,?_⟩;simp only[ju]at hr;exact aa1 hr λa' e=>⟨y,rfl,hy,N2 hs .nil e⟩
 |.dD d::o,l,st,w,h,hs,ht,hd,hn,hc=>by
  cases hd with
  |dD hd=>
  obtain⟨S,N⟩:=hc d (List.mem_cons_self ..)
  obtain⟨O,F⟩:=Lg hs N S
  have E:=(F 0).le
  have U:=yP hC (shs:=shs) (psh:=psh) (nb:=nb) (p:=p) (r:=r) (fn:=fn) (ds:=o) (l:=l) O (ht.mono E λ_ _ e=>e) (hd.mono E λ_ _ e=>e) hn.2 λM e=>by
   obtain⟨p1,p2⟩:=hc M (List.mem_cons_of_mem _ e)
   have:M≠d:=by rintro rfl;exact hn.1 e
   exact⟨p1,by rw[ff this];exact p2⟩
  have go:∀md,wN P fn shs psh nb p r (w.heap (h.aU d (.cE none)).get) st.ob (h.aU d (.cE none)) tm o md->wN P fn shs psh nb p r w st.ob h tm (.dD d::o) md:=by rintro md⟨n,out,h2,r1,r2⟩;refine⟨n,out,h2,?_,r2.imp (λ_⟨y,a,b⟩=>⟨y,a,eK.Qu (F nb) b⟩) λ_ _ _⟨y,a,b,c⟩=>⟨y,a,b,eK.Qu (F nb) c⟩⟩;rw[cH];simp only[N];exact r1
  grind
 |.fn Y cap xs::o,l,st,w,h,hs,ht,hd,hn,hc=>by
  cases hd with
  |@cons g args _ _ l _ hx hd=>
  have go:∀{md:jg}{cm cm':bD}{k:Bool->ae->Option (AT p (bF shs) (bF psh))},CE P md cm->vb P A R st g md args k=some r->
   (∀b cm' st',s8 md b cm'->k b st'=some r->ju P A R shs psh nb fn p l .ret st'=some r/\(cm'=.ret\/∃y,cm'=.aN y true))->wN P fn shs psh nb p r w st.ob h tm (.fn (.func g) cap xs::o) cm:=by
   intro md cm _ k I hr hk
   obtain⟨m,L,w',st',h',b,y,cm',q1,q2,q3,q4,q5,q6,q7,q8⟩:=Yi hC hs I hx hr
   obtain⟨e1,e2⟩:=hk b cm' st' q8 q6
   have J:=NY (st:=st) (a:={tm:=tm,df:=o,cm:=.none,h:=h}) hs (λd e=>hc d (List.mem_cons_of_mem _ e)) q3
   obtain⟨n,out,h2,r1,r2⟩:=(yP hC (ds:=o) q2 (by rw[q4];exact ht.mono q3.le q3.s) (hd.mono q3.le q3.s) hn J).1 e1
   obtain⟨code,hb⟩:∃code,L.body=some code:=by cases m with|zero=>cases q7|succ m=>have q7:jP P (bE P m) .deferred g (xs++cap) cm h=some (.ret y,cm',h'):=q7;obtain⟨Q,code,X,V⟩:=CN (show jm P (bE P m) .deferred g (xs++cap) cm h=_ from q7);grind
   refine⟨max m n,out,h2,?_,r2.imp (λ_⟨y,a,b⟩=>⟨y,a,b.ax q3⟩) λ_ _ _⟨y,a,b,c⟩=>⟨y,a,b,c.ax q3⟩⟩
   have K:iM P h g (xs++cap)=some (.enter g (xs++cap),h):=by simp only[iM,q1,hb]
   have D:(bE P (max m n)).call .deferred g (xs++cap) cm h=some (.ret y,cm',h'):=(iu P (Nat.le_max_left ..)).call _ _ _ _ _ _ q7
   have z:cH P (bE P (max m n)) fn tm o .ret h'=some (out,h2):=Dk (iu P (Nat.le_max_right ..)) r1
   rw[cH]
   simp only[K,D]
   rcases e2 with rfl|⟨T,rfl⟩
   .exact z
   .exact z
  refine⟨λhr=>?_,λt row y hy hr=>?_⟩
  .simp only[ju]at hr;exact go (md:=.ret) (cm:=.ret) (cm':=.ret) trivial hr λb cm' st' hd hk=>⟨hk,.inl hd⟩
  .simp only[ju]at hr
   have hr:=N4 hr
   refine go (md:=.aN t row false) (cm:=.aN y false) (cm':=.ret) ⟨rfl,hy⟩ hr λb cm' st' hd hk=>?_
   rcases jQ hk with⟨rfl,hk⟩|⟨_,hk⟩
   .exact⟨hk,.inr (hd rfl)⟩
   .cases hk
theorem N5{A:dr}{R:dJ A.pn}(hC:fb P A R){f:FuncId}{fn:Func}{shs psh:List Sh}{nb:Nat}{cx:Ctx}:l8 P nb cx (QC P fn shs psh nb (A.pn f)) [] (Bs P A R f shs psh nb fn):=by
 intro ex o st w a r hs hx hr
 have z:st.cm=.no->a.cm=.none:=by intro e;have:=hs.cm;rw[e]at this;cases hc:a.cm<;>rw[hc]at this<;>first|rfl|exact this.elim
 have fin:o≠.panic dS->(o=.normal\/o=.ret)->st.cm=.no->ju P A R shs psh nb fn (A.pn f) st.df .ret {st with df:=[],cm:=.no}=some r->Ends P nb w st.ob a.h (QC P fn shs psh nb (A.pn f) r) (dP P cx [] o a):=by intro _ hex c hr;obtain⟨n,out,h2,q1,q2⟩:=(yP hC (st:={st with df:=[],cm:=.no}) hs.h hs.tm hs.df hs.co.1.2 hs.co.2).1 hr;refine⟨o,a,w,st.ob,st.nx,⟨rfl,rfl⟩,hs.h,.of (.refl _ _ _),z c,n,out,h2,?_,q2⟩;rcases hex with rfl|rfl<;>exact q1
 unfold Bs at hr
 cases c:st.cm with
 |no=>rw[c]at hr;cases ex with|exit id=>cases hr|normal=>exact fin (by rw[hx.normal];simp) (.inl hx.normal) c hr|ret=>exact fin (by rw[hx.ret];simp) (.inr hx.ret) c hr|aN t row=>obtain⟨y,rfl,hy⟩:=hx.aN;obtain⟨n,out,h2,q1,q2⟩:=(yP hC (st:={st with df:=[],cm:=.no}) hs.h hs.tm hs.df hs.co.1.2 hs.co.2).2 t row y hy hr;exact⟨.panic y,a,w,st.ob,st.nx,⟨rfl,rfl⟩,hs.h,.of (.refl _ _ _),z c,n,out,h2,q1,q2⟩
 |_=>grind
def QD(P:Program)(fn:Func)(shs:List Sh)(nb:Nat)(md:jg)(r:Bool×RT (bF shs))(ex:b7)(a:aD)(w:Wd)(ob:Tr aq)(_:Nat):Prop:=s8 md r.1 a.cm/\∃m y h2,Bg P (bE P m) fn ex a=some (.ret y,h2)/\eK P w ob nb a.h fn.resultTypes.toList shs r.2 y h2
theorem abb{fn:Func}{shs:List Sh}{nb:Nat}{cx:Ctx}{md:jg}:l8 P nb cx (QD P fn shs nb md) [] (Bu P shs nb fn md):=by
 intro ex z st w a r hs hx hr
 have c:∀b,Bt md st.cm=some b->s8 md b a.cm:=by
  intro b e
  have hc:=hs.cm
  unfold Bt at e
  split at e
  .rename_i t row I t' dZ F hq;cases e;rw[hq]at hc;intro hb;cases ha:a.cm with|aN y b'=>rw[ha]at hc;have:b=b':=hc.1;grind|_=>rw[ha]at hc;exact hc.elim
  .rename_i hq;rw[hq]at hc;cases ha:a.cm<;>rw[ha]at hc<;>first|rfl|exact hc.elim
  .cases e
 have fin:∀b,Bt md st.cm=some b->st.df=[]->ask (oB P shs nb fn st) (λr=>some (b,r))=some r->∃y h2,cH P (bE P 0) fn a.tm a.df .ret a.h=some (.ret y,h2)/\s8 md r.1 a.cm/\eK P w st.ob nb a.h fn.resultTypes.toList shs r.2 y h2:=by intro b e1 e2 e3;obtain⟨r0,h1,h2⟩:=Ax e3;cases h2;obtain⟨h2,E,D,o⟩:=zh (R:=bE P 0) (fn:=fn) (tm:=a.tm) (m:=.ret) (nb:=nb) (by have:=hs.df;grind) hs.h hs.co.1.2 hs.co.2;obtain⟨y,q1,q2⟩:=N3 D (hs.tm.mono o.le λ_ _ e=>e) h1;exact⟨y,h2,by rw[E];simp only[cH,q1,Option.map_some],c b e1,eK.dD o (q2 _)⟩
 unfold Bu at hr
 split at hr
 .rename_i b e2 e1;obtain rfl:=hx.normal;obtain⟨y,h2,q1,q2,q3⟩:=fin b e1 e2 hr;exact⟨.normal,a,w,st.ob,st.nx,⟨rfl,rfl⟩,hs.h,.of (.refl _ _ _),q2,0,y,h2,q1,q3⟩
 .rename_i b e2 e1;obtain rfl:=hx.ret;obtain⟨y,h2,q1,q2,q3⟩:=fin b e1 e2 hr;exact⟨.ret,a,w,st.ob,st.nx,⟨rfl,rfl⟩,hs.h,.of (.refl _ _ _),q2,0,y,h2,q1,q3⟩
 .cases hr
theorem Dq{args:List SV}{xs:List AV}(hx:au P w args xs):eQ P w (bP args 0 .leaf) (gN xs 0 .leaf):=by refine⟨λt v e=>?_⟩;rw[pV]at e;obtain⟨x,h1,h2⟩:=hx.get t v e;refine⟨x,?_,h2⟩;rw[CU];grind
theorem DT{m n:Nat}{kd:CallKind}{fn:Func}{code:Code}{f:FuncId}{xs:List AV}{cm:bD}{h:AHeap}(hfn:P.funcs[f]?=some fn)(hb:fn.body=some code){ex:b7}{a:aD}{out:di}{h2:AHeap}
 (he:evalCode P (bE P m) {fn:=f,tn:=max fn.ntmps xs.length,kind:=kd,round:=none} code {tm:=gN xs 0 .leaf,df:=[],cm,h:=h.inner}=some (ex,a))(ho:Bg P (bE P n) fn ex a=some (out,h2)):
 jm P (bE P (max m n)) kd f xs cm h=some (out,a.cm,h.outer h2):=by
 have o:=iL (iu P (Nat.le_max_left m n)) he
 unfold jm
 simp only[hfn,hb,o]
 have c:∀md,cH P (bE P n) fn a.tm a.df md a.h=some (out,h2)->mj h a.cm (cH P (bE P (max m n)) fn a.tm a.df md a.h)=some (out,a.cm,h.outer h2):=by intro md e;rw[Dk (iu P (Nat.le_max_right m n)) e];rfl
 cases ex with|normal=>exact c _ ho|ret=>exact c _ ho|panic y=>exact c _ ho|exit i=>cases ho
theorem eK.HB{w':Wd}{ob':Tr aq}{h':AHeap}{nb:Nat}{ts:List TypeId}{shs:List Sh}{r:RT (bF shs)}{v:AV}{h2:AHeap}(hf:fP nb w ob h w' ob' h')(hp:eK P w' ob' nb h' ts shs r v h2):eK P w ob nb h ts shs r v h2:=by obtain⟨w1,c,o,vs,ys,q1,q2,q3⟩:=hp;exact⟨w1,c,o,vs,ys,q1,fu.trans hf.S8 q2 hf.xw,q3⟩
theorem fP.full{nx:Nat}{w':Wd}{ob':Tr aq}{h':AHeap}(hs:ah P w ob nx h)(a:fP nx w ob h w' ob' h'):a8 w ob h w' ob' h' where
 le:=a.le
 s:=λi k e=>by
  rcases Nat.lt_or_ge i nx with q|q
  .exact a.s i k q e
  .rw[(hs.nx i q).1]at e;cases e
 next:=a.next
 floor:=a.floor
 ck:=λo h1 h2=>a.ck o h1 h2 id
 own:=a.own
 F:=a.F
 wr:=λo e=>(a.wr o e).imp id (.imp id (.imp id λe=>e.elim id False.elim))
 ea:=a.ea
 bx:=λi t cs e=>a.bx i t cs (hs.oy e) e
def QI{ρ:Type}(P:Program)(fn:Func)(c:ae)(k:SV->ae->Option ρ)(kp:TypeId->List AV->ae->Option ρ)(nb:Nat)(r:ρ)(ex:b7)(a:aD)(w:Wd)(ob:Tr aq)(nx:Nat):Prop:=a.cm=.none/\∃h2,ah P (w.heap h2.get) ob nx h2/\fu (XW a.h) nb w ob a.h (w.heap h2.get) ob h2/\((∃v y,(ex=.normal\/ex=.ret)/\cH P (bE P 0) fn a.tm a.df .ret a.h=some (.ret y,h2)/\RV P (w.heap h2.get) v y/\k v {c with ob:=ob,nx:=nx}=some r)\/∃t row y,ex=.panic y/\cH P (bE P 0) fn a.tm a.df (.aN y false) a.h=some (.aN y,h2)/\gY P t row y/\kp t row {c with ob:=ob,nx:=nx}=some r)
theorem N6{ρ:Type}{fn:Func}{c:ae}{k:SV->ae->Option ρ}{kp:TypeId->List AV->ae->Option ρ}{nb:Nat}{cx:Ctx}:l8 P nb cx (QI P fn c k kp nb) [] (qF P fn c k kp):=by
 intro ex o st w a r hs hx hr
 have hc:st.df=[]/\st.cm=.no:=by unfold qF at hr;cases ex with|exit id=>cases hr|_=>grind
 have D:gd P w [] a.df:=by have:=hs.df;grind
 have E:a.cm=.none:=by have:=hs.cm;rw[hc.2]at this;cases hq:a.cm<;>rw[hq]at this<;>first|rfl|exact this.elim
 have z:(ex=.normal\/ex=.ret)->∃vs,mJ P st fn.results.toList=some vs/\(match vs with|[v]=>k v {c with ob:=st.ob,nx:=st.nx}|vs=>k (.bC vs) {c with ob:=st.ob,nx:=st.nx})=some r:=by intro he;unfold qF at hr;rw[hc.1,hc.2]at hr;rcases he with rfl|rfl;all_goals grind
 have out:(ex=.normal\/ex=.ret)->(o=.normal\/o=.ret)->Ends P nb w st.ob a.h (QI P fn c k kp nb r) (dP P cx [] o a):=by
  intro he J
  obtain⟨vs,e1,e2⟩:=z he
  obtain⟨h2,K,I,F⟩:=zh (R:=bE P 0) (fn:=fn) (tm:=a.tm) (m:=.ret) (nb:=nb) D hs.h hs.co.1.2 hs.co.2
  obtain⟨ys,q1,q2⟩:=zg I (hs.tm.mono F.le λ_ _ e=>e) e1
  have key:∀{vs:List SV}{ys:List AV},jn P fn a.tm h2 fn.results.toList=some ys->au P (w.heap h2.get) vs ys->∃v y,kR P fn a.tm h2=some y/\RV P (w.heap h2.get) v y/\(match vs with|[v]=>k v {c with ob:=st.ob,nx:=st.nx}|vs=>k (.bC vs) {c with ob:=st.ob,nx:=st.nx})=k v {c with ob:=st.ob,nx:=st.nx}:=by intro vs ys q1 q2;cases q2 with|nil=>exact⟨.bC [],.tuple [],by unfold kR;rw[q1],.bC .nil,rfl⟩|cons a b=>cases b with|nil=>exact⟨_,_,by unfold kR;rw[q1],a,rfl⟩|cons a' b'=>exact⟨_,_,by unfold kR;rw[q1],.bC (.cons a (.cons a' b')),rfl⟩
  obtain⟨v,y,p1,p2,p3⟩:=key (q1 fn) q2;exact⟨o,a,w,st.ob,st.nx,⟨rfl,rfl⟩,hs.h,.of (.refl _ _ _),E,h2,I,F,.inl ⟨v,y,J,by rw[K];simp only[cH,p1,Option.map_some],p2,p3.symm.trans e2⟩⟩
 cases ex with|exit id=>cases hr|normal=>exact out (.inl rfl) (.inl hx.normal)|ret=>exact out (.inr rfl) (.inr hx.ret)|aN t row=>obtain⟨y,rfl,hy⟩:=hx.aN;unfold qF at hr;rw[hc.1,hc.2]at hr;obtain⟨h2,K,I,F⟩:=zh (R:=bE P 0) (fn:=fn) (tm:=a.tm) (m:=.aN y false) (nb:=nb) D hs.h hs.co.1.2 hs.co.2;exact⟨.panic y,a,w,st.ob,st.nx,⟨rfl,rfl⟩,hs.h,.of (.refl _ _ _),E,h2,I,F,.inr ⟨t,row,y,rfl,by rw[K];rfl,hy,hr⟩⟩
theorem acy{A:dr}(N:oI P A){n:Nat}(hC:fb P A (dE P A n)){ρ:Type}(f:FuncId)(args:List SV)(st:ae)(k:SV->ae->Option ρ)(kp:TypeId->List AV->ae->Option ρ)(r:ρ)(hr:(dE P A (n+1)).inl f args st k kp=some r)(w:Wd)(h:AHeap)(xs:List AV)
 (hs:ah P w st.ob st.nx h)(hx:au P w args xs):sT P w h st f xs k kp r False:=by
 simp only[dE]at hr
 split at hr
 case h_2=>cases hr
 rename_i fn hfn
 split at hr
 case h_2=>cases hr
 rename_i code hb
 split at hr
 case h_2=>cases hr
 rename_i ht
 simp only[bB,Option.isNone_iff_eq_none]at ht
 have z:ah P w st.ob st.nx h.inner:=hs.mu (λ_=>rfl) rfl
 have I:bN P {fn:=f,tn:=max fn.ntmps xs.length,kind:=.normal,round:=none} w ⟨bP args 0 .leaf,st.ob,st.nx,[],[],.no⟩ {tm:=gN xs 0 .leaf,df:=[],cm:=.none,h:=h.inner}:=⟨z,Dq hx,λ_ _ e=>(by cases e),.nil,trivial,.inl rfl,.inl rfl,⟨.inr (aC _),trivial⟩,λ_ e=>(by cases e)⟩
 have hC:fb P A.Ch (dE P A n):=⟨⟨hC.kn.none,hC.kn.some⟩,hC.call,hC.qD,hC.inl,hC.gZ⟩
 have O:∀m,ta P st.nx {fn:=f,tn:=max fn.ntmps xs.length,kind:=.normal,round:=none} (QI P fn st k kp st.nx) code (Cg P A.Ch (dE P A n) f code (qF P fn st k kp) m):=by
  intro m
  induction m with
  |zero=>exactλkey st w a r c fs h1 h2 h3=>by cases h2
  |succ m S=>
   intro key st w a r c fs h1 h2 h3
   simp only[Cg]at h2
   split at h2
   .rename_i K;exact ml hC S (Nat.le_max_left ..) ⟨rfl,hfn,hb,Nat.le_max_left ..⟩ h3 code h3 (by have:=Nat.eq_of_beq_eq_true K;omega) (λi e=>by cases e) (λi b e=>by cases e) (λ_ _ _ e=>e) (λ_ _ _ e=>e) ht.1 N6 h1 h2
   .cases h2
 have T:=jo hC (O _) (Nat.le_max_left ..) ⟨rfl,hfn,hb,Nat.le_max_left ..⟩ code (fs:=[]) (λ_ _ _ e=>e) (λi b e=>by cases e) (λ_ _ _ e=>e) ht.1 N6 I hr
 obtain⟨cP,aF,w',ob',nx',⟨U,Y,⟨m,J⟩,rfl,rfl⟩,V,hF,L,h2,M,R,hq⟩:=T
 have D:ah P (w'.heap h2.get) ob' nx' (h.outer h2):=M.mu (λ_=>rfl) rfl
 have Q:fP st.nx w st.ob h.inner (w'.heap h2.get) ob' h2:=fu.acp (X:=XW h.inner) (λo h1 h2=>by have h3:h.next<=o:=h2.1;have h4:o<h.next:=h1;omega) (fu.trans hF.S8 R hF.xw)
 have E:a8 w st.ob h (w'.heap h2.get) ob' (h.outer h2):=(Q.full z).outer
 have call:∀out,Bg P (bE P 0) fn cP aF=some (out,h2)->(bE P (max m 0+1)).call .normal f xs .none h=some (out,.none,h.outer h2):=by intro out ho;have F:=DT hfn hb J ho;rw[L]at F;show jP P (bE P (max m 0)) .normal f xs .none h=_;unfold jP;rw[N.none f ht.2];exact F
 rcases hq with⟨v,y,hex,q1,q2,q3⟩|⟨t,row,y,rfl,q1,q2,q3⟩
 .refine .inl ⟨_,_,{st with ob:=ob',nx:=nx'},_,v,y,D,E,rfl,rfl,q3,call (.ret y) ?_,q2,λe=>e.elim⟩;rcases hex with rfl|rfl<;>exact q1
 .exact .inr ⟨_,_,{st with ob:=ob',nx:=nx'},_,t,row,y,D,E,rfl,rfl,q3,call (.aN y) q1,q2⟩
def QH{α:Type}(P:Program)(cx:Ctx)(k:ae->Option α)(r:α)(ex:b7)(a:aD)(w:Wd)(ob:Tr aq)(nx:Nat):Prop:=ex=.normal/\∃st,bN P cx w st a/\st.ob=ob/\st.nx=nx/\k st=some r
theorem Qv{α:Type}{nb:Nat}{cx:Ctx}{k:ae->Option α}:l8 P nb cx (QH P cx k) [] (λex st=>match ex with|.normal=>k st|_=>none):=by intro ex c st w a r hs hx hr;cases ex with|normal=>obtain rfl:=hx.normal;exact⟨.normal,a,w,st.ob,st.nx,⟨rfl,rfl⟩,hs.h,.of (.refl _ _ _),rfl,st,hs,rfl,rfl,hr⟩|_=>cases hr
theorem abc{shs:List Sh}{nb:Nat}:FT P shs nb=λex st=>match ex with|.normal=>(match st.df with|[]=>qE P shs nb [] [] st|_=>none)|_=>none:=by funext ex st;unfold FT;grind
theorem acz{A:dr}(hKn:oI P A){n:Nat}(hC:fb P A (dE P A n)){f:FuncId}{ts:List Tmp}{bu:List SV}{aA:List aq}{shs:List Sh}{r:RT (bF shs)}(hr:(dE P A (n+1)).gZ f ts bu aA shs=some r)(hny:fj bu=true)
 {w:Wd}{h:AHeap}{l tn dd:Nat}{tm:Tr AV}{ps:List Tmp}{hd bd:Code}{ys:List AV}(hs:ah P w (bP aA 0 .leaf) aA.length h)(hg:h.get l=some (.loop .ready none f tn tm ps hd bd dd))(TW:Fu P f tn ps hd bd)(hx:au P w bu (ts.map (λt=>ev tm (.tmp t))++ys)):
 ∃m h',(bE P m).round l ys h=some (.ret (.sc (.bool true)),h')/\qB P (λ_=>False) w (bP aA 0 .leaf) aA.length h [] shs r dS h':=by
 obtain⟨fn,code,i1,i2,i3,i4⟩:=TW
 simp only[dE,i1,i2]at hr
 split at hr
 case h_2=>cases hr
 rename_i ps' s7 bd' J
 split at hr
 case h_2=>cases hr
 rename_i lj hok Z
 simp only[bB]at hok
 rw[i4.find (Nat.eq_of_beq_eq_true hok.1.1)]at J
 cases J
 have hts:∀{w0:Wd},eQ P w0 .leaf tm:=⟨λt v e=>by simp[Tr.get]at e⟩
 have T:au P w (bu.drop ts.length) ys:=by have:=hx.drop ts.length;rwa[List.drop_left' (by simp)]at this
 obtain⟨bY,p1,p2⟩:=Mv i3 Z T (zf hx hts)
 have gF:HA P {fn:=f,tn:=tn,kind:=.normal,round:=some l} f fn code:=⟨rfl,i1,i2,i3⟩
 have Ix:bN P {fn:=f,tn:=tn,kind:=.normal,round:=some l} w ⟨lj,bP aA 0 .leaf,aA.length,[],[],.gZ⟩ {tm:=bY,df:=[],cm:=.none,h:=h}:=⟨hs,p2,λ_ _ e=>(by cases e),.nil,trivial,.inr rfl,.inr (.inl rfl),⟨.inl rfl,trivial⟩,λ_ e=>(by cases e)⟩
 have hJ:∀{α:Type}(Q:α->b7->aD->Wd->Tr aq->Nat->Prop)(c:Code),ta P aA.length {fn:=f,tn:=tn,kind:=.normal,round:=some l} Q c (λ_ _=>none):=λQ c key st w a r c fs h1 h2 h3=>by cases h2
 have sb1:∀qs x y,dn hd qs x y->dn hd qs x y:=λ_ _ _ e=>e
 have lift:∀{c qs x y},(c=hd\/c=bd)->dn c qs x y->dn code qs x y:=by
  intro c qs x y e1 e2
  have R:∀{c0:Code}{q:List Tmp}{u v:Code},dn c0 q u v->(dn u qs x y\/dn v qs x y)->dn c0 qs x y:=by intro c0 q u v X;induction X with|here=>intro e;exact e.elim .hd .bd|hd _ z=>exactλe=>.hd (z e)|bd _ z=>exactλe=>.bd (z e)|lY _ z=>exactλe=>.lY (z e)|j8 _ z=>exactλe=>.j8 (z e)|lQ _ z=>exactλe=>.lQ (z e)|lR _ z=>exactλe=>.lR (z e)|blk _ z=>exactλe=>.blk (z e)|loop _ z=>exactλe=>.loop (z e)|scope _ z=>exactλe=>.scope (z e)
  rcases e1 with rfl|rfl
  .exact R i4 (.inl e2)
  .exact R i4 (.inr e2)
 have hE:=jo (nb:=aA.length) (Q:=QH P _ _) hC (hJ _ hd) i3 gF hd (fs:=[]) (λ_ _ _ e=>e) (λi b e=>by cases e) (λ_ _ _ e=>lift (.inl rfl) e) hok.1.2 Qv Ix hr
 obtain⟨cP,aF,w1,ob1,nx1,⟨ex1,a1,⟨m1,aix⟩,rfl,rfl⟩,O,Uz,hex,M,o,rfl,rfl,E⟩:=hE
 subst hex
 unfold R5 at E
 simp only at E
 split at E
 case h_2=>cases E
 rename_i aiy aiz
 have I:aF.h.get l=some (.loop .ready none f tn tm ps hd bd dd):=by rw[<-O.g];exact Uz.le.l l _ (by rw[hs.g];exact hg) rfl
 have K:M.cm=.gZ:=o.rn.resolve_left (by simp)
 let lb:cr:=.loop .busy none f tn tm ps hd bd dd
 have hS2:=O.FB (y:=lb) I rfl
 have hc2:=Eg (y:=lb) O I rfl
 have hT2:eQ P (w1.heap (aF.h.aU l lb).get) (mI (ts++ps++qw hd) ((ts++ps++qw hd).map λt=>bH M.tm (.tmp t)) .leaf) aF.tm:=by refine zf (ys:=[]) ?_ ⟨λt v e=>by simp[Tr.get]at e⟩;rw[List.append_nil];exact au.kL hc2 (λ_ _ e=>e) aiy (au.map _ λt _=>fe o.tm _)
 have Y:bN P {fn:=f,tn:=tn,kind:=.normal,round:=some l} (w1.heap (aF.h.aU l lb).get) {M with tm:=mI (ts++ps++qw hd) ((ts++ps++qw hd).map λt=>bH M.tm (.tmp t)) .leaf,al:=[]} {aF with h:=aF.h.aU l lb}:=by refine⟨hS2,hT2,λ_ _ e=>(by cases e),o.df.NX aiz,o.cm,.inr K,.inr (.inl K),⟨.inl K,o.co.1.2⟩,λd e=>?_⟩;obtain⟨c1,c2⟩:=o.co.2 d e;exact⟨c1,by rw[ff (by rintro rfl;rw[I]at c2;cases c2)];exact c2⟩
 rw[abc]at E
 have hE2:=jo (nb:=aA.length) (Q:=QH P _ _) hC (hJ _ bd) i3 gF bd (fs:=[]) (λ_ _ _ e=>e) (λi b e=>by cases e) (λ_ _ _ e=>lift (.inr rfl) e) hok.2 Qv Y E
 obtain⟨akE,L,w3,ob3,nx3,⟨ex2,a2,⟨m2,aiA⟩,rfl,rfl⟩,U,UA,aiB,S,akF,rfl,rfl,D⟩:=hE2
 subst aiB
 have N:L.h.get l=some lb:=by rw[<-U.g];exact UA.le.l l _ (show(aF.h.aU l lb).get l=_ from pI) rfl
 let V:cr:=.loop .ready none f tn tm ps hd bd dd
 have hS4:=U.FB (y:=V) N rfl
 have rh:fP aA.length w (bP aA 0 .leaf) h (w3.heap (L.h.aU l V).get) S.ob (L.h.aU l V):=((((jf.of Uz).trans (jf.aU (y:=lb) O I rfl)).trans (jf.of UA)).trans (jf.aU (y:=V) U N rfl)).full (funext hs.g) rfl hg rfl pI
 simp only at D
 split at D
 case h_2=>cases D
 unfold qE at D
 simp only at D
 split at D
 case h_2=>cases D
 rename_i F;simp only[bB]at F;refine⟨max m1 m2+1,L.h.aU l V,?_,w3.heap (L.h.aU l V).get,S.ob,S.nx,[],[],hS4,rh,.nil,rfl,F.1,F.2,D⟩;show pO P (bE P (max m1 m2)) l ys h=_;unfold pO;rw[hg];simp only[p1,iL (iu P (Nat.le_max_left m1 m2)) aix,I];have e2:=iL (iu P (Nat.le_max_right m1 m2)) aiA;simp only[lb]at e2 N;simp only[e2,ry,N];rfl
theorem N7(P:Program)(A:dr)(o:oI P A):∀n,fb P A (dE P A n)/\N1 P A (dE P A n)
 |0=>⟨⟨o,λ_ _ _ _ _ _ e=>(by cases e),λ_ _ _ _ _ _ _ e=>(by cases e),λ_ _ _ _ _ _ e=>(by cases e),λ_ _ _ _ _ _ e=>(by cases e)⟩,λ_ _ _ _ _ _ _ _ _ e=>(by cases e)⟩
 |n+1=>by
  obtain⟨hC,hJ⟩:=N7 P A o n
  refine⟨⟨o,λf args aA shs psh r hr w h xs hs hx=>?_,λf md args aA shs b r hr w h xs cm hs hx hm=>?_,λf args st k kp r hr w h xs hs hx=>acy o hC f args st k kp r hr w h xs hs hx,λf ts bu aA shs r hr Q hok w h l tn dd tm ps hd bd ys hs hg S hx=>acz o hC hr Q hs hg S hx⟩,λf key shs psh nb qT aA df r hr=>?_⟩
  .simp only[dE]at hr
   split at hr
   case h_2=>cases hr
   rename_i fn hfn
   split at hr
   case h_2=>cases hr
   rename_i code hb
   split at hr
   case h_2=>cases hr
   rename_i ht
   simp only[bB,Option.isNone_iff_eq_none]at ht
   have z:bN P {fn:=f,tn:=max fn.ntmps xs.length,kind:=.normal,round:=none} w ⟨bP args 0 .leaf,bP aA 0 .leaf,aA.length,[],[],.no⟩ {tm:=gN xs 0 .leaf,df:=[],cm:=.none,h:=h.inner}:=⟨hs.mu (λ_=>rfl) rfl,Dq hx,λ_ _ e=>(by cases e),.nil,trivial,.inl rfl,.inl rfl,⟨.inr (aC _),trivial⟩,λ_ e=>(by cases e)⟩
   have F:ta P aA.length {fn:=f,tn:=max fn.ntmps xs.length,kind:=.normal,round:=none} (QC P fn shs psh aA.length (A.pn f)) code (sq P A (dE P A n) f shs psh aA.length):=λkey st w a r c fs h1 h2 h3=>Mu hJ h1 h2 hfn hb h3 (Nat.le_max_left ..) rfl
   have X:=jo hC F (Nat.le_max_left ..) ⟨rfl,hfn,hb,Nat.le_max_left ..⟩ code (fs:=[]) (λ_ _ _ e=>e) (λi b e=>by cases e) (λ_ _ _ e=>e) ht.1 (N5 hC) z hr
   obtain⟨cP,aF,w',ob',nx',⟨Y,a1,⟨m,J⟩,rfl,rfl⟩,hS,hF,E,K,out,h2,ho,hq⟩:=X
   have I:=DT hfn hb J ho
   rw[E]at I
   have h3:(bE P (max m K+1)).call .normal f xs .none h=some (out,.none,h.outer h2):=by show jP P (bE P (max m K)) .normal f xs .none h=_;unfold jP;rw[o.none f ht.2];exact I
   exact⟨max m K+1,fn,h2,hfn,hq.imp (λ_⟨y,e1,e2⟩=>⟨y,by rw[<-e1];exact h3,e2.HB hF⟩) λ_ _ _⟨y,e1,e2,e3⟩=>⟨y,by rw[<-e1];exact h3,e2,e3.HB hF⟩⟩
  .simp only[dE]at hr
   split at hr
   case h_2=>cases hr
   rename_i fn hfn
   split at hr
   case h_2=>cases hr
   rename_i code hb
   have O:dW fn.ntmps code=true/\fh P A (dE P A n) f (λ_ _=>none) none code ⟨bP args 0 .leaf,bP aA 0 .leaf,aA.length,[],[],md⟩ (Bu P shs aA.length fn md)=some (b,r):=by cases ht:dW fn.ntmps code with|false=>rw[ht]at hr;cases hr|true=>rw[ht]at hr;cases md<;>first|(cases hr;done)|exact⟨rfl,hr⟩
   obtain⟨ht,hr⟩:=O
   have z:bN P {fn:=f,tn:=max fn.ntmps xs.length,kind:=.deferred,round:=none} w ⟨bP args 0 .leaf,bP aA 0 .leaf,aA.length,[],[],md⟩ {tm:=gN xs 0 .leaf,df:=[],cm:=cm,h:=h.inner}:=⟨hs.mu (λ_=>rfl) rfl,Dq hx,λ_ _ e=>(by cases e),.nil,hm,.inl rfl,.inr (.inr rfl),⟨.inr (aC _),trivial⟩,λ_ e=>(by cases e)⟩
   have F:ta P aA.length {fn:=f,tn:=max fn.ntmps xs.length,kind:=.deferred,round:=none} (QD P fn shs aA.length md) code (λ_ _=>none):=λkey st w a r c fs h1 h2 h3=>by cases h2
   have X:=jo hC F (Nat.le_max_left ..) ⟨rfl,hfn,hb,Nat.le_max_left ..⟩ code (fs:=[]) (λ_ _ _ e=>e) (λi b e=>by cases e) (λ_ _ _ e=>e) ht abb z hr;obtain⟨cP,aF,w',ob',nx',⟨Y,a1,⟨m,J⟩,rfl,rfl⟩,hS,hF,E,K,y,h2,ho,hq⟩:=X;have I:=DT hfn hb J ho;exact⟨max m K+1,fn,y,h2,_,hfn,I,E,hq.HB hF⟩
  .simp only[dE]at hr
   split at hr
   case h_2=>cases hr
   rename_i fn hfn
   split at hr
   case h_2=>cases hr
   rename_i code hb
   split at hr
   case h_2=>cases hr
   rename_i ts L
   split at hr
   case h_2=>cases hr
   rename_i hok;simp only[bB]at hok;have Z:=Nat.eq_of_beq_eq_true hok.2;refine⟨fn,code,ts,hfn,hb,L,λc fs D w a cx hs ht U E N T R V M gE=>?_⟩;have z:bN P cx w ⟨rY ts qT,bP aA 0 .leaf,aA.length,[],df,.no⟩ a:=⟨hs,ht,λ_ _ e=>(by cases e),U,by rw[E];trivial,.inl N,.inl rfl,⟨.inr T,R⟩,V⟩;have F:ta P nb cx (QC P fn shs psh nb (A.pn f)) code (sq P A (dE P A n) f shs psh nb):=λkey st w a r c fs h1 h2 h3=>Mu hJ h1 h2 hfn hb h3 gE M;exact ml hC F gE ⟨M,hfn,hb,gE⟩ D code D (by omega) (λi e=>by cases e) (λi b e=>by cases e) (λ_ _ _ e=>e) (λ_ _ _ e=>e) hok.1 (N5 hC) z hr
theorem abd(hP:ProgOK P)(c:sk P)(o:oI P A){n:Nat}{f:FuncId}{args:List SV}{aA:List aq}{shs psh:List Sh}{r:AT (A.pn f) (bF shs) (bF psh)}(hr:(dE P A n).call f args aA shs psh=some r){xs:List AV}(hs:ah P w (bP aA 0 .leaf) aA.length h)(hx:au P w args xs):∃fn h',P.funcs[f]?=some fn/\iH (A.pn f) r (λr=>∃y,fc P f xs h (.ret y) (h.outer h')/\eK P w (bP aA 0 .leaf) aA.length h.inner fn.resultTypes.toList shs r y h') (λt row b=>∃y,fc P f xs h (.aN y) (h.outer h')/\gY P t row y/\eK P w (bP aA 0 .leaf) aA.length h.inner [] psh b dS h'):=by obtain⟨m,fn,h',q1,q2⟩:=(N7 P A o n).1.call f args aA shs psh r hr w h xs hs hx;exact⟨fn,h',q1,q2.imp (λ_⟨y,a,b⟩=>⟨y,(Ea hP c m).call _ _ _ _ _ _ a,b⟩) λ_ _ _⟨y,a,b⟩=>⟨y,(Ea hP c m).call _ _ _ _ _ _ a,b⟩⟩
def w00S:Wd:={g:=λ_=>none,F:=λ_=>False,s:=λ_=>none}
theorem aiC:ah P w00S (bP [] 0 .leaf) 0 h0 where
 g:=λ_=>rfl
 box:=λ_ _ _ e=>by cases e
 arr:=λ_ _ _ _ e=>by cases e
 bh:=λ_ _ _ e=>by cases e
 inj:=λ_ _ _ _ _ _ _ e=>by cases e
 lt:=λ_ _ _ e=>by cases e
 nx:=λ_ _=>⟨rfl,rfl⟩
 bU:=λ_ e=>e.elim
 new:=λ_ _=>rfl
 mp:=λ_ _ _ _ e=>by cases e
 tr:=λ_ _ _ _ e=>by cases e
theorem iH.ret{l m:List LT}:∀{p:Bool}{a:AT p l m}{r:RT l}{Q:RT l->Prop}{Q':TypeId->List AV->RT m->Prop},iH p a Q Q'->iH p a (λx=>x=r) (λ_ _ _=>False)->Q r|false,_,_,_,_,h,e=>by have e:_=_:=e;subst e;exact h|true,.ret _,_,_,_,h,e=>by have e:_=_:=e;subst e;exact h|true,.aN _ _ _,_,_,_,_,e=>False.elim e
theorem Yp(hP:ProgOK P)(c:sk P)(o:oI P A){n:Nat}{f:FuncId}{args:List SV}{shs psh:List Sh}{r:AT (A.pn f) (bF shs) (bF psh)}(hr:(dE P A n).call f args [] shs psh=some r){r0:RT (bF shs)}(hq:iH (A.pn f) r (λx=>x=r0) (λ_ _ _=>False)){xs:List AV}(hx:au P w00S args xs):∃fn y h',P.funcs[f]?=some fn/\fc P f xs h0 (.ret y) h'/\∃w' ob' nx' vs ys,ah P w' ob' nx' h'/\au P w' vs ys/\y=(vY ys)/\mK P fn.resultTypes.toList vs=true/\b9 P ob' shs (kx P fn.resultTypes.toList vs)=some r0:=by obtain⟨fn,h',q1,q2⟩:=abd hP c o hr aiC hx;obtain⟨y,q2,w',ob',nx',vs,ys,p1,p2,p3,D,F,z,E⟩:=q2.ret hq;refine⟨fn,y,_,q1,q2,w',ob',nx',vs,ys,p1.mu (λ_=>rfl) rfl,p3,D,z,?_⟩;have:mh ob' (upto ([]:List aq).length)=[]:=rfl;grind
end
end Go.AI
end

section
namespace Go.AI
variable [Kn]
section
variable {P:Program}{A:dr}
theorem Lh(hP:ProgOK P)(z:sk P)(D:oI P A){n:Nat}{f:FuncId}{args:List SV}{b:Bool}{r:AT (A.pn f) (bF [.bool]) []}(hr:(dE P A n).call f args [] [.bool] []=some r)(hq:iH (A.pn f) r (λx=>x=b) (λ_ _ _=>False)){xs:List AV}(hx:au P w00S args xs){t:TypeId}(o:∀fn,P.funcs[f]?=some fn->fn.resultTypes.toList=[t])(hag:ep P t=some false):
 ∃h',fc P f xs h0 (.ret (.sc (.bool b))) h':=by
 obtain⟨fn,y,h',q1,q2,w',ob',nx',vs,ys,q3,q4,rfl,q5,q6⟩:=Yp hP z D hr hq hx
 rw[o fn q1]at q5 q6
 refine⟨h',?_⟩
 have hy:vY ys=.sc (.bool b):=by
  cases q4 with
  |nil=>cases q5
  |@cons v x c E a rest=>
   have hl:c=[]:=by cases c with|nil=>rfl|cons u us=>simp[mK]at q5
   subst hl;cases rest;simp only[kx,hag]at q6;have q6:b9 P ob' (.bool::[]) (v::[])=some b:=q6;obtain⟨b',r',rfl,_,h2⟩:=Lc q6;cases a;have:b=b':=h2;rw[this];rfl
 grind
end
end Go.AI
end
