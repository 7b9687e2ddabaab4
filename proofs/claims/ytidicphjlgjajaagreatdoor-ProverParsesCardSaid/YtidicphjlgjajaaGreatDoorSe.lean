/-
  A part of the proof: SvDraw SvReg SvCut SvRng SvCode SvTop SvUse KnA.
-/
import Derived.Test.YtidicphjlgjajaaGreatDoorSd
import Derived.Test.YtidicphjlgjajaaGreatDoorAe
set_option linter.all false

section
namespace Go.AI
variable [Kn]
section
variable {P:Program}{w w':Wd}{ob ay:Tr au}{nx:Nat}{h h':AHeap}{st:af}{a:aD}{ρ:Type}{A:dX}{R:eD A.pn}{cx:Ctx}
theorem xZ(h:AHeap)(o:Nat):∀(ids:List Nat),o∈ids->(∀p,h.next<=p->h.get p=none)->(fP h ids).get o=h.get o
 |[],hm,_=>by cases hm
 |p::ids,hm,hn=>by
  have rest:o∉ids->o=p:=λe=>(List.mem_cons.1 hm).resolve_right e
  unfold fP
  split
  .split
   .rename_i x hx
    by_cases e:o=p
    .subst e;rw[Tr.bS,hx]
    .rw[Tr.a8 _ _ e];exact xZ h o ids ((List.mem_cons.1 hm).resolve_left e) hn
   .rename_i hx
    by_cases e:o∈ids
    .exact xZ h o ids e hn
    .have:=rest e;subst this;rw[hx];cases hg:(fP h ids).get o with|none=>rfl|some y=>exact absurd (xT h ids o y hg).1 e
  .rename_i b
   by_cases e:o∈ids
   .exact xZ h o ids e hn
   .have:=rest e;subst this;rw[hn o (by omega)];cases hg:(fP h ids).get o with|none=>rfl|some y=>exact absurd (xT h ids o y hg).1 e
theorem nC{o:Oper}{x:Operand}(hx:x∈o.op.operands.toList):eG (tmpsOf o) a.tm x=ev a.tm x:=by
 cases x with
 |tmp t=>
  have:(tmpsOf o).contains t=true:=by simp only[List.contains_iff_mem,tmpsOf,List.mem_filterMap];exact⟨.tmp t,hx,rfl⟩
  simp only[eG,this,if_true]|_=>rfl
theorem QN(v:Value):mF (bn v)=[]:=by cases v<;>rfl
theorem SQ{o:Oper}{tm:Tr AV}(hs:aj P w ob nx h)(hl:kD o.op=true){x:Operand}(hx:x∈o.op.operands.toList):mA h {h with ck:=fP h (dQ o tm)} (eG (tmpsOf o) tm x):=by
 intro p hp
 show(fP h (dQ o tm)).get p=h.get p
 refine xZ h p _ ?_ hs.new
 cases x with
 |tmp t=>
  have b:t∈tmpsOf o:=by simp only[tmpsOf,List.mem_filterMap];exact⟨.tmp t,hx,rfl⟩
  have:(tmpsOf o).contains t=true:=by simpa using b
  simp only[eG,this,if_true]at hp;unfold dQ;rw[if_pos hl];exact List.mem_flatMap.2 ⟨t,b,hp⟩|const v=>simp only[eG,ev,QN]at hp;cases hp|global g=>cases hp|func f=>cases hp
theorem bl.outer(hf:bl w ob h.inner w' ay h'):bl w ob h w' ay (h.outer h'):=
 ⟨hf.le,hf.s,hf.next,rfl,hf.cb,hf.own,hf.F,λo e=>by
  rcases CE e with e|e
  .exact .inl e
  .rcases hf.wr o e with e|e
   .cases e
   .exact .inr e,λe=>CW e,hf.bx⟩
def mC(h:AHeap)(a n:Nat):Prop:=n<=h.next/\∀o,a<=o->o<n->h.get o=none
theorem mC.aw{a n:Nat}(hf:mC h a n)(hs:aj P w ob nx h)(hr:bl w ob h w' ay h'):mC h' a n:=by refine⟨Nat.le_trans hf.1 hr.next,λo h1 h2=>?_⟩;rw[hr.cb o (Nat.lt_of_lt_of_le h2 hf.1) λ⟨j,k,e,c,b⟩=>hs.there e c b (hf.2 o h1 h2)];exact hf.2 o h1 h2
def vu(w:Wd)(rf:List (Nat×Nat))(i:Nat)(ids:List Nat):Prop:=∃d k o,(i,d)∈rf/\w.s d=some k/\k.obj=some o/\ids=[o]
structure j8(b:List Nat)(w:Wd)(n:Nat)(k:dx)(es fs:List Nat)(rf:List (Nat×Nat)):Prop where
 lf:∀i ids,(i,ids)∈k.fs->i<n/\(ids=[]\/i∈fs\/vu w rf i ids)
 lc:∀i ids,(i,ids)∈k.fs->∀p,p∈ids->w.g p≠none/\¬Lp w.g p
 le:∀j wr,(j,wr)∈k.es->j<n/\((∀p,p∈wr->Lp w.g p)\/j∈es)ok:∀i ids j wr,(i,ids)∈k.fs->i∉fs->(j,wr)∈k.es->i<j->(b.getD j 0).testBit i=true\/∀o,o∈ids->o∉wr
theorem vu.mono{rf b:List (Nat×Nat)}{i:Nat}{ids:List Nat}(hl:vu w rf i ids)(hs:∀i k,w.s i=some k->w'.s i=some k)(hr:∀p,p∈rf->p∈b):vu w' b i ids:=let⟨d,k,o,h1,h2,h3,h4⟩:=hl;⟨d,k,o,hr _ h1,hs _ _ h2,h3,h4⟩
theorem E5(hl:bA w w'){p:Nat}(h:Lp w.g p):Lp w'.g p:=let⟨x,e,i⟩:=h;⟨x,hl.l p x e i,i⟩
theorem MV(hl:bA w w'){p:Nat}(h:w.g p≠none/\¬Lp w.g p):w'.g p≠none/\¬Lp w'.g p:=⟨(hl.n p h.1).1,λe=>h.2 ((hl.n p h.1).2 e)⟩
theorem j8.mono{b:List Nat}{n n':Nat}{k:dx}{es fs:List Nat}{rf:List (Nat×Nat)}(hb:j8 b w n k es fs rf)(hl:bA w w')(hs:∀i k,w.s i=some k->w'.s i=some k)(hn:n<=n'):j8 b w' n' k es fs rf:=⟨λi ids e=>⟨Nat.lt_of_lt_of_le (hb.lf i ids e).1 hn,(hb.lf i ids e).2.imp id (.imp id λh=>h.mono hs λ_ h=>h)⟩,λi ids e p q=>MV hl (hb.lc i ids e p q),λj wr e=>⟨Nat.lt_of_lt_of_le (hb.le j wr e).1 hn,(hb.le j wr e).2.imp (λh p q=>E5 hl (h p q)) id⟩,hb.ok⟩
theorem Um{b:List Nat}{n:Nat}{k:dx}{es fs:List Nat}{rf:List (Nat×Nat)}(hb:j8 b w n k es fs rf)(hs:zU b fs es rf=true):oE b k=true:=by
 unfold oE
 rw[List.all_eq_true]
 rintro⟨i,ids⟩hi
 rw[List.all_eq_true]
 rintro⟨j,wr⟩hj
 simp only[Bool.or_eq_true]
 rcases(hb.le j wr hj).2 with h1|h2
 .right;rw[List.all_eq_true];intro o ho;simp only[Bool.not_eq_true',List.contains_eq_mem,decide_eq_false_iff_not];exactλe=>(hb.lc i ids hi o ho).2 (h1 o e)
 unfold zU at hs
 rw[List.all_eq_true]at hs
 have hs:=hs j h2
 rw[aX,List.all_eq_true,List.all_eq_true]at hs
 by_cases c:i∈fs
 .have:=hs.1 i c;simp only[Bool.or_eq_true]at this;exact .inl this
 rcases(hb.lf i ids hi).2 with rfl|h1|⟨d,_,_,h1,_⟩
 .exact .inr (by simp)
 .exact absurd h1 c
 .have:=hs.2 _ h1
  simp only[Bool.or_eq_true]at this
  rcases this with(h3|h3)|h3
  .rcases hb.ok i ids j wr hi c hj (by simpa[Nat.blt_eq]using h3)with h4|h4
   .exact .inl (.inr h4)
   .right;rw[List.all_eq_true];intro o ho;simpa using h4 o ho
  .exact .inl (.inl h3)
  .exact .inl (.inr h3)
theorem aj.aaf(hs:aj P w ob nx h){i:Nat}(hi:i<nx):aj P w (ob.put i .gone) nx h:=by
 have c:∀j x,x≠.gone->(ob.put i .gone).get j=some x->ob.get j=some x:=by
  intro j x hx hj
  by_cases e:j=i
  .subst e;rw[Tr.bS]at hj;cases hj;exact absurd rfl hx
  .rw[Tr.a8 _ _ e]at hj;exact hj
 have f:∀j,live (ob.put i .gone) j->live ob j:=λj⟨x,h1,h2⟩=>⟨x,c j x h2 h1,h2⟩;refine⟨hs.g,λj t cs e=>hs.box j t cs (c _ _ (by simp) e),λj t rows l e=>hs.arr j t rows l (c _ _ (by simp) e),λj s l e=>hs.aK j s l (c _ _ (by simp) e),λa b k l o h1 h2=>hs.inj a b k l o (f _ h1) (f _ h2),hs.lt,?_,hs.cW,hs.new⟩;intro j hj;exact⟨(hs.nx j hj).1,by rw[Tr.a8 _ _ (by omega)];exact(hs.nx j hj).2⟩
theorem uX{i:Nat}{o:Nat}(ho:Ow w (ob.put i .gone) o):∃j k,j≠i/\live ob j/\w.s j=some k/\k.obj=some o:=by
 obtain⟨j,k,⟨x,h1,h2⟩,h3,h4⟩:=ho
 have e:j≠i:=by rintro rfl;rw[Tr.bS]at h1;cases h1;exact h2 rfl
 rw[Tr.a8 _ _ e]at h1;exact⟨j,k,e,⟨x,h1,h2⟩,h3,h4⟩
theorem aj.L5{bU:Nat}(hs:aj P w ob nx h){i:Nat}{t:TypeId}{cs:List SV}(hi:ob.get i=some (.box t cs))(b:aj P w' ay bU h')(hf:bl w (ob.put i .gone) h w' ay h'):
 aj P w' (ay.put i (.box t cs)) bU h'/\bl w ob h w' (ay.put i (.box t cs)) h':=by
 obtain⟨o,c,sh,L,X,W,V,U⟩:=hs.box i t cs hi
 have I:live ob i:=⟨_,hi,by simp⟩
 have C:o<h.next:=hs.lt i _ o L rfl
 have B:¬Ow w (ob.put i .gone) o:=λe=>by obtain⟨j,k,n,m,v,K⟩:=uX e;exact n (hs.inj j i k _ o m I v L K rfl)
 have G:¬Ow w' ay o:=λe=>(hf.own o e).elim (λe=>absurd C (by omega)) B
 have q:w'.s i=some (.box o c.length):=hf.s _ _ L
 have M:dn P w' h' i (.box t cs):=(hs.jP hi).move hf.le hf.s λk o' h1 h2=>by rw[L]at h1;cases h1;cases h2;exact⟨hf.cb o C B,λf=>(hf.F o f).elim id λe=>e.elim (λe=>absurd C (by omega)) λe=>absurd e B⟩
 have z:∀j x,(ay.put i (.box t cs)).get j=some x->dn P w' h' j x:=by
  intro j x hx
  by_cases e:j=i
  .subst e;rw[Tr.bS]at hx;cases hx;exact M
  .rw[Tr.a8 _ _ e]at hx;exact b.jP hx
 have u:∀j,j≠i->live (ay.put i (.box t cs)) j->live ay j:=λj e⟨x,h1,h2⟩=>⟨x,by rw[Tr.a8 _ _ e]at h1;exact h1,h2⟩
 have J:∀j k p,j≠i->live (ay.put i (.box t cs)) j->w'.s j=some k->k.obj=some p->p≠o:=λj k p n m v K S=>G ⟨j,k,u j n m,v,by rw[K,S]⟩
 refine⟨⟨b.g,λj t cs e=>z j _ e,λj t rows l e=>z j _ e,λj s l e=>z j _ e,?_,b.lt,?_,b.cW,b.new⟩,⟨hf.le,hf.s,hf.next,hf.floor,?_,?_,?_,?_,hf.et,?_⟩⟩
 .intro j1 j2 k l p h1 h2 h3 h4 O N
  by_cases n:j1=i
  .by_cases m:j2=i
   .rw[n,m]
   .subst n;rw[q]at h3;cases h3;cases O;exact absurd rfl (J j2 l _ m h2 h4 N)
  .by_cases m:j2=i
   .subst m;rw[q]at h4;cases h4;cases N;exact absurd rfl (J j1 k _ n h1 h3 O)
   .exact b.inj j1 j2 k l p (u _ n h1) (u _ m h2) h3 h4 O N
 .intro j hj
  have e:j≠i:=by rintro rfl;rw[(b.nx j hj).1]at q;cases q
  exact⟨(b.nx j hj).1,by rw[Tr.a8 _ _ e];exact(b.nx j hj).2⟩
 .intro p hp hn;exact hf.cb p hp λe=>by obtain⟨j,k,_,m,v,K⟩:=uX e;exact hn ⟨j,k,m,v,K⟩
 .rintro p⟨j,k,n,m,v⟩
  by_cases e:j=i
  .subst e;rw[q]at m;cases m;cases v;exact .inr ⟨j,_,I,L,rfl⟩
  .rcases hf.own p ⟨j,k,u j e n,m,v⟩with h1|h1
   .exact .inl h1
   .obtain⟨E,D,_,h2,h3,h4⟩:=uX h1;exact .inr ⟨E,D,h2,h3,h4⟩
 .intro p f
  rcases hf.F p f with h1|h1|h1
  .exact .inl h1
  .exact .inr (.inl h1)
  .obtain⟨E,D,_,h2,h3,h4⟩:=uX h1;exact .inr (.inr ⟨E,D,h2,h3,h4⟩)
 .intro p e
  rcases hf.wr p e with h1|h1|h1|h1
  .exact .inl h1
  .exact .inr (.inl h1)
  .obtain⟨E,D,_,h2,h3,h4⟩:=uX h1;exact .inr (.inr (.inl ⟨E,D,h2,h3,h4⟩))
  .exact .inr (.inr (.inr h1))
 .intro j t1 Q e
  by_cases n:j=i
  .subst n;rw[hi]at e;cases e;exact⟨cs,Tr.bS ..⟩
  .obtain⟨T,h1⟩:=hf.bx j t1 Q (by rw[Tr.a8 _ _ n];exact e);exact⟨T,by rw[Tr.a8 _ _ n];exact h1⟩
def WrH(w:Wd)(ob:Tr au)(h:AHeap)(H:List Nat)(h':AHeap):Prop:=∀p,p∈h'.wr->p∈h.wr\/h.next<=p\/(∃i k,i∉H/\live ob i/\w.s i=some k/\k.obj=some p)\/Lp h.get p
def OpH(P:Program)(A:dX)(H:List Nat)(w:Wd)(h:AHeap)(S:af)(o:Oper)(k:SV->af->Option ρ)(kp:TypeId->List AV->af->Option ρ)(r:ρ)(cx:Ctx)(cm:bo)(aI:Operand->AV):Prop:=(∃m w' b h' v y,aj P w' b.ob b.nx h'/\bl w S.ob h w' b.ob h'/\b.tm=S.tm/\b.r=S.r/\k v b=some r/\dc P (br P m) cx aI o cm h=some (.val y cm h')/\RV P w' v y/\(H=[]->iX A S o=true->EK h h')/\WrH w S.ob h H h')\/(∃m w' b h' t row y,aj P w' b.ob b.nx h'/\bl w S.ob h w' b.ob h'/\b.tm=S.tm/\b.r=S.r/\kp t row b=some r/\dc P (br P m) cx aI o cm h=some (.aB y h')/\ia P t row y)
theorem JA(hR:gr P A R){o:Oper}{aI:Operand->AV}{r:ρ}(cx:Ctx)(cm:bo):∀(H:List Nat){S:af}{k:SV->af->Option ρ}{kp:TypeId->List AV->af->Option ρ},aj P w S.ob S.nx h->(∀x,x∈o.op.operands.toList->RV P w (bK S.tm x) (aI x))->
 s5 H S (λst k kp=>iD P A R kp o st k) k kp=some r->OpH P A H w h S o k kp r cx cm aI/\∀j,j∈H->live S.ob j
 |[],S,k,kp,hs,c,hr=>by
  refine⟨?_,λj e=>by cases e⟩
  rcases L4 hR hs c hr cx cm with⟨m,w',f,h',v,y,q1,q2,q3,u,q,n,l,I⟩|h1
  .exact .inl ⟨m,w',f,h',v,y,q1,q2,q3,u,q,n,l,λ_=>I,λp e=>(q2.wr p e).imp id (.imp id (.imp (λ⟨i,k,b,g,D⟩=>⟨i,k,by simp,b,g,D⟩) id))⟩
  .exact .inr h1
 |j::js,S,k,kp,hs,c,hr=>by
  unfold s5 at hr
  split at hr
  .rename_i t cs hj
   have B:=hs.tj hj
   have C:live S.ob j:=⟨_,hj,by simp⟩
   obtain⟨h1,h2⟩:=JA hR cx cm js (S:={S with ob:=S.ob.put j .gone}) (hs.aaf B) c hr
   have z:∀i,live (S.ob.put j .gone) i->i≠j/\live S.ob i:=λi⟨x,b,g⟩=>by
    have e:i≠j:=by rintro rfl;rw[Tr.bS]at b;cases b;exact g rfl
    rw[Tr.a8 _ _ e]at b;exact⟨e,x,b,g⟩
   refine⟨?_,λi e=>by
    rcases List.mem_cons.1 e with rfl|e
    .exact C
    .exact(z i (h2 i e)).2⟩
   rcases h1 with⟨m,w',f,h',v,y,q1,q2,q3,u,q,n,l,_,G⟩|⟨m,w',f,h',t',row,y,q1,q2,q3,u,q,n,l⟩
   .obtain⟨F,E⟩:=hs.L5 hj q1 q2
    refine .inl ⟨m,w',{f with ob:=f.ob.put j (.box t cs)},h',v,y,F,E,q3,u,q,n,l,(λe=>by cases e),λp e=>?_⟩
    rcases G p e with e|e|⟨i,k,b,g,D,L⟩|e
    .exact .inl e
    .exact .inr (.inl e)
    .obtain⟨K,J⟩:=z i g;exact .inr (.inr (.inl ⟨i,k,by simp[b,K],J,D,L⟩))
    .exact .inr (.inr (.inr e))
   .obtain⟨F,E⟩:=hs.L5 hj q1 q2;exact .inr ⟨m,w',{f with ob:=f.ob.put j (.box t cs)},h',t',row,y,F,E,q3,u,q,n,l⟩
  .cases hr
theorem JB:∀{L:List Nat}{x:Nat},o3 L x=true->x∈L
 |[],_,h=>by cases h
 |y::ys,x,h=>by
  simp only[o3,Bool.or_eq_true]at h
  rcases h with h|h
  .rw[Nat.eq_of_beq_eq_true h];exact List.mem_cons_self ..
  .exact List.mem_cons_of_mem _ (JB h)
theorem Dr{b:List Nat}{j:Nat}:∀{l:List (Nat×Nat)}{acc:List Nat},(∀d,d∈acc->d∈oT b j l acc)/\∀i d,(i,d)∈l->(b.getD j 0).testBit i=true\/d∈oT b j l acc
 |[],acc=>⟨λ_ e=>e,λ_ _ e=>by cases e⟩
 |(i,o)::l,acc=>by
  unfold oT
  split
  .rename_i hc
   obtain⟨h1,h2⟩:=Dr (b:=b) (j:=j) (l:=l) (acc:=acc)
   refine⟨h1,λc d e=>?_⟩
   rcases List.mem_cons.1 e with e|e
   .cases e;rw[Bool.or_eq_true]at hc;exact hc.imp id λe=>h1 _ (JB e)
   .exact h2 c d e
  .obtain⟨h1,h2⟩:=Dr (b:=b) (j:=j) (l:=l) (acc:=o::acc)
   refine⟨λd e=>h1 d (List.mem_cons_of_mem _ e),λc d e=>?_⟩
   rcases List.mem_cons.1 e with e|e
   .cases e;exact .inr (h1 _ (List.mem_cons_self ..))
   .exact h2 c d e
theorem xF{ops:Array Oper}{o:Oper}{rest:List Oper}{i aL:Nat}{bk:dx}{c:Rec}(hw:cE ops o a.tm=some true){b:dx}{mK:Nat}{a':aD}
 (h:(a6 o.op=true/\mK=aL+1/\b=bk/\∃v x,aU P (eG (tmpsOf o) a.tm) o {ck:=.leaf,next:=aL,floor:=0,wr:=[]}=some (.val v,{ck:=Tr.leaf.put aL x,next:=aL+1,floor:=0,wr:=[]})/\({a with h:={a.h with ck:=a.h.ck.put aL x}}:aD).put cx.tn o.dst v=some a')\/(a6 o.op=false/\bT o.op=true/\mK=aL/\b={bk with fs:=(i,dQ o a.tm)::bk.fs}/\∃v,aU P (eG (tmpsOf o) a.tm) o {a.h with ck:=fP a.h (dQ o a.tm)}=some (.val v,{a.h with ck:=fP a.h (dQ o a.tm)})/\a.put cx.tn o.dst v=some a')\/(a6 o.op=false/\bT o.op=false/\mK=aL/\∃v cm h',b={bk with es:=(i,h'.wr)::bk.es}/\dc P c cx (eG (tmpsOf o) a.tm) o .none a.h.inner=some (.val v cm h')/\({a with h:=a.h.outer h'}:aD).put cx.tn o.dst v=some a')):
 eJ P c cx ops (o::rest) i aL bk a=eJ P c cx ops rest (i+1) mK b a':=by
 rw[eJ]
 simp only[hw]
 rcases h with⟨h1,rfl,rfl,v,x,h2,h3⟩|⟨h1,h2,rfl,rfl,v,h3,h4⟩|⟨h1,h2,rfl,v,cm,h',rfl,h3,h4⟩
 .simp only[h1,if_true,h2];have:({ck:=Tr.leaf.put aL x,next:=aL+1,floor:=0,wr:=[]}:AHeap).get aL=some x:=Tr.bS ..;simp only[this,if_true,h3]
 .simp only[h1,h2,if_true,h3,h4];simp
 .simp only[h1,h2,h3,h4];simp
theorem G9{ops:Array Oper}{o:Oper}{rest:List Oper}{i:Nat}{b:List Nat}{c:Rec}(hw:cE ops o a.tm=some true)(h1:a6 o.op=false)(h2:bT o.op=true){v:AV}{a':aD}(h3:aU P (eG (tmpsOf o) a.tm) o {a.h with ck:=fP a.h (dQ o a.tm)}=some (.val v,{a.h with ck:=fP a.h (dQ o a.tm)}))(h4:a.put cx.tn o.dst v=some a'):ff P c cx ops b (o::rest) i a=ff P c cx ops b rest (i+1) a':=by rw[ff];simp only[hw,h1,h2,if_true,h3,h4];simp
def pq(st:af)(o:Oper)(i:Nat)(fs:List Nat):List Nat:=match bT o.op&&kD o.op,o6 st o with|true,none=>i::fs|_,_=>fs
def oZ(st:af)(o:Oper)(i:Nat)(rf:List (Nat×Nat)):List (Nat×Nat):=match bT o.op&&kD o.op,o6 st o with|true,some j=>(i,j)::rf|_,_=>rf
theorem Qk(hs:bQ P cx w st a){o:Oper}{j:Nat}(hj:o6 st o=some j)(hl:kD o.op=true):∃k p,w.s j=some k/\k.obj=some p/\dQ o a.tm=[p]:=by
 unfold o6 at hj
 split at hj
 .rename_i t x b
  split at hj
  .rename_i c off hx
   cases hj
   have hr:=gv hs.tm x
   rw[hx]at hr
   cases x with
   |tmp d=>
    generalize hy:ev a.tm (.tmp d)=y at hr
    cases hr with
    |ref h1=>
     refine⟨_,_,h1,rfl,?_⟩
     unfold dQ
     rw[if_pos hl]
     have:tmpsOf o=[d]:=by unfold tmpsOf;rw[b];rfl
     rw[this];simp only[List.flatMap_cons,List.flatMap_nil,hy,mF,List.append_nil]
   |const v=>
    exfalso
    simp only[bK]at hx
    cases v with
    |func fn l i=>cases fn with|func e=>simp only[ib]at hx;split at hx<;>cases hx|_=>cases hx
    |_=>cases hx
   |global g=>cases hx|func f=>cases hx
  .cases hj
 .cases hj
def Seen(ob:Tr au):SV->Prop|.ref i _=>live ob i|.own i=>live ob i|.dU i _ _=>live ob i|.dN _ _ _=>True|.dl _ _=>True|.sc _=>True|_=>False
theorem SR(hs:aj P w ob nx h){v:SV}{x:AV}(hv:RV P w v x)(hk:Seen ob v):∀p,p∈mF x->w.g p≠none/\¬Lp w.g p:=by
 have own:∀{i:Nat}{k:Lk}{o:Nat},live ob i->w.s i=some k->k.obj=some o->w.g o≠none/\¬Lp w.g o:=λh1 h2 h3=>by have:=hs.qX h1 h2 h3;rw[show w.g=h.get from funext hs.g];exact⟨hs.there h1 h2 h3,this⟩
 have b:∀{o v mv fz:Nat}{c:List AV}{el:TypeId}{ex sh:Bool},w.g o=some (.cells v mv c fz el ex sh)->w.g o≠none/\¬Lp w.g o:=λe=>⟨by rw[e];simp,by rintro⟨x,l,m⟩;rw[e]at l;cases l;cases m⟩
 cases v with
 |sc v=>cases hv;intro p hp;cases hp
 |dl t rows=>cases hv with|dl hr=>cases hr with|sl _ _ _ f _ _ _ _ _ _=>intro p hp;rw[List.mem_singleton.1 hp];exact b f|_=>intro p hp;cases hp
 |own i=>cases hv with|dh _=>intro p hp;cases hp|cG e=>intro p hp;rw[List.mem_singleton.1 hp];exact own hk e rfl
 |ref i o=>cases hv with|ref e=>intro p hp;rw[List.mem_singleton.1 hp];exact own hk e rfl
 |dU i j o=>cases hv with|dU e _=>intro p hp;rw[List.mem_singleton.1 hp];exact own hk e rfl
 |dN t r o=>cases hv with|dN hp=>cases hp with|cH _=>intro p hp;cases hp|ref _ f _ _ _ _ _=>intro p hp;rw[List.mem_singleton.1 hp];exact b f
 |_=>exact hk.elim
theorem RD{kp:TypeId->List AV->af->Option ρ}{o:Oper}{k:af->Option ρ}{r:ρ}(hr:mQ P A R kp o st k=some r)(hF:bT o.op=true)(hl:kD o.op=true):∀x,x∈o.op.operands.toList->Seen st.ob (bK st.tm x):=by
 unfold mQ at hr
 have lv:∀{i:Nat}{x:au},st.ob.get i=some x->x≠.gone->live st.ob i:=λh1 h2=>⟨_,h1,h2⟩
 have h1:iD P A R kp o st (λv st=>k (fu st o.dst v))=some r:=by
  split at hr
  .rename_i h;rw[h]at hl;cases hl
  .rename_i h;rw[h]at hl;cases hl
  .rename_i h;rw[h]at hl;cases hl
  .split at hr
   .cases hr
   .exact hr
 clear hr
 unfold iD at h1
 cases m:o.op with
 |load t x=>
  rw[m]at h1
  intro y hy
  have:y=x:=by simpa[Op.operands]using hy
  subst this
  simp only[vy]at h1
  split at h1
  .rename_i i off _ _ g
   rw[g]
   split at h1
   .rename_i hb;exact lv hb (by simp)
   .cases h1
  .rename_i g;rw[g];trivial
  .rename_i i j off _ _ g
   rw[g]
   split at h1
   .rename_i hb;exact lv hb (by simp)
   .cases h1
  .cases h1
 |convert s d x=>
  rw[m]at h1
  intro y hy
  have:y=x:=by simpa[Op.operands]using hy
  subst this
  simp only at h1
  split at h1
  .rename_i g;rw[g];trivial
  .rename_i g;rw[g];trivial
  .rename_i g;rw[g];trivial
  .rename_i i off g
   rw[g]
   split at h1
   .rename_i hb _ _;exact lv hb (by simp)
   .rename_i hb _ _;exact lv hb (by simp)
   .cases h1
  .rename_i i g
   rw[g]
   split at h1
   .rename_i hb;exact lv hb (by simp)
   .cases h1
  .cases h1
 |lookup=>rw[m]at h1;cases h1
 |call c=>
  rw[m]at h1 hF
  obtain⟨callee,args,q⟩:=c
  cases callee with
  |invoke _ _=>cases hF
  |value f=>cases hF
  |builtin b=>
   simp only at h1
   intro y hy
   have hy:y∈args.toList:=by simpa[Op.operands,Call.operands]using hy
   generalize p:args.toList=l at h1 hy
   have one:∀{x:SV},l.map (bK st.tm)=[x]->bK st.tm y=x:=by
    intro x e
    cases l with
    |nil=>cases e
    |cons z zs=>
     cases zs with
     |cons _ _=>cases e
     |nil=>have:y=z:=by simpa using hy
           subst this;simpa using e
   unfold x3 at h1
   split at h1
   .cases hF
   .rename_i x hx
    rw[one hx]
    split at h1
    .rename_i n t hn _
     unfold nM at hn
     split at hn
     .trivial
     .trivial
     .split at hn
      .rename_i hb;exact lv hb (by simp)
      .rename_i hb;exact lv hb (by simp)
      .cases hn
     .trivial
     .cases hn
    .cases h1
   .rename_i i hx
    rw[one hx]
    split at h1
    .rename_i hb;exact lv hb (by simp)
    .cases h1
   .rename_i hx;rw[one hx];trivial
   .cases hF
   .cases hF
   .cases h1
 |_=>rw[m]at hl;cases hl
theorem VD{ops:Array Oper}{w0:Wd}{fc:Tr au}{h0:AHeap}{n1 i aL:Nat}{es fs:List Nat}{rf:List (Nat×Nat)}{bk:dx}{b:List Nat}{o:Oper}(N:(a6 o.op||bT o.op)=true)(hs:bQ P cx w st a)(hd:jF cx.tn o.dst)(J:bl w0 fc h0 w st.ob a.h)(Z:h0.next<=aL)
 (l:mC a.h aL n1)(Y:a6 o.op=true->aL<n1)(hb:j8 b w i bk es fs rf){k:af->Option ρ}{r:ρ}(hr:mQ P A R (λ_ _ _=>none) o st k=some r)(hw:cE ops o a.tm=some true):
 ∃w' ah a' B,(∀m rest,eJ P m cx ops (o::rest) i aL bk a=eJ P m cx ops rest (i+1) (if a6 o.op then aL+1 else aL) B a')/\(a6 o.op=false->∀m rest,ff P m cx ops b (o::rest) i a=ff P m cx ops b rest (i+1) a')/\bQ P cx w' ah a'/\bl w0 fc h0 w' ah.ob a'.h/\mC a'.h (if a6 o.op then aL+1 else aL) n1/\j8 b w' (i+1) B es (pq st o i fs) (oZ st o i rf)/\k ah=some r:=by
 have K:∀x,x∈o.op.operands.toList->RV P w (bK st.tm x) (eG (tmpsOf o) a.tm x):=λx hx=>by rw[nC hx];exact gv hs.tm x
 have O:bT o.op=true->j8 b w (i+1) {bk with fs:=(i,dQ o a.tm)::bk.fs} es (pq st o i fs) (oZ st o i rf):=by
  intro hF
  have dC:∀(bR:List Nat)(C:List (Nat×Nat)),(∀j,j∈fs->j∈bR)->(∀p,p∈rf->p∈C)->(dQ o a.tm=[]\/i∈bR\/vu w C i (dQ o a.tm))->(∀p,p∈dQ o a.tm->w.g p≠none/\¬Lp w.g p)->j8 b w (i+1) {bk with fs:=(i,dQ o a.tm)::bk.fs} es bR C:=by
   intro bR C h1 h2 h3 h4
   refine⟨λj ids e=>?_,λj ids e=>(List.mem_cons.1 e).elim (λe=>by cases e;exact h4) (hb.lc j ids),λj wr e=>⟨Nat.lt_succ_of_lt (hb.le j wr e).1,(hb.le j wr e).2⟩,λj ids j2 wr e1 e2 e3 e4=>?_⟩
   .rcases List.mem_cons.1 e with e|e
    .cases e;exact⟨Nat.lt_succ_self _,h3⟩
    .exact⟨Nat.lt_succ_of_lt (hb.lf j ids e).1,(hb.lf j ids e).2.imp id (.imp (h1 j) λh=>h.mono (λ_ _ h=>h) h2)⟩
   .rcases List.mem_cons.1 e1 with e|e
    .cases e;have:=(hb.le j2 wr e3).1;omega
    .exact hb.ok j ids j2 wr e (λh=>e2 (h1 j h)) e3 e4
  unfold pq oZ
  rw[hF,Bool.true_and]
  cases hl:kD o.op with
  |false=>exact dC _ _ (λ_ h=>h) (λ_ h=>h) (.inl (by unfold dQ;rw[hl];rfl)) (λp hp=>by unfold dQ at hp;rw[hl]at hp;cases hp)
  |true=>
   have E:∀p,p∈dQ o a.tm->w.g p≠none/\¬Lp w.g p:=by
    intro p hp
    unfold dQ at hp
    rw[if_pos hl]at hp
    obtain⟨t,h1,h2⟩:=List.mem_flatMap.1 hp
    simp only[tmpsOf,List.mem_filterMap]at h1
    obtain⟨x,h3,h4⟩:=h1
    have hx:x=.tmp t:=by cases x<;>simp_all
    subst hx;exact SR hs.h (gv hs.tm _) (RD hr hF hl _ h3) p h2
   cases hj:o6 st o with|none=>exact dC _ _ (λ_ h=>List.mem_cons_of_mem _ h) (λ_ h=>h) (.inr (.inl (List.mem_cons_self ..))) E|some j=>obtain⟨k',p,h1,h2,h3⟩:=Qk hs hj hl;exact dC _ _ (λ_ h=>h) (λ_ h=>List.mem_cons_of_mem _ h) (.inr (.inr ⟨j,k',p,List.mem_cons_self ..,h1,h2,h3⟩)) E
 have mv:∀(x:Operand)(q:af),x∈o.op.operands.toList->bT o.op=true->a6 o.op=false->bQ P cx w q a->(∀h:AHeap,aU P (eG (tmpsOf o) a.tm) o h=some (.val (ev a.tm x),h))->q.ob=st.ob->k (kJ q o.dst x)=some r->
  ∃w' ah a' B,(∀m rest,eJ P m cx ops (o::rest) i aL bk a=eJ P m cx ops rest (i+1) (if a6 o.op then aL+1 else aL) B a')/\(a6 o.op=false->∀m rest,ff P m cx ops b (o::rest) i a=ff P m cx ops b rest (i+1) a')/\bQ P cx w' ah a'/\bl w0 fc h0 w' ah.ob a'.h/\
  mC a'.h (if a6 o.op then aL+1 else aL) n1/\j8 b w' (i+1) B es (pq st o i fs) (oZ st o i rf)/\k ah=some r:=by
  intro x q hx hF hA V he W hk
  obtain⟨a',q1,q2,q3⟩:=Jz (n:=cx.tn) (x:=x) V hd
  have L:(kJ q o.dst x).ob=q.ob:=by
   unfold kJ fu
   simp only
   split
   .split
    .cases o.dst<;>rfl
    .cases o.dst<;>rfl
   .cases o.dst<;>rfl
  exact⟨w,_,a',{bk with fs:=(i,dQ o a.tm)::bk.fs},λm rest=>xF hw (.inr (.inl ⟨hA,hF,by rw[hA];rfl,rfl,_,he _,q1⟩)),λ_ m rest=>G9 hw hA hF (he _) q1,q2,by rw[q3,L,W];exact J,by rw[q3,hA];exact l,O hF,hk⟩
 unfold mQ at hr
 split at hr
 .rename_i x f
  have hx:x∈o.op.operands.toList:=by rw[f];simp[Op.operands]
  exact mv x st hx (by rw[f];rfl) (by rw[f];rfl) hs (λh=>by simp only[aU,f,nC hx]) rfl hr
 .rename_i x f
  have hx:x∈o.op.operands.toList:=by rw[f];simp[Op.operands]
  exact mv x st hx (by rw[f];rfl) (by rw[f];rfl) hs (λh=>by simp only[aU,f,nC hx]) rfl hr
 .rename_i c x y f
  have hF:bT o.op=true:=by rw[f];rfl
  have hA:a6 o.op=false:=by rw[f];rfl
  have hc:c∈o.op.operands.toList:=by rw[f];simp[Op.operands]
  have hx:x∈o.op.operands.toList:=by rw[f];simp[Op.operands]
  have hy:y∈o.op.operands.toList:=by rw[f];simp[Op.operands]
  split at hr
  .rename_i d
   split at hr
   .rename_i t ht
    have I:=yq hs ht
    have u:eG (tmpsOf o) a.tm (.tmp d)=.sc (.bool t):=by rw[nC hc];simp only[ev,I]
    rcases l0 hr with⟨rfl,hr⟩|⟨rfl,hr⟩
    .exact mv x _ hx hF hA (kz hs I) (λh=>by simp only[aU,f];rw[u,nC hx];rfl) rfl hr
    .exact mv y _ hy hF hA (kz hs I) (λh=>by simp only[aU,f];rw[u,nC hy];rfl) rfl hr
   .cases hr
  .rename_i t
   have u:eG (tmpsOf o) a.tm (.const (.bool t))=.sc (.bool t):=rfl
   cases t
   .exact mv y st hy hF hA hs (λh=>by simp only[aU,f];rw[u,nC hy];rfl) rfl hr
   .exact mv x st hx hF hA hs (λh=>by simp only[aU,f];rw[u,nC hx];rfl) rfl hr
  .cases hr
 .split at hr
  .cases hr
  .have D:∀(S':af)(v:SV),(fu S' o.dst v).ob=S'.ob:=λS' v=>by cases o.dst<;>rfl
   cases hA:a6 o.op with
   |true=>
    obtain⟨F,G,obj,y,v,x,lk,q1,q2,q3,T,Q,S,q7,q8⟩:=(KI hs.h K hA hr).ok
    have z:=Y hA
    obtain⟨w',c1,c2,c3,c4,c5⟩:=KJ (h':={a.h with ck:=a.h.ck.put aL obj}) (a:=aL) q1 q2 q3 S q7 q8 (l.2 aL (ak _) z) (Nat.lt_of_lt_of_le z l.1) (Tr.bS ..) (λo e=>Tr.a8 _ _ e) (ak _)
     (λo ho=>by
      have X:a.h.next<=o:=ho
      have:o≠aL:=by have:=l.1;omega
      show(a.h.ck.put aL obj).get o=none;rw[Tr.a8 _ _ this];exact hs.h.new o X) rfl rfl J Z
    have U:bQ P cx w' {st with ob:=G.put st.nx x,nx:=st.nx+1} {a with h:={a.h with ck:=a.h.ck.put aL obj}}:=⟨c1,hs.tm.mono c3 c4,hs.al,hs.df.mono c3 c4,hs.cm,hs.rn,hs.kd,hs.co.1,λd e=>⟨(hs.co.2 d e).1,by show(a.h.ck.put aL obj).get d=_;rw[Tr.a8 _ _ (by rintro rfl;have:=(hs.co.2 _ e).2;rw[l.2 _ (ak _) z]at this;cases this)];exact(hs.co.2 d e).2⟩⟩
    obtain⟨a',p1,p2,p3⟩:=lz (n:=cx.tn) U c5 hd
    have M:bT o.op=false:=by cases f:o.op<;>rw[f]at hA<;>simp_all[a6,bT]
    refine⟨w',_,a',bk,λm rest=>xF hw (.inl ⟨hA,by simp,rfl,_,_,T _,p1⟩),(λe=>by cases e),p2,by rw[p3,D];exact c2,?_,?_,Q⟩
    .rw[p3];refine⟨l.1,λp h1 h2=>?_⟩;have h1:aL+1<=p:=h1;show(a.h.ck.put aL obj).get p=none;rw[Tr.a8 _ _ (by omega)];exact l.2 p (by omega) h2
    .have e1:pq st o i fs=fs:=by unfold pq;rw[M];rfl
     have e2:oZ st o i rf=rf:=by unfold oZ;rw[M];rfl
     rw[e1,e2];exact hb.mono c3 c4 (Nat.le_succ _)
   |false=>
    have hF:bT o.op=true:=by rw[hA,Bool.false_or]at N;exact N
    obtain⟨F,G,q1,q2,q3,v,y,T,Q,S⟩:=Jr (h1:={a.h with ck:=fP a.h (dQ o a.tm)}) hs.h K (λhl x hx=>SQ hs.h hl hx) hF hr;obtain⟨a',p1,p2,p3⟩:=lz (n:=cx.tn) (hs.step (ah:={st with ob:=G}) q1 (.cv q2 q3) rfl rfl) S hd;exact⟨_,_,a',{bk with fs:=(i,dQ o a.tm)::bk.fs},λm rest=>xF hw (.inr (.inl ⟨hA,hF,rfl,rfl,_,Q,p1⟩)),λ_ m rest=>G9 hw hA hF Q p1,p2,by rw[p3,D];exact J.trans (.cv q2 q3),by rw[p3];exact l,(O hF).mono (bA.more _ _) (λ_ _ h=>h) (ak _),T⟩
theorem VE(hR:gr P A R){ops:Array Oper}{w0:Wd}{fc:Tr au}{h0:AHeap}{n1 i aL:Nat}{es fs:List Nat}{rf:List (Nat×Nat)}{bk:dx}{b:List Nat}{o:Oper}(hA:a6 o.op=false)(hF:bT o.op=false)(hs:bQ P cx w st a)(hd:jF cx.tn o.dst)(G:bl w0 fc h0 w st.ob a.h)
 (C:mC a.h aL n1)(hb:j8 b w i bk es fs rf){k:SV->af->Option ρ}{kp:TypeId->List AV->af->Option ρ}{r:ρ}(hr:s5 (match iX A st o with|true=>[]|false=>oT b i rf []) st (λst k kp=>iD P A R kp o st k) k kp=some r)(hw:cE ops o a.tm=some true):
 (∃m w' c v a' I,(∀J,m<=J->∀rest,eJ P (br P J) cx ops (o::rest) i aL bk a=eJ P (br P J) cx ops rest (i+1) aL I a')/\bQ P cx w' (fu c o.dst v) a'/\bl w0 fc h0 w' (fu c o.dst v).ob a'.h/\mC a'.h aL n1/\j8 b w' (i+1) I (match iX A st o with|true=>es|false=>i::es) fs rf/\k v c=some r)\/
 (∃m w' c h' t row y,dc P (br P m) cx (eG (tmpsOf o) a.tm) o .none a.h.inner=some (.aB y h')/\bQ P cx w' {c with tm:=.leaf,al:=[]} {a with tm:=.leaf,h:=a.h.outer h'}/\bl w0 fc h0 w' c.ob (a.h.outer h')/\kp t row c=some r/\ia P t row y):=by
 have Q:∀x,x∈o.op.operands.toList->RV P w (bK st.tm x) (eG (tmpsOf o) a.tm x):=λx hx=>by rw[nC hx];exact gv hs.tm x
 have E:∀(c:af)(v:SV),(fu c o.dst v).ob=c.ob:=λc v=>by cases o.dst<;>rfl
 have S:aj P w st.ob st.nx a.h.inner:=hs.h.nt (λ_=>rfl) rfl
 obtain⟨h1,u⟩:=JA hR cx .none _ S Q hr
 rcases h1 with⟨m,w',c,h',v,y,q1,q2,q3,O,N,M,L,V,U⟩|⟨m,w',c,h',t,row,y,q1,q2,q3,O,N,M,L⟩
 .have z:aj P w' c.ob c.nx (a.h.outer h'):=q1.nt (λ_=>rfl) rfl
  obtain⟨a',p1,p2,p3⟩:=lz (n:=cx.tn) (hs.step z q2.outer q3 O) L hd
  refine .inl ⟨m,w',c,v,a',{bk with es:=(i,h'.wr)::bk.es},λJ hm rest=>?_,p2,by rw[p3,E];exact G.trans q2.outer,by rw[p3];exact C.aw hs.h q2.outer,?_,N⟩
  .exact xF hw (.inr (.inr ⟨hA,hF,rfl,_,_,_,rfl,yn (jX P hm) M,p1⟩))
  .have B:iX A st o=true->∀p,p∈h'.wr->Lp w.g p:=by
    intro hp p hm
    have h1:=V (by rw[hp]) hp
    have D:=q2.et (λ_ e=>by cases e) p hm
    rw[q2.floor]at D
    have D:p<a.h.next:=D
    rcases h1 p hm with e|e|e
    .cases e
    .have e:a.h.next<=p:=e;omega
    .rw[show w.g=a.h.get from funext hs.h.g];exact e
   refine⟨λj ids e=>⟨Nat.lt_succ_of_lt (hb.lf j ids e).1,(hb.lf j ids e).2.imp id (.imp id λh=>h.mono q2.s λ_ h=>h)⟩,λj ids e p q=>MV q2.le (hb.lc j ids e p q),λj wr e=>?_,λj ids j2 wr K D e3 e4=>?_⟩
   .rcases List.mem_cons.1 e with e|e
    .cases e;refine⟨Nat.lt_succ_self _,?_⟩;cases hp:iX A st o with|true=>exact .inl λp e=>E5 q2.le (B hp p e)|false=>exact .inr (List.mem_cons_self ..)
    .refine⟨Nat.lt_succ_of_lt (hb.le j wr e).1,(hb.le j wr e).2.imp (λh p q=>E5 q2.le (h p q)) λe=>?_⟩;cases iX A st o with|true=>exact e|false=>exact List.mem_cons_of_mem _ e
   .rcases List.mem_cons.1 e3 with e|e
    .cases e
     cases hp:iX A st o with
     |true=>exact .inr λp h1 h2=>(hb.lc j ids K p h1).2 (B hp p h2)
     |false=>
      rw[hp]at U u
      rcases(hb.lf j ids K).2 with rfl|h1|⟨d,k1,o1,h1,h2,h3,rfl⟩
      .exact .inr λ_ e=>by cases e
      .exact absurd h1 D
      .rcases(Dr (b:=b) (j:=i) (l:=rf) (acc:=[])).2 j d h1 with h4|h4
       .exact .inl h4
       .right
        intro p F T
        rw[List.mem_singleton]at F;subst F
        rcases U p T with e|e|⟨W,k',e5,Z,Y,X⟩|e
        .cases e
        .have:p<a.h.next:=hs.h.lt d _ p h2 h3;have e:a.h.next<=p:=e;omega
        .exact e5 (by rw[hs.h.inj W d _ _ p Z (u d h4) Y h2 X h3];exact h4)
        .refine(hb.lc j _ K p (List.mem_singleton.2 rfl)).2 ?_;rw[show w.g=a.h.get from funext hs.h.g];exact e
    .exact hb.ok j ids j2 wr K D e e4
 .have z:aj P w' c.ob c.nx (a.h.outer h'):=q1.nt (λ_=>rfl) rfl;have f:=hs.step z q2.outer q3 O;refine .inr ⟨m,w',c,h',t,row,y,M,?_,G.trans q2.outer,N,L⟩;exact⟨z,⟨λt v e=>by simp[Tr.get]at e⟩,(λ_ _ e=>by cases e),f.df,f.cm,f.rn,f.kd,f.co⟩
end
end Go.AI
end

section
namespace Go.AI
variable [Kn]
section
variable {P:Program}{w w':Wd}{st:af}{a:aD}{ρ:Type}{A:dX}{R:eD A.pn}{cx:Ctx}{kp:TypeId->List AV->af->Option ρ}
theorem QO{ops:Array Oper}{o:Oper}{rest:List Oper}{i aL:Nat}{bk:dx}{b:Rec}(hw:cE ops o a.tm=some false){a':aD}(h:a.put cx.tn o.dst dZ=some a'):eJ P b cx ops (o::rest) i aL bk a=eJ P b cx ops rest (i+1) (if a6 o.op then aL+1 else aL) bk a':=by rw[eJ];simp only[hw,h]
theorem QP{ops:Array Oper}{o:Oper}{rest:List Oper}{i:Nat}{b:List Nat}{e:Rec}(hw:cE ops o a.tm=some false)(c:(a6 o.op||bT o.op)=true){a':aD}(h:a.put cx.tn o.dst dZ=some a'):ff P e cx ops b (o::rest) i a=ff P e cx ops b rest (i+1) a':=by rw[ff];simp only[hw,h,c,if_true]
theorem JC{n:Nat}{d:Option Tmp}(h:jF n d):vx n d=true:=by cases d with|none=>rfl|some d=>exact ax h
theorem JD{n:Nat}{b:List Nat}{i:Nat}:∀{l:List Oper}{k:Nat},waits b i l k=true->(∀o,o∈l->jF n o.dst)->sf n b i l k=true|[],_,_,_=>rfl|o::l,k,h,hd=>by simp only[waits,aX]at h;simp only[sf,aX];exact⟨⟨h.1,JC (hd o (List.mem_cons_self ..))⟩,JD h.2 λo e=>hd o (List.mem_cons_of_mem _ e)⟩
def E6(P:Program)(cx:Ctx)(ops:Array Oper)(b:List Nat)(w0:Wd)(fc:Tr au)(h0:AHeap)(l:List Oper)(i aL:Nat)(g:Bool)(bk:dx)(a:aD)(k:List Nat->List Nat->List (Nat×Nat)->af->Option ρ)(kp:TypeId->List AV->af->Option ρ)(r:ρ):Prop:=(∃m w' ah a' f n' e bR c,eJ P (br P m) cx ops l i aL bk a=some (f,a')/\bQ P cx w' ah a'/\bl w0 fc h0 w' ah.ob a'.h/\j8 b w' n' f e bR c/\k e bR c ah=some r)\/(∃m w' ah a' t row y,g=true/\ff P (br P m) cx ops b l i a=some (.panic y,a')/\bQ P cx w' ah a'/\bl w0 fc h0 w' ah.ob a'.h/\kp t row ah=some r/\ia P t row y)
theorem yu(hR:gr P A R){ops:Array Oper}{b:List Nat}{k:List Nat->List Nat->List (Nat×Nat)->af->Option ρ}{r:ρ}{w0:Wd}{fc:Tr au}{h0:AHeap}{n1:Nat}:∀{l:List Oper}{i aL:Nat}{D:Bool}{es fs:List Nat}{rf:List (Nat×Nat)}{w:Wd}{st:af}{a:aD}{bk:dx},bQ P cx w st a->(∀o,o∈l->jF cx.tn o.dst)->
 bl w0 fc h0 w st.ob a.h->h0.next<=aL->aL+gf l<=n1->mC a.h aL n1->j8 b w i bk es fs rf->jI P A R kp ops b l i D es fs rf st k=some r->E6 P cx ops b w0 fc h0 l i aL D bk a k kp r
 |[],i,aL,D,es,fs,rf,w,st,a,bk,hs,_,F,_,_,_,hb,hr=>.inl ⟨0,w,{st with al:=[]},a,bk,i,es,fs,rf,rfl,⟨hs.h,hs.tm,λ_ _ e=>(by cases e),hs.df,hs.cm,hs.rn,hs.kd,hs.co⟩,F,hb,hr⟩
 |o::rest,i,aL,D,es,fs,rf,w,st,a,bk,hs,hd,F,ha0,q,u,hb,hr=>by
  have W:=hd o (List.mem_cons_self ..)
  have V:∀o,o∈rest->jF cx.tn o.dst:=λo e=>hd o (List.mem_cons_of_mem _ e)
  have z:(if a6 o.op then aL+1 else aL)+gf rest<=n1:=by simp only[gf]at q;cases e:a6 o.op with|true=>rw[e]at q;simp at q⊢;omega|false=>rw[e]at q;simp at q⊢;omega
  have Z:a6 o.op=true->aL<n1:=by intro e;simp only[gf,e,if_true]at q;omega
  have X:h0.next<=(if a6 o.op then aL+1 else aL):=by split<;>omega
  have run:∀(c:af),c.ob=st.ob->bQ P cx w c a->cE ops o a.tm=some true->(match a6 o.op||bT o.op with
   |true=>mQ P A R (λ_ _ _=>none) o c λah=>(match bT o.op&&kD o.op,o6 c o with|true,some j=>jI P A R kp ops b rest (i+1) (D&&!a6 o.op) es fs ((i,j)::rf) ah k|true,none=>jI P A R kp ops b rest (i+1) (D&&!a6 o.op) es (i::fs) rf ah k|false,_=>jI P A R kp ops b rest (i+1) (D&&!a6 o.op) es fs rf ah k)
   |false=>match uE c.tm o.op.operands.toList with|true=>none|false=>s5 (match iX A c o with|true=>[]|false=>oT b i rf []) c (λst k kp=>iD P A R kp o st k) (λv ah=>jI P A R kp ops b rest (i+1) false (match iX A c o with|true=>es|false=>i::es) fs rf (fu ah o.dst v) k) (λt row ah=>match D&&waits b i rest (i+1)with|true=>kp t row {ah with tm:=.leaf,al:=[]}|false=>none))=some r->E6 P cx ops b w0 fc h0 (o::rest) i aL D bk a k kp r:=by
   intro c T S hw C
   split at C
   .rename_i B
    obtain⟨w1,Om,a2,bk2,q1,q0,q2,q3,Y,q5,q6⟩:=VD (i:=i) (bk:=bk) (n1:=n1) (cx:=cx) B S W (by rw[T];exact F) ha0 u Z hb C hw
    have q7:jI P A R kp ops b rest (i+1) (D&&!a6 o.op) es (pq c o i fs) (oZ c o i rf) Om k=some r:=by unfold pq oZ;rw[<-q6];cases bT o.op&&kD o.op<;>cases o6 c o<;>rfl
    rcases yu hR q2 V q3 X z Y q5 q7 with⟨m,L,g,O,K,n3,J,I,E,N,M,r3,r4,r5⟩|⟨m,L,g,O,t,row,y,Q,N,M⟩
    .exact .inl ⟨m,L,g,O,K,n3,J,I,E,by rw[q1];exact N,M,r3,r4,r5⟩
    .rw[aX,Bool.not_eq_true']at Q;exact .inr ⟨m,L,g,O,t,row,y,Q.1,by rw[q0 Q.2];exact N,M⟩
   .rename_i B
    rw[Bool.or_eq_false_iff]at B
    split at C
    .cases C
    rcases VE (i:=i) (bk:=bk) (n1:=n1) (cx:=cx) hR B.1 B.2 S W (by rw[T];exact F) u hb C hw with⟨m,w1,S1,v,a2,bk2,q1,q2,q3,Y,q5,q6⟩|⟨m,w1,S1,h1,t,row,y,q1,q2,q3,Y,q5⟩
    .rw[B.1]at z X
     rcases yu hR q2 V q3 X z Y q5 q6 with⟨m',L,g,O,K,n3,J,I,E,N,M,r3,r4,r5⟩|⟨m,L,g,O,t,row,y,Q,N,M⟩
     .refine .inl ⟨max m m',L,g,O,K,n3,J,I,E,?_,M,r3,r4,r5⟩;rw[q1 _ (Nat.le_max_left ..)];exact rJ (jX P (Nat.le_max_right ..)) N
     .cases Q
    .split at Y
     .rename_i hc;rw[aX]at hc;refine .inr ⟨m,w1,_,_,t,row,y,hc.1,?_,q2,q3,Y,q5⟩;rw[ff];simp only[hw,B.1,B.2,q1,JD hc.2 V,JC W];simp
     .cases Y
  have skip:∀(c:af),c.ob=st.ob->bQ P cx w c a->cE ops o a.tm=some false->jI P A R kp ops b rest (i+1) (D&&(a6 o.op||bT o.op)) es fs rf (fu c o.dst (.aR [])) k=some r->E6 P cx ops b w0 fc h0 (o::rest) i aL D bk a k kp r:=by
   intro c T S hw C
   obtain⟨a2,p1,p2,p3⟩:=lz (n:=cx.tn) (v:=.aR []) (x:=dZ) S (.aR .nil) W
   have aag:(fu c o.dst (.aR [])).ob=st.ob:=by rw[<-T];cases o.dst<;>rfl
   have U:mC a2.h (if a6 o.op then aL+1 else aL) n1:=by rw[p3];refine⟨u.1,λp h1 h2=>u.2 p ?_ h2⟩;split at h1<;>omega
   rcases yu hR p2 V (by rw[aag,p3];exact F) X z U (hb.mono (.refl _) (λ_ _ h=>h) (Nat.le_succ _)) C with⟨m',L,g,O,K,n3,J,I,E,N,M,r3,r4,r5⟩|⟨m,L,g,O,t,row,y,Q,N,M⟩
   .exact .inl ⟨m',L,g,O,K,n3,J,I,E,by rw[QO hw p1];exact N,M,r3,r4,r5⟩
   .rw[aX]at Q;exact .inr ⟨m,L,g,O,t,row,y,Q.1,by rw[QP hw Q.2 p1];exact N,M⟩
  unfold jI at hr
  unfold y7 at hr
  split at hr
  .rename_i hg;exact run st rfl hs (by simp only[cE,hg]) hr
  .rename_i j want hg
   split at hr
   .rename_i d G
    split at hr
    .rename_i b f
     have f:=yq hs f
     split at hr
     .rcases l0 hr with⟨rfl,hr⟩|⟨rfl,hr⟩
      .exact run (known st d true) rfl (kz hs f) (by simp[cE,hg,G,f]) hr
      .exact skip (known st d false) rfl (kz hs f) (by simp[cE,hg,G,f]) hr
     .rcases l0 hr with⟨rfl,hr⟩|⟨rfl,hr⟩
      .exact skip (known st d true) rfl (kz hs f) (by simp[cE,hg,G,f]) hr
      .exact run (known st d false) rfl (kz hs f) (by simp[cE,hg,G,f]) hr
    .rename_i f;have f:=Ir hs f;exact skip st rfl hs (by simp only[cE,hg,G,f]) hr
    .cases hr
   .cases hr
theorem Ds{h:AHeap}:∀(n o:Nat),(∀p,o<=p->h.get p=none)->sY h n o=true|0,_,_=>rfl|n+1,o,hn=>by simp only[sY,aX];exact⟨by rw[hn o (ak _)];rfl,Ds n (o+1) λp hp=>hn p (by omega)⟩
theorem Un(hR:gr P A R){ops:Array Oper}{draw:Bool}{id:Nat}{k:af->Option ρ}{r:ρ}(hs:bQ P cx w st a)(hd:∀o,o∈ops.toList->jF cx.tn o.dst)(hr:wk P A R kp ops draw st k=some r):
 mB P cx w st a k kp r λm ex a'=>evalCode P (br P m) cx (.region id ops draw) a=some (ex,a'):=by
 unfold wk at hr
 split at hr
 .rcases D2 (ops:=ops) hR hs hd hr with⟨m,w',ah,a',q1,q2,q3,c⟩|⟨m,w',ah,a',t,row,y,q1,q2,q3,c,j⟩
  .exact .inl ⟨m,w',ah,a',by show evalCode P _ cx (.region id ops false) a=_;rw[evalCode];simpa using q1,q2,q3,c⟩
  .exact .inr ⟨m,w',ah,a',t,row,y,by show evalCode P _ cx (.region id ops false) a=_;rw[evalCode];simpa using q1,q2,q3,c,j⟩
 .have hb:aj P w st.ob st.nx {a.h with next:=a.h.next+gf ops.toList}:=⟨hs.h.g,hs.h.box,hs.h.arr,hs.h.aK,hs.h.inj,λi k o h1 h2=>Nat.lt_of_lt_of_le (hs.h.lt i k o h1 h2) (Nat.le_add_right ..),hs.h.nx,λo f=>⟨Nat.lt_of_lt_of_le (hs.h.cW o f).1 (Nat.le_add_right ..),(hs.h.cW o f).2⟩,λo ho=>hs.h.new o (by have q:a.h.next+gf ops.toList<=o:=ho;omega)⟩
  have l:bl w st.ob a.h w st.ob {a.h with next:=a.h.next+gf ops.toList}:=⟨.refl w,λ_ _ e=>e,Nat.le_add_right ..,rfl,λ_ _ _=>rfl,λ_ e=>.inr e,λ_ e=>.inl e,λ_ e=>.inl e,λe=>e,λ_ _ cs e=>⟨cs,e⟩⟩
  rcases yu (b:=hZ ops.toList []) (a:={a with h:={a.h with next:=a.h.next+gf ops.toList}}) (bk:={es:=[],fs:=[]}) (n1:=a.h.next+gf ops.toList) (cx:=cx) hR ⟨hb,hs.tm,hs.al,hs.df,hs.cm,hs.rn,hs.kd,⟨hs.co.1.1.imp (λe=>e) λe=>Nat.le_trans e (Nat.le_add_right ..),hs.co.1.2⟩,hs.co.2⟩ hd l (ak _) (ak _) ⟨ak _,λo h1 _=>hs.h.new o h1⟩ ⟨λ_ _ e=>(by cases e),λ_ _ e=>(by cases e),λ_ _ e=>(by cases e),λ_ _ _ _ e=>(by cases e)⟩ hr with⟨m,w',ah,a',n,n',u,bR,p,q1,q2,q3,c,j⟩|⟨m,w',ah,a',t,row,y,_,q1,q2,q3,c,j⟩
  case inr=>
   simp only at c
   split at c
   .rename_i hc;refine .inr ⟨m,w',ah,a',t,row,y,?_,q2,q3,c,j⟩;show evalCode P _ cx (.region id ops true) a=_;rw[evalCode];simp only[if_true,ot];rw[hc,Ds _ _ hs.h.new];simp only[Bool.and_self,if_true];have:=xL (jX P (ak m)) q1;rw[this.2];exact q1
   .cases c
  simp only at j
  split at j
  .rename_i hc
   simp only[aX]at hc
   refine .inl ⟨m,w',ah,a',?_,q2,q3,j⟩
   show evalCode P _ cx (.region id ops true) a=_
   rw[evalCode]
   simp only[if_true,ot]
   rw[hc.1,Ds _ _ hs.h.new]
   simp only[Bool.and_self,if_true,q1]
   have:oE (hZ ops.toList []) n=true:=by
    refine Um c ?_
    have h2:=hc.2
    split at h2
    .unfold zU;simp
    .exact h2
   rw[this];rfl
  .cases j
end
end Go.AI
end

section
namespace Go.AI
variable [Kn]
section
variable {P:Program}{w w':Wd}{h h':AHeap}{tm:Tr SV}{bL:Tr AV}{A:dX}{R:eD A.pn}
inductive jK(P:Program)(w:Wd)(bL:Tr AV):List (Tmp×Nat×TypeId)->List SV->Prop|nil:jK P w bL [] []|aO{t:Tmp×Nat×TypeId}{ts:List (Tmp×Nat×TypeId)}{vs:List SV}:jK P w bL ts vs->jK P w bL (t::ts) (.aO::vs)|cons{t:Tmp}{m:Nat}{e:TypeId}{x:AV}{v:SV}{ts:List (Tmp×Nat×TypeId)}{vs:List SV}:bL.get t=some x->RV P w v x->jK P w bL ts vs->jK P w bL ((t,m,e)::ts) (v::vs)
theorem jK.mono(hl:bA w w')(hs:∀i k,w.s i=some k->w'.s i=some k){ts:List (Tmp×Nat×TypeId)}{vs:List SV}(hc:jK P w bL ts vs):jK P w' bL ts vs:=by induction hc with|nil=>exact .nil|aO _ ih=>exact .aO ih|cons a b _ ih=>exact .cons a (b.mono hl hs) ih
theorem jK.jQ(L:List Nat){ts:List (Tmp×Nat×TypeId)}{vs:List SV}(hc:jK P w bL ts vs):jK P (w.sub L) bL ts (kG L vs):=by induction hc with|nil=>exact .nil|aO _ ih=>exact .aO ih|cons a b _ ih=>exact .cons a (b.jQ L) ih
theorem jK.aah{ts:List (Tmp×Nat×TypeId)}{vs:List SV}(hc:jK P w bL ts vs):eN P w (sH ts vs) bL:=by induction hc with|nil=>exact⟨λt v e=>by cases e⟩|aO _ ih=>exact ih|@cons t m e x v ts vs a b _ ih=>cases v with|aO=>exact ih|_=>exact ih.wQ a b
theorem Uo{st:af}(hs:aj P w st.ob st.nx h){m:Nat}{e:TypeId}{v:SV}{x:AV}(hx:RV P w v x):∃w',kL P w h st (o5 P m e v st).2 w'/\RV P w' (o5 P m e v st).1 x:=by
 unfold o5
 split
 .cases hx;exact Im hs _
 .cases hx;exact⟨w,.refl hs,.dl (.nil _)⟩
 .obtain⟨F,q1,q2⟩:=rH hs [SV.own _];exact⟨_,q1,zO q2 (by simp) hx⟩
 .exact⟨w,.refl hs,hx⟩
theorem SS{st:af}{m:Nat}{e:TypeId}:o5 P m e .aO st=(.aO,st):=by
 unfold o5
 split
 .rename_i h;cases h
 .rename_i h;cases h
 .rename_i h;cases h
 .rfl
theorem Dt:∀(ts:List (Tmp×Nat×TypeId)){st:af}{w:Wd},aj P w st.ob st.nx h->eN P w tm bL->∃w',kL P w h st (oS P tm ts st).2 w'/\jK P w' bL ts (oS P tm ts st).1
 |[],st,w,hs,_=>⟨w,.refl hs,.nil⟩
 |(t,m,e)::ts,st,w,hs,g=>by
  simp only[oS]
  cases hg:tm.get t with
  |none=>
   have i:bK tm (.tmp t)=.aO:=by simp only[bK,hg]
   rw[i,SS];obtain⟨w1,q1,q2⟩:=Dt ts hs g;exact⟨w1,q1,.aO q2⟩
  |some v=>
   have i:bK tm (.tmp t)=v:=by simp only[bK,hg]
   rw[i];obtain⟨x,f,c⟩:=g.tm t v hg;obtain⟨w1,q1,q2⟩:=Uo (m:=m) (e:=e) hs c;obtain⟨j,b,k⟩:=Dt ts q1.1 (g.mono q1.2.1.le q1.2.1.s);exact⟨j,q1.trans b,.cons f (q2.mono b.2.1.le b.2.1.s) k⟩
inductive Fr where|code(c:Code)|bu(id:Nat)
def B8(P:Program)(cx:Ctx)(c:Code)(a:aD)(ex:bM)(a':aD):Prop:=∃m,evalCode P (br P m) cx c a=some (ex,a')
def dO(P:Program)(cx:Ctx):List Fr->bM->aD->bM->aD->Prop|[],ex,a,cy,aF=>cy=ex/\aF=a|.code c::fs,.normal,a,cy,aF=>∃e f,B8 P cx c a e f/\dO P cx fs e f cy aF|.code _::fs,ex,a,cy,aF=>dO P cx fs ex a cy aF|.bu id::fs,.exit b,a,cy,aF=>if b=id then dO P cx fs .normal a cy aF else dO P cx fs (.exit b) a cy aF|.bu _::fs,ex,a,cy,aF=>dO P cx fs ex a cy aF
def eo(P:Program)(cx:Ctx)(c:Code)(fs:List Fr)(a:aD)(cy:bM)(aF:aD):Prop:=∃b e,B8 P cx c a b e/\dO P cx fs b e cy aF
inductive Site(key:Nat):Code->List Fr->Code->List Fr->Prop|mO{a b c':Code}{fs bR:List Fr}:Site key a (.code b::fs) c' bR->Site key (.seq a b) fs c' bR|kT{a b c':Code}{fs bR:List Fr}:Site key b fs c' bR->Site key (.seq a b) fs c' bR|mw{c:Operand}{a b c':Code}{fs bR:List Fr}:Site key a fs c' bR->Site key (.cond c a b) fs c' bR|my{c:Operand}{a b c':Code}{fs bR:List Fr}:Site key b fs c' bR->Site key (.cond c a b) fs c' bR|bu{id:Nat}{b c':Code}{fs bR:List Fr}:Site key b (.bu id::fs) c' bR->Site key (.block id b) fs c' bR|here{id:Nat}{b:Code}{fs:List Fr}:key=2*id->Site key (.block id (.loop b)) fs (.loop b) (.bu id::fs)|behind{id:Nat}{b:Code}{fs:List Fr}:key=2*id+1->Site key (.block id b) fs .skip fs|loop{b c':Code}{fs bR:List Fr}:Site key b (.code (.loop b)::fs) c' bR->Site key (.loop b) fs c' bR|scope{b c':Code}{fs bR:List Fr}:Site key b fs c' bR->Site key (.scope b) fs c' bR|region{id:Nat}{ops:Array Oper}{draw:Bool}{fs:List Fr}:key=1000000+id->Site key (.region id ops draw) fs (.region id ops draw) fs
theorem Site.bw{key:Nat}{c c':Code}{fs bR:List Fr}(hs:Site key c fs c' bR):0<cJ key c:=by
 induction hs with
 |mO _ ih=>simp only[cJ];omega
 |kT _ ih=>simp only[cJ];omega
 |mw _ ih=>simp only[cJ];omega
 |my _ ih=>simp only[cJ];omega
 |bu _ ih=>simp only[cJ];omega
 |@here id b fs e=>
  have:Nat.beq (key/2) id=true:=by rw[e];simp
  simp only[cJ,this];omega
 |@behind id b fs e=>
  have:Nat.beq (key/2) id=true:=by
   have:key/2=id:=by omega
   rw[this];simp
  simp only[cJ,this];omega
 |loop _ ih=>simpa only[cJ]using ih
 |scope _ ih=>simpa only[cJ]using ih
 |@region id ops draw fs e=>
  have:Nat.beq key (1000000+id)=true:=by rw[e];simp
  simp only[cJ,this];omega
theorem lh(key:Nat):∀(c:Code),eB key c=true↔0<cJ key c|.seq a b=>by simp only[eB,cJ,Bool.or_eq_true,lh key a,lh key b];omega|.cond _ a b=>by simp only[eB,cJ,Bool.or_eq_true,lh key a,lh key b];omega|.block id b=>by simp only[eB,cJ,Bool.or_eq_true,lh key b];cases Nat.beq (key/2) id<;>simp<;>omega|.loop b=>by simp only[eB,cJ,lh key b]|.scope b=>by simp only[eB,cJ,lh key b]|.region id _ _=>by simp only[eB,cJ];cases Nat.beq key (1000000+id)<;>simp|.skip=>by simp[eB,cJ]|.label _=>by simp[eB,cJ]|.exit _=>by simp[eB,cJ]|.goto _=>by simp[eB,cJ]|.ret=>by simp[eB,cJ]|.refuse _=>by simp[eB,cJ]|.rangeFunc ..=>by simp[eB,cJ]
def Ends(P:Program)(nb:Nat)(w:Wd)(ob:Tr au)(h:AHeap)(Q:bM->aD->Wd->Tr au->Nat->Prop)(run:bM->aD->Prop):Prop:=∃cy aF w' ay bU,run cy aF/\aj P w' ay bU aF.h/\gj nb w ob h w' ay aF.h/\Q cy aF w' ay bU
theorem Ends.imp{nb:Nat}{ob:Tr au}{Q:bM->aD->Wd->Tr au->Nat->Prop}{run b:bM->aD->Prop}(c:Ends P nb w ob h Q run)(hi:∀ex a,run ex a->b ex a):Ends P nb w ob h Q b:=by obtain⟨cy,aF,w',ay,bU,q1,q2⟩:=c;exact⟨cy,aF,w',ay,bU,hi _ _ q1,q2⟩
theorem Ends.aw{nb:Nat}{ob b:Tr au}{Q:bM->aD->Wd->Tr au->Nat->Prop}{run:bM->aD->Prop}(hf:bl w ob h w' b h')(e:Ends P nb w' b h' Q run):Ends P nb w ob h Q run:=by obtain⟨cy,aF,w1,ay,bU,q1,q2,q3,c⟩:=e;exact⟨cy,aF,w1,ay,bU,q1,q2,gj.trans hf q3,c⟩
def AE(P:Program)(R:Rec)(fn:Func):bM->aD->Option (cP×AHeap)|.normal,a=>ct P R fn a.tm a.df .ret a.h|.ret,a=>ct P R fn a.tm a.df .ret a.h|.panic v,a=>ct P R fn a.tm a.df (.aB v false) a.h|.exit _,_=>none
def QC(P:Program)(fn:Func)(aq bt:List Sh)(nb:Nat)(p:Bool)(r:AT p (bC aq) (bC bt))(ex:bM)(a:aD)(w:Wd)(ob:Tr au)(_:Nat):Prop:=a.cm=.none/\∃m out h2,AE P (br P m) fn ex a=some (out,h2)/\jf p r (λr=>∃y,out=.ret y/\eF P w ob nb a.h fn.resultTypes.toList aq r y h2) (λt row b=>∃y,out=.aB y/\ia P t row y/\eF P w ob nb a.h [] bt b dZ h2)
def KL(P:Program)(A:dX)(R:eD A.pn):Prop:=∀f key aq bt nb mP aA r,R.jump f key aq bt nb mP aA=some r->∃fn code ts,P.funcs[f]?=some fn/\fn.body=some code/\A.cut f key=some ts/\∀c fs,Site key code [] c fs->∀(w:Wd)(a:aD)(cx:Ctx),aj P w (bJ aA 0 .leaf) aA.length a.h->eN P w (sH ts mP) a.tm->iu P w [] a.df->a.cm=.none->cx.round=none->a.h.floor<=a.h.next->tL a.df->(∀d,ep.dK d∈a.df->a.h.floor<=d/\a.h.get d=some (.cf (some [])))->cx.fn=f->fn.ntmps<=cx.tn->Ends P nb w (bJ aA 0 .leaf) a.h (QC P fn aq bt nb (A.pn f) r) (eo P cx c fs a)
theorem CX:∀{xs ys:List Nat},zQ xs ys=true->∀(p:Nat)(x:Nat),xs[p]?=some x->ys[p]?=some x|[],_,_,p,x,e=>by simp at e|_::_,[],h,_,_,_=>by cases h|x::xs,y::ys,h,p,z,e=>by simp only[zQ,aX]at h;have:=Nat.eq_of_beq_eq_true h.1;subst this;cases p with|zero=>exact e|succ p=>simpa using CX h.2 p z (by simpa using e)
theorem Up{ob:Tr au}{L:List Nat}{i j:Nat}{t:TypeId}{cs:List SV}(hL:L[j]?=some i)(e:ob.get i=some (.box t cs)):(bJ (bZ ob L L) 0 .leaf).get j=some (.box t (kG L cs)):=by rw[p6,rP,hL];simp only[Option.map_some,kV,e]
theorem JE(hJ:KL P A R){cx:Ctx}{st:af}{a:aD}(hs:bQ P cx w st a){f key nb:Nat}{aq bt:List Sh}{r:AT (A.pn f) (bC aq) (bC bt)}(hr:s0 P A R f aq bt nb key st=some r){fn:Func}{code:Code}(v:P.funcs[f]?=some fn)(hb:fn.body=some code)
 {c:Code}{fs:List Fr}(j:Site key code [] c fs)(gY:fn.ntmps<=cx.tn)(B:cx.fn=f):Ends P nb w st.ob a.h (QC P fn aq bt nb (A.pn f) r) (eo P cx c fs a):=by
 unfold s0 at hr
 split at hr
 case h_2=>cases hr
 rename_i ts z l n
 have p:iu P w [] a.df:=by have:=hs.df;rwa[z]at this
 have q:a.cm=.none:=by have:=hs.cm;rw[l]at this;cases hc:a.cm<;>rw[hc]at this<;>first|rfl|exact this.elim
 simp only at hr
 split at hr
 .cases hr
 rename_i cB aA L K hc
 split at hr
 case h_2=>cases hr
 rename_i g
 obtain⟨S,C,J,I,G,E,hj⟩:=hJ _ _ _ _ _ _ _ _ hr
 rw[v]at I;cases I
 rw[hb]at G;cases G
 rw[n]at E;cases E
 obtain⟨w1,q1,q2⟩:=Dt ts hs.h hs.tm
 unfold l9 at hc
 simp only at hc
 split at hc
 case h_2=>cases hc
 rename_i aS
 simp only[aX]at aS
 simp only[ab,an]at hc
 obtain⟨rfl,rfl,rfl,rfl⟩:=hc
 obtain⟨D,M,u,U,T⟩:=ux (bx:=A.bx f) (sF (oS P st.tm ts st).2.ob 200 (upto nb++j7 (oS P st.tm ts st).1) []) q1.1
 have m:=M.sub aS.1 aS.2
 have Q:=hj c fs j (D.sub _) a cx (by rw[xW];exact m) ((q2.mono u.le u.s).jQ _).aah (p.D0 rfl) q (hs.xj (by rw[l];simp)) (hs.co.1.1.resolve_left (by rw[l];simp)) hs.co.1.2 hs.co.2 B gY
 refine Ends.aw (q1.2.1.trans u) ?_
 obtain⟨cy,aF,w',ay,bU,p1,O,b,N⟩:=Q
 refine⟨cy,aF,w',ay,bU,p1,O,?_,N⟩
 refine⟨(bA.sub D _).trans b.le,λi k hi e=>b.s i k hi ?_,b.next,b.floor,λo h1 h2 h3=>b.cb o h1 (λe=>h2 e.oN) h3,λo e=>(b.own o e).imp (λe=>e) Ow.oN,λo e=>?_,λo e=>?_,b.et,λi t cs hi e=>?_⟩
 .have:=CX g i i (yp hi);simp only[Wd.sub,this,Option.bind_some];exact e
 .rcases b.F o e with e|e|e
  .exact .inl e
  .exact .inr (.inl e)
  .exact .inr (.inr e.oN)
 .rcases b.wr o e with e|e|e|e
  .exact .inl e
  .exact .inr (.inl e)
  .exact .inr (.inr (.inl e.oN))
  .exact .inr (.inr (.inr e))
 .have hL:=CX g i i (yp hi);exact b.bx i t _ hi (Up hL e)
end
end Go.AI
end

section
namespace Go.AI
variable [Kn]
section
variable {P:Program}{w w':Wd}{ob ay:Tr au}{nx:Nat}{h h':AHeap}{ρ:Type}{l:Nat}
theorem gg{y:b7}{o:Nat}(e:o≠l):(h.aQ l y).get o=h.get o:=by simp only[AHeap.get,AHeap.aQ,Tr.a8 _ _ e]
theorem pQ{y:b7}:(h.aQ l y).get l=some y:=by simp only[AHeap.get,AHeap.aQ,Tr.bS]
theorem D3(hs:aj P w ob nx h){x y:b7}(hx:h.get l=some x)(b:n6 x=true):mW w (w.heap (h.aQ l y).get):=⟨λ_ f=>f,λo f v mv c fz el ex sh e=>⟨v,[],fz,el,ex,sh,by
 have i:o≠l:=by rintro rfl;rw[hs.g,hx]at e;cases e;cases b
 show(h.aQ l y).get o=_;rw[gg i,List.append_nil,<-hs.g];exact e,ak _⟩⟩
theorem aj.E7(hs:aj P w ob nx h){x y:b7}(hx:h.get l=some x)(g:n6 x=true):aj P (w.heap (h.aQ l y).get) ob nx (h.aQ l y):=by
 have hc:=D3 (y:=y) hs hx g
 have b:∀{o:Nat}{v mv fz:Nat}{c:List AV}{el:TypeId}{ex sh:Bool},h.get o=some (.cells v mv c fz el ex sh)->(h.aQ l y).get o=some (.cells v mv c fz el ex sh):=λe=>by
  rw[gg]
  .exact e
  .rintro rfl;rw[hx]at e;cases e;cases g
 refine⟨λ_=>rfl,?_,?_,?_,hs.inj,hs.lt,hs.nx,?_,?_⟩
 .intro i t cs e;obtain⟨o,c,sh,J,I,G,z,F⟩:=hs.box i t cs e;exact⟨o,c,sh,J,b I,aC.mz hc (λ_ _ e=>e) (Ji z) G,z,F⟩
 .intro i t rows E e
  obtain⟨u,L,K,p⟩:=hs.arr i t rows E e
  refine⟨u,L,K,?_⟩
  rcases p with q|⟨o,ad,mv,c,ex,sh,cap,q1,q2,q3,n,m,C,k,B⟩
  .exact .inl q
  .exact .inr ⟨o,ad,mv,c,ex,sh,cap,q1,q2,b q3,n,m,C.fS hc,k,B⟩
 .intro i s el e
  obtain⟨u,p⟩:=hs.aK i s el e
  refine⟨u,?_⟩
  rcases p with q|⟨o,ad,mv,ex,fz,cap,D,q1,q2,q3,n,m,k⟩
  .exact .inl q
  .exact .inr ⟨o,ad,mv,ex,fz,cap,D,q1,q2,b q3,n,m,k⟩
 .intro o f
  refine⟨(hs.cW o f).1,?_⟩
  by_cases e:o=l
  .subst e;rw[pQ];simp
  .rw[gg e];exact(hs.cW o f).2
 .intro o ho
  have j:h.next<=o:=ho
  have:o≠l:=by rintro rfl;rw[hs.new o j]at hx;cases hx
  rw[gg this];exact hs.new o j
structure jL(l nb:Nat)(w:Wd)(ob:Tr au)(h:AHeap)(w':Wd)(ay:Tr au)(h':AHeap):Prop where
 c:mW w w'
 lp:∀o x,o≠l->w.g o=some x->n6 x=true->w'.g o=some x
 n:∀o,o≠l->w.g o≠none->w'.g o≠none/\(Lp w'.g o->Lp w.g o)
 s:∀i k,i<nb->w.s i=some k->w'.s i=some k
 next:h.next<=h'.next
 floor:h'.floor=h.floor
 cb:∀o,o<h.next->¬Ow w ob o->o≠l->h'.get o=h.get o
 own:∀o,Ow w' ay o->h.next<=o\/Ow w ob o
 F:∀o,w'.F o->w.F o\/h.next<=o\/Ow w ob o
 wr:∀o,o∈h'.wr->o∈h.wr\/h.next<=o\/Ow w ob o\/Lp h.get o\/o=l
 et:(∀o,o∈h.wr->o<h.floor)->∀o,o∈h'.wr->o<h'.floor
 bx:∀i t cs,i<nb->ob.get i=some (.box t cs)->∃aP,ay.get i=some (.box t aP)
theorem jL.of{nb:Nat}(a:gj nb w ob h w' ay h'):jL l nb w ob h w' ay h':=⟨a.le.c,λo x _ e i=>a.le.l o x e i,λo _ e=>a.le.n o e,a.s,a.next,a.floor,λo h1 h2 _=>a.cb o h1 h2 id,a.own,a.F,λo e=>(a.wr o e).imp id (.imp id (.imp id λe=>e.elim .inl False.elim)),a.et,a.bx⟩
theorem jL.aQ{nb:Nat}(hs:aj P w ob nx h){x y:b7}(hx:h.get l=some x)(b:n6 x=true):jL l nb w ob h (w.heap (h.aQ l y).get) ob (h.aQ l y)where
 c:=D3 hs hx b
 lp:=λo x f e _=>by show(h.aQ l y).get o=_;rw[gg f,<-hs.g];exact e
 n:=λo f e=>by show(h.aQ l y).get o≠none/\(Lp (h.aQ l y).get o->Lp w.g o);unfold Lp;rw[gg f,<-hs.g];exact⟨e,id⟩
 s:=λ_ _ _ e=>e
 next:=ak _
 floor:=rfl
 cb:=λo _ _ e=>gg e
 own:=λo e=>.inr e
 F:=λo e=>.inl e
 wr:=λo e=>by
  rcases pV e with e|e
  .exact .inl e
  .exact .inr (.inr (.inr (.inr e)))
 et:=λe=>p5 e
 bx:=λi t cs _ e=>⟨cs,e⟩
theorem jL.trans{nb:Nat}{p:Wd}{m:Tr au}{u:AHeap}(a:jL l nb w ob h w' ay h')(b:jL l nb w' ay h' p m u):jL l nb w ob h p m u where
 c:=⟨λo f=>b.c.F o (a.c.F o f),λo f v mv c fz el ex sh e=>by obtain⟨M,d1,O,j,L,N,q1,q2⟩:=a.c.g o f v mv c fz el ex sh e;obtain⟨B,d2,E,J,z,C,q3,D⟩:=b.c.g o (a.c.F o f) _ _ _ _ _ _ _ q1;exact⟨B,d1++d2,E,J,z,C,by rw[q3,List.append_assoc],Nat.le_trans q2 D⟩⟩
 lp:=λo x j e i=>b.lp o x j (a.lp o x j e i) i
 n:=λo j e=>⟨(b.n o j (a.n o j e).1).1,λq=>(a.n o j e).2 ((b.n o j (a.n o j e).1).2 q)⟩
 s:=λi k hi e=>b.s i k hi (a.s i k hi e)
 next:=Nat.le_trans a.next b.next
 floor:=b.floor.trans a.floor
 cb:=λo h1 h2 hx=>by rw[b.cb o (Nat.lt_of_lt_of_le h1 a.next) (λh3=>(a.own o h3).elim (λh4=>absurd h1 (by omega)) h2) hx];exact a.cb o h1 h2 hx
 own:=λo e=>by
  rcases b.own o e with h1|h1
  .exact .inl (Nat.le_trans a.next h1)
  .exact a.own o h1
 F:=λo e=>by
  rcases b.F o e with h1|h1|h1
  .exact a.F o h1
  .exact .inr (.inl (Nat.le_trans a.next h1))
  .exact .inr (a.own o h1)
 wr:=λo e=>by
  rcases Nat.lt_or_ge o h.next with q|q
  .by_cases h2:Ow w ob o
   .exact .inr (.inr (.inl h2))
   .by_cases h3:o=l
    .exact .inr (.inr (.inr (.inr h3)))
    .rcases b.wr o e with h1|h1|h1|h1|h1
     .exact a.wr o h1
     .exact absurd (Nat.le_trans a.next h1) (by omega)
     .exact .inr ((a.own o h1).imp id .inl)
     .obtain⟨x,I,G⟩:=h1;exact .inr (.inr (.inr (.inl ⟨x,by rw[<-a.cb o q h2 h3];exact I,G⟩)))
     .exact absurd h1 h3
  .exact .inr (.inl q)
 et:=λe=>b.et (a.et e);bx:=λi t cs hi e=>let⟨K,j⟩:=a.bx i t cs hi e;b.bx i t K hi j
theorem jL.full{nb:Nat}(a:jL l nb w ob h w' ay h')(hg:w.g=h.get)(k:w'.g=h'.get){x:b7}(hx:h.get l=some x)(j:n6 x=true)(f:h'.get l=some x):gj nb w ob h w' ay h' where
 le:=⟨a.c.F,λo y e i=>by
  by_cases b:o=l
  .subst b;rw[hg,hx]at e;rw[k,f];exact e
  .exact a.lp o y b e i,λo e=>by
  by_cases b:o=l
  .subst b;rw[k,hg];exact⟨by rw[f];simp,λ_=>⟨x,hx,j⟩⟩
  .exact a.n o b e,a.c.g⟩
 s:=a.s
 next:=a.next
 floor:=a.floor
 cb:=λo h1 h2 _=>by
  by_cases b:o=l
  .subst b;rw[hx,f]
  .exact a.cb o h1 h2 b
 own:=a.own
 F:=a.F
 wr:=λo e=>by
  rcases a.wr o e with e|e|e|e|e
  .exact .inl e
  .exact .inr (.inl e)
  .exact .inr (.inr (.inl e))
  .exact .inr (.inr (.inr (.inl e)))
  .subst e;exact .inr (.inr (.inr (.inl ⟨x,hx,j⟩)))
 et:=a.et
 bx:=a.bx
theorem SU{v:SV}{tm:Tr AV}{t:Tmp}(hv:Mf v=true)(hr:RV P w v (ev tm (.tmp t))):∃x,tm.get t=some x/\RV P w v x:=by simp only[ev]at hr;cases hg:tm.get t with|some x=>rw[hg]at hr;exact⟨x,rfl,hr⟩|none=>rw[hg]at hr;exfalso;cases hr with|aO=>cases hv|iG=>cases hv|cV=>cases hv|dl h=>cases h|dN h=>cases h
theorem yv{tm:Tr AV}:∀{ts:List Tmp}{vs:List SV}{ys:List AV}{tr:Tr SV},aC P w vs (ts.map (λt=>ev tm (.tmp t))++ys)->eN P w tr tm->eN P w (nG ts vs tr) tm
 |[],vs,ys,tr,_,c=>by unfold nG;exact c
 |t::ts,[],ys,tr,h,_=>by cases h
 |t::ts,v::vs,ys,tr,.cons a b,c=>by
  unfold nG
  split
  .rename_i hv;obtain⟨x,h1,h2⟩:=SU hv a;exact yv b (c.wQ h1 h2)
  .exact yv b c
theorem JF{n tn:Nat}(hn:n<=tn):∀{ps:List Tmp}{vs:List SV}{ys:List AV}{tr c:Tr SV}{tm:Tr AV},vA n ps vs tr=some c->aC P w vs ys->eN P w tr tm->∃bL,lX tn ps ys tm=some bL/\eN P w c bL
 |[],[],_,tr,c,tm,hr,.nil,e=>by simp only[vA,ab]at hr;subst hr;exact⟨tm,rfl,e⟩
 |[],_::_,_,_,_,_,hr,_,_=>by cases hr
 |_::_,[],_,_,_,_,hr,_,_=>by cases hr
 |p::ps,v::vs,_,tr,c,tm,hr,.cons a b,e=>by
  simp only[vA]at hr
  split at hr
  .rename_i hp
   have hp:p<n:=by simpa[Nat.blt_eq]using hp
   obtain⟨bL,h1,h2⟩:=JF hn hr b (e.put a);exact⟨bL,by simp only[lX];rw[if_pos (Nat.lt_of_lt_of_le hp hn)];exact h1,h2⟩
  .cases hr
theorem aj.aai(hs:aj P w ob nx h)(hg:∀o,o<h.next->h'.get o=h.get o)(hn:h.next<=h'.next)(n:∀o,h'.next<=o->h'.get o=none)(hf:h'.floor=h.floor)(hw:h'.wr=h.wr):
 aj P (w.heap h'.get) ob nx h'/\bl w ob h (w.heap h'.get) ob h':=by
 have m:∀{o:Nat}{x:b7},h.get o=some x->o<h.next:=λ{o x}e=>by
  rcases Nat.lt_or_ge o h.next with q|q
  .exact q
  .rw[hs.new o q]at e;cases e
 have p:bA w (w.heap h'.get):=⟨λ_ f=>f,λo x e _=>by rw[hs.g]at e;show h'.get o=_;rw[hg o (m e)];exact e,λo e=>by rw[hs.g]at e;obtain⟨x,hx⟩:=Option.ne_none_iff_exists'.1 e;show h'.get o≠none/\(Lp h'.get o->Lp w.g o);unfold Lp;rw[hg o (m hx),hs.g];exact⟨e,id⟩,λo f v mv c fz el ex sh e=>⟨v,[],fz,el,ex,sh,by rw[hs.g]at e;show h'.get o=_;rw[hg o (m e),List.append_nil];exact e,ak _⟩⟩
 have b:∀j y,ob.get j=some y->dn P (w.heap h'.get) h' j y:=by intro j y e;cases y with|gone=>trivial|_=>exact(hs.jP e).move p (λ_ _ e=>e) λk o h1 h2=>⟨hg o (hs.lt j k o h1 h2),λf=>f⟩
 refine⟨⟨λ_=>rfl,λi t cs e=>b i _ e,λi t rows l e=>b i _ e,λi s l e=>b i _ e,hs.inj,λi k o h1 h2=>Nat.lt_of_lt_of_le (hs.lt i k o h1 h2) hn,hs.nx,λo f=>⟨Nat.lt_of_lt_of_le (hs.cW o f).1 hn,by rw[hg o (hs.cW o f).1];exact(hs.cW o f).2⟩,n⟩,⟨p,λ_ _ e=>e,hn,hf,λo h1 _=>hg o h1,λo e=>.inr e,λo e=>.inl e,λo e=>by rw[hw]at e;exact .inl e,λe=>by rw[hw,hf];exact e,λi t cs e=>⟨cs,e⟩⟩⟩
end
end Go.AI
end

section
namespace Go.AI
variable [Kn]
def lV(P:Program):jg->bM->Prop|.normal,.normal=>True|.ret,.ret=>True|.exit i,.exit j=>i=j|.aB t row,.panic y=>ia P t row y|_,_=>False
theorem lV.normal{P:Program}{x:bM}(h:lV P .normal x):x=.normal:=by cases x<;>first|rfl|exact h.elim
theorem lV.ret{P:Program}{x:bM}(h:lV P .ret x):x=.ret:=by cases x<;>first|rfl|exact h.elim
theorem lV.exit{P:Program}{i:Nat}{x:bM}(h:lV P (.exit i) x):x=.exit i:=by cases x with|exit j=>have:i=j:=h;rw[this]|_=>exact h.elim
theorem lV.aB{P:Program}{t:TypeId}{row:List AV}{x:bM}(h:lV P (.aB t row) x):∃y,x=.panic y/\ia P t row y:=by cases x with|panic y=>exact⟨y,rfl,h⟩|_=>exact h.elim
theorem lV.ne{P:Program}{e:jg}{x:bM}(h:lV P e x)(hn:e≠.normal):x≠.normal:=by rintro rfl;cases e<;>first|exact hn rfl|exact h.elim
section
variable {P:Program}{cx:Ctx}{fs:List Fr}{a aF:aD}{cy:bM}
theorem B8.le{c:Code}{ex:bM}{a':aD}(h:B8 P cx c a ex a'):∃b,∀m,b<=m->evalCode P (br P m) cx c a=some (ex,a'):=by obtain⟨m,e⟩:=h;exact⟨m,λg hm=>jq (jX P hm) e⟩
theorem eo.seq{c b:Code}(h:eo P cx c (.code b::fs) a cy aF):eo P cx (.seq c b) fs a cy aF:=by obtain⟨e,j,h1,h2⟩:=h;obtain⟨g,h1⟩:=h1.le;have other:e≠.normal->dO P cx fs e j cy aF->eo P cx (.seq c b) fs a cy aF:=λhn hf=>⟨e,j,⟨g,by rw[evalCode,h1 g (ak _)];cases e with|normal=>exact absurd rfl hn|_=>rfl⟩,hf⟩;cases e with|normal=>obtain⟨i,l,h3,h4⟩:=h2;obtain⟨k,h3⟩:=h3.le;refine⟨i,l,⟨max g k,?_⟩,h4⟩;rw[evalCode,h1 _ (Nat.le_max_left ..)];exact h3 _ (Nat.le_max_right ..)|exit id=>exact other (by simp) h2|ret=>exact other (by simp) h2|panic v=>exact other (by simp) h2
theorem eo.loop{b:Code}(h:eo P cx b (.code (.loop b)::fs) a cy aF):eo P cx (.loop b) fs a cy aF:=by obtain⟨c,j,h1,h2⟩:=h;obtain⟨e,h1⟩:=h1.le;have other:c≠.normal->dO P cx fs c j cy aF->eo P cx (.loop b) fs a cy aF:=λhn hf=>⟨c,j,⟨e+1,by rw[evalCode];show nf P (br P e) b cx a=_;unfold nf;rw[h1 e (ak _)];cases c with|normal=>exact absurd rfl hn|_=>rfl⟩,hf⟩;cases c with|normal=>obtain⟨i,k,h3,h4⟩:=h2;obtain⟨g,h3⟩:=h3.le;refine⟨i,k,⟨max e g+1,?_⟩,h4⟩;rw[evalCode];show nf P (br P (max e g)) b cx a=_;unfold nf;rw[h1 _ (Nat.le_max_left ..)];have:=h3 _ (Nat.le_max_right e g);rw[evalCode]at this;exact this|exit id=>exact other (by simp) h2|ret=>exact other (by simp) h2|panic v=>exact other (by simp) h2
theorem eo.block{id:Nat}{b:Code}(h:eo P cx b (.bu id::fs) a cy aF):eo P cx (.block id b) fs a cy aF:=by
 obtain⟨j,g,⟨c,h1⟩,h2⟩:=h
 cases j with
 |exit i=>
  simp only[dO]at h2
  split at h2
  .rename_i e;exact⟨.normal,g,⟨c,by rw[evalCode,h1];simp only[e,if_true]⟩,h2⟩
  .rename_i e;exact⟨.exit i,g,⟨c,by rw[evalCode,h1];simp only[e,if_false]⟩,h2⟩|normal=>exact⟨_,g,⟨c,by rw[evalCode,h1]⟩,h2⟩|ret=>exact⟨_,g,⟨c,by rw[evalCode,h1]⟩,h2⟩|panic v=>exact⟨_,g,⟨c,by rw[evalCode,h1]⟩,h2⟩
theorem eo.scope{b:Code}(h:eo P cx b fs a cy aF):eo P cx (.scope b) fs a cy aF:=by obtain⟨c,g,⟨e,h1⟩,h2⟩:=h;exact⟨c,g,⟨e,by rw[evalCode];exact h1⟩,h2⟩
theorem eo.skip(h:eo P cx .skip fs a cy aF):dO P cx fs .normal a cy aF:=by obtain⟨b,e,⟨c,h1⟩,h2⟩:=h;rw[evalCode]at h1;cases h1;exact h2
theorem dO.code{b:Code}{ex:bM}(hn:ex≠.normal)(h:dO P cx fs ex a cy aF):dO P cx (.code b::fs) ex a cy aF:=by cases ex with|normal=>exact absurd rfl hn|_=>exact h
variable {A:dX}{R:eD A.pn}{f:FuncId}{nb:Nat}{fn:Func}{lF tl:Code}{ρ:Type}{J:Nat->af->Option ρ}{Q:ρ->bM->aD->Wd->Tr au->Nat->Prop}
def mX(P:Program)(nb:Nat)(cx:Ctx)(Q:ρ->bM->aD->Wd->Tr au->Nat->Prop)(fs:List Fr)(k:jg->af->Option ρ):Prop:=∀ex b st w a r,bQ P cx w st a->lV P ex b->k ex st=some r->Ends P nb w st.ob a.h (Q r) (dO P cx fs b a)
def tZ(P:Program)(nb:Nat)(cx:Ctx)(Q:ρ->bM->aD->Wd->Tr au->Nat->Prop)(lF:Code)(J:Nat->af->Option ρ):Prop:=∀key st w a r c fs,bQ P cx w st a->J key st=some r->Site key lF [] c fs->Ends P nb w st.ob a.h (Q r) (eo P cx c fs a)
theorem QQ{n m:Nat}(hn:n<=m){id:Nat}{ops:Array Oper}{draw:Bool}(h:dR n (.region id ops draw)=true):∀o,o∈ops.toList->jF m o.dst:=by
 intro o ho
 simp only[dR,List.all_eq_true]at h
 have:=h o ho
 cases hd:o.dst with
 |none=>trivial
 |some d=>
  rw[hd]at this
  have h2:d<n:=by simpa[Nat.blt_eq]using this
  exact Nat.lt_of_lt_of_le h2 hn
theorem JG(hC:gr P A R)(gY:fn.ntmps<=cx.tn){id:Nat}{ops:Array Oper}{draw:Bool}{k:jg->af->Option ρ}{st:af}{w:Wd}{r:ρ}(g:dR fn.ntmps (.region id ops draw)=true)(hk:mX P nb cx Q fs k)(hs:bQ P cx w st a)
 (hr:wk P A R (λt row st=>k (.aB t row) st) ops draw st (λst=>k .normal st)=some r):Ends P nb w st.ob a.h (Q r) (eo P cx (.region id ops draw) fs a):=by
 rcases Un (id:=id) (cx:=cx) hC hs (QQ gY g) hr with⟨m,w',ah,a',q1,q2,q3,b⟩|⟨m,w',ah,a',t,row,y,q1,q2,q3,b,c⟩
 .exact Ends.aw q3 ((hk .normal .normal _ _ _ _ q2 trivial b).imp λ_ _ e=>⟨_,_,⟨m,q1⟩,e⟩)
 .exact Ends.aw q3 ((hk (.aB t row) (.panic y) _ _ _ _ q2 c b).imp λ_ _ e=>⟨_,_,⟨m,q1⟩,e⟩)
structure F2(P:Program)(cx:Ctx)(f:FuncId)(fn:Func)(lF:Code):Prop where
 h1:cx.fn=f
 h2:P.funcs[f]?=some fn
 h3:fn.body=some lF
 h4:fn.ntmps<=cx.tn
theorem VF(hC:gr P A R)(jR:F2 P cx f fn tl){fo:Operand}{ps:Array Tmp}{hd bd:Code}{k:jg->af->Option ρ}{st:af}{w:Wd}{r:ρ}(I:cU tl ps.toList hd bd)(hk:mX P nb cx Q fs k)(hs:bQ P cx w st a)
 (hr:Fh P A R f st fo k=some r):Ends P nb w st.ob a.h (Q r) (eo P cx (.rangeFunc fo ps hd bd) fs a):=by
 unfold Fh at hr
 split at hr
 case h_2=>cases hr
 rename_i g dV ts hf S hlp
 split at hr
 case h_2=>cases hr
 rename_i fg hfg
 split at hr
 case h_2=>cases hr
 rename_i cg hbg
 have L:=hs.xj (by rw[S];simp)
 have hfl:=hs.co.1.1.resolve_left (by rw[S];simp)
 have hx:=gv hs.tm fo
 rw[hf]at hx
 obtain⟨xs,G,Gm⟩:∃xs,aC P w dV xs/\nL (ev a.tm fo)=some (.func g,[],xs):=by generalize hy:ev a.tm fo=y at hx;cases hx with|fn a=>exact⟨_,a,rfl⟩|iP=>exact⟨[],.nil,rfl⟩
 let lo:b7:=.loop .ready none cx.fn cx.tn a.tm ps.toList hd bd a.h.next
 let h1:AHeap:=(a.h.alloc (.cf (some []))).alloc lo
 have N:h1.get (a.h.next+1)=some lo:=by show((a.h.ck.put a.h.next (.cf (some []))).put (a.h.next+1) lo).get (a.h.next+1)=_;rw[Tr.bS]
 have hdo:h1.get a.h.next=some (.cf (some [])):=by show((a.h.ck.put a.h.next (.cf (some []))).put (a.h.next+1) lo).get a.h.next=_;rw[Tr.a8 _ _ (by omega),Tr.bS]
 have hold:∀o,o≠a.h.next->o≠a.h.next+1->h1.get o=a.h.get o:=λo C B=>by show((a.h.ck.put a.h.next (.cf (some []))).put (a.h.next+1) lo).get o=_;rw[Tr.a8 _ _ B,Tr.a8 _ _ C];rfl
 have M:h1.next=a.h.next+2:=rfl
 obtain⟨K,u⟩:=hs.h.aai (h':=h1) (λo e=>hold o (by omega) (by omega)) (by rw[M];omega) (λo e=>by rw[hold o (by omega) (by omega)];exact hs.h.new o (by omega)) rfl rfl
 have X:RV P (w.heap h1.get) (.yl f ts (ts.map λt=>bK st.tm (.tmp t))) (.e9 (a.h.next+1)):=by refine .yl (show h1.get (a.h.next+1)=some (.loop .ready none f cx.tn a.tm ps.toList hd bd a.h.next)by rw[<-jR.h1];exact N) ⟨fn,tl,jR.h2,jR.h3,jR.h4,I⟩ ?_;exact aC.map _ λt _=>(gv hs.tm _).mono u.le u.s
 rcases Jy hC (w:=w.heap h1.get) (h:=h1) K (.cons X (G.mono u.le u.s)) hr with⟨m,w',ah,h',v,y,q1,q2,q3,V,U,q6,_,_⟩|⟨_,_,_,_,_,_,_,_,_,_,_,U,_⟩
 case inr=>cases U
 have D:h'.get (a.h.next+1)=some lo:=by rw[<-q1.g];exact q2.le.l _ _ N rfl
 have adJ:a.h.next+2<=h'.next:=by rw[<-M];exact q2.next
 have hno:∀{o:Nat}{x:b7},h1.get o=some x->(∀v mv c fz el ex sh,x≠.cells v mv c fz el ex sh)->¬Ow (w.heap h1.get) st.ob o:=by rintro o x C B⟨i,k,p1,p2,p3⟩;obtain⟨_,_,_,_,_,_,_,q⟩:=K.cells p1 p2 p3;rw[C]at q;cases q;exact B _ _ _ _ _ _ _ rfl
 let W:b7:=.loop .exhausted none cx.fn cx.tn a.tm ps.toList hd bd a.h.next
 let h2:AHeap:=h'.aQ (a.h.next+1) W
 have Z:aj P (w'.heap h2.get) ah.ob ah.nx h2:=q1.E7 D rfl
 have z:∀{o:Nat},o≠a.h.next+1->h2.get o=h'.get o:=λe=>gg e
 have E:h2.floor=a.h.floor:=q2.floor
 have O:∀d,d<h1.next->∀x,h1.get d=some x->(∀v mv c fz el ex sh,x≠.cells v mv c fz el ex sh)->d≠a.h.next+1->h2.get d=some x:=λd C x B T e4=>by rw[z e4,q2.cb d C (hno B T)];exact B
 have p:∀{o:Nat}{x:b7},a.h.get o=some x->o<a.h.next:=λ{o x}e=>by
  rcases Nat.lt_or_ge o a.h.next with q|q
  .exact q
  .rw[hs.h.new o q]at e;cases e
 have b:=u.trans q2
 have j:bl w st.ob a.h (w'.heap h2.get) ah.ob h2:=by
  refine⟨⟨b.le.F,λo x e i=>?_,λo e=>?_,λo f v mv c fz el ex sh e=>?_⟩,b.s,b.next,b.floor,λo C B=>?_,b.own,b.F,λo e=>?_,λe=>p5 (b.et e),b.bx⟩
  .have:=p (by rw[<-hs.h.g];exact e);show h2.get o=_;rw[z (by omega),<-q1.g];exact b.le.l o x e i
  .have e':=e;rw[hs.h.g]at e';obtain⟨x,hx⟩:=Option.ne_none_iff_exists'.1 e';have:=p hx;have q:=b.le.n o e;show h2.get o≠none/\(Lp h2.get o->Lp w.g o);unfold Lp at q⊢;rw[z (by omega),<-q1.g];exact q
  .have:=p (by rw[<-hs.h.g];exact e);obtain⟨v',d',ik,il,iq,hK,p1,p2⟩:=b.le.g o f v mv c fz el ex sh e;exact⟨v',d',ik,il,iq,hK,by show h2.get o=_;rw[z (by omega),<-q1.g];exact p1,p2⟩
  .rw[z (by omega)];exact b.cb o C B
  .rcases pV e with e|e
   .exact b.wr o e
   .exact .inr (.inl (by omega))
 have C:ah.al=st.al:=congrArg (·.1) V
 have B:ah.df=st.df:=congrArg (·.2.1) V
 have T:ah.cm=st.cm:=congrArg (·.2.2) V
 have Y:bQ P cx (w'.heap h2.get) ah {a with h:=h2,df:=.dK a.h.next::a.df}:=by
  refine⟨Z,by rw[q3];exact hs.tm.mono j.le j.s,by rw[C];exact hs.al,by rw[B];exact .dK (hs.df.mono j.le j.s),by rw[T];exact hs.cm,.inl L,by rw[T];exact hs.kd,⟨.inr ?_,λe=>?_,hs.co.1.2⟩,λd OW=>?_⟩
  .show h2.floor<=h2.next;rw[E];have:h2.next=h'.next:=rfl;omega
  .have:=p (hs.co.2 _ e).2;omega
  .show h2.floor<=d/\h2.get d=_
   rw[E]
   rcases List.mem_cons.1 OW with e|e
   .cases e;exact⟨hfl,O _ (by omega) _ hdo (by simp) (by omega)⟩
   .obtain⟨p1,p2⟩:=hs.co.2 d e;have:=p p2;exact⟨p1,O d (by omega) _ (by rw[hold d (by omega) (by omega)];exact p2) (by simp) (by omega)⟩
 refine Ends.aw j ((hk .normal .normal _ _ _ _ Y trivial U).imp λ_ _ e=>⟨_,_,⟨m,?_⟩,e⟩)
 rw[evalCode]
 simp only[L,Gm]
 have hac:jr P h1 g ([]++[.e9 (a.h.next+1)]++xs)=some (.enter g (.e9 (a.h.next+1)::xs),h1):=by simp only[jr,hfg,hbg,List.nil_append,List.singleton_append]
 show(match jr P h1 g ([]++[.e9 (a.h.next+1)]++xs)with|some (.enter g args,h)=>_|_=>_)=_;rw[hac];simp only[q6,D,lo];rfl
section
variable (hC:gr P A R)(hJ:tZ P nb cx Q lF J)(gY:fn.ntmps<=cx.tn)(jR:F2 P cx f fn tl)
include hC hJ gY jR
theorem Is{id:Nat}{k:jg->af->Option ρ}{b:Code}(i:∀key c' bR,Site key (.block id b) fs c' bR->Site key lF [] c' bR)(hk:mX P nb cx Q fs k):
 mX P nb cx Q (.bu id::fs) (λex st=>match(match ex with|.exit c=>Nat.beq c id|.normal=>true|_=>false)with
 |true=>(match A.cut f (2*id+1)with|some _=>J (2*id+1) st|none=>k .normal st)
 |false=>k ex st):=by
 intro ex l st w a r hs hx hr
 have j:(match A.cut f (2*id+1)with
  |some _=>J (2*id+1) st
  |none=>k .normal st)=some r->Ends P nb w st.ob a.h (Q r) (dO P cx fs .normal a):=by
  intro e
  split at e
  .exact(hJ _ _ _ _ _ _ _ hs e (i _ _ _ (.behind rfl))).imp λ_ _=>eo.skip
  .exact hk .normal .normal _ _ _ _ hs trivial e
 cases ex with|normal=>obtain rfl:=hx.normal;exact j hr|ret=>obtain rfl:=hx.ret;exact hk .ret .ret _ _ _ _ hs trivial hr|aB t row=>obtain⟨y,rfl,hy⟩:=hx.aB;exact hk (.aB t row) (.panic y) _ _ _ _ hs hy hr|exit c=>obtain rfl:=hx.exit;simp only at hr;cases g:Nat.beq c id with|true=>rw[g]at hr;have:=Nat.eq_of_beq_eq_true g;exact(j hr).imp λ_ _ e=>by simp only[dO,this,if_true];exact e|false=>rw[g]at hr;have:=Nat.ne_of_beq_eq_false g;exact(hk (.exit c) (.exit c) _ _ _ _ hs rfl hr).imp λ_ _ e=>by simp only[dO,this,if_false];exact e
theorem jV:∀(c:Code){j:Option Nat}{fs:List Fr}{k:jg->af->Option ρ}{st:af}{w:Wd}{a:aD}{r:ρ},(∀key c' bR,Site key c fs c' bR->Site key lF [] c' bR)->
 (∀i b,j=some i->c=.loop b->Site (2*i) lF [] c fs)->(∀qs x y,cU c qs x y->cU tl qs x y)->dR fn.ntmps c=true->mX P nb cx Q fs k->bQ P cx w st a->fm P A R f J j c st k=some r->Ends P nb w st.ob a.h (Q r) (eo P cx c fs a)
 |.skip,j,fs,k,st,w,a,r,_,_,_,_,hk,hs,hr=>(hk .normal .normal _ _ _ _ hs trivial hr).imp λ_ _ e=>⟨_,_,⟨0,rfl⟩,e⟩
 |.label _,j,fs,k,st,w,a,r,_,_,_,_,hk,hs,hr=>(hk .normal .normal _ _ _ _ hs trivial hr).imp λ_ _ e=>⟨_,_,⟨0,rfl⟩,e⟩
 |.region id ops draw,j,fs,k,st,w,a,r,g,_,l,n,hk,hs,hr=>by
  rw[fm]at hr
  split at hr
  .exact hJ _ _ _ _ _ _ _ hs hr (g _ _ _ (.region rfl))
  .exact JG hC gY n hk hs hr
 |.seq c b,j,fs,k,st,w,a,r,g,_,l,n,hk,hs,hr=>by rw[fm]at hr;simp only[dR,aX]at n;refine(jV c (fs:=.code b::fs) (λkey c' bR e=>g _ _ _ (.mO e)) (λi b e=>by cases e) (λ_ _ _ e=>l _ _ _ (.mO e)) n.1 (λex G F w1 C L p o q=>?_) hs hr).imp λ_ _=>eo.seq;cases ex with|normal=>obtain rfl:=o.normal;exact jV b (λkey c' bR e=>g _ _ _ (.kT e)) (λi b e=>by cases e) (λ_ _ _ e=>l _ _ _ (.kT e)) n.2 hk p q|exit id=>exact(hk _ _ _ _ _ _ p o q).imp λ_ _=>dO.code (o.ne (by simp))|ret=>exact(hk _ _ _ _ _ _ p o q).imp λ_ _=>dO.code (o.ne (by simp))|aB t row=>exact(hk _ _ _ _ _ _ p o q).imp λ_ _=>dO.code (o.ne (by simp))
 |.cond c x y,j,fs,k,st,w,a,r,g,_,l,n,hk,hs,hr=>by
  rw[fm]at hr
  simp only[dR,aX]at n
  split at hr
  .rename_i t D
   have E:=gv hs.tm c
   rw[D]at E
   have B:ev a.tm c=.sc (.bool t):=by generalize ev a.tm c=z at E;cases E;rfl
   rcases l0 hr with⟨rfl,hr⟩|⟨rfl,hr⟩
   .refine(jV x (λkey c' bR e=>g _ _ _ (.mw e)) (λi b e=>by cases e) (λ_ _ _ e=>l _ _ _ (.mw e)) n.1 hk hs hr).imp λ_ _ e=>?_;obtain⟨u,C,⟨m,h1⟩,h2⟩:=e;exact⟨u,C,⟨m,by rw[evalCode,B];exact h1⟩,h2⟩
   .refine(jV y (λkey c' bR e=>g _ _ _ (.my e)) (λi b e=>by cases e) (λ_ _ _ e=>l _ _ _ (.my e)) n.2 hk hs hr).imp λ_ _ e=>?_;obtain⟨u,C,⟨m,h1⟩,h2⟩:=e;exact⟨u,C,⟨m,by rw[evalCode,B];exact h1⟩,h2⟩
  .cases hr
 |.block id b,j,fs,k,st,w,a,r,g,_,l,n,hk,hs,hr=>by rw[fm]at hr;simp only[dR]at n;exact(jV b (fs:=.bu id::fs) (λkey c' bR e=>g _ _ _ (.bu e)) (λi b' K I=>by cases K;subst I;exact g _ _ _ (.here rfl)) (λ_ _ _ e=>l _ _ _ (.bu e)) n (Is hC hJ gY jR g hk) hs hr).imp λ_ _=>eo.block
 |.loop b,j,fs,k,st,w,a,r,g,v,l,n,hk,hs,hr=>by cases j with|none=>exact kC hr rfl|some i=>exact hJ _ _ _ _ _ _ _ hs (show J (2*i) st=some r from hr) (v _ _ rfl rfl)
 |.exit id,j,fs,k,st,w,a,r,_,_,_,_,hk,hs,hr=>(hk (.exit id) (.exit id) _ _ _ _ hs rfl hr).imp λ_ _ e=>⟨_,_,⟨0,rfl⟩,e⟩
 |.scope b,j,fs,k,st,w,a,r,g,_,l,n,hk,hs,hr=>by rw[fm]at hr;simp only[dR]at n;exact(jV b (λkey c' bR e=>g _ _ _ (.scope e)) (λi b e=>by cases e) (λ_ _ _ e=>l _ _ _ (.scope e)) n hk hs hr).imp λ_ _=>eo.scope
 |.ret,j,fs,k,st,w,a,r,_,_,_,_,hk,hs,hr=>(hk .ret .ret _ _ _ _ hs trivial hr).imp λ_ _ e=>⟨_,_,⟨0,rfl⟩,e⟩
 |.goto _,j,fs,k,st,w,a,r,_,_,_,_,hk,hs,hr=>by rw[fm]at hr<;>first|cases hr|simp
 |.refuse _,j,fs,k,st,w,a,r,_,_,_,_,hk,hs,hr=>by rw[fm]at hr<;>first|cases hr|simp
 |.rangeFunc fo ps hd bd,j,fs,k,st,w,a,r,_,_,l,_,hk,hs,hr=>VF hC jR (l _ _ _ .here) hk hs (by rw[fm]at hr;exact hr)
theorem ox{key:Nat}{I:Code}{B:List Fr}(h0:Site key lF [] I B):∀(c:Code){q:Option Nat}{fs:List Fr}{k:jg->af->Option ρ}{st:af}{w:Wd}{a:aD}{r:ρ},Site key c fs I B->cJ key c<=1->
 (∀i,q=some i->key/2≠i)->(∀i b,q=some i->c=.loop b->Site (2*i) lF [] c fs)->(∀key c' bR,Site key c fs c' bR->Site key lF [] c' bR)->(∀qs x y,cU c qs x y->cU tl qs x y)->dR fn.ntmps c=true->mX P nb cx Q fs k->bQ P cx w st a->hV P A R f J key q c st k=some r->Ends P nb w st.ob a.h (Q r) (eo P cx I B a)
 |.seq c b,q,fs,k,st,w,a,r,l,m,_,_,g,p,u,hk,hs,hr=>by
  rw[hV]at hr
  simp only[dR,aX]at u
  simp only[cJ]at m
  cases l with
  |mO l=>have hc:=l.bw;rw[(lh key c).2 hc]at hr;refine ox h0 c l (by omega) (λi e=>by cases e) (λi b e=>by cases e) (λkey c' bR e=>g _ _ _ (.mO e)) (λ_ _ _ e=>p _ _ _ (.mO e)) u.1 (λex E C w1 M K o j n=>?_) hs hr;cases ex with|normal=>obtain rfl:=j.normal;exact jV hC hJ gY jR b (λkey c' bR e=>g _ _ _ (.kT e)) (λi b e=>by cases e) (λ_ _ _ e=>p _ _ _ (.kT e)) u.2 hk o n|exit id=>exact(hk _ _ _ _ _ _ o j n).imp λ_ _=>dO.code (j.ne (by simp))|ret=>exact(hk _ _ _ _ _ _ o j n).imp λ_ _=>dO.code (j.ne (by simp))|aB t row=>exact(hk _ _ _ _ _ _ o j n).imp λ_ _=>dO.code (j.ne (by simp))
  |kT l=>
   have hc:=l.bw
   have:eB key c=false:=by cases e:eB key c with|false=>rfl|true=>have:=(lh key c).1 e;omega
   rw[this]at hr;exact ox h0 b l (by omega) (λi e=>by cases e) (λi b e=>by cases e) (λkey c' bR e=>g _ _ _ (.kT e)) (λ_ _ _ e=>p _ _ _ (.kT e)) u.2 hk hs hr
 |.cond c x y,q,fs,k,st,w,a,r,l,m,_,_,g,p,u,hk,hs,hr=>by
  rw[hV]at hr
  simp only[dR,aX]at u
  simp only[cJ]at m
  cases l with
  |mw l=>have hc:=l.bw;rw[(lh key x).2 hc]at hr;exact ox h0 x l (by omega) (λi e=>by cases e) (λi b e=>by cases e) (λkey c' bR e=>g _ _ _ (.mw e)) (λ_ _ _ e=>p _ _ _ (.mw e)) u.1 hk hs hr
  |my l=>
   have hc:=l.bw
   have:eB key x=false:=by cases e:eB key x with|false=>rfl|true=>have:=(lh key x).1 e;omega
   rw[this]at hr;exact ox h0 y l (by omega) (λi e=>by cases e) (λi b e=>by cases e) (λkey c' bR e=>g _ _ _ (.my e)) (λ_ _ _ e=>p _ _ _ (.my e)) u.2 hk hs hr
 |.block id b,q,fs,k,st,w,a,r,l,m,_,_,g,p,u,hk,hs,hr=>by
  rw[hV]at hr
  simp only[dR]at u
  simp only[cJ]at m
  have v:=Is (f:=f) (id:=id) (b:=b) hC hJ gY jR g hk
  cases l with
  |bu l=>
   have hc:=l.bw
   have z:key/2≠id:=by
    intro e
    have:Nat.beq (key/2) id=true:=by rw[e];simp
    rw[this]at m;simp only at m;omega
   have:Nat.beq key (2*id+1)=false:=by cases e:Nat.beq key (2*id+1)with|false=>rfl|true=>have:=Nat.eq_of_beq_eq_true e;omega
   rw[this]at hr;exact ox h0 b l (by omega) (λi e=>by cases e;exact z) (λi b' S O=>by cases S;subst O;exact g _ _ _ (.here rfl)) (λkey c' bR e=>g _ _ _ (.bu e)) (λ_ _ _ e=>p _ _ _ (.bu e)) u v hs hr
  |@here _ L _ e=>
   subst e
   have:Nat.beq (2*id) (2*id+1)=false:=by cases e:Nat.beq (2*id) (2*id+1)with|false=>rfl|true=>have:=Nat.eq_of_beq_eq_true e;omega
   rw[this]at hr
   simp only[dR]at u
   simp only at hr
   rw[hV]at hr
   have G:Nat.beq (2*id) (2*id)=true:=by simp
   simp only[G]at hr;refine(jV hC hJ gY jR L (fs:=.code (.loop L)::.bu id::fs) (λkey c' bR e=>g _ _ _ (.bu (.loop e))) (λi b e=>by cases e) (λ_ _ _ e=>p _ _ _ (.bu (.loop e))) u (λex E C w1 M K o j n=>?_) hs hr).imp λ_ _=>eo.loop;cases ex with|normal=>obtain rfl:=j.normal;exact hJ _ _ _ _ _ _ _ o n h0|exit N=>exact(v _ _ _ _ _ _ o j n).imp λ_ _=>dO.code (j.ne (by simp))|ret=>exact(v _ _ _ _ _ _ o j n).imp λ_ _=>dO.code (j.ne (by simp))|aB t row=>exact(v _ _ _ _ _ _ o j n).imp λ_ _=>dO.code (j.ne (by simp))
  |behind e=>
   have:Nat.beq key (2*id+1)=true:=by rw[e];simp
   rw[this]at hr;exact(hk .normal .normal _ _ _ _ hs trivial hr).imp λ_ _ e=>⟨_,_,⟨0,rfl⟩,e⟩
 |.loop b,q,fs,k,st,w,a,r,l,m,z,D,g,p,u,hk,hs,hr=>by
  simp only[dR]at u
  simp only[cJ]at m
  cases l with
  |loop l=>
   have F:hV P A R f J key none b st (λex st=>match ex with
    |.normal=>(match q with|some i=>J (2*i) st|none=>none)
    |ex=>k ex st)=some r:=by
    cases q with
    |none=>exact hr
    |some i=>
     have:Nat.beq key (2*i)=false:=by cases e:Nat.beq key (2*i)with|false=>rfl|true=>have:=Nat.eq_of_beq_eq_true e;exact absurd (by omega) (z i rfl)
     rw[hV]at hr;simp only[this]at hr;exact hr
   refine ox h0 b l m (λi e=>by cases e) (λi b e=>by cases e) (λkey c' bR e=>g _ _ _ (.loop e)) (λ_ _ _ e=>p _ _ _ (.loop e)) u (λex E C w1 M K o j n=>?_) hs F
   cases ex with
   |normal=>obtain rfl:=j.normal;simp only at n;cases q with|none=>cases n|some i=>exact hJ _ _ _ _ _ _ _ o n (D i b rfl rfl)
   |exit id=>exact(hk _ _ _ _ _ _ o j n).imp λ_ _=>dO.code (j.ne (by simp))|ret=>exact(hk _ _ _ _ _ _ o j n).imp λ_ _=>dO.code (j.ne (by simp))|aB t row=>exact(hk _ _ _ _ _ _ o j n).imp λ_ _=>dO.code (j.ne (by simp))
 |.scope b,q,fs,k,st,w,a,r,l,m,_,_,g,p,u,hk,hs,hr=>by rw[hV]at hr;simp only[dR]at u;simp only[cJ]at m;cases l with|scope l=>exact ox h0 b l m (λi e=>by cases e) (λi b e=>by cases e) (λkey c' bR e=>g _ _ _ (.scope e)) (λ_ _ _ e=>p _ _ _ (.scope e)) u hk hs hr
 |.region id ops draw,q,fs,k,st,w,a,r,l,_,_,_,_,_,u,hk,hs,hr=>by rw[hV]at hr;cases l with|region e=>exact JG hC gY u hk hs hr
 |.skip,_,_,_,_,_,_,_,l,_,_,_,_,_,_,_,_,_=>by cases l|.label _,_,_,_,_,_,_,_,l,_,_,_,_,_,_,_,_,_=>by cases l|.exit _,_,_,_,_,_,_,_,l,_,_,_,_,_,_,_,_,_=>by cases l|.ret,_,_,_,_,_,_,_,l,_,_,_,_,_,_,_,_,_=>by cases l|.goto _,_,_,_,_,_,_,_,l,_,_,_,_,_,_,_,_,_=>by cases l|.refuse _,_,_,_,_,_,_,_,l,_,_,_,_,_,_,_,_,_=>by cases l|.rangeFunc _ _ _ _,_,_,_,_,_,_,_,l,_,_,_,_,_,_,_,_,_=>by cases l
end
end
end Go.AI
end

section
namespace Go.AI
variable [Kn]
section
variable {P:Program}{w:Wd}{ob:Tr au}{nx:Nat}{h:AHeap}{A:dX}
theorem yw{st:af}{tm:Tr AV}{h:AHeap}(hs:aj P w st.ob st.nx h)(b:eN P w st.tm tm):∀{rs:List ResultVar}{vs:List SV},mi P st rs=some vs->∃ys,(∀fn:Func,jU P fn tm h rs=some ys)/\aC P w vs ys
 |[],vs,h=>by simp only[mi,ab]at h;subst h;exact⟨[],λ_=>rfl,.nil⟩
 |.tmp t::rs,vs,h=>by simp only[mi]at h;obtain⟨us,h1,rfl⟩:=qp h;obtain⟨ys,q1,q2⟩:=yw hs b h1;exact⟨ev tm (.tmp t)::ys,λfn=>by simp only[jU,q1 fn],.cons (gv b _) q2⟩
 |.cell c t::rs,vs,h=>by
  simp only[mi]at h
  split at h
  .rename_i v us h1 h2;cases h;obtain⟨ys,q1,q2⟩:=yw hs b h2;obtain⟨v',y,g,f,e⟩:=KF (h1:=h) hs (gv b (.tmp c)) (λ_ _=>rfl) h1;cases g;exact⟨y::ys,λfn=>by simp only[jU,q1 fn,f],.cons e q2⟩
  .cases h
theorem eF.aw{w':Wd}{ay:Tr au}{h':AHeap}{nb:Nat}{ts:List TypeId}{aq:List Sh}{r:RT (bC aq)}{v:AV}{h2:AHeap}(hf:bl w ob h w' ay h')(hp:eF P w' ay nb h' ts aq r v h2):eF P w ob nb h ts aq r v h2:=by obtain⟨w1,b,c,vs,ys,q1,q2,q3⟩:=hp;exact⟨w1,b,c,vs,ys,q1,fH.trans (.of hf) q2 (gj.xw (nb:=nb) (.of hf)),q3⟩
theorem It{d:Nat}(hs:aj P w ob nx h)(hd:h.get d=some (.cf (some [])))(p:h.floor<=d):aj P (w.heap (h.aQ d (.cf none)).get) ob nx (h.aQ d (.cf none))/\∀nb,fH (XW h) nb w ob h (w.heap (h.aQ d (.cf none)).get) ob (h.aQ d (.cf none)):=by
 have n:bA w (w.heap (h.aQ d (.cf none)).get):=⟨λ_ f=>f,λo x e i=>by
  have b:o≠d:=by rintro rfl;rw[hs.g,hd]at e;cases e;cases i
  show(h.aQ d (.cf none)).get o=_
  rw[gg b,<-hs.g];exact e,λo e=>by
  show(h.aQ d (.cf none)).get o≠none/\(Lp (h.aQ d (.cf none)).get o->Lp w.g o)
  by_cases b:o=d
  .subst b;unfold Lp;rw[pQ];exact⟨by simp,λ⟨x,q1,q2⟩=>by cases q1;cases q2⟩
  .unfold Lp;rw[gg b,<-hs.g];exact⟨e,id⟩,λo f v mv c fz el ex sh e=>⟨v,[],fz,el,ex,sh,by
  have b:o≠d:=by rintro rfl;rw[hs.g,hd]at e;cases e
  show(h.aQ d (.cf none)).get o=_;rw[gg b,<-hs.g,List.append_nil];exact e,ak _⟩⟩
 have z:d<h.next:=by
  rcases Nat.lt_or_ge d h.next with q|q
  .exact q
  .rw[hs.new d q]at hd;cases hd
 have m:∀j y,ob.get j=some y->dn P (w.heap (h.aQ d (.cf none)).get) (h.aQ d (.cf none)) j y:=by intro j y e;cases y with|gone=>trivial|_=>refine(hs.jP e).move n (λ_ _ e=>e) λk o h1 h2=>⟨gg λb=>?_,λf=>f⟩;obtain⟨_,_,_,_,_,_,_,q⟩:=hs.cells ⟨_,e,by simp⟩ h1 h2;subst b;rw[hd]at q;cases q
 refine⟨⟨λ_=>rfl,λi t cs e=>m i _ e,λi t rows l e=>m i _ e,λi s l e=>m i _ e,hs.inj,hs.lt,hs.nx,λo f=>⟨(hs.cW o f).1,?_⟩,λo ho=>?_⟩,λnb=>⟨n,λ_ _ _ e=>e,ak _,rfl,λo _ _ e=>gg λb=>e (b▸⟨p,hd⟩),λo e=>.inr e,λo e=>.inl e,λo e=>?_,λe=>p5 e,λi t cs _ e=>⟨cs,e⟩⟩⟩
 .by_cases b:o=d
  .subst b;rw[pQ];simp
  .rw[gg b];exact(hs.cW o f).2
 .have u:h.next<=o:=ho;rw[gg (by omega)];exact hs.new o u
 .rcases pV e with e|rfl
  .exact .inl e
  .exact .inr (.inr (.inr (.inr ⟨p,hd⟩)))
theorem yx{R:Rec}{fn:Func}{tm:Tr AV}{m:bo}{nb:Nat}:∀{ds:List ep}{w:Wd}{h:AHeap},iu P w [] ds->aj P w ob nx h->tL ds->(∀d,ep.dK d∈ds->h.floor<=d/\h.get d=some (.cf (some [])))->
 ∃h2,ct P R fn tm ds m h=ct P R fn tm [] m h2/\aj P (w.heap h2.get) ob nx h2/\fH (XW h) nb w ob h (w.heap h2.get) ob h2
 |[],w,h,_,hs,_,_=>⟨h,rfl,by rw[show w.heap h.get=w by cases w;simp only[Wd.heap];congr 1;exact(funext hs.g).symm];exact hs,by rw[show w.heap h.get=w by cases w;simp only[Wd.heap];congr 1;exact(funext hs.g).symm];exact .of (.refl _ _ _)⟩
 |.fn _ _ _::ds,w,h,hd,_,_,_=>by cases hd
 |.dK d::ds,w,h,.dK hd,hs,hn,hc=>by
  obtain⟨j,b⟩:=hc d (List.mem_cons_self ..)
  obtain⟨q1,q2⟩:=It hs b j
  obtain⟨h2,i,f,c⟩:=yx (R:=R) (fn:=fn) (tm:=tm) (m:=m) (nb:=nb) (hd.D0 rfl) q1 hn.2 λd' e=>by
   obtain⟨p1,p2⟩:=hc d' (List.mem_cons_of_mem _ e)
   have:d'≠d:=by rintro rfl;exact hn.1 e
   exact⟨p1,by rw[gg this];exact p2⟩
  refine⟨h2,?_,f,(q2 nb).trans c λo e h1 h2=>?_⟩
  .simp only[ct,b];exact i
  .obtain⟨p1,p2⟩:=e
   have:o≠d:=by rintro rfl;rw[pQ]at p2;cases p2
   rw[gg this]at p2;exact⟨p1,p2⟩
theorem KM{st:af}{h:AHeap}{nb:Nat}{ts:List TypeId}{vs:List SV}{ys:List AV}{aq:List Sh}{r:RT (bC aq)}(hs:aj P w st.ob st.nx h)(hv:aC P w vs ys)(hr:qJ P aq nb ts vs st=some r){X:Nat->Prop}:qD P X w st.ob nb h ts aq r (wP ys) h:=by
 unfold qJ at hr
 simp only at hr
 split at hr
 .rename_i aS;simp only[aX]at aS;exact⟨w,st.ob,st.nx,vs,ys,hs,.of (.refl _ _ _),hv,rfl,aS.1,aS.2,hr⟩
 .cases hr
theorem KN{st:af}{h:AHeap}{tm:Tr AV}{nb:Nat}{fn:Func}{aq:List Sh}{r:RT (bC aq)}(hs:aj P w st.ob st.nx h)(b:eN P w st.tm tm)(hr:o7 P aq nb fn st=some r):
 ∃y,lH P fn tm h=some y/\∀X,qD P X w st.ob nb h fn.resultTypes.toList aq r y h:=by
 unfold o7 at hr
 split at hr
 .rename_i vs hv;obtain⟨ys,q1,q2⟩:=yw hs b hv;refine⟨wP ys,?_,λ_=>KM hs q2 hr⟩;unfold lH;rw[q1 fn];cases ys with|nil=>rfl|cons y l=>cases l<;>rfl
 .cases hr
def xk(P:Program)(fn:Func)(aq bt:List Sh)(nb:Nat)(p:Bool)(r:AT p (bC aq) (bC bt))(w:Wd)(ob:Tr au)(h:AHeap)(tm:Tr AV)(ds:List ep)(m:bo):Prop:=∃n out h2,ct P (br P n) fn tm ds m h=some (out,h2)/\jf p r (λr=>∃y,out=.ret y/\eF P w ob nb h fn.resultTypes.toList aq r y h2) (λt row b=>∃y,out=.aB y/\ia P t row y/\eF P w ob nb h [] bt b dZ h2)
theorem KO{ρ:Type}{t:TypeId}{k:TypeId->Option ρ}{r:ρ}:∀{ts:List TypeId},Fi t k ts=some r->k t=some r
 |[],h=>by cases h
 |t0::ts,h=>by
  rcases l0 h with⟨e,h⟩|⟨_,h⟩
  .rw[Nat.eq_of_beq_eq_true e];exact h
  .exact KO h
theorem eF.dK{w':Wd}{nb:Nat}{h2 h3:AHeap}{ts:List TypeId}{aq:List Sh}{r:RT (bC aq)}{v:AV}(hf:fH (XW h) nb w ob h w' ob h2)(hp:qD P (λ_=>False) w' ob nb h2 ts aq r v h3):eF P w ob nb h ts aq r v h3:=by obtain⟨w1,b,c,vs,ys,q1,q2,q3⟩:=hp;exact⟨w1,b,c,vs,ys,q1,hf.trans q2 (λ_ e=>e.elim),q3⟩
theorem eF.MW{w':Wd}{nb d:Nat}{h3:AHeap}{ts:List TypeId}{aq:List Sh}{r:RT (bC aq)}{v:AV}(hf:fH (XW h) nb w ob h w' ob (h.aQ d (.cf none)))(hp:eF P w' ob nb (h.aQ d (.cf none)) ts aq r v h3):eF P w ob nb h ts aq r v h3:=by
 obtain⟨w1,b,c,vs,ys,q1,q2,q3⟩:=hp
 refine⟨w1,b,c,vs,ys,q1,hf.trans q2 (λo e h1 h2=>?_),q3⟩
 obtain⟨p1,p2⟩:=e
 have:o≠d:=by rintro rfl;rw[pQ]at p2;cases p2
 rw[gg this]at p2;exact⟨p1,p2⟩
theorem x0{A:dX}{R:eD A.pn}(hC:gr P A R){fn:Func}{aq bt:List Sh}{nb:Nat}{p:Bool}{r:AT p (bC aq) (bC bt)}{tm:Tr AV}:∀{ds:List ep}{l:List (FuncId×List SV)}{st:af}{w:Wd}{h:AHeap},aj P w st.ob st.nx h->eN P w st.tm tm->iu P w l ds->tL ds->(∀d,ep.dK d∈ds->h.floor<=d/\h.get d=some (.cf (some [])))->
 (jY P A R aq bt nb fn p l .ret st=some r->xk P fn aq bt nb p r w st.ob h tm ds .ret)/\
 (∀t row y,ia P t row y->jY P A R aq bt nb fn p l (.aB t row false) st=some r->xk P fn aq bt nb p r w st.ob h tm ds (.aB y false))
 |[],l,st,w,h,hs,q,hd,_,_=>by
  cases hd
  refine⟨λhr=>?_,λt row y hy hr=>?_⟩
  .have N:∀a,o7 P aq nb fn st=some a->∃y,lH P fn tm h=some y/\eF P w st.ob nb h fn.resultTypes.toList aq a y h:=λa e=>let⟨y,q1,q2⟩:=KN hs q e;⟨y,q1,q2 _⟩;cases hf:o7 P aq nb fn st with|none=>simp only[jY,hf]at hr;cases p<;>cases hr|some a=>obtain⟨y,q1,q2⟩:=N a hf;refine⟨0,.ret y,h,by simp only[ct,q1,Option.map_some],?_⟩;simp only[jY]at hr;exact VA hr λa' e=>by rw[hf]at e;cases e;exact⟨y,rfl,q2⟩
  .refine⟨0,.aB y,h,rfl,?_⟩;simp only[jY]at hr;exact Uj hr λa' e=>⟨y,rfl,hy,KM hs .nil e⟩
 |.dK d::f,l,st,w,h,hs,q,hd,hn,hc=>by
  cases hd with
  |dK hd=>
  obtain⟨U,I⟩:=hc d (List.mem_cons_self ..)
  obtain⟨J,v⟩:=It hs I U
  have u:=(v 0).le
  have ih:=x0 hC (aq:=aq) (bt:=bt) (nb:=nb) (p:=p) (r:=r) (fn:=fn) (ds:=f) (l:=l) J (q.mono u λ_ _ e=>e) (hd.mono u λ_ _ e=>e) hn.2 λd' e=>by
   obtain⟨p1,p2⟩:=hc d' (List.mem_cons_of_mem _ e)
   have:d'≠d:=by rintro rfl;exact hn.1 e
   exact⟨p1,by rw[gg this];exact p2⟩
  have go:∀md,xk P fn aq bt nb p r (w.heap (h.aQ d (.cf none)).get) st.ob (h.aQ d (.cf none)) tm f md->xk P fn aq bt nb p r w st.ob h tm (.dK d::f) md:=by rintro md⟨n,out,h2,B,z⟩;refine⟨n,out,h2,?_,z.imp (λ_⟨y,a,b⟩=>⟨y,a,eF.MW (v nb) b⟩) λ_ _ _⟨y,a,b,c⟩=>⟨y,a,b,eF.MW (v nb) c⟩⟩;rw[ct];simp only[I];exact B
  exact⟨λhr=>go _ (ih.1 hr),λt row y hy hr=>go _ (ih.2 t row y hy hr)⟩
 |.fn X cap xs::f,l,st,w,h,hs,q,hd,hn,hc=>by
  cases hd with
  |@cons g args _ _ l _ hx hd=>
  have go:∀{md:jM}{cm aW:bo}{k:Bool->af->Option (AT p (bC aq) (bC bt))},B7 P md cm->vz P A R st g md args k=some r->
   (∀b aW ah,tY md b aW->k b ah=some r->jY P A R aq bt nb fn p l .ret ah=some r/\(aW=.ret\/∃y,aW=.aB y true))->xk P fn aq bt nb p r w st.ob h tm (.fn (.func g) cap xs::f) cm:=by
   intro md cm _ k C hr hk
   obtain⟨m,F,w',ah,h',b,y,aW,q1,q2,q3,M,W,L,o,K⟩:=SN hC hs C hx hr
   obtain⟨T,S⟩:=hk b aW ah K L
   have D:=KK (st:=st) (a:={tm:=tm,df:=f,cm:=.none,h:=h}) hs (λd e=>hc d (List.mem_cons_of_mem _ e)) q3
   obtain⟨n,out,h2,B,z⟩:=(x0 hC (ds:=f) q2 (by rw[M];exact q.mono q3.le q3.s) (hd.mono q3.le q3.s) hn D).1 T
   obtain⟨code,hb⟩:∃code,F.body=some code:=by cases m with|zero=>cases o|succ m=>have o:kv P (br P m) .deferred g (xs++cap) cm h=some (.ret y,aW,h'):=o;obtain⟨O,code,G,Q⟩:=Cm (show jT P (br P m) .deferred g (xs++cap) cm h=_ from o);rw[q1]at G;cases G;exact⟨code,Q⟩
   refine⟨max m n,out,h2,?_,z.imp (λ_⟨y,a,b⟩=>⟨y,a,b.aw q3⟩) λ_ _ _⟨y,a,b,c⟩=>⟨y,a,b,c.aw q3⟩⟩
   have E:jr P h g (xs++cap)=some (.enter g (xs++cap),h):=by simp only[jr,q1,hb]
   have j:(br P (max m n)).call .deferred g (xs++cap) cm h=some (.ret y,aW,h'):=(jX P (Nat.le_max_left ..)).call _ _ _ _ _ _ o
   have i:ct P (br P (max m n)) fn tm f .ret h'=some (out,h2):=CU (jX P (Nat.le_max_right ..)) B
   rw[ct]
   simp only[E,j]
   rcases S with rfl|⟨V,rfl⟩
   .exact i
   .exact i
  refine⟨λhr=>?_,λt row y hy hr=>?_⟩
  .simp only[jY]at hr;exact go (md:=.ret) (cm:=.ret) (aW:=.ret) trivial hr λb aW ah hd hk=>⟨hk,.inl hd⟩
  .simp only[jY]at hr
   have hr:=KO hr
   refine go (md:=.aB t row false) (cm:=.aB y false) (aW:=.ret) ⟨rfl,hy⟩ hr λb aW ah hd hk=>?_
   rcases l0 hk with⟨rfl,hk⟩|⟨_,hk⟩
   .exact⟨hk,.inr (hd rfl)⟩
   .cases hk
theorem KP{A:dX}{R:eD A.pn}(hC:gr P A R){f:FuncId}{fn:Func}{aq bt:List Sh}{nb:Nat}{cx:Ctx}:mX P nb cx (QC P fn aq bt nb (A.pn f)) [] (AN P A R f aq bt nb fn):=by
 intro ex c st w a r hs hx hr
 have g:st.cm=.no->a.cm=.none:=by intro e;have:=hs.cm;rw[e]at this;cases hc:a.cm<;>rw[hc]at this<;>first|rfl|exact this.elim
 have fin:c≠.panic dZ->(c=.normal\/c=.ret)->st.cm=.no->jY P A R aq bt nb fn (A.pn f) st.df .ret {st with df:=[],cm:=.no}=some r->Ends P nb w st.ob a.h (QC P fn aq bt nb (A.pn f) r) (dO P cx [] c a):=by intro _ hex b hr;obtain⟨n,out,h2,q1,q2⟩:=(x0 hC (st:={st with df:=[],cm:=.no}) hs.h hs.tm hs.df hs.co.1.2 hs.co.2).1 hr;refine⟨c,a,w,st.ob,st.nx,⟨rfl,rfl⟩,hs.h,.of (.refl _ _ _),g b,n,out,h2,?_,q2⟩;rcases hex with rfl|rfl<;>exact q1
 unfold AN at hr
 cases b:st.cm with
 |no=>rw[b]at hr;cases ex with|exit id=>cases hr|normal=>exact fin (by rw[hx.normal];simp) (.inl hx.normal) b hr|ret=>exact fin (by rw[hx.ret];simp) (.inr hx.ret) b hr|aB t row=>obtain⟨y,rfl,hy⟩:=hx.aB;obtain⟨n,out,h2,q1,q2⟩:=(x0 hC (st:={st with df:=[],cm:=.no}) hs.h hs.tm hs.df hs.co.1.2 hs.co.2).2 t row y hy hr;exact⟨.panic y,a,w,st.ob,st.nx,⟨rfl,rfl⟩,hs.h,.of (.refl _ _ _),g b,n,out,h2,q1,q2⟩
 |_=>rw[b]at hr;cases ex<;>cases hr
def QD(P:Program)(fn:Func)(aq:List Sh)(nb:Nat)(md:jM)(r:Bool×RT (bC aq))(ex:bM)(a:aD)(w:Wd)(ob:Tr au)(_:Nat):Prop:=tY md r.1 a.cm/\∃m y h2,AE P (br P m) fn ex a=some (.ret y,h2)/\eF P w ob nb a.h fn.resultTypes.toList aq r.2 y h2
theorem Uq{fn:Func}{aq:List Sh}{nb:Nat}{cx:Ctx}{md:jM}:mX P nb cx (QD P fn aq nb md) [] (AQ P aq nb fn md):=by
 intro ex k st w a r hs hx hr
 have i:∀b,AP md st.cm=some b->tY md b a.cm:=by
  intro b e
  have hc:=hs.cm
  unfold AP at e
  split at e
  .rename_i t row u t' dW q g;cases e;rw[g]at hc;intro hb;cases ha:a.cm with|aB y b'=>rw[ha]at hc;have:b=b':=hc.1;subst this;subst hb;exact⟨y,rfl⟩|_=>rw[ha]at hc;exact hc.elim
  .rename_i g;rw[g]at hc;cases ha:a.cm<;>rw[ha]at hc<;>first|rfl|exact hc.elim
  .cases e
 have fin:∀b,AP md st.cm=some b->st.df=[]->ask (o7 P aq nb fn st) (λr=>some (b,r))=some r->∃y h2,ct P (br P 0) fn a.tm a.df .ret a.h=some (.ret y,h2)/\tY md r.1 a.cm/\eF P w st.ob nb a.h fn.resultTypes.toList aq r.2 y h2:=by intro b f c l;obtain⟨p,h1,h2⟩:=EJ l;cases h2;obtain⟨h2,o,n,j⟩:=yx (R:=br P 0) (fn:=fn) (tm:=a.tm) (m:=.ret) (nb:=nb) (by have:=hs.df;rw[c]at this;exact this) hs.h hs.co.1.2 hs.co.2;obtain⟨y,q1,q2⟩:=KN n (hs.tm.mono j.le λ_ _ e=>e) h1;exact⟨y,h2,by rw[o];simp only[ct,q1,Option.map_some],i b f,eF.dK j (q2 _)⟩
 unfold AQ at hr
 split at hr
 .rename_i b c f;obtain rfl:=hx.normal;obtain⟨y,h2,q1,q2,q3⟩:=fin b f c hr;exact⟨.normal,a,w,st.ob,st.nx,⟨rfl,rfl⟩,hs.h,.of (.refl _ _ _),q2,0,y,h2,q1,q3⟩
 .rename_i b c f;obtain rfl:=hx.ret;obtain⟨y,h2,q1,q2,q3⟩:=fin b f c hr;exact⟨.ret,a,w,st.ob,st.nx,⟨rfl,rfl⟩,hs.h,.of (.refl _ _ _),q2,0,y,h2,q1,q3⟩
 .cases hr
theorem CY{args:List SV}{xs:List AV}(hx:aC P w args xs):eN P w (bJ args 0 .leaf) (hO xs 0 .leaf):=by
 refine⟨λt v e=>?_⟩
 rw[p6]at e
 obtain⟨x,h1,h2⟩:=hx.get t v e
 refine⟨x,?_,h2⟩
 rw[Ct]
 have hl:t<xs.length:=by
  rcases Nat.lt_or_ge t xs.length with a|a
  .exact a
  .rw[List.getElem?_eq_none a]at h1;cases h1
 rw[if_pos ⟨Nat.zero_le _,by omega⟩,Nat.sub_zero];exact h1
theorem Du{m n:Nat}{kd:CallKind}{fn:Func}{code:Code}{f:FuncId}{xs:List AV}{cm:bo}{h:AHeap}(b:P.funcs[f]?=some fn)(hb:fn.body=some code){ex:bM}{a:aD}{out:cP}{h2:AHeap}
 (g:evalCode P (br P m) {fn:=f,tn:=max fn.ntmps xs.length,kind:=kd,round:=none} code {tm:=hO xs 0 .leaf,df:=[],cm,h:=h.inner}=some (ex,a))(ho:AE P (br P n) fn ex a=some (out,h2)):
 jT P (br P (max m n)) kd f xs cm h=some (out,a.cm,h.outer h2):=by
 have c:=jq (jX P (Nat.le_max_left m n)) g
 unfold jT
 simp only[b,hb,c]
 have lv:∀md,ct P (br P n) fn a.tm a.df md a.h=some (out,h2)->nj h a.cm (ct P (br P (max m n)) fn a.tm a.df md a.h)=some (out,a.cm,h.outer h2):=by intro md e;rw[CU (jX P (Nat.le_max_right m n)) e];rfl
 cases ex with|normal=>exact lv _ ho|ret=>exact lv _ ho|panic y=>exact lv _ ho|exit i=>cases ho
theorem eF.F4{w':Wd}{ay:Tr au}{h':AHeap}{nb:Nat}{ts:List TypeId}{aq:List Sh}{r:RT (bC aq)}{v:AV}{h2:AHeap}(hf:gj nb w ob h w' ay h')(hp:eF P w' ay nb h' ts aq r v h2):eF P w ob nb h ts aq r v h2:=by obtain⟨w1,b,c,vs,ys,q1,q2,q3⟩:=hp;exact⟨w1,b,c,vs,ys,q1,fH.trans hf.NU q2 hf.xw,q3⟩
theorem gj.full{nx:Nat}{w':Wd}{ay:Tr au}{h':AHeap}(hs:aj P w ob nx h)(a:gj nx w ob h w' ay h'):bl w ob h w' ay h' where
 le:=a.le
 s:=λi k e=>by
  rcases Nat.lt_or_ge i nx with q|q
  .exact a.s i k q e
  .rw[(hs.nx i q).1]at e;cases e
 next:=a.next
 floor:=a.floor
 cb:=λo h1 h2=>a.cb o h1 h2 id
 own:=a.own
 F:=a.F
 wr:=λo e=>(a.wr o e).imp id (.imp id (.imp id λe=>e.elim id False.elim))
 et:=a.et
 bx:=λi t cs e=>a.bx i t cs (hs.tj e) e
def QI{ρ:Type}(P:Program)(fn:Func)(b:af)(k:SV->af->Option ρ)(kp:TypeId->List AV->af->Option ρ)(nb:Nat)(r:ρ)(ex:bM)(a:aD)(w:Wd)(ob:Tr au)(nx:Nat):Prop:=a.cm=.none/\∃h2,aj P (w.heap h2.get) ob nx h2/\fH (XW a.h) nb w ob a.h (w.heap h2.get) ob h2/\((∃v y,(ex=.normal\/ex=.ret)/\ct P (br P 0) fn a.tm a.df .ret a.h=some (.ret y,h2)/\RV P (w.heap h2.get) v y/\k v {b with ob:=ob,nx:=nx}=some r)\/∃t row y,ex=.panic y/\ct P (br P 0) fn a.tm a.df (.aB y false) a.h=some (.aB y,h2)/\ia P t row y/\kp t row {b with ob:=ob,nx:=nx}=some r)
theorem Ur{ρ:Type}{fn:Func}{c:af}{k:SV->af->Option ρ}{kp:TypeId->List AV->af->Option ρ}{nb:Nat}{cx:Ctx}:mX P nb cx (QI P fn c k kp nb) [] (wm P fn c k kp):=by
 intro ex f st w a r hs hx hr
 have hc:st.df=[]/\st.cm=.no:=by
  unfold wm at hr
  cases ex with
  |exit id=>cases hr
  |_=>
   cases hd:st.df with
   |nil=>cases hm:st.cm with|no=>exact⟨rfl,rfl⟩|_=>rw[hd,hm]at hr;cases hr
   |cons d ds=>rw[hd]at hr;cases hm:st.cm<;>rw[hm]at hr<;>cases hr
 have i:iu P w [] a.df:=by have:=hs.df;rwa[hc.1]at this
 have j:a.cm=.none:=by have:=hs.cm;rw[hc.2]at this;cases z:a.cm<;>rw[z]at this<;>first|rfl|exact this.elim
 have g:(ex=.normal\/ex=.ret)->∃vs,mi P st fn.results.toList=some vs/\(match vs with|[v]=>k v {c with ob:=st.ob,nx:=st.nx}|vs=>k (.aR vs) {c with ob:=st.ob,nx:=st.nx})=some r:=by intro q;unfold wm at hr;rw[hc.1,hc.2]at hr;rcases q with rfl|rfl;all_goals simp only at hr;cases hv:mi P st fn.results.toList with|none=>rw[hv]at hr;cases hr|some vs=>rw[hv]at hr;refine⟨vs,rfl,?_⟩;cases vs with|nil=>exact hr|cons v l=>cases l<;>exact hr
 have out:(ex=.normal\/ex=.ret)->(f=.normal\/f=.ret)->Ends P nb w st.ob a.h (QI P fn c k kp nb r) (dO P cx [] f a):=by
  intro q p
  obtain⟨vs,C,B⟩:=g q
  obtain⟨h2,u,o,n⟩:=yx (R:=br P 0) (fn:=fn) (tm:=a.tm) (m:=.ret) (nb:=nb) i hs.h hs.co.1.2 hs.co.2
  obtain⟨ys,q1,q2⟩:=yw o (hs.tm.mono n.le λ_ _ e=>e) C
  have key:∀{vs:List SV}{ys:List AV},jU P fn a.tm h2 fn.results.toList=some ys->aC P (w.heap h2.get) vs ys->∃v y,lH P fn a.tm h2=some y/\RV P (w.heap h2.get) v y/\(match vs with|[v]=>k v {c with ob:=st.ob,nx:=st.nx}|vs=>k (.aR vs) {c with ob:=st.ob,nx:=st.nx})=k v {c with ob:=st.ob,nx:=st.nx}:=by intro vs ys q1 q2;cases q2 with|nil=>exact⟨.aR [],.tuple [],by unfold lH;rw[q1],.aR .nil,rfl⟩|cons a b=>cases b with|nil=>exact⟨_,_,by unfold lH;rw[q1],a,rfl⟩|cons a' b'=>exact⟨_,_,by unfold lH;rw[q1],.aR (.cons a (.cons a' b')),rfl⟩
  obtain⟨v,y,p1,p2,p3⟩:=key (q1 fn) q2;exact⟨f,a,w,st.ob,st.nx,⟨rfl,rfl⟩,hs.h,.of (.refl _ _ _),j,h2,o,n,.inl ⟨v,y,p,by rw[u];simp only[ct,p1,Option.map_some],p2,p3.symm.trans B⟩⟩
 cases ex with|exit id=>cases hr|normal=>exact out (.inl rfl) (.inl hx.normal)|ret=>exact out (.inr rfl) (.inr hx.ret)|aB t row=>obtain⟨y,rfl,hy⟩:=hx.aB;unfold wm at hr;rw[hc.1,hc.2]at hr;obtain⟨h2,u,o,n⟩:=yx (R:=br P 0) (fn:=fn) (tm:=a.tm) (m:=.aB y false) (nb:=nb) i hs.h hs.co.1.2 hs.co.2;exact⟨.panic y,a,w,st.ob,st.nx,⟨rfl,rfl⟩,hs.h,.of (.refl _ _ _),j,h2,o,n,.inr ⟨t,row,y,rfl,by rw[u];rfl,hy,hr⟩⟩
theorem VG{A:dX}(E:po P A){n:Nat}(hC:gr P A (eb P A n)){ρ:Type}(f:FuncId)(args:List SV)(st:af)(k:SV->af->Option ρ)(kp:TypeId->List AV->af->Option ρ)(r:ρ)(hr:(eb P A (n+1)).inl f args st k kp=some r)(w:Wd)(h:AHeap)(xs:List AV)
 (hs:aj P w st.ob st.nx h)(hx:aC P w args xs):F1 P w h st f xs k kp r False:=by
 simp only[eb]at hr
 split at hr
 case h_2=>cases hr
 rename_i fn j
 split at hr
 case h_2=>cases hr
 rename_i code hb
 split at hr
 case h_2=>cases hr
 rename_i u
 simp only[aX,Option.isNone_iff_eq_none]at u
 have g:aj P w st.ob st.nx h.inner:=hs.nt (λ_=>rfl) rfl
 have z:bQ P {fn:=f,tn:=max fn.ntmps xs.length,kind:=.normal,round:=none} w ⟨bJ args 0 .leaf,st.ob,st.nx,[],[],.no⟩ {tm:=hO xs 0 .leaf,df:=[],cm:=.none,h:=h.inner}:=⟨g,CY hx,λ_ _ e=>(by cases e),.nil,trivial,.inl rfl,.inl rfl,⟨.inr (ak _),trivial⟩,λ_ e=>(by cases e)⟩
 have F:tZ P st.nx {fn:=f,tn:=max fn.ntmps xs.length,kind:=.normal,round:=none} (QI P fn st k kp st.nx) code (λ_ _=>none):=λkey st w a r c fs h1 h2 h3=>by cases h2
 have K:=jV hC F (Nat.le_max_left ..) ⟨rfl,j,hb,Nat.le_max_left ..⟩ code (fs:=[]) (λ_ _ _ e=>e) (λi b e=>by cases e) (λ_ _ _ e=>e) u.1 Ur z hr
 obtain⟨cy,aF,w',ay,bU,⟨L,N,⟨m,B⟩,rfl,rfl⟩,M,hF,C,h2,D,I,J⟩:=K
 have l:aj P (w'.heap h2.get) ay bU (h.outer h2):=D.nt (λ_=>rfl) rfl
 have G:gj st.nx w st.ob h.inner (w'.heap h2.get) ay h2:=fH.Vz (X:=XW h.inner) (λo h1 h2=>by have h3:h.next<=o:=h2.1;have h4:o<h.next:=h1;omega) (fH.trans hF.NU I hF.xw)
 have p:bl w st.ob h (w'.heap h2.get) ay (h.outer h2):=(G.full g).outer
 have call:∀out,AE P (br P 0) fn cy aF=some (out,h2)->(br P (max m 0+1)).call .normal f xs .none h=some (out,.none,h.outer h2):=by intro out ho;have q:=Du j hb B ho;rw[C]at q;show kv P (br P (max m 0)) .normal f xs .none h=_;unfold kv;rw[E.none f u.2];exact q
 rcases J with⟨v,y,hex,q1,q2,q3⟩|⟨t,row,y,rfl,q1,q2,q3⟩
 .refine .inl ⟨_,_,{st with ob:=ay,nx:=bU},_,v,y,l,p,rfl,rfl,q3,call (.ret y) ?_,q2,λe=>e.elim⟩;rcases hex with rfl|rfl<;>exact q1
 .exact .inr ⟨_,_,{st with ob:=ay,nx:=bU},_,t,row,y,l,p,rfl,rfl,q3,call (.aB y) q1,q2⟩
def QH{α:Type}(P:Program)(cx:Ctx)(k:af->Option α)(r:α)(ex:bM)(a:aD)(w:Wd)(ob:Tr au)(nx:Nat):Prop:=ex=.normal/\∃st,bQ P cx w st a/\st.ob=ob/\st.nx=nx/\k st=some r
theorem MX{α:Type}{nb:Nat}{cx:Ctx}{k:af->Option α}:mX P nb cx (QH P cx k) [] (λex st=>match ex with|.normal=>k st|_=>none):=by intro ex b st w a r hs hx hr;cases ex with|normal=>obtain rfl:=hx.normal;exact⟨.normal,a,w,st.ob,st.nx,⟨rfl,rfl⟩,hs.h,.of (.refl _ _ _),rfl,st,hs,rfl,rfl,hr⟩|_=>cases hr
theorem Us{aq:List Sh}{nb:Nat}:Fj P aq nb=λex st=>match ex with|.normal=>(match st.df with|[]=>qJ P aq nb [] [] st|_=>none)|_=>none:=by funext ex st;unfold Fj;cases ex<;>cases st.df<;>rfl
theorem VH{A:dX}(hKn:po P A){n:Nat}(hC:gr P A (eb P A n)){f:FuncId}{ts:List Tmp}{cB:List SV}{aA:List au}{aq:List Sh}{r:RT (bC aq)}(hr:(eb P A (n+1)).gk f ts cB aA aq=some r)(hny:jG cB=true)
 {w:Wd}{h:AHeap}{l tn dd:Nat}{tm:Tr AV}{ps:List Tmp}{hd bd:Code}{ys:List AV}(hs:aj P w (bJ aA 0 .leaf) aA.length h)(hg:h.get l=some (.loop .ready none f tn tm ps hd bd dd))(hin:E3 P f tn ps hd bd)(hx:aC P w cB (ts.map (λt=>ev tm (.tmp t))++ys)):
 ∃m h',(br P m).round l ys h=some (.ret (.sc (.bool true)),h')/\qD P (λ_=>False) w (bJ aA 0 .leaf) aA.length h [] aq r dZ h':=by
 obtain⟨fn,code,i1,i2,i3,i4⟩:=hin
 simp only[eb,i1,i2]at hr
 split at hr
 case h_2=>cases hr
 rename_i ps' OW xg B
 split at hr
 case h_2=>cases hr
 rename_i lR aS R
 simp only[aX]at aS
 rw[i4.find (Nat.eq_of_beq_eq_true aS.1.1)]at B
 cases B
 have Gv:∀{w0:Wd},eN P w0 .leaf tm:=⟨λt v e=>by simp[Tr.get]at e⟩
 have L:aC P w (cB.drop ts.length) ys:=by have:=hx.drop ts.length;rwa[List.drop_left' (by simp)]at this
 obtain⟨bL,p1,p2⟩:=JF i3 R L (yv hx Gv)
 have jR:F2 P {fn:=f,tn:=tn,kind:=.normal,round:=some l} f fn code:=⟨rfl,i1,i2,i3⟩
 have hst:bQ P {fn:=f,tn:=tn,kind:=.normal,round:=some l} w ⟨lR,bJ aA 0 .leaf,aA.length,[],[],.gk⟩ {tm:=bL,df:=[],cm:=.none,h:=h}:=⟨hs,p2,λ_ _ e=>(by cases e),.nil,trivial,.inr rfl,.inr (.inl rfl),⟨.inl rfl,trivial⟩,λ_ e=>(by cases e)⟩
 have hJ:∀{α:Type}(Q:α->bM->aD->Wd->Tr au->Nat->Prop)(c:Code),tZ P aA.length {fn:=f,tn:=tn,kind:=.normal,round:=some l} Q c (λ_ _=>none):=λQ c key st w a r c fs h1 h2 h3=>by cases h2
 have sb1:∀qs x y,cU hd qs x y->cU hd qs x y:=λ_ _ _ e=>e
 have lift:∀{c qs x y},(c=hd\/c=bd)->cU c qs x y->cU code qs x y:=by
  intro c qs x y e1 Z
  have J:∀{c0:Code}{q:List Tmp}{u v:Code},cU c0 q u v->(cU u qs x y\/cU v qs x y)->cU c0 qs x y:=by intro c0 q u v N;induction N with|here=>intro e;exact e.elim .hd .bd|hd _ ih=>exactλe=>.hd (ih e)|bd _ ih=>exactλe=>.bd (ih e)|mO _ ih=>exactλe=>.mO (ih e)|kT _ ih=>exactλe=>.kT (ih e)|mw _ ih=>exactλe=>.mw (ih e)|my _ ih=>exactλe=>.my (ih e)|bu _ ih=>exactλe=>.bu (ih e)|loop _ ih=>exactλe=>.loop (ih e)|scope _ ih=>exactλe=>.scope (ih e)
  rcases e1 with rfl|rfl
  .exact J i4 (.inl Z)
  .exact J i4 (.inr Z)
 have hE:=jV (nb:=aA.length) (Q:=QH P _ _) hC (hJ _ hd) i3 jR hd (fs:=[]) (λ_ _ _ e=>e) (λi b e=>by cases e) (λ_ _ _ e=>lift (.inl rfl) e) aS.1.2 MX hst hr
 obtain⟨cy,aF,w1,ob1,nx1,⟨ex1,a1,⟨m1,V⟩,rfl,rfl⟩,I,Y,hex,E,j,rfl,rfl,o⟩:=hE
 subst hex
 unfold M9 at o
 simp only at o
 split at o
 case h_2=>cases o
 rename_i S W
 have z:aF.h.get l=some (.loop .ready none f tn tm ps hd bd dd):=by rw[<-I.g];exact Y.le.l l _ (by rw[hs.g];exact hg) rfl
 have C:E.cm=.gk:=j.rn.resolve_left (by simp)
 let F:b7:=.loop .busy none f tn tm ps hd bd dd
 have hS2:=I.E7 (y:=F) z rfl
 have hc2:=D3 (y:=F) I z rfl
 have hT2:eN P (w1.heap (aF.h.aQ l F).get) (nG (ts++ps++qt hd) ((ts++ps++qt hd).map λt=>bK E.tm (.tmp t)) .leaf) aF.tm:=by refine yv (ys:=[]) ?_ ⟨λt v e=>by simp[Tr.get]at e⟩;rw[List.append_nil];exact aC.mz hc2 (λ_ _ e=>e) S (aC.map _ λt _=>gv j.tm _)
 have O:bQ P {fn:=f,tn:=tn,kind:=.normal,round:=some l} (w1.heap (aF.h.aQ l F).get) {E with tm:=nG (ts++ps++qt hd) ((ts++ps++qt hd).map λt=>bK E.tm (.tmp t)) .leaf,al:=[]} {aF with h:=aF.h.aQ l F}:=by refine⟨hS2,hT2,λ_ _ e=>(by cases e),j.df.D0 W,j.cm,.inr C,.inr (.inl C),⟨.inl C,j.co.1.2⟩,λd e=>?_⟩;obtain⟨c1,c2⟩:=j.co.2 d e;exact⟨c1,by rw[gg (by rintro rfl;rw[z]at c2;cases c2)];exact c2⟩
 rw[Us]at o
 have hE2:=jV (nb:=aA.length) (Q:=QH P _ _) hC (hJ _ bd) i3 jR bd (fs:=[]) (λ_ _ _ e=>e) (λi b e=>by cases e) (λ_ _ _ e=>lift (.inr rfl) e) aS.2 MX O o
 obtain⟨adK,D,w3,ob3,nx3,⟨ex2,a2,⟨m2,U⟩,rfl,rfl⟩,M,X,T,K,adL,rfl,rfl,k⟩:=hE2
 subst T
 have G:D.h.get l=some F:=by rw[<-M.g];exact X.le.l l _ (show(aF.h.aQ l F).get l=_ from pQ) rfl
 let lo:b7:=.loop .ready none f tn tm ps hd bd dd
 have hS4:=M.E7 (y:=lo) G rfl
 have hfr:gj aA.length w (bJ aA 0 .leaf) h (w3.heap (D.h.aQ l lo).get) K.ob (D.h.aQ l lo):=((((jL.of Y).trans (jL.aQ (y:=F) I z rfl)).trans (jL.of X)).trans (jL.aQ (y:=lo) M G rfl)).full (funext hs.g) rfl hg rfl pQ
 simp only at k
 split at k
 case h_2=>cases k
 unfold qJ at k
 simp only at k
 split at k
 case h_2=>cases k
 rename_i p;simp only[aX]at p;refine⟨max m1 m2+1,D.h.aQ l lo,?_,w3.heap (D.h.aQ l lo).get,K.ob,K.nx,[],[],hS4,hfr,.nil,rfl,p.1,p.2,k⟩;show pW P (br P (max m1 m2)) l ys h=_;unfold pW;rw[hg];simp only[p1,jq (jX P (Nat.le_max_left m1 m2)) V,z];have Z:=jq (jX P (Nat.le_max_right m1 m2)) U;simp only[F]at Z G;simp only[Z,rK,G];rfl
theorem KQ(P:Program)(A:dX)(j:po P A):∀n,gr P A (eb P A n)/\KL P A (eb P A n)
 |0=>⟨⟨j,λ_ _ _ _ _ _ e=>(by cases e),λ_ _ _ _ _ _ _ e=>(by cases e),λ_ _ _ _ _ _ e=>(by cases e),λ_ _ _ _ _ _ e=>(by cases e)⟩,λ_ _ _ _ _ _ _ _ e=>(by cases e)⟩
 |n+1=>by
  obtain⟨hC,hJ⟩:=KQ P A j n
  refine⟨⟨j,λf args aA aq bt r hr w h xs hs hx=>?_,λf md args aA aq b r hr w h xs cm hs hx hm=>?_,λf args st k kp r hr w h xs hs hx=>VG j hC f args st k kp r hr w h xs hs hx,λf ts cB aA aq r hr I aS w h l tn dd tm ps hd bd ys hs hg K hx=>VH j hC hr I hs hg K hx⟩,λf key aq bt nb mP aA r hr=>?_⟩
  .simp only[eb]at hr
   split at hr
   case h_2=>cases hr
   rename_i fn g
   split at hr
   case h_2=>cases hr
   rename_i code hb
   split at hr
   case h_2=>cases hr
   rename_i u
   simp only[aX,Option.isNone_iff_eq_none]at u
   have o:bQ P {fn:=f,tn:=max fn.ntmps xs.length,kind:=.normal,round:=none} w ⟨bJ args 0 .leaf,bJ aA 0 .leaf,aA.length,[],[],.no⟩ {tm:=hO xs 0 .leaf,df:=[],cm:=.none,h:=h.inner}:=⟨hs.nt (λ_=>rfl) rfl,CY hx,λ_ _ e=>(by cases e),.nil,trivial,.inl rfl,.inl rfl,⟨.inr (ak _),trivial⟩,λ_ e=>(by cases e)⟩
   have t:tZ P aA.length {fn:=f,tn:=max fn.ntmps xs.length,kind:=.normal,round:=none} (QC P fn aq bt aA.length (A.pn f)) code (s0 P A (eb P A n) f aq bt aA.length):=λkey st w a r c fs h1 h2 h3=>JE hJ h1 h2 g hb h3 (Nat.le_max_left ..) rfl
   have O:=jV hC t (Nat.le_max_left ..) ⟨rfl,g,hb,Nat.le_max_left ..⟩ code (fs:=[]) (λ_ _ _ e=>e) (λi b e=>by cases e) (λ_ _ _ e=>e) u.1 (KP hC) o hr
   obtain⟨cy,aF,w',ay,bU,⟨Q,W,⟨m,z⟩,rfl,rfl⟩,U,hF,q,B,out,h2,ho,G⟩:=O
   have v:=Du g hb z ho
   rw[q]at v
   have h3:(br P (max m B+1)).call .normal f xs .none h=some (out,.none,h.outer h2):=by show kv P (br P (max m B)) .normal f xs .none h=_;unfold kv;rw[j.none f u.2];exact v
   exact⟨max m B+1,fn,h2,g,G.imp (λ_⟨y,S,R⟩=>⟨y,by rw[<-S];exact h3,R.F4 hF⟩) λ_ _ _⟨y,S,R,V⟩=>⟨y,by rw[<-S];exact h3,R,V.F4 hF⟩⟩
  .simp only[eb]at hr
   split at hr
   case h_2=>cases hr
   rename_i fn g
   split at hr
   case h_2=>cases hr
   rename_i code hb
   have F:dR fn.ntmps code=true/\fm P A (eb P A n) f (λ_ _=>none) none code ⟨bJ args 0 .leaf,bJ aA 0 .leaf,aA.length,[],[],md⟩ (AQ P aq aA.length fn md)=some (b,r):=by cases u:dR fn.ntmps code with|false=>rw[u]at hr;cases hr|true=>rw[u]at hr;cases md<;>first|(cases hr;done)|exact⟨rfl,hr⟩
   obtain⟨u,hr⟩:=F
   have o:bQ P {fn:=f,tn:=max fn.ntmps xs.length,kind:=.deferred,round:=none} w ⟨bJ args 0 .leaf,bJ aA 0 .leaf,aA.length,[],[],md⟩ {tm:=hO xs 0 .leaf,df:=[],cm:=cm,h:=h.inner}:=⟨hs.nt (λ_=>rfl) rfl,CY hx,λ_ _ e=>(by cases e),.nil,hm,.inl rfl,.inr (.inr rfl),⟨.inr (ak _),trivial⟩,λ_ e=>(by cases e)⟩
   have t:tZ P aA.length {fn:=f,tn:=max fn.ntmps xs.length,kind:=.deferred,round:=none} (QD P fn aq aA.length md) code (λ_ _=>none):=λkey st w a r c fs h1 h2 h3=>by cases h2
   have O:=jV hC t (Nat.le_max_left ..) ⟨rfl,g,hb,Nat.le_max_left ..⟩ code (fs:=[]) (λ_ _ _ e=>e) (λi b e=>by cases e) (λ_ _ _ e=>e) u Uq o hr;obtain⟨cy,aF,w',ay,bU,⟨Q,W,⟨m,z⟩,rfl,rfl⟩,U,hF,q,B,y,h2,ho,G⟩:=O;have v:=Du g hb z ho;exact⟨max m B+1,fn,y,h2,_,g,v,q,G.F4 hF⟩
  .simp only[eb]at hr
   split at hr
   case h_2=>cases hr
   rename_i fn g
   split at hr
   case h_2=>cases hr
   rename_i code hb
   split at hr
   case h_2=>cases hr
   rename_i ts C
   split at hr
   case h_2=>cases hr
   rename_i aS;simp only[aX]at aS;have T:=Nat.eq_of_beq_eq_true aS.2;refine⟨fn,code,ts,g,hb,C,λc fs p w a cx hs u M q E L J N D gY=>?_⟩;have o:bQ P cx w ⟨sH ts mP,bJ aA 0 .leaf,aA.length,[],[],.no⟩ a:=⟨hs,u,λ_ _ e=>(by cases e),M,by rw[q];trivial,.inl E,.inl rfl,⟨.inr L,J⟩,N⟩;have t:tZ P nb cx (QC P fn aq bt nb (A.pn f)) code (s0 P A (eb P A n) f aq bt nb):=λkey st w a r c fs h1 h2 h3=>JE hJ h1 h2 g hb h3 gY D;exact ox hC t gY ⟨D,g,hb,gY⟩ p code p (by omega) (λi e=>by cases e) (λi b e=>by cases e) (λ_ _ _ e=>e) (λ_ _ _ e=>e) aS.1 (KP hC) o hr
theorem Ut(hP:cZ P)(c:sW P)(e:po P A){n:Nat}{f:FuncId}{args:List SV}{aA:List au}{aq bt:List Sh}{r:AT (A.pn f) (bC aq) (bC bt)}(hr:(eb P A n).call f args aA aq bt=some r){xs:List AV}(hs:aj P w (bJ aA 0 .leaf) aA.length h)(hx:aC P w args xs):∃fn h',P.funcs[f]?=some fn/\jf (A.pn f) r (λr=>∃y,dq P f xs h (.ret y) (h.outer h')/\eF P w (bJ aA 0 .leaf) aA.length h.inner fn.resultTypes.toList aq r y h') (λt row b=>∃y,dq P f xs h (.aB y) (h.outer h')/\ia P t row y/\eF P w (bJ aA 0 .leaf) aA.length h.inner [] bt b dZ h'):=by obtain⟨m,fn,h',q1,q2⟩:=(KQ P A e n).1.call f args aA aq bt r hr w h xs hs hx;exact⟨fn,h',q1,q2.imp (λ_⟨y,a,b⟩=>⟨y,(DW hP c m).call _ _ _ _ _ _ a,b⟩) λ_ _ _⟨y,a,b⟩=>⟨y,(DW hP c m).call _ _ _ _ _ _ a,b⟩⟩
def F9:Wd:={g:=λ_=>none,F:=λ_=>False,s:=λ_=>none}
theorem aaj:aj P F9 (bJ [] 0 .leaf) 0 h0 where
 g:=λ_=>rfl
 box:=λ_ _ _ e=>by cases e
 arr:=λ_ _ _ _ e=>by cases e
 aK:=λ_ _ _ e=>by cases e
 inj:=λ_ _ _ _ _ _ _ e=>by cases e
 lt:=λ_ _ _ e=>by cases e
 nx:=λ_ _=>⟨rfl,rfl⟩
 cW:=λ_ e=>e.elim
 new:=λ_ _=>rfl
theorem jf.ret{l m:List LT}:∀{p:Bool}{a:AT p l m}{r:RT l}{Q:RT l->Prop}{b:TypeId->List AV->RT m->Prop},jf p a Q b->jf p a (λx=>x=r) (λ_ _ _=>False)->Q r|false,_,_,_,_,h,e=>by have e:_=_:=e;subst e;exact h|true,.ret _,_,_,_,h,e=>by have e:_=_:=e;subst e;exact h|true,.aB _ _ _,_,_,_,_,e=>False.elim e
theorem SW(hP:cZ P)(b:sW P)(c:po P A){n:Nat}{f:FuncId}{args:List SV}{aq bt:List Sh}{r:AT (A.pn f) (bC aq) (bC bt)}(hr:(eb P A n).call f args [] aq bt=some r){e:RT (bC aq)}(k:jf (A.pn f) r (λx=>x=e) (λ_ _ _=>False)){xs:List AV}(hx:aC P F9 args xs):∃fn y h',P.funcs[f]?=some fn/\dq P f xs h0 (.ret y) h'/\∃w' ay bU vs ys,aj P w' ay bU h'/\aC P w' vs ys/\y=(wP ys)/\nH P fn.resultTypes.toList vs=true/\bY P ay aq (lj P fn.resultTypes.toList vs)=some e:=by obtain⟨fn,h',q1,q2⟩:=Ut hP b c hr aaj hx;obtain⟨y,q2,w',ay,bU,vs,ys,p1,p2,p3,j,l,i,g⟩:=q2.ret k;refine⟨fn,y,_,q1,q2,w',ay,bU,vs,ys,p1.nt (λ_=>rfl) rfl,p3,j,i,?_⟩;have:nh ay (upto ([]:List au).length)=[]:=rfl;rw[this,List.append_nil]at g;exact g
end
end Go.AI
end

section
namespace Go.AI
variable [Kn]
section
variable {P:Program}{A:dX}
theorem RE(hP:cZ P)(j:sW P)(k:po P A){n:Nat}{f:FuncId}{args:List SV}{b:Bool}{r:AT (A.pn f) (bC [.bool]) []}(hr:(eb P A n).call f args [] [.bool] []=some r)(o:jf (A.pn f) r (λx=>x=b) (λ_ _ _=>False)){xs:List AV}(hx:aC P F9 args xs){t:TypeId}(h:∀fn,P.funcs[f]?=some fn->fn.resultTypes.toList=[t])(i:jw P t=some false):
 ∃h',dq P f xs h0 (.ret (.sc (.bool b))) h':=by
 obtain⟨fn,y,h',q1,q2,w',ay,bU,vs,ys,q3,m,rfl,g,e⟩:=SW hP j k hr o hx
 rw[h fn q1]at g e
 refine⟨h',?_⟩
 have hy:wP ys=.sc (.bool b):=by
  cases m with
  |nil=>cases g
  |@cons v x c l a rest=>
   have hl:c=[]:=by cases c with|nil=>rfl|cons u us=>simp[nH]at g
   subst hl;cases rest;simp only[lj,i]at e;have e:bY P ay (.bool::[]) (v::[])=some b:=e;obtain⟨b',r',rfl,_,h2⟩:=Iq e;cases a;have:b=b':=h2;rw[this];rfl
 rw[hy]at q2;exact q2
end
end Go.AI
end

section
namespace Go.AI
def lG:List AV->Option (List ByteArray)
 |[]=>some []
 |.sc (.string s)::r=>match lG r with|some l=>some (s::l)|none=>none
 |_=>none
def uY(h:AHeap):AV->Option (List ByteArray)|.sc (.slice none 0 0)=>some []|.cq=>some []|.aG rows sz=>if sz=1 then lG rows.flatten else none|.sl o ad n off sz len _=>if sz=1 then(match dp h o ad n off len with|some cs=>lG cs|none=>none)else none|_=>none
theorem Dv:∀{cs:List AV}{l:List ByteArray},lG cs=some l->cs=l.map λs=>.sc (.string s)
 |[],l,e=>by simp[lG]at e;subst e;rfl
 |c::cs,l,e=>by
  unfold lG at e
  split at e
  .rename_i b;cases b
  .rename_i s r b
   cases b
   split at e
   .rename_i l' hl;cases e;rw[Dv hl];rfl
   .cases e
  .cases e
theorem CZ:∀(l:List ByteArray),lG (l.map λs=>.sc (.string s))=some l|[]=>rfl|s::l=>by simp only[List.map_cons,lG,CZ l]
section
variable {P:Program}{g:Gh}{w:World}{h:AHeap}
theorem QR(hw:W h g w){x:AV}{l:List ByteArray}{v:Value}(hr:uY h x=some l)(hv:VR g x v):
 ∃a c,v=.slice a l.length c/\l.length<=c/\(l=[]\/∃bk o,a=some ⟨bk,o,none⟩/\bk<w.heap.size/\∀(j:Nat)s,l[j]?=some s->w.cell? ⟨bk,o+j,none⟩=some (.string s)):=by
 unfold uY at hr
 split at hr
 .cases hr;cases hv;exact⟨none,0,rfl,ak _,.inl rfl⟩
 .cases hr;cases hv;rename_i a c;exact⟨some a,c,rfl,Nat.zero_le _,.inl rfl⟩
 .rename_i rows sz
  split at hr
  .rename_i hz;subst hz
   have eY:=Dv hr
   cases hv with
   |hU=>cases hr;exact⟨none,0,rfl,ak _,.inl rfl⟩
   |h9 a=>cases hr;exact⟨some a,0,rfl,ak _,.inl rfl⟩
   |aG h1 h2 h3=>
    rename_i b off c
    have hlen:rows.flatten.length=rows.length*1:=rU h1
    have hl:l.length=rows.length:=by rw[eY,List.length_map]at hlen;omega
    cases h3 with
    |b9 f p1 p2 p3 t q=>
     refine⟨some ⟨b,off,none⟩,c,by rw[hl],by omega,?_⟩
     cases i:l with
     |nil=>exact .inl rfl
     |cons p z=>
      refine .inr ⟨b,off,rfl,?_,λj s e=>?_⟩
      .have:=p1 0 (.sc (.string p)) (by rw[eY,i];rfl);exact(hw.ro b _ _ this).2
      .have hx:rows.flatten[j]?=some (.sc (.string s)):=by rw[eY,i,List.getElem?_map,e];rfl
       have h4:=p2 j _ hx;have k:=(hw.ro b _ _ (p1 j _ hx)).1;generalize f j=u at h4 k;cases h4;exact k
  .cases hr
 .rename_i o ad n off sz len cap
  split at hr
  .rename_i hz;subst hz
   split at hr
   .rename_i cs m
    have eY:=Dv hr
    cases hv with
    |sl hB p1 p2 p3=>
     rename_i b s c
     obtain⟨vs,q1,q2,q3,_⟩:=pR hw m hB
     have hl:l.length=len:=by rw[<-q2,<-q1.length,eY,List.length_map]
     refine⟨some ⟨b,off,none⟩,c,by rw[hl],by omega,.inr ⟨b,off,rfl,hw.dG _ _ _ _ _ hB,λj s e=>?_⟩⟩
     have hx:cs[j]?=some (.sc (.string s)):=by rw[eY,List.getElem?_map,e];rfl
     have hj:j<vs.length:=by
      have:=q1.length
      rcases Nat.lt_or_ge j vs.length with a|a
      .exact a
      .rw[List.getElem?_eq_none (by omega)]at hx;cases hx
     have h4:=q1.get j _ vs[j] hx (List.getElem?_eq_getElem hj);have k:=q3 j vs[j] (List.getElem?_eq_getElem hj);generalize vs[j]=u at h4 k;cases h4;exact k
   .cases hr
  .cases hr
 .cases hr
theorem C0{f:FuncId}{args:List AV}{y:AV}(hc:∀(g:Gh)(w:World)(vs:List Value),W h g w->aE g args vs->
 Calls P f vs.toArray w λe w'=>(∃x,e=.returned x/\∀g2:Gh,g.Le g2->(∀b i v,w.heap.size<=b->w'.cell? ⟨b,i,none⟩=some v->g2.M b i=some v)->VR g2 y x)/\w.heap.size<=w'.heap.size/\(∀b,b<w.heap.size->w'.heap[b]?=w.heap[b]?)/\w'.tape=w.tape/\w'.os=w.os/\w'.output=w.output):
 dq P f args h (.ret y) h:=by
 intro g w vs hw hf hv
 refine(hc g w vs hw hv).mono ?_
 rintro e w'⟨⟨x,rfl,hx⟩,m,hold,h3,h4,p⟩
 let g2:Gh:=⟨g.B,λb i=>if w.heap.size<=b then w'.cell? ⟨b,i,none⟩else g.M b i⟩
 have k:∀b i v,g.M b i=some v->g2.M b i=some v:=by intro b i v hm;have:=(hw.ro b i v hm).2;show(if w.heap.size<=b then _ else _)=_;rw[if_neg (by omega)];exact hm
 have l:g.Le g2:=⟨λ_ _ _ e=>e,k⟩
 have j:=hw.same m hold
 refine⟨g2,⟨l,ak _,rfl,λ_ h=>h,λ_ _ _ _=>rfl,λ_ _ _=>rfl,λ_ _ h=>h,λ_ _ _ h=>.inl h,m,λo v b s n e _=>⟨v,s,n,e⟩,λb hb _=>hold b hb,h3,h4,p,?_⟩,?_,?_⟩
 .intro b i v hm
  by_cases hb:w.heap.size<=b
  .exact .inr hb
  .have c:(if w.heap.size<=b then w'.cell? ⟨b,i,none⟩else g.M b i)=some v:=hm;rw[if_neg hb]at c;exact .inl c
 .refine⟨λo x hx=>(j.obj o x hx).move l (λ_ _ e=>e) (λ_ _ _ _ _=>rfl),j.dG,j.inj,?_,?_,j.oK (λ_ _ _=>rfl) k⟩
  .intro b i v hm
   have c:(if w.heap.size<=b then w'.cell? ⟨b,i,none⟩else g.M b i)=some v:=hm
   by_cases hb:w.heap.size<=b
   .rw[if_pos hb]at c
    refine⟨c,?_⟩
    rcases Nat.lt_or_ge b w'.heap.size with a|a
    .exact a
    .exfalso;have hn:w'.heap[b]?=none:=Array.getElem?_eq_none a;unfold World.cell? at c;simp[hn]at c
   .rw[if_neg hb]at c;exact j.ro b i v c
  .intro b i u hm o v s n e;have c:(if w.heap.size<=b then w'.cell? ⟨b,i,none⟩else g.M b i)=some u:=hm;have:=hw.dG o v b s n e;rw[if_neg (by omega)]at c;exact hw.gG b i u c o v s n e
 .refine hx g2 l λb i v hb hc=>?_;show(if w.heap.size<=b then _ else _)=_;rw[if_pos hb];exact hc
theorem Dw{f:FuncId}{args:List AV}{y:AV}(hc:∀(g:Gh)(w:World)(vs:List Value),W h g w->aE g args vs->Calls P f vs.toArray w λe w'=>(∃x,e=.returned x/\∀g2:Gh,VR g2 y x)/\w.heap.size<=w'.heap.size/\(∀b,b<w.heap.size->w'.heap[b]?=w.heap[b]?)/\w'.tape=w.tape/\w'.os=w.os/\w'.output=w.output):dq P f args h (.ret y) h:=C0 λg w vs hw hv=>(hc g w vs hw hv).mono λ_ _⟨⟨x,i,c⟩,r⟩=>⟨⟨x,i,λg2 _ _=>c g2⟩,r⟩
theorem SX{g2:Gh}{w:World}{l:List ByteArray}{t:TypeId}(hm:∀b i v,w.heap.size<=b->(w.alloc (.cells (l.map Value.string).toArray t)).cell? ⟨b,i,none⟩=some v->g2.M b i=some v):
 VR g2 (.aG (l.map λs=>[.sc (.string s)]) 1) (.slice (some ⟨w.heap.size,0,none⟩) l.length l.length):=by
 have e:(l.map λs=>([.sc (.string s)]:List AV)).flatten=l.map λs=>.sc (.string s):=by clear hm;induction l with|nil=>rfl|cons a l ih=>rw[List.map_cons,List.flatten_cons,ih];rfl
 have hl:(l.map λs=>([.sc (.string s)]:List AV)).length=l.length:=by simp
 rw[<-hl]
 refine .aG (λr hr=>?_) ?_ (.b9 (λi=>((l.map Value.string)[i]?).getD .nilIface) (λi x hx=>?_) (λi x hx=>?_) ?_ (by omega) (λk hk=>by cases hk;simp))
 .obtain⟨s,_,rfl⟩:=List.mem_map.1 hr;rfl
 .rw[e,xp];intro x hx;obtain⟨s,_,rfl⟩:=List.mem_map.1 hx;rfl
 .rw[e]at hx;rw[List.getElem?_map]at hx;cases hs:l[i]? with|none=>rw[hs]at hx;cases hx|some s=>refine hm _ _ _ (ak _) ?_;unfold World.cell? World.alloc;simp[hs]
 .rw[e,List.getElem?_map]at hx;cases hs:l[i]? with|none=>rw[hs]at hx;cases hx|some s=>rw[hs]at hx;cases hx;simp only[List.getElem?_map,hs,Option.map_some,Option.getD_some];exact .sc _
 .rw[e];simp
theorem RG{w:Wd}{r r':List AV}(h:cF P w [.str] r r'):∃s,r=[.sc (.string s)]/\r'=[.sc (.string s)]:=by cases h with|cons h1 h2=>cases h2;cases h1;exact⟨_,rfl,rfl⟩
theorem CG{w:Wd}:∀{rs de:List (List AV)},bX P w [.str] rs de->de=rs/\rs.flatten=(rs.map (gS . 0)).map λs=>.sc (.string s)|_,_,.nil _=>⟨rfl,rfl⟩|_,_,.cons h1 h2=>by obtain⟨s,rfl,rfl⟩:=RG h1;obtain⟨rfl,e⟩:=CG h2;refine⟨rfl,?_⟩;simp only[List.flatten_cons,List.map_cons,e];rfl
theorem Iu{w:Wd}:∀(l:List ByteArray),bX P w [.str] (l.map λs=>[.sc (.string s)]) (l.map λs=>[.sc (.string s)])|[]=>.nil _|s::l=>.cons (.cons (.str s) .nil) (Iu l)
theorem QS{w:Wd}{t:TypeId}{rows:List (List AV)}{x:AV}(hl:lay P t=[.str])(hg:∀o,w.g o=h.get o)(hd:Rd P w t rows x):uY h x=some (rows.map (gS . 0)):=by
 cases hd with
 |nil=>rfl
 |cq=>rfl
 |@aG _ _ rows' h1 h2 h0 h3=>rw[hl]at h3;obtain⟨rfl,e⟩:=CG h3;rw[hl];show(if 1=1 then lG rows'.flatten else none)=_;rw[if_pos rfl,e,CZ]
 |sl h1 h2 h3 h4 u q k j p f=>
  rename_i o ad n off v mv fz c el ex sh cap
  rw[hl]at k j f
  obtain⟨l,e⟩:=CG f
  rw[hl]
  have k:off+rows.length*1<=n:=k
  have j:off+rows.length*1<=c.length:=j
  show(if 1=1 then(match dp h o ad n off rows.length with|some cs=>lG cs|none=>none)else none)=_
  rw[if_pos rfl]
  have i:dp h o ad n off rows.length=some ((c.drop off).take rows.length):=by have b:=h4;rw[hg]at b;simp only[dp,b];rw[if_pos (by omega)]
  rw[i]
  have l:chunks 1 rows.length (c.drop off)=rows:=l
  have m:(c.drop off).take rows.length=rows.flatten:=by have hf:=chunks_flatten 1 rows.length ((c.drop off).take rows.length) (by rw[List.length_take,List.length_drop];omega);rw[<-hf];congr 1;have:=ud (sz:=1) rows.length ((c.drop off).take rows.length) ((c.drop off).drop rows.length) (by rw[List.length_take,List.length_drop];omega);rw[List.take_append_drop,l]at this;exact this.symm
  show lG _=_;rw[m,e,CZ]
end
end Go.AI
end
