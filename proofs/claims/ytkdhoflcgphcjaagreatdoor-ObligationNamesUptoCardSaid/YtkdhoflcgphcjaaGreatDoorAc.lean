/- A part of the proof. -/
import Derived.Laws.BytesArg
import Derived.Laws.BytesString
import Derived.Lib.ConvBytes
import Derived.KernelRfl
import Derived.Test.YtkdhoflcgphcjaaGreatDoorAb
set_option linter.all false

section
namespace Go.AI
section
variable {P:Program}{h h':AHeap}{g:Gh}{w:World}
def JD:Obj->Bool|.cells ..=>false|_=>true
theorem fc{r:Nat}{o:Obj}(c:w.heap[r]?=some o)(hn:JD o=true):(getObj r).run P w=.ok o w:=by unfold getObj;cases o<;>first|(cases hn;done)|simp[Sem.run,c]
theorem ko{r:Nat}{o o':Obj}(c:w.heap[r]?=some o)(hn:JD o=true):(setObj r o').run P w=.ok () (cJ w r o'):=by unfold setObj;cases o<;>first|(cases hn;done)|simp[Sem.run,c,cJ]
theorem Ys{a b:ByteArray}(h:(a==b)=true):a=b:=by have h':(a.data==b.data)=true:=h;have:=eq_of_beq h';cases a;simp_all
theorem UQ(a:ByteArray):(a==a)=true:=by show(a.data==a.data)=true;simp
theorem QK{b:Bool}{i:TypeId}{kd:TypeDesc}{c:Value}(n:Nat)(hu:P.underlying i=some kd)(hk:eQ kd c=true):(Instr.checkKey b (n+1) i c).run P w=.ok () w:=by unfold eQ at hk;split at hk<;>simp_all[run_underlying,Instr.checkKey]
theorem run_checkKey{b:Bool}{i:TypeId}{kd:TypeDesc}{c:Value}(hu:P.underlying i=some kd)(hk:eQ kd c=true):(Instr.checkKey b 10000 i c).run P w=.ok () w:=QK 9999 hu hk
theorem sameKey_eq{a b:Value}(h:sameKey a b=some true):b=a:=by unfold sameKey at h;grind[an,Ys]
theorem H9{kd:TypeDesc}{a b:Value}{r:Bool}(hk:eQ kd a=true)(h:sameKey a b=some r):Instr.sameNow kd a b=some r:=by
 unfold eQ at hk
 split at hk
 .unfold sameKey at h;grind[Instr.sameNow]
 .unfold sameKey at h;grind[Instr.sameNow]
 .unfold sameKey at h;grind[Instr.sameNow]
 .cases hk
theorem sameBits_self{kd:TypeDesc}{a:Value}(hk:eQ kd a=true):Instr.sameBits 10000 a a=true:=by unfold eQ at hk;grind[UQ,Instr.sameBits]
theorem sI{kd:TypeDesc}{m:Value}(hk:eQ kd m=true):∀{es:List (AV×AV×Nat)}{c:List MapEntry}{i:Nat}{r:Option (Nat×AV×Nat)},
 gJ m es i=some r->cB g es c->∃r',Instr.findNow kd m c i=some r'/\(match r with|none=>r'=none|some (j,v,b)=>∃v',r'=some (j,v')/\VR g v v'/\i<=j/\j-i<es.length/\∃e,c[j-i]?=some e/\e.key=m/\e.born=b)
 |[],[],i,r,h,_=>by simp[gJ]at h;subst h;exact⟨none,rfl,rfl⟩
 |(k,v,b)::es,e::c,i,r,h,hr=>by
  obtain⟨h1,h2,h3,h4⟩:=hr
  cases k with
  |sc q=>
   simp only[gJ]at h
   cases h1
   split at h
   .rename_i hs;cases h;refine⟨some (i,e.val),?_,e.val,rfl,h2,ao _,by simp,e,by simp,sameKey_eq hs,h3⟩;simp[Instr.findNow,H9 hk hs]
   .rename_i hs;obtain⟨r',q1,q2⟩:=sI hk h h4;grind[H9,Instr.findNow]
   .cases h|_=>simp[gJ]at h
 |[],_::_,_,_,_,hr=>hr.elim|(_,_,_)::_,[],_,_,_,hr=>hr.elim
theorem run_findKey{j:TypeId}{kd:TypeDesc}{i:Value}{c:List MapEntry}{r:Option (Nat×Value)}(hu:P.underlying j=some kd)(hf:Instr.findNow kd i c 0=some r):(Instr.findKey j i c).run P w=.ok r w:=by simp_all[Sem.run_bind,run_underlying,Result.andThen_ok,Sem.run_pure,Instr.findKey]
theorem Hp{t o e:TypeId}{kd:TypeDesc}{v j:Value}{ok:Bool}{b:Nat}{i:Array MapEntry}{clock:Nat}{r:Option (Nat×Value)}(hu:P.underlying t=some (.map o e))(c:P.underlying o=some kd)(m:eQ kd v=true)(hz:(zeroValue e).run P w=.ok j w)(p:w.heap[b]?=some (.map i clock))(hf:Instr.findNow kd v i.toList 0=some r):(Instr.lookup t (.map (some b)) v ok).run P w=.ok (match r with|some (_,x)=>if ok then .tuple #[x,.bool true]else x|none=>if ok then .tuple #[j,.bool false]else j) w:=by unfold Instr.lookup;simp only[Sem.run_bind,run_underlying hu,Result.andThen_ok,fc p rfl,Sem.run_pure,run_checkKey c m,run_findKey c hf];grind[Sem.run_bind,Result.andThen_ok,Sem.run_pure]
theorem QY{t i e:TypeId}{kd:TypeDesc}{v c:Value}{ok:Bool}(hu:P.underlying t=some (.map i e))(j:P.underlying i=some kd)(m:eQ kd v=true)(hz:(zeroValue e).run P w=.ok c w):(Instr.lookup t (.map none) v ok).run P w=.ok (if ok then .tuple #[c,.bool false]else c) w:=by simp_all[Sem.run_bind,run_underlying,Result.andThen_ok,Sem.run_pure,run_checkKey,run_findKey,Instr.lookup,Instr.findNow]
theorem VR.opt{ok b:Bool}{x:AV}{v:Value}(hx:VR g x v):VR g (if ok then .tuple [x,.sc (.bool b)]else x) (if ok then .tuple #[v,.bool b]else v):=by cases ok with|false=>exact hx|true=>exact VR.eo.2 ⟨_,rfl,hx,.sc _,trivial⟩
def WX(g:Gh):Option (Nat×AV×Nat)->Option (Nat×Value)->Prop|none,r=>r=none|some (_,y,_),r=>∃j c,r=some (j,c)/\VR g y c
theorem IH{kd:TypeDesc}{x:AV}{u v:Value}{r:Option (Nat×AV×Nat)}(hw:W h g w)(i:eQ kd v=true)(hx:VR g x u)(hr:qY h v x=some r):
 (u=.map none/\r=none)\/∃b,∃c:Array MapEntry,∃clock r',u=.map (some b)/\w.heap[b]?=some (.map c clock)/\Instr.findNow kd v c.toList 0=some r'/\WX g r r':=by
 cases hx with
 |sc u=>grind[AV.sc.injEq,qY]
 |map hB=>
  rename_i o b s n
  simp only[qY]at hr
  split at hr
  .rename_i es clock hg;obtain⟨c,q1,q2⟩:=hw.obj o _ hg b s n hB;obtain⟨r',z,m⟩:=sI i hr q2;refine .inr ⟨b,c,clock,r',rfl,q1,z,?_⟩;cases r with|none=>exact m|some q=>obtain⟨j,y,b2⟩:=q;obtain⟨p,e1,e2,_⟩:=m;exact⟨j,p,e1,e2⟩
  .cases hr|_=>simp[qY]at hr
theorem II{t:TypeId}{x k y:AV}{u v:Value}{ok:Bool}(hw:W h g w)(hx:VR g x u)(hk:VR g k v)(hr:sO P h t x k ok=some y):
 ∃z,(Instr.lookup t u v ok).run P w=.ok z w/\VR g y z:=by
 unfold sO at hr
 split at hr
 .rename_i D e C hu
  cases hk
  split at hr
  .rename_i kd z o hz
   split at hr
   .cases hr
   .rename_i c
    have c:eQ kd v=true:=by grind
    obtain⟨q,m,rfl⟩:=xn hz w
    split at hr
    .rename_i i x b hl
     cases hr
     rcases IH hw c hx hl with⟨_,e1⟩|⟨b',p,clock,r',rfl,q1,q2,j,x',rfl,q3⟩
     .cases e1
     .exact⟨_,Hp hu o c m q1 q2,VR.opt q3⟩
    .rename_i hl
     cases hr
     rcases IH hw c hx hl with⟨rfl,_⟩|⟨b',p,clock,r',rfl,q1,q2,q3⟩
     .exact⟨_,QY hu o c m,VR.opt (VR.bh q)⟩
     .cases q3;exact⟨_,Hp hu o c m q1 q2,VR.opt (VR.bh q)⟩
    .cases hr
  .cases hr
 .cases hr
theorem cB.length:∀{es:List (AV×AV×Nat)}{c:List MapEntry},cB g es c->es.length=c.length|[],[],_=>rfl|(_,_,_)::_,_::_,h=>by simp[cB.length h.2.2.2]|[],_::_,h=>h.elim|(_,_,_)::_,[],h=>h.elim
theorem cB.set{k v:AV}{e:MapEntry}(hk:VR g k e.key)(hv:VR g v e.val):∀{es:List (AV×AV×Nat)}{c:List MapEntry}(i:Nat),cB g es c->cB g (es.set i (k,v,e.born)) (c.set i e)|[],[],_,_=>by simp[cB]|(_,_,_)::_,_::_,0,h=>⟨hk,hv,rfl,h.2.2.2⟩|(_,_,_)::_,_::_,i+1,h=>⟨h.1,h.2.1,h.2.2.1,cB.set hk hv i h.2.2.2⟩|[],_::_,_,h=>h.elim|(_,_,_)::_,[],_,h=>h.elim
theorem cB.push{k v:AV}{e:MapEntry}(hk:VR g k e.key)(hv:VR g v e.val):∀{es:List (AV×AV×Nat)}{c:List MapEntry},cB g es c->cB g (es++[(k,v,e.born)]) (c++[e])|[],[],_=>⟨hk,hv,rfl,trivial⟩|(_,_,_)::_,_::_,h=>⟨h.1,h.2.1,h.2.2.1,cB.push hk hv h.2.2.2⟩|[],_::_,h=>h.elim|(_,_,_)::_,[],h=>h.elim
theorem cB.erase:∀{es:List (AV×AV×Nat)}{c:List MapEntry}(i:Nat),cB g es c->cB g (es.eraseIdx i) (c.eraseIdx i)|[],[],_,_=>by simp[cB]|(_,_,_)::_,_::_,0,h=>by simpa using h.2.2.2|(_,_,_)::_,_::_,i+1,h=>⟨h.1,h.2.1,h.2.2.1,cB.erase i h.2.2.2⟩|[],_::_,_,h=>h.elim|(_,_,_)::_,[],_,h=>h.elim
theorem HI{t:TypeId}{x k y:AV}{u v z:Value}(hw:W h g w)(hx:VR g x u)(hk:VR g k v)(hy:VR g y z)(hr:mA P h t x k y=some h'):
 bf P h g w (do Instr.mapUpdate t u v z;pure .skip) .skip h':=by
 unfold mA at hr
 split at hr
 .rename_i T e S o hu
  cases hk
  cases hx with
  |map hB=>
   rename_i b s n
   split at hr
   .rename_i kd es clock q hg
    split at hr
    .cases hr
    .rename_i m
     have m:eQ kd v=true:=by grind
     obtain⟨p,q1,q2⟩:=hw.obj o _ hg b s n hB
     have hlen:=q2.length
     split at hr
     .rename_i i N M hf
      cases hr
      obtain⟨r',E,O,D,R,Q,L,G,K,J,I⟩:=sI m hf q2
      subst D
      simp only[Nat.sub_zero]at L K
      have hi:i<p.size:=by grind
      have F:p[i]?=some G:=by grind
      have C:(p.modify i λe=>{e with key:=v,val:=z})=p.set i {G with key:=v,val:=z} hi:=by grind
      have c:=jJ (x':=.map (es.set i (.sc v,y,M)) clock) hw hg hB (w':=cJ w b (.map (p.modify i λe=>{e with key:=v,val:=z}) clock)) rfl ?_
      .refine⟨g,_,?_,c.1,c.2⟩;unfold Instr.mapUpdate;simp only[Sem.run_bind,run_underlying hu,Result.andThen_ok,fc q1 rfl,run_checkKey q m,run_findKey q E,F,Option.map_some,Option.getD_some,Instr.keyThatStays,J,sameBits_self m,if_true,Sem.run_pure,ko q1 rfl]
      .intro b' s' n' j;rw[hB]at j;simp only[an,aV]at j;obtain⟨rfl,rfl,rfl⟩:=j;refine⟨_,hQ (hO q1),?_⟩;rw[C];simp only[Array.toList_set];rw[<-I];exact cB.set (e:={G with key:=v,val:=z}) (.sc v) hy i q2
     .rename_i hf
      cases hr
      obtain⟨r',E,D⟩:=sI m hf q2
      subst D
      have c:=jJ (x':=.map (es++[(.sc v,y,clock)]) (clock+1)) hw hg hB (w':=cJ w b (.map (p.push {key:=v,val:=z,born:=clock}) (clock+1))) rfl ?_
      .refine⟨g,_,?_,c.1,c.2⟩;unfold Instr.mapUpdate;simp only[Sem.run_bind,run_underlying hu,Result.andThen_ok,fc q1 rfl,run_checkKey q m,run_findKey q E,Sem.run_pure,ko q1 rfl]
      .intro b' s' n' j;rw[hB]at j;simp only[an,aV]at j;obtain⟨rfl,rfl,rfl⟩:=j;refine⟨_,hQ (hO q1),?_⟩;simp only[Array.toList_push];exact cB.push (e:={key:=v,val:=z,born:=clock}) (.sc v) hy q2
     .cases hr
   .cases hr
 .cases hr
theorem Se{q:Array TypeId}{t ty:TypeId}{x k:AV}{u v:Value}(hw:W h g w)(p:q[0]?=some t)(hx:VR g x u)(hk:VR g k v)(hr:yr P h t x k=some h'):
 bf P h g w (do pure (.value (<-Builtin.delete_ q ty #[u,v]))) (.val dm) h':=by
 unfold yr at hr
 split at hr
 .rename_i J e I o hu
  cases hk
  cases hx with
  |map hB=>
   rename_i b s n
   split at hr
   .rename_i kd es clock j hg
    split at hr
    .cases hr
    .rename_i c
     have c:eQ kd v=true:=by grind
     obtain⟨D,q1,q2⟩:=hw.obj o _ hg b s n hB
     split at hr
     .rename_i i F K hf
      cases hr
      obtain⟨r',C,G,z,_⟩:=sI c hf q2
      subst z
      have m:=jJ (x':=.map (es.eraseIdx i) clock) hw hg hB (w':=cJ w b (.map (D.eraseIdxIfInBounds i) clock)) rfl ?_
      .refine⟨g,_,.tuple #[],?_,VR.eo.2 ⟨#[],rfl,trivial⟩,m.1,m.2⟩;unfold Builtin.delete_;simp only[p,List.getElem?_toArray,List.getElem?_cons_zero,List.getElem?_cons_succ,Sem.run_bind,run_underlying hu,Result.andThen_ok,fc q1 rfl,run_checkKey j c,run_findKey j C,Sem.run_pure,ko q1 rfl]
      .intro b' s' n' E;simp_all[an,aV,hQ,hO,Array.toList_eraseIdxIfInBounds,cB.erase]
     .rename_i hf;cases hr;obtain⟨r',C,z⟩:=sI c hf q2;subst z;refine bf.same hw (x:=.tuple #[]) ?_ (VR.eo.2 ⟨#[],rfl,trivial⟩);unfold Builtin.delete_;simp only[p,List.getElem?_toArray,List.getElem?_cons_zero,List.getElem?_cons_succ,Sem.run_bind,run_underlying hu,Result.andThen_ok,fc q1 rfl,run_checkKey j c,run_findKey j C,Sem.run_pure,ko q1 rfl,KD q1]
     .cases hr
   .cases hr
 .cases hr
end
end Go.AI
end

section
namespace Go.AI
section
variable {P:Program}{h h':AHeap}{g:Gh}{w:World}
theorem yV{x:bT}{ob:Obj}(hw:W h g w)(hf:∀v,g.B h.next v=none)
 (ho:∀g',(g'.B h.next 0=some (w.heap.size,0,0))->g.Le g'->(∀v y,g'.B h.next v=some y->v=0/\y=(w.heap.size,0,0))->OR g' (w.alloc ob) h.next x):
 ∃g',g'.B h.next 0=some (w.heap.size,0,0)/\W (h.alloc x) g' (w.alloc ob)/\Step h g w (h.alloc x) g' (w.alloc ob):=by
 refine⟨g.dc h.next 0 (w.heap.size,0,0),Gh.fT _ _ _ _,?_⟩
 refine qC hw hf rfl (ho _ (Gh.fT _ _ _ _) (Gh.kA (hf 0)) ?_)
 intro v y hy
 rcases Gh.cO hy with⟨_,e1,e2⟩|e1
 .grind
 grind
theorem Ia{t:TypeId}{r:Option Value}(hw:W h g w)(hf:∀v,g.B h.next v=none)(hr:r=none\/∃k e n i,P.underlying t=some (.map k e)/\r=some (.int n i)):
 bf P h g w (do pure (.value (<-Instr.makeMap t r))) (.val (.map h.next)) (h.alloc (.map [] 0)):=by
 obtain⟨g',h1,h2,h3⟩:=yV (x:=.map [] 0) (ob:=.map #[] 0) hw hf (by intro g' e1 _ _ b s n hb;rw[e1]at hb;cases hb;exact⟨#[],kq _ _,trivial⟩)
 refine⟨g',_,.map (some w.heap.size),?_,.map h1,h2,h3⟩
 rcases hr with rfl|⟨k,e,n,i,hu,rfl⟩
 .simp[Instr.makeMap]
 .simp[Instr.makeMap,run_underlying hu,asInt,asIntOf]
theorem QP{t:TypeId}{s:ByteArray}(hw:W h g w)(hf:∀v,g.B h.next v=none)(hu:P.underlying t=some .string):bf P h g w (do pure (.value (<-Instr.range t (.string s)))) (.val (.ref h.next 0 0 0)) (h.alloc (.j7 s 0)):=by obtain⟨g',h1,h2,h3⟩:=yV (x:=.j7 s 0) (ob:=.stringIter s 0) hw hf (by intro g' e1 _ _ b k n hb;grind[an,aV,kq]);refine⟨g',_,.pointer (some ⟨w.heap.size,0,none⟩),?_,.ref h1,h2,h3⟩;simp[Instr.range,run_underlying hu]
theorem Q7{t k e:TypeId}(hw:W h g w)(hf:∀v,g.B h.next v=none)(hu:P.underlying t=some (.map k e)):bf P h g w (do pure (.value (<-Instr.range t (.map none)))) (.val (.ref h.next 0 0 0)) (h.alloc (.gY none 0 [] 0)):=by obtain⟨g',h1,h2,h3⟩:=yV (x:=.gY none 0 [] 0) (ob:=.mapIter none 0 #[] 0) hw hf (by intro g' e1 _ _ b k n hb;grind[an,aV,kq]);refine⟨g',_,.pointer (some ⟨w.heap.size,0,none⟩),?_,.ref h1,h2,h3⟩;simp[Instr.range,run_underlying hu]
theorem Q8{t k e:TypeId}{o b s n clock:Nat}{es:List (AV×AV×Nat)}(hw:W h g w)(hf:∀v,g.B h.next v=none)(hu:P.underlying t=some (.map k e))(hB:g.B o 0=some (b,s,n))(hg:h.get o=some (.map es clock)):bf P h g w (do pure (.value (<-Instr.range t (.map (some b))))) (.val (.ref h.next 0 0 0)) (h.alloc (.gY (some o) clock [] clock)):=by obtain⟨i,q1,q2⟩:=hw.obj o _ hg b s n hB;obtain⟨g',h1,h2,h3⟩:=yV (x:=.gY (some o) clock [] clock) (ob:=.mapIter (some b) clock #[] clock) hw hf (by intro g' e1 c _ b' k' n' hb;rw[e1]at hb;cases hb;exact⟨some b,kq _ _,b,s,n,c.b _ _ _ hB,rfl⟩);refine⟨g',_,.pointer (some ⟨w.heap.size,0,none⟩),?_,.ref h1,h2,h3⟩;simp[Instr.range,run_underlying hu,fc q1 rfl]
theorem QZ{o b s n pos:Nat}{str:ByteArray}{ty:TypeId}(hw:W h g w)(hB:g.B o 0=some (b,s,n))(hg:h.get o=some (.j7 str pos))(i:pos<str.size):bf P h g w (do pure (.value (<-Instr.next (.pointer (some ⟨b,0,none⟩)) true ty))) (.val (.tuple [.sc (.bool true),.sc (goInt pos),.sc (.int .i32 (Utf8.decode str pos).1)])) (h.aG o (.j7 str (pos+(Utf8.decode str pos).2))):=by have q1:=hw.obj o _ hg b s n hB;have c:=jJ (x':=.j7 str (pos+(Utf8.decode str pos).2)) hw hg hB (w':=cJ w b (.stringIter str (pos+(Utf8.decode str pos).2))) rfl (by intro b' k' n' j;simp_all[an,aV,hQ,hO]);refine⟨g,_,.tuple #[.bool true,goInt pos,.int .i32 (Utf8.decode str pos).1],?_,VR.eo.2 ⟨_,rfl,.sc _,.sc _,.sc _,trivial⟩,c.1,c.2⟩;simp[Instr.next,fc q1 rfl,i,ko q1 rfl]
theorem Q9{o b s n pos:Nat}{str:ByteArray}{ty:TypeId}(hw:W h g w)(hB:g.B o 0=some (b,s,n))(hg:h.get o=some (.j7 str pos))(c:¬pos<str.size):bf P h g w (do pure (.value (<-Instr.next (.pointer (some ⟨b,0,none⟩)) true ty))) (.val (.tuple [.sc (.bool false)])) h:=by have q1:=hw.obj o _ hg b s n hB;refine bf.same hw (x:=.tuple #[.bool false]) ?_ (VR.eo.2 ⟨_,rfl,.sc _,trivial⟩);simp[Instr.next,fc q1 rfl,c]
theorem Rn{o b s n since last:Nat}{seen:List Nat}{ty:TypeId}(hw:W h g w)(hB:g.B o 0=some (b,s,n))(hg:h.get o=some (.gY none since seen last)):bf P h g w (do pure (.value (<-Instr.next (.pointer (some ⟨b,0,none⟩)) false ty))) (.val (.tuple [.sc (.bool false)])) h:=by obtain⟨c,q1,q2⟩:=hw.obj o _ hg b s n hB;simp only at q2;subst q2;refine bf.same hw (x:=.tuple #[.bool false]) ?_ (VR.eo.2 ⟨_,rfl,.sc _,trivial⟩);simp[Instr.next,fc q1 rfl]
theorem cB.filter(p:Nat->Bool):∀{es:List (AV×AV×Nat)}{c:List MapEntry},cB g es c->cB g (es.filter λe=>p e.2.2) (c.filter λe=>p e.born)
 |[],[],_=>trivial
 |(k,v,b)::es,e::c,i=>by obtain⟨h1,h2,h3,h4⟩:=i;subst h3;simp only[List.filter_cons];cases p e.born with|false=>simpa using cB.filter p h4|true=>simpa using⟨h1,h2,rfl,cB.filter p h4⟩
 |[],_::_,i=>i.elim|(_,_,_)::_,[],i=>i.elim
theorem cB.all(p:Nat->Bool):∀{es:List (AV×AV×Nat)}{i:List MapEntry},cB g es i->(es.all λe=>p e.2.2)=(i.all λe=>p e.born)|[],[],_=>rfl|(_,_,_)::_,_::_,c=>by obtain⟨h1,h2,h3,h4⟩:=c;subst h3;simp[cB.all p h4]|[],_::_,c=>c.elim|(_,_,_)::_,[],c=>c.elim
theorem Ro{o m b s n L M nm since last clock:Nat}{seen:List Nat}{es:List (AV×AV×Nat)}{ty:TypeId}{r:dv}
 (hw:W h g w)(hB:g.B o 0=some (b,s,n))(hg:h.get o=some (.gY (some m) since seen last))(D:g.B m 0=some (L,M,nm))(I:h.get m=some (.map es clock))
 (O:(!seen.isEmpty&&!es.isEmpty&&es.all (λe=>decide (last<=e.2.2)))=false)
 (hr:(match es.filter (λe=>!seen.contains e.2.2)with|[]=>some (.val (.tuple [.sc (.bool false)]),h)|[e]=>if e.2.2<since then some (.val (.tuple [.sc (.bool true),e.1,e.2.1]),h.aG o (.gY (some m) since (seen++[e.2.2]) clock))else none|_=>none)=some (r,h')):
 bf P h g w (do pure (.value (<-Instr.next (.pointer (some ⟨b,0,none⟩)) false ty))) r h':=by
 obtain⟨X,q1,b',s',n',q2,rfl⟩:=hw.obj o _ hg b s n hB
 rw[D]at q2
 simp only[an,aV]at q2
 obtain⟨rfl,rfl,rfl⟩:=q2
 obtain⟨j,q3,F⟩:=hw.obj m _ I L M nm D
 have N:=cB.all (λk=>decide (last<=k)) F
 have hlen:=F.length
 have c:=cB.filter (λk=>!seen.contains k) F
 have p:(!seen.toArray.isEmpty&&!j.isEmpty&&j.all (λe=>decide (e.born>=last)))=false:=by grind
 have i:j.filter (λe=>!seen.toArray.contains e.born)=(j.toList.filter λe=>!seen.contains e.born).toArray:=by apply Array.ext';simp
 split at hr
 .rename_i u
  cases hr
  rw[u]at c
  have K:(j.toList.filter λe=>!seen.contains e.born)=[]:=by cases hx:(j.toList.filter λe=>!seen.contains e.born)with|nil=>rfl|cons _ _=>rw[hx]at c;exact c.elim
  refine bf.same hw (x:=.tuple #[.bool false]) ?_ (VR.eo.2 ⟨_,rfl,.sc _,trivial⟩);rw[K]at i;simp only[Instr.next,Sem.run_bind,fc q1 rfl,Result.andThen_ok,fc q3 rfl,p,Bool.false_eq_true,if_false,i];simp[Question.forced]
 .rename_i e J
  split at hr
  .rename_i G
   cases hr
   rw[J]at c
   obtain⟨k,v,V⟩:=e
   generalize hx:(j.toList.filter λe=>!seen.contains e.born)=R at c i
   match R,c,i with
   |[E],c,i=>
    obtain⟨U,T,S,_⟩:=c
    simp only at G S
    have C:E.born<since:=by omega
    have z:¬since<=E.born:=by omega
    have q:=jJ (x':=.gY (some m) since (seen++[V]) clock) hw hg hB (w':=cJ w b (.mapIter (some L) since (seen.toArray.push E.born) clock)) rfl (by intro b' k' n' Q;simp_all[an,aV,hQ,hO]);refine⟨g,_,.tuple #[.bool true,E.key,E.val],?_,VR.eo.2 ⟨_,rfl,.sc _,U,T,trivial⟩,q.1,q.2⟩;simp only[Instr.next,Sem.run_bind,fc q1 rfl,Result.andThen_ok,fc q3 rfl,p,Bool.false_eq_true,if_false,i];simp[Question.forced,C,z,ko q1 rfl]|[],c,_=>exact c.elim|_::_::_,c,_=>exact c.2.2.2.elim
  .cases hr
 .cases hr
end
end Go.AI
end

section
namespace Go.AI
section
variable {P:Program}{h h':AHeap}{g:Gh}{w:World}
theorem DD{s:Sem Value}{y:AV}(h1:(bp P s).map bh=some y):∃u,s.run P w=.ok u w/\VR g y u:=by cases hp:bp P s with|none=>grind|some u=>rw[hp]at h1;cases h1;exact⟨u,lP hp w,VR.bh u⟩
theorem xq:∀{xs:List AV}{vs:List Value}{bs:List UInt8},iC xs=some bs->ay g xs vs->∃i:List Int,vs=i.map (Value.int .u8)/\bs=i.map λn=>UInt8.ofNat n.toNat
 |[],[],bs,hb,_=>by simp_all[iC]
 |x::xs,v::vs,bs,hb,hr=>by
  unfold iC at hb
  split at hb
  .rename_i e;cases e
  .rename_i n j e;simp only[List.cons.injEq]at e;obtain⟨rfl,rfl⟩:=e;cases c:iC xs with|none=>rw[c]at hb;cases hb|some l=>rw[c]at hb;simp at hb;subst hb;obtain⟨i,e1,e2⟩:=xq c hr.2;have h1:=hr.1;cases h1;exact⟨n::i,by simp[e1],by simp[e2]⟩
  .cases hb|[],_::_,_,_,hr=>hr.elim|_::_,[],_,_,hr=>hr.elim
theorem sJ{b:Nat}{c:Array Value}{el:TypeId}{f:Nat×Nat}(i:w.heap[b]?=some (.cells c el f)):w.shape? b=some (el,c.size):=by unfold World.shape?;simp[i]
theorem RH{b:Nat}{c:Array Value}{el:TypeId}{f:Nat×Nat}(i:w.heap[b]?=some (.cells c el f)):(viewAt b).run P w=.ok none w:=by unfold viewAt;simp[sJ i]
theorem xy{b off:Nat}{c:Array Value}{el:TypeId}{f:Nat×Nat}(i:w.heap[b]?=some (.cells c el f)):(Conv.seenAt ⟨b,off,none⟩).run P w=.ok ⟨b,off,none⟩ w:=by grind[Sem.run_bind,RH,Result.andThen_ok,Sem.run_pure,Conv.seenAt]
theorem xT{o ver n off s b sz:Nat}{cs:List AV}(hw:W h g w)(hr:cz h o ver n off s=some cs)(hb:g.B o ver=some (b,sz,n)):
 ∃v m c fz el ex sh,h.get o=some (.cells v m c fz el ex sh)/\∃ca f,KC g w b sz n c fz el ex sh ca f/\off+s<=n:=by
 unfold cz at hr
 split at hr
 .rename_i v m c fz el ex sh hx
  split at hr
  .rename_i hc;obtain⟨h1,h2,h3⟩:=hc;obtain⟨_,ca,f,hk⟩:=(hw.obj o _ hx).2 ver h1 h2 b sz n hb;grind
  .cases hr
 .cases hr
theorem QQ(w:World)(e:TypeId)(s:ByteArray):
 Lib.bytesWorld w e s=fY {w with drawn:=w.drawn+1} (.cells (Lib.bytesCells w e s) e ((Lib.bytesCells w e s).size,(Lib.bytesCells w e s).size+1)):=by
 have c:(Lib.bytesWorld w e s).heap=w.heap.push (.cells (Lib.bytesCells w e s) e ((Lib.bytesCells w e s).size,(Lib.bytesCells w e s).size+1)):=by
  apply Array.ext_getElem?
  intro j
  rcases Nat.lt_trichotomy j w.heap.size with h|h|h
  .rw[Lib.bytesWorld_at_old w e s j h,Array.getElem?_push,if_neg (by omega)]
  .subst h;rw[Lib.bytesWorld_at_new,Array.getElem?_push,if_pos rfl]
  .grind[Array.getElem?_eq_none,Lib.bytesWorld_size]
 have hd:(Lib.bytesWorld w e s).drawn=w.drawn+1:=rfl;show Lib.bytesWorld w e s={w with drawn:=w.drawn+1,heap:=w.heap.push _};rw[<-c];rfl
theorem QR{src dst e:TypeId}{s:ByteArray}(hw:W h g w)(hf:∀v,g.B h.next v=none)(hs:P.underlying src=some .string)(hd:P.underlying dst=some (.slice e))(he:P.underlying e=some (.int .u8)):
 bf P h g w (do pure (.value (<-convert src dst (.string s)))) (.val (.sl h.next 0 s.size 0 1 s.size none)) (h.alloc (.cells 0 0 (s.data.toList.map λb=>.sc (.int .u8 b.toNat)) 0 e false true)):=by
 have hr:=Lib.run_convert_string_bytes (P:=P) w src dst e s hs hd he
 have j:s.size<=grownCap w s.size 0 e:=by simp[grownCap,Question.cut]
 have dL:(Lib.bytesCells w e s).size=grownCap w s.size 0 e:=by simp_all[Array.size_append,Array.size_map,Array.size_replicate,Lib.bytesCells]
 rw[QQ]at hr
 have c:=qC (x:=.cells 0 0 (s.data.toList.map λb=>.sc (.int .u8 b.toNat)) 0 e false true) (s:=grownCap w s.size 0 e) (n:=s.size) (hw.drew (w.drawn+1)) hf (w':=fY {w with drawn:=w.drawn+1} (.cells (Lib.bytesCells w e s) e ((Lib.bytesCells w e s).size,(Lib.bytesCells w e s).size+1))) rfl ?_
 .refine⟨_,_,.slice (some ⟨w.heap.size,0,none⟩) s.size (grownCap w s.size 0 e),by simp_all,?_,c.1,?_⟩
  .refine .sl (Gh.fT _ _ _ _) ?_ j (by simp);simp
  .have h2:=c.2;exact{h2 with size:=h2.size,fr:=h2.fr,tape:=h2.tape,os:=h2.os,out:=h2.out,old:=h2.old,fI:=h2.fI}
 .refine⟨λv hv=>?_,?_⟩
  .cases p:(g.dc h.next 0 (w.heap.size,grownCap w s.size 0 e,s.size)).B h.next v with
   |none=>rfl
   |some y=>
    rcases Gh.cO p with⟨_,p,_⟩|p
    .omega
    grind
  intro v h1 h2 b s' n' hb
  have hv:v=0:=by omega
  subst hv
  have m:some (w.heap.size,grownCap w s.size 0 e,s.size)=some (b,s',n'):=(Gh.fT _ _ _ _).symm.trans hb
  simp only[an,aV]at m
  obtain⟨rfl,rfl,rfl⟩:=m
  have o:(s.data.toList.map λb=>AV.sc (.int .u8 b.toNat)).length=s.size:=by simp
  refine⟨λ_=>o.symm,Lib.bytesCells w e s,_,⟨kq {w with drawn:=w.drawn+1} _,dL,by omega,j,(by simp),?_,(by simp),?_⟩⟩
  .grind
  .intro i x hi hx;rw[List.getElem?_map]at hx;cases hb:s.data.toList[i]? with|none=>grind|some u=>rw[hb]at hx;simp only[Option.map_some,an]at hx;subst hx;refine⟨_,?_,.sc _⟩;simp_all[Array.getElem?_append_left,Array.getElem?_map,Array.getElem?_toList,Lib.bytesCells]
theorem RI{src dst:TypeId}{x r:AV}{v:Value}(hw:W h g w)(hf:∀v,g.B h.next v=none)(hx:VR g x v)(hr:fU P h src dst x=some (r,h')):
 bf P h g w (do pure (.value (<-convert src dst v))) (.val r) h':=by
 unfold fU at hr
 split at hr
 .rename_i e hs hd
  split at hr
  .rename_i n he hn F
   split at hr
   .rename_i l I
    cases D:iC l with
    |none=>grind
    |some bs=>
     rw[D]at hr
     simp only[Option.map_some,an,aV]at hr
     obtain⟨rfl,rfl⟩:=hr
     obtain⟨vs,q1,q2,q3⟩:=sE (P:=P) hw hx I
     obtain⟨E,e1,e2⟩:=xq D q1
     have q3:=q3 w.drawn
     have z:∃a c,v=.slice a n c:=by
      unfold eK at hn
      split at hn
      .cases hx<;>simp at hn<;>subst_vars<;>grind
      .cases hx<;>simp at hn<;>subst_vars<;>grind
      .cases hx with|gG=>grind|gL _=>grind|aI _ _ _=>grind
      .cases hx<;>simp at hn<;>subst_vars<;>grind
      .cases hx<;>simp at hn<;>subst_vars<;>grind
      .simp[lg]at F
      .cases hn
     obtain⟨a,c,rfl⟩:=z
     refine bf.same hw (x:=.string ⟨bs.toArray⟩) ?_ (.sc _)
     simp only[Sem.run_bind]
     rw[run_convert_bytes_string w src dst e a n c hs he hd]
     cases a with
     |none=>
      simp only[Builtin.firstCells,Sem.run_pure,Result.ok.injEq,and_true]at q3
      have:vs=[]:=by grind
      rw[this]at e1
      have:E=[]:=by grind
      subst this
      subst e2
      simp[Conv.bytesToString]
      rfl|some a=>have hl:(loadCells a n).run P w=.ok (E.map (Value.int .u8)).toArray w:=by simp_all[Nat.mul_one,Builtin.firstCells,loadCells]
                  rw[run_bytesToString w a n c E hl,foldl_push_bytes,e2,show ByteArray.empty.data=#[]from rfl,Array.empty_append];rfl
   .cases hr
  .cases hr
 .rename_i e hs hd
  split at hr
  .rename_i s he
   split at hr
   .cases hr;cases hx;exact QR hw hf hs hd he
   .cases hr
  .cases hr
 .rename_i t hs hd
  split at hr
  .rename_i o ver n off k j
   split at hr
   .rename_i cs m
    cases hr
    have i:=hx
    cases hx with
    |ref hB=>
     rename_i b J
     obtain⟨v',K,c',fz,el,ex,sh,_,ca,f,hk,G⟩:=xT hw m hB
     refine bf.same hw (x:=.pointer (some ⟨b,off,none⟩)) ?_ i
     have h1:¬ca.size<=off:=by have:=hk.lG;have:=hk.size;omega
     simp[convert,run_underlying hs,run_underlying hd,Conv.unsafePointer,xy hk.here,cellsIn,sJ hk.here,run_sizeOf j,h1]
   .cases hr
  .cases hr;cases hx;refine bf.same hw (x:=.pointer none) ?_ (.sc _);simp[convert,run_underlying hs,run_underlying hd,Conv.unsafePointer]
  .cases hr
 .rename_i hs hd
  split at hr
  .cases hr;have i:=hx;cases hx with|ref hB=>refine bf.same hw ?_ i;simp[convert,run_underlying hs,run_underlying hd,Conv.unsafePointer]
  .cases hr;cases hx;refine bf.same hw (x:=.pointer none) ?_ (.sc _);simp[convert,run_underlying hs,run_underlying hd,Conv.unsafePointer]
  .cases hr
 .rename_i u hs hd
  split at hr
  .rename_i o ver n off k j
   split at hr
   .rename_i cs N m2 c2 L M cG m C
    split at hr
    .rename_i p
     cases hr
     have i:=hx
     cases hx with
     |ref hB=>
      rename_i b J
      obtain⟨v',K,c',fz,el,ex,sh,q,ca,f,hk,G⟩:=xT hw m hB
      rw[C]at q
      simp only[an,bT.cells.injEq]at q
      obtain⟨rfl,rfl,rfl,rfl,rfl,rfl,rfl⟩:=q
      refine bf.same hw (x:=.pointer (some ⟨b,off,none⟩)) ?_ i
      have dL:ca.size=c2.length:=by rw[hk.size,hk.exact rfl]
      simp[convert,run_underlying hs,run_underlying hd,Conv.unsafePointer,xy hk.here,variablesAt,sJ hk.here,run_sizeOf j,dL,p]
    .cases hr
   .cases hr
  .cases hr;cases hx;refine bf.same hw (x:=.pointer none) ?_ (.sc _);simp[convert,run_underlying hs,run_underlying hd,Conv.unsafePointer]
  .cases hr
 .split at hr
  .rename_i v' hv;cases hp:bp P (convert src dst v')with|none=>grind|some u=>rw[hp]at hr;simp only[Option.map_some,an,aV]at hr;obtain⟨rfl,rfl⟩:=hr;rw[qB hv hx];simp_all[bf.same,lP,VR.bh]
  .cases hr
 .cases hr
end
end Go.AI
end

section
namespace Go.AI
section
variable {P:Program}{h h':AHeap}{g:Gh}{w:World}
inductive qL:TypeDesc->Value->Value->Prop where|ptr(e:TypeId)(p:Addr):qL (.pointer e) (.pointer (some p)) (.pointer none)|slice(e:TypeId)(p:Addr)(l c l' c':Nat):qL (.slice e) (.slice (some p) l c) (.slice none l' c')|map(k e:TypeId)(r:Nat):qL (.map k e) (.map (some r)) (.map none)|func(ps rs:Array TypeId)(v:Bool)(fn:Fn)(a c:Array Value):qL (.func ps rs v) (.func fn a c) .nilFunc|iface(ms:Array (String×TypeId))(t:TypeId)(v:Value):qL (.interface ms) (.iface t v) .nilIface
theorem Ib{d:TypeDesc}{x y:AV}{a b:Value}(h1:hU d x=true)(h2:ed d y=true)(hx:VR g x a)(hy:VR g y b):qL d a b:=by
 unfold hU at h1
 split at h1
 .unfold ed at h2
  split at h2<;>first|(cases h2;done)|(rename_i e;cases e;done)|skip
  cases hx;cases hy;exact .ptr _ _
 .unfold ed at h2
  split at h2<;>first|(cases h2;done)|(rename_i e;cases e;done)|skip
  cases hx;cases hy;exact .ptr _ _
 .unfold ed at h2
  split at h2<;>first|(cases h2;done)|(rename_i e;cases e;done)|skip
  cases hx<;>first|(cases hy;exact .slice _ _ _ _ _ _)|simp_all
 .unfold ed at h2
  split at h2<;>first|(cases h2;done)|(rename_i e;cases e;done)|skip
  cases hx<;>first|(cases hy;exact .slice _ _ _ _ _ _)|simp_all
 .unfold ed at h2
  split at h2<;>first|(cases h2;done)|(rename_i e;cases e;done)|skip
  cases hx<;>first|(cases hy;exact .slice _ _ _ _ _ _)|simp_all
 .unfold ed at h2
  split at h2<;>first|(cases h2;done)|(rename_i e;cases e;done)|skip
  cases hx<;>first|(cases hy;exact .slice _ _ _ _ _ _)|simp_all
 .unfold ed at h2
  split at h2<;>first|(cases h2;done)|(rename_i e;cases e;done)|skip
  cases hx<;>first|(cases hy;exact .slice _ _ _ _ _ _)|simp_all
 .unfold ed at h2
  split at h2<;>first|(cases h2;done)|(rename_i e;cases e;done)|skip
  cases hx;cases hy;exact .map _ _ _
 .unfold ed at h2
  split at h2<;>first|(cases h2;done)|(rename_i e;cases e;done)|skip
  cases hx;cases hy;exact .func _ _ _ _ _ _
 .unfold ed at h2
  split at h2<;>first|(cases h2;done)|(rename_i e;cases e;done)|skip
  cases hx;cases hy;exact .func _ _ _ _ _ _
 .unfold ed at h2
  split at h2<;>first|(cases h2;done)|(rename_i e;cases e;done)|skip
  cases hx;cases hy;exact .iface _ _ _
 .cases h1
theorem Hq{d:TypeDesc}{t:TypeId}{a b:Value}(hu:P.underlying t=some d)(hp:qL d a b)(n:Nat):(Op.equalIn (n+1) t a b).run P w=.ok false w/\(Op.equalIn (n+1) t b a).run P w=.ok false w:=by cases hp<;>constructor<;>simp only[Op.equalIn,Sem.run_bind,run_underlying hu,Result.andThen_ok,Sem.run_pure,Option.isNone_some]
theorem IJ{op:BinOp}{t:TypeId}{xo yo:Operand}{a b:Value}{r:Bool}(c:op=.eql\/op=.neq)(he:(Op.equal t a b).run P w=.ok r w)
 (hg:∀op,(eqGuard op t xo yo a b).run P w=.ok () w)
 (hb:∀op,(op=BinOp.eql->binOp op t a b=(do pure (.bool (<-Op.equal t a b))))/\(op=BinOp.neq->binOp op t a b=(do pure (.bool (!(<-Op.equal t a b)))))):
 (do eqGuard op t xo yo a b;binOp op t a b:Sem Value).run P w=.ok (.bool (if op=.eql then r else !r)) w:=by
 rcases c with rfl|rfl
 .simp_all
 simp_all
def uY:Value->Value->Bool|.pointer _,.pointer _=>true|.slice ..,.slice ..=>true|.map _,.map _=>true|.func ..,.nilFunc|.nilFunc,.func ..=>true|.iface ..,.nilIface|.nilIface,.iface ..=>true|.iface ..,.iface ..=>true|_,_=>false
theorem Hx{t:TypeId}{xo yo:Operand}{a b:Value}(hp:uY a b=true)(op:BinOp):(eqGuard op t xo yo a b).run P w=.ok () w:=by
 unfold uY at hp
 split at hp<;>first|(cases hp;done)|skip
 all_goals unfold eqGuard;simp_all
theorem HP{t:TypeId}{a b:Value}(hp:uY a b=true)(op:BinOp):
 (op=.eql->binOp op t a b=(do pure (.bool (<-Op.equal t a b))))/\(op=.neq->binOp op t a b=(do pure (.bool (!(<-Op.equal t a b))))):=by
 unfold uY at hp
 split at hp<;>first|(cases hp;done)|skip
 all_goals exact⟨λe=>by subst e;rfl,λe=>by subst e;rfl⟩
theorem LQ{t:TypeId}{x y:AV}{a b:Value}{r:Bool}(hx:VR g x a)(hy:VR g y b)(hr:gO P t x y=some r):uY a b=true/\(Op.equal t a b).run P w=.ok r w:=by
 unfold gO at hr
 split at hr
 .rename_i d hu
  split at hr
  .rename_i hc
   cases hr
   simp only[Bool.or_eq_true,aZ]at hc
   rcases hc with⟨h1,h2⟩|⟨h1,h2⟩
   .have hp:=Ib h1 h2 hx hy;refine⟨by cases hp<;>rfl,(Hq hu hp 9999).1⟩
   .have hp:=Ib h1 h2 hy hx;refine⟨by cases hp<;>rfl,(Hq hu hp 9999).2⟩
  .split at hr
   .rename_i e o v n off o' v' n' p z
    split at hr
    .rename_i hc
     obtain⟨rfl,rfl,h3,h4⟩:=hc
     cases hr
     cases hx with
     |ref hB=>
      cases hy with
      |ref q=>
       rename_i b s b' s'
       rw[hB]at q
       simp only[an,aV]at q
       obtain⟨rfl,rfl,rfl⟩:=q
       refine⟨rfl,?_⟩
       cases hs:bj P e with
       |none=>grind
       |some k=>
        have hk:k≠0:=λC=>h3 (by rw[hs,C])
        have key:∀m:Nat,(Op.equalIn (m+1) t (.pointer (some ⟨b,off,none⟩)) (.pointer (some ⟨b,p,none⟩))).run P w=.ok (off==p) w:=by intro m;simp only[Op.equalIn,Sem.run_bind,run_underlying hu,Result.andThen_ok,run_sizeOf hs];rw[if_pos hk];unfold sameAddr;simp only[beq_self_eq_true,if_true,Sem.run_pure];congr 1;rw[Bool.eq_iff_iff];simp
        exact key 9999
    .cases hr
   .split at hr
    .rename_i c
     cases hr
     cases hx;cases hy
     refine⟨rfl,?_⟩
     have key:∀(m:Nat)(u v:Value)(j i:TypeId),j≠i->(Op.equalIn (m+1) t (.iface j u) (.iface i v)).run P w=.ok false w:=by intro m u v j i c;simp only[Op.equalIn,Sem.run_bind,run_underlying hu,Result.andThen_ok];rw[if_pos c];rfl
     exact key 9999 _ _ _ _ c
    .cases hr
   .split at hr
    .rename_i c
     cases hr
     cases hx;cases hy
     refine⟨rfl,?_⟩
     have key:∀(m:Nat)(u v:Value)(j i:TypeId),j≠i->(Op.equalIn (m+1) t (.iface j u) (.iface i v)).run P w=.ok false w:=by intro m u v j i c;simp only[Op.equalIn,Sem.run_bind,run_underlying hu,Result.andThen_ok];rw[if_pos c];rfl
     exact key 9999 _ _ _ _ c
    .cases hr
   .split at hr
    .rename_i c
     cases hr
     cases hx;cases hy
     refine⟨rfl,?_⟩
     have key:∀(m:Nat)(u v:Value)(j i:TypeId),j≠i->(Op.equalIn (m+1) t (.iface j u) (.iface i v)).run P w=.ok false w:=by intro m u v j i c;simp only[Op.equalIn,Sem.run_bind,run_underlying hu,Result.andThen_ok];rw[if_pos c];rfl
     exact key 9999 _ _ _ _ c
    .cases hr
   .cases hr
 .cases hr
theorem LR{op:BinOp}{t:TypeId}{xo yo:Operand}{x y r:AV}{a b:Value}(hx:VR g x a)(hy:VR g y b)(hr:cD P op t xo yo x y=some r):
 ∃u,(do eqGuard op t xo yo a b;binOp op t a b:Sem Value).run P w=.ok u w/\VR g r u:=by
 unfold cD at hr
 split at hr
 .rename_i a' b' ha hb;rw[qB ha hx,qB hb hy];exact DD hr
 .split at hr
  .cases he:gO P t x y with|none=>grind|some q=>rw[he]at hr;cases hr;obtain⟨h1,h2⟩:=LQ (w:=w) hx hy he;refine⟨_,IJ (.inl rfl) h2 (Hx h1) (HP h1),?_⟩;simp;exact .sc _
  .cases he:gO P t x y with|none=>grind|some q=>rw[he]at hr;cases hr;obtain⟨h1,h2⟩:=LQ (w:=w) hx hy he;refine⟨_,IJ (.inr rfl) h2 (Hx h1) (HP h1),?_⟩;simp;exact .sc _
  .cases hr
theorem JE{x:AV}{v:Value}{t:TypeId}{y:AV}(hx:VR g x v)(hr:oH x=some (t,y)):∃u,v=.iface t u/\VR g y u:=by
 unfold oH at hr
 split at hr
 .cases hr;cases hx with|iface h1=>grind
 .cases hr;cases hx;exact⟨_,rfl,VR.bh _⟩
 .cases hr
theorem IK{x r:AV}{v:Value}{j asserted:TypeId}{ok:Bool}(hx:VR g x v)(hr:uX P x asserted ok=some r):
 ∃u,(Instr.typeAssert v j asserted ok).run P w=.ok u w/\VR g r u:=by
 unfold uX at hr
 have o:∀(a b:Option TypeId)(m:String),mT P asserted ok=some r->∃u,((if ok then do pure (.tuple #[<-zeroValue asserted,.bool false])else runtimePanic (.typeAssertion a b asserted m):Sem Value)).run P w=.ok u w/\VR g r u:=by intro a b m hf;unfold mT at hf;cases ok with|false=>cases hf|true=>cases hz:dN P asserted with|none=>grind|some z=>simp[hz]at hf;subst hf;obtain⟨p,h1,rfl⟩:=xn hz w;exact⟨.tuple #[p,.bool false],by simp[h1],VR.eo.2 ⟨_,rfl,VR.bh p,.sc _,trivial⟩⟩
 split at hr
 .rename_i want hu
  split at hr
  .rename_i t y c
   obtain⟨u,rfl,hy⟩:=JE hx c
   split at hr
   .rename_i i hi
    split at hr
    .rename_i hm;cases hr;simp_all[VR.opt,Sem.run_bind,run_underlying,Result.andThen_ok,run_typeInfo,Sem.run_pure,Instr.typeAssert]
    simp_all[Sem.run_bind,run_underlying,Result.andThen_ok,run_typeInfo,Instr.typeAssert]
   .cases hr
  .split at hr
   .cases hx;simp_all[Sem.run_bind,run_underlying,Result.andThen_ok,Instr.typeAssert]
   .cases hr
 .rename_i d hd hu
  split at hr
  .rename_i t y c
   obtain⟨u,rfl,hy⟩:=JE hx c
   have q:(Instr.typeAssert (.iface t u) j asserted ok).run P w=(if t=asserted then pure (if ok then .tuple #[u,.bool true]else u)else if ok then do pure (.tuple #[<-zeroValue asserted,.bool false])else runtimePanic (.typeAssertion (some j) (some t) asserted ""):Sem Value).run P w:=by simp_all[Sem.run_bind,run_underlying,Result.andThen_ok,Instr.typeAssert]
   split at hr
   .rename_i e;cases hr;simp_all[VR.opt,if_pos]
   simp_all
  .split at hr
   .cases hx;simp_all[Sem.run_bind,run_underlying,Result.andThen_ok,Instr.typeAssert]
   .cases hr
 .cases hr
end
end Go.AI
end

section
namespace Go.AI
structure ProgOK(P:Program):Prop where
 ng:∀(f:FuncId)(fn:Func),P.funcs[f]?=some fn->fn.body.isSome=true->(fn.name== "runtime.NumGoroutine")=false
 mixed:P.follows .mixedOrders=true
theorem Q2{fn:Func}(h:qI fn=1):Extern.findNext fn=none/\Extern.find fn=some Extern.AbiNoEscape.same/\(fn.name== "runtime.NumGoroutine")=false:=by
 unfold qI at h
 split at h
 .rename_i hc
  obtain⟨h1,h2⟩:=hc
  unfold Extern.findNext Extern.find
  rw[h1,h2]
  refine⟨?_,?_,by decide⟩
  .have e1:Extern.allNextRows.lookup "internal/abi.NoEscape"=none:=by kernel_rfl
   have e2:Extern.allNextRows.lookup ""=none:=by kernel_rfl
   grind
  .have e1:Extern.allGenericRows.lookup "internal/abi.NoEscape"=none:=by kernel_rfl
   have e2:Extern.allTypedRows.lookup "internal/abi.NoEscape"=none:=by kernel_rfl
   have e3:Extern.allRows.lookup "internal/abi.NoEscape"=some Extern.AbiNoEscape.same:=by kernel_rfl
   grind
 grind
theorem QS{fn:Func}(h:qI fn=2):Extern.findNext fn=none/\Extern.find fn=some (Extern.BytealgMakeNoZero.makeNoZero fn.params fn.resultTypes)/\(fn.name== "runtime.NumGoroutine")=false:=by
 unfold qI at h
 split at h
 .cases h
 .split at h
  .rename_i hc
   obtain⟨h1,h2⟩:=hc
   unfold Extern.findNext Extern.find
   rw[h1,h2]
   refine⟨?_,?_,by decide⟩
   .have e1:Extern.allNextRows.lookup "internal/bytealg.MakeNoZero"=none:=by kernel_rfl
    have e2:Extern.allNextRows.lookup ""=none:=by kernel_rfl
    grind
   .have e1:Extern.allGenericRows.lookup "internal/bytealg.MakeNoZero"=none:=by kernel_rfl
    have e2:Extern.allTypedRows.lookup "internal/bytealg.MakeNoZero"=some Extern.BytealgMakeNoZero.makeNoZero:=by kernel_rfl
    grind
  .cases h
section
variable {P:Program}{h h':AHeap}{g:Gh}{w:World}
theorem Hl{f:FuncId}{fn:Func}{e:Array Value->Sem Value}{args:Array Value}(c:P.funcs[f]?=some fn)(hb:fn.body=none)(h1:Extern.findNext fn=none)(h2:Extern.find fn=some e)(h3:(fn.name== "runtime.NumGoroutine")=false):(callFunc f args).run P w=(do pure (.value (<-e args)):Sem Next).run P w:=by simp_all[callFunc]
theorem HQ:∀(n t:Nat)(c:Array Value),(Extern.BytealgMakeNoZero.digits n t c).size=c.size+n|0,_,_=>by simp[Extern.BytealgMakeNoZero.digits]|n+1,t,c=>by simp[Extern.BytealgMakeNoZero.digits,HQ n];omega
theorem Cp{f:FuncId}{args:List AV}{vs:List Value}{r:dv}(hP:ProgOK P)(hw:W h g w)(hf:∀v,g.B h.next v=none)(hv:ay g args vs)(hr:jB P h f args=some (r,h')):
 bf P h g w (callFunc f vs.toArray) r h':=by
 unfold jB at hr
 split at hr
 .cases hr
 .rename_i fn u
  split at hr
  .rename_i c hb;cases hr;refine⟨rfl,vs,?_,hv⟩;have O:=hP.ng f fn u (by simp[hb]);simp_all[callFunc]
  .rename_i hb
   split at hr
   .rename_i k hk
    unfold C2 at hr
    split at hr
    .rename_i x I;cases hr;obtain⟨h1,h2,h3⟩:=Q2 I;match vs,hv with|[v],hv=>refine bf.same hw ?_ hv.1;rw[Hl u hb h1 h2 h3,show Extern.AbiNoEscape.same [v].toArray=pure v from rfl];simp
    .rename_i n G
     obtain⟨h1,h2,h3⟩:=QS G
     match vs,hv with
     |[v],hv=>
      have F:=hv.1
      cases F
      split at hr
      .rename_i t ht
       split at hr
       .rename_i e hu
        split at hr
        .rename_i hc
         obtain⟨h0,N⟩:=hc
         cases hr
         have D:¬n<0:=by omega
         have C:¬n>281474976710656:=by omega
         generalize p:(Question.appendCap n.toNat 0 e).cut (w.tape w.drawn (.appendCap n.toNat 0 e))=cap
         have j9:n.toNat<=cap:=by rw[<-p];simp[Question.cut]
         have j:∃z,(callFunc f #[.int .i64 n]).run P w=.ok (.value (.slice (some ⟨w.heap.size,0,none⟩) n.toNat cap)) ({w with drawn:=w.drawn+2}.alloc (.cells (Extern.BytealgMakeNoZero.digits cap z #[]) e)):=by obtain⟨q,M,L,K,hq,E⟩:∃(q:Question)(M:Sem Value)(L:TypeDesc->Sem Value)(K:Sem Unit),q.forced=false/\Extern.BytealgMakeNoZero.makeNoZero fn.params fn.resultTypes #[.int .i64 n]=(do
          let some t:=fn.resultTypes[0]?|M
          match<-underlying t with
          |.slice elem=>if n<0||n>2^48 then K
                        let cap<-choose (.appendCap n.toNat 0 elem)askRoom cap let bytes<-choose q let a<-newRow elem (Extern.BytealgMakeNoZero.digits cap bytes #[])pure (.slice (some a) n.toNat cap)|d=>L d):=⟨_,_,_,_,rfl,rfl⟩;rw[Hl u hb h1 h2 h3,E];simp only[ht,Sem.run_bind,run_underlying hu,Result.andThen_ok,D,C,Int.reducePow,decide_false,Bool.or_self,Bool.false_eq_true,if_false,run_choose,show∀m l,(Question.appendCap m l e).forced=false fromλ_ _=>rfl,hq,run_askRoom,newRow,run_newObj,Sem.run_pure,p];exact⟨_,rfl⟩
         obtain⟨z,j⟩:=j
         have o:=qC (x:=.cells 0 0 [] 0 e false false) (s:=cap) (n:=0) (hw.drew (w.drawn+2)) hf (w':={w with drawn:=w.drawn+2}.alloc (.cells (Extern.BytealgMakeNoZero.digits cap z #[]) e)) rfl ?_
         .refine⟨_,_,.slice (some ⟨w.heap.size,0,none⟩) n.toNat cap,j,?_,o.1,?_⟩
          .exact .sl (Gh.fT _ _ _ _) (by simp) j9 (by simp)
          .have h2:=o.2;exact{h2 with size:=h2.size,fr:=h2.fr,tape:=h2.tape,os:=h2.os,out:=h2.out,old:=h2.old,fI:=h2.fI}
         .refine⟨λv hv=>?_,?_⟩
          .cases Q:(g.dc h.next 0 (w.heap.size,cap,0)).B h.next v with
           |none=>rfl
           |some y=>rcases Gh.cO Q with⟨_,J,_⟩|J
                    .omega
                    grind
          intro v h1 h2 b s' n' hb
          obtain rfl:v=0:=by omega
          rw[Gh.fT]at hb;cases hb;refine⟨λ_=>rfl,_,(0,0),⟨kq _ _,by simp[HQ],ao _,Nat.zero_le _,(λh=>by cases h),(λi _ h3 h4=>by simp at h4),λ_=>.inl rfl,?_⟩⟩;grind
        .cases hr
       .cases hr
      .cases hr
    .cases hr
   grind[an,aV,sB,bf.same,lP,VR.bh]
end
end Go.AI
end

section
namespace Go.AI
section
variable {P:Program}{h h':AHeap}{g:Gh}{w:World}
theorem LS{i:Array TypeId}{t ty:TypeId}{x:AV}{v:Value}{n:Nat}(hw:W h g w)(ha:i[0]?=some t)(hx:VR g x v)(hr:rF P h t x=some n):
 (Builtin.len_ i ty #[v]).run P w=.ok (goInt n) w:=by
 unfold rF at hr
 have h0:(#[v]:Array Value)[0]?=some v:=rfl
 split at hr
 .rename_i e hu
  split at hr
  .rename_i hs
   have:∃a c,v=.slice a n c:=by
    unfold eK at hr
    split at hr
    .cases hx<;>simp at hr<;>subst_vars<;>grind
    .cases hx<;>simp at hr<;>subst_vars<;>grind
    .cases hx with|gG=>grind|gL _=>grind|aI _ _ _=>grind
    .cases hx<;>simp at hr<;>subst_vars<;>grind
    .cases hx<;>simp at hr<;>subst_vars<;>grind
    .simp[lg]at hs
    .cases hr
   obtain⟨a,c,rfl⟩:=this;simp only[Builtin.len_,ha,h0,Sem.run_bind,run_underlying hu,Result.andThen_ok,Sem.run_pure]
  .cases hr
 .rename_i hu
  split at hr
  .cases hx;simp_all[Sem.run_bind,run_underlying,Result.andThen_ok,Sem.run_pure,Builtin.len_,h0]
  .cases hr
 .simp_all[Sem.run_bind,run_underlying,Result.andThen_ok,Sem.run_pure,Builtin.len_,h0]
 .rename_i k e hu
  split at hr
  .cases hx;cases hr;simp_all[Sem.run_bind,run_underlying,Result.andThen_ok,Sem.run_pure,Builtin.len_,h0]
  .rename_i o
   cases hx with
   |map hB=>
    rename_i b s m
    split at hr
    .rename_i es clock hg;cases hr;obtain⟨j,q1,q2⟩:=hw.obj o _ hg b s m hB;have:=q2.length;simp only[Builtin.len_,ha,h0,Sem.run_bind,run_underlying hu,Result.andThen_ok,fc q1 rfl,Sem.run_pure];grind
    .cases hr
  .cases hr
 .cases hr
theorem LU{c:Array TypeId}{t ty:TypeId}{x:AV}{v:Value}{n:Nat}(ha:c[0]?=some t)(hx:VR g x v)(hr:wm P t x=some n):
 (Builtin.cap_ c ty #[v]).run P w=.ok (goInt n) w:=by
 unfold wm at hr
 have h0:(#[v]:Array Value)[0]?=some v:=rfl
 split at hr
 .rename_i hu;cases hr;cases hx with|sl hB p1 p2 p3=>simp_all[Sem.run_bind,run_underlying,Result.andThen_ok,Sem.run_pure,Builtin.cap_,h0]
 .rename_i hu;cases hr;cases hx with|aN f q1 q2 p1 p2 p3=>simp_all[Sem.run_bind,run_underlying,Result.andThen_ok,Sem.run_pure,Builtin.cap_,h0]|iQ a e1 e2 e3 e4 e5=>simp_all[Sem.run_bind,run_underlying,Result.andThen_ok,Sem.run_pure,Builtin.cap_,h0]
 .rename_i hu;cases hr;cases hx;simp only[Builtin.cap_,ha,h0,Sem.run_bind,run_underlying hu,Result.andThen_ok,Sem.run_pure]
 .cases hr
theorem S4{j:Array TypeId}{ty:TypeId}{o b s n clock:Nat}{d:TypeDesc}{es:List (AV×AV×Nat)}(hw:W h g w)(hd:j[0]?.bind P.underlying=some d)(hB:g.B o 0=some (b,s,n))(hg:h.get o=some (.map es clock)):bf P h g w (do pure (.value (<-Builtin.clear_ j ty #[.map (some b)]))) (.val dm) (h.aG o (.map [] clock)):=by obtain⟨m,q1,q2⟩:=hw.obj o _ hg b s n hB;have h0:(#[Value.map (some b)]:Array Value)[0]?=some (.map (some b)):=rfl;cases ha:j[0]? with|none=>grind|some t=>rw[ha]at hd;have hu:P.underlying t=some d:=hd;have c:=jJ (x':=.map [] clock) hw hg hB (w':=cJ w b (.map #[] clock)) rfl (by intro b' k' n' i;rw[hB]at i;simp only[an,aV]at i;obtain⟨rfl,rfl,rfl⟩:=i;exact⟨#[],hQ (hO q1),trivial⟩);refine⟨g,_,.tuple #[],?_,VR.eo.2 ⟨#[],rfl,trivial⟩,c.1,c.2⟩;simp only[Builtin.clear_,ha,h0,Sem.run_bind,run_underlying hu,Result.andThen_ok,fc q1 rfl,ko q1 rfl,Sem.run_pure]
theorem run_loadBytes{b:Nat}:∀(i:List Int)(off:Nat)(c:ByteArray),(∀(j:Nat)(v:Value),(i.map (Value.int .u8))[j]?=some v->w.cell? ⟨b,off+j,none⟩=some v)->(loadBytes ⟨b,off,none⟩ c i.length).run P w=.ok ⟨c.data++(i.map λn=>UInt8.ofNat n.toNat).toArray⟩ w|[],off,c,_=>by simp[loadBytes]|n::i,off,c,hc=>by have h1:=hc 0 (.int .u8 n) (by simp);simp only[Nat.add_zero]at h1;simp only[kx,loadBytes,Sem.run_bind,run_load,h1,Result.andThen_ok];rw[add_eq _ _ rfl,run_loadBytes i (off+1) _ (λj v hv=>by rw[Nat.add_assoc,Nat.add_comm 1 j];exact hc (j+1) v (by simpa using hv))];simp[ByteArray.push]
theorem RJ{u off n cells:Nat}(hs:bj P u=some 1)(c:off+n<=cells):liesAt P P.depth u (cells/P.cellsOf u) off u n=true:=by
 have hc:P.cellsOf u=1:=by grind[bj,Program.cellsOf]
 have hd:∃k,P.depth=k+1:=⟨2*(P.types.size+Made.depth)+1,rfl⟩;obtain⟨k,hk⟩:=hd;simp_all[Nat.div_one,Nat.mod_one,liesAt,rowAt,sameLayout]
theorem Sf{b off n:Nat}{c:Array Value}{el:TypeId}{f:Nat×Nat}(hn:n≠0)(i:w.heap[b]?=some (.cells c el f)):w.freeze ⟨b,off,none⟩ n=cJ w b (.cells c el (if f.1==f.2 then(off,off+n)else(min f.1 off,max f.2 (off+n)))):=by unfold World.freeze cJ;rw[if_neg hn];congr 1;grind
theorem QT{C:Array TypeId}{N ty:TypeId}{p n r:AV}{a v:Value}(hw:W h g w)(ha:C[0]?=some N)(hp:VR g p a)(hn:VR g n v)(hr:sw P h N p n=some (r,h')):
 bf P h g w (do pure (.value (<-Builtin.unsafeString_ C ty #[a,v]))) (.val r) h':=by
 unfold sw at hr
 obtain⟨z1,z2,Z,Y,X,F⟩:∃(z1:Sem Value)(z2 Z:Sem Unit)(Y X:Sem Value),∀(q:Option Addr)(len_:Value),Builtin.unsafeString_ C ty #[.pointer q,len_]=(do
  let n<-asInt len_
  let some N:=C[0]?|z1
  if n<0 then z2
  if n>IntKind.i64.max then Z
  match q with
  |none=>if n=0 then pure (.string .empty)else Y
  |some a=>if n=0 then pure (.string .empty)else if<-variablesAt a (<-elemOf N) n.toNat then do
   let s<-loadBytes a .empty n.toNat
   freeze a n.toNat
   pure (.string s)else X):=⟨_,_,_,_,_,λ_ _=>rfl⟩
 split at hr
 .rename_i G
  cases hr
  cases hp
  obtain⟨k,i,rfl,_,_,e⟩:=iB hn G
  simp only[Int.natCast_zero]at e
  subst e
  refine bf.same hw (x:=.string .empty) ?_ (.sc _)
  rw[F]
  have z:IntKind.i64.max=9223372036854775807:=by decide
  simp[asInt,asIntOf,ha,z]
 .rename_i o ver m off k G
  split at hr
  .rename_i u v0 m' c fz el ex hu hg
   split at hr
   .rename_i hc
    obtain⟨rfl,T,rfl,O,ad4⟩:=hc
    split at hr
    .rename_i l Q
     cases hb:iC l with
     |none=>grind
     |some bs=>
      rw[hb]at hr
      simp only[Option.map_some,an,aV]at hr
      obtain⟨rfl,rfl⟩:=hr
      cases hp with
      |ref hB=>
       rename_i b sb
       obtain⟨kk,i,rfl,hi0,U,hi2⟩:=iB hn G
       obtain⟨vs,q1,q2,q3,q4,q5⟩:=lM hw Q hB
       obtain⟨ns,e1,e2⟩:=xq hb q1
       have D:=hw.obj o _ hg
       obtain⟨hm,ca,f,hk⟩:=D.2 ver T (ao _) b sb m hB
       have hlen:ns.length=k+1:=by grind
       have I:(loadBytes ⟨b,off,none⟩ .empty (k+1)).run P w=.ok ⟨bs.toArray⟩ w:=by rw[<-hlen,run_loadBytes ns off .empty (by grind),e2,show ByteArray.empty.data=#[]from rfl,Array.empty_append]
       have L:=RJ (P:=P) (u:=el) (off:=off) (n:=k+1) (cells:=ca.size) O (by have:=hk.size;omega)
       have M:=Sf (n:=k+1) (off:=off) (by omega) hk.here
       have E:=jJ (x':=.cells ver ver c (max fz (off+(k+1))) el ex false) hw hg hB (w':=w.freeze ⟨b,off,none⟩ (k+1)) M ?_
       .refine⟨g,_,.string ⟨bs.toArray⟩,?_,.sc _,E.1,E.2⟩
        rw[F]
        have K:¬i<0:=by omega
        have z:IntKind.i64.max=9223372036854775807:=by decide
        have S:¬i>IntKind.i64.max:=by grind
        have R:¬i=0:=by omega
        simp only[asInt,asIntOf,Sem.run_bind,Sem.run_pure,Result.andThen_ok,ha,K,S,R,if_false,elemOf,run_underlying hu,variablesAt,run_program,run_shape,sJ hk.here,U,L,if_true,I,run_freeze]
       .refine⟨D.1,?_⟩
        intro v' h1 h2 b' s' n' J
        obtain rfl:v'=ver:=by omega
        rw[hB]at J
        simp only[an,aV]at J
        obtain⟨rfl,rfl,rfl⟩:=J
        refine⟨hm,ca,_,⟨by rw[M];exact hQ (hO hk.here),hk.size,hk.le,hk.lG,hk.exact,?_,?_,hk.cell⟩⟩
        .intro j hj h3 h4
         split at h3
         .grind
         .rename_i V;rw[if_neg V]at h4;have:=hk.plain rfl;grind
        .intro _;right;have:=hk.plain rfl;grind
    .cases hr
   .cases hr
  .cases hr
 .cases hr
theorem ox{xs:List AV}{x:AV}{vs:List Value}(e:xs=[x])(hv:ay g xs vs):∃v,vs=[v]/\VR g x v:=by subst e;match vs,hv with|[v],hv=>exact⟨v,rfl,hv.1⟩
theorem xU{xs:List AV}{x y:AV}{vs:List Value}(e:xs=[x,y])(hv:ay g xs vs):∃v u,vs=[v,u]/\VR g x v/\VR g y u:=by subst e;match vs,hv with|[v,u],hv=>exact⟨v,u,rfl,hv.1,hv.2.1⟩
theorem tA{s:Sem Next}{q:Option (AV×AHeap)}{r:dv}(hr:(q.map λ(x:AV×AHeap)=>(dv.val x.1,x.2))=some (r,h'))(hk:∀v h2,q=some (v,h2)->bf P h g w s (.val v) h2):bf P h g w s r h':=by cases q with|none=>cases hr|some x=>grind
theorem RL{b:Builtin}{i:Array TypeId}{ty:TypeId}{cs:Array Bool}{xs:List AV}{vs:List Value}{r:dv}(hw:W h g w)(hf:∀v,g.B h.next v=none)(hv:ay g xs vs)
 (hr:fe P h b i ty xs=some (r,h')):bf P h g w (builtin b i ty cs vs.toArray) r h':=by
 unfold fe at hr
 split at hr
 .obtain⟨u,v,rfl,hu,hv⟩:=xU rfl hv
  split at hr
  .rename_i st D h0 h1;exact tA hr λv h2 e=>RG hw hf h0 h1 hu hv e
  .cases hr
 .obtain⟨u,v,rfl,hu,hv⟩:=xU rfl hv
  split at hr
  .rename_i F h0;exact tA hr λv h2 e=>UP hw h0 hu hv e
  .cases hr
 .rename_i x
  obtain⟨u,rfl,hu⟩:=ox rfl hv
  split at hr
  .rename_i t h0;refine iG (s:=Builtin.len_ i ty #[u]) hw hr λv e=>?_;cases hl:rF P h t x with|none=>grind|some n=>rw[hl]at e;simp at e;subst e;exact⟨_,LS hw h0 hu hl,.sc _⟩
  .cases hr
 .rename_i x
  obtain⟨u,rfl,hu⟩:=ox rfl hv
  split at hr
  .rename_i t h0;refine iG (s:=Builtin.cap_ i ty #[u]) hw hr λv e=>?_;cases hl:wm P t x with|none=>grind|some n=>rw[hl]at e;simp at e;subst e;exact⟨_,LU h0 hu hl,.sc _⟩
  .cases hr
 .rename_i m k
  obtain⟨u,v,rfl,hu,hv⟩:=xU rfl hv
  split at hr
  .rename_i t h0;cases hd:yr P h t m k with|none=>grind|some h2=>rw[hd]at hr;simp only[Option.map_some,an,aV]at hr;obtain⟨rfl,rfl⟩:=hr;exact Se hw h0 hu hv hd
  .cases hr
 .obtain⟨u,rfl,hu⟩:=ox rfl hv
  split at hr
  .rename_i o d hd
   cases hu with
   |map hB=>
    split at hr
    .rename_i es clock hg;cases hr;exact S4 hw hd hB hg
    .cases hr
  .cases hr
 .obtain⟨u,rfl,hu⟩:=ox rfl hv
  split at hr
  .cases hr;have p:=hu;cases hu with|iface hi=>refine⟨rfl,_,?_,p⟩;simp only[builtin,Instr.panic];rfl
  .cases hr;have p:=hu;cases hu;refine⟨rfl,_,?_,p⟩;simp only[builtin,Instr.panic];rfl
  .cases hr
 .cases hr;match vs,hv with|[],_=>exact⟨rfl,rfl⟩
 .split at hr
  .rename_i us j
   split at hr
   .rename_i u hp;cases hr;rw[sB j hv];exact bf.same hw (lP hp w) (VR.bh u)
   .cases hr
  .cases hr
 .split at hr
  .rename_i us j
   split at hr
   .rename_i u hp;cases hr;rw[sB j hv];exact bf.same hw (lP hp w) (VR.bh u)
   .cases hr
  .cases hr
 .obtain⟨u,rfl,hu⟩:=ox rfl hv
  have q:builtin .unsafeSliceData i ty cs [u].toArray=(do pure (.value (<-Builtin.unsafeSliceData_ i ty #[u]))):=rfl
  rw[q]
  split at hr
  .cases hr;cases hu;exact bf.same hw (x:=.pointer none) rfl (.sc _)
  .split at hr
   .rename_i hc
    cases hr
    cases hu with
    |sl hB p1 p2 p3=>
     rename_i o ver n off sz len cap b s c
     have C:c≠0:=by
      rcases hc with hc|hc
      .omega
      .cases cap with|none=>simp[lZ]at hc|some k=>have:=p3 k rfl;simp[lZ]at hc;omega
     refine bf.same hw (x:=.pointer (some ⟨b,off,none⟩)) ?_ (.ref hB);have z:Builtin.unsafeSliceData_ i ty #[.slice (some ⟨b,off,none⟩) len c]=(do if c≠0 then pure (.pointer (some ⟨b,off,none⟩))else if(<-viewAt b).isSome then pure (.pointer (some ⟨b,off,none⟩))else pure (.pointer (some ⟨<-newObj (.view ⟨b,off,none⟩ (<-elemOf ty)),0,none⟩))):=rfl;simp_all
   .cases hr
  .cases hr
 .obtain⟨u,v,rfl,hu,hv⟩:=xU rfl hv
  split at hr
  .rename_i E h0;exact tA hr λv h2 e=>QT hw h0 hu hv e
  .cases hr
 .cases hr
end
end Go.AI
end

section
namespace Go.AI
section
variable {P:Program}{h h':AHeap}{g:Gh}{w:World}
theorem VR.kD{v u:Value}(h:VR g (.sc v) u):u=v:=by cases h;rfl
theorem ay.ops{ρ:Operand->AV}{ρ':Operand->Value}(c:∀x,VR g (ρ x) (ρ' x))(l:Array Operand):ay g (l.toList.map ρ) (l.map ρ').toList:=by simp_all[Array.toList_map,ay.map]
theorem DE{x:AV}{v:Value}{fn:Fn}{a c:List AV}(hx:VR g x v)(hr:nF x=some (fn,a,c)):∃a' c':Array Value,v=.func fn a' c'/\ay g a a'.toList/\ay g c c'.toList:=by
 unfold nF at hr
 split at hr
 .cases hr;exact VR.qA.1 hx
 .cases hr;cases hx;exact⟨_,_,rfl,ay.ua _,ay.ua _⟩
 .cases hr
theorem UR{ρ:Operand->AV}{ρ':Operand->Value}{c:Call}{ty:TypeId}{r:dv}(hP:ProgOK P)(hw:W h g w)(hf:∀v,g.B h.next v=none)(j:∀x,VR g (ρ x) (ρ' x))
 (hr:fE P h ρ c ty=some (r,h')):bf P h g w (do let d<-resolve ρ' c ty;invoke d.target d.args) r h':=by
 unfold fE at hr
 have i:=ay.ops j c.args
 split at hr
 .rename_i b hc
  have:=RL (cs:=c.args.map λ|.const _=>true|_=>false) hw hf i hr
  have e:(do let d<-resolve ρ' c ty;invoke d.target d.args:Sem Next)=builtin b c.argTypes ty (c.args.map λ|.const _=>true|_=>false) (c.args.map ρ'):=by unfold resolve;rw[hc];rfl
  rw[e];rwa[Array.toArray_toList]at this
 .cases hr
 .rename_i f hc
  split at hr
  .rename_i l hl
   cases hr
   have hx:=j f
   rw[hl]at hx
   cases hv:ρ' f with
   |func fn a p=>
    rw[hv]at hx
    cases hx with
    |ej hB=>
     rename_i b s n
     refine⟨rfl,b,s,n,(c.args.map ρ').toList,hB,i,?_⟩
     have e:(do let d<-resolve ρ' c ty;invoke d.target d.args:Sem Next)=Instr.yield b (#[]++c.args.map ρ'):=by unfold resolve;rw[hc];dsimp only;rw[hv];rfl
     rw[e,Array.toArray_toList,Array.empty_append]
   |_=>rw[hv]at hx;cases hx
  .split at hr
   .rename_i fn first cap m
    obtain⟨a',c',hv,h1,h2⟩:=DE (j f) m
    unfold yu at hr
    split at hr
    .rename_i k
     have e:(do let d<-resolve ρ' c ty;invoke d.target d.args:Sem Next)=callFunc k ((a'++c.args.map ρ')++c'):=by unfold resolve;rw[hc];dsimp only;rw[hv];rfl
     rw[e];have:=Cp (vs:=(a'.toList++(c.args.map ρ').toList)++c'.toList) hP hw hf ((h1.append i).append h2) hr;have o:((a'.toList++(c.args.map ρ').toList)++c'.toList).toArray=(a'++c.args.map ρ')++c':=Array.ext' (by simp);grind
    .cases hr
   .cases hr
theorem S5{ρ:Operand->AV}{ρ':Operand->Value}{c:Call}{ty:TypeId}{r:dv}(j:∀x,VR g (ρ x) (ρ' x))
 (hr:vd h ρ c=some (r,h')):bf P h g w (do pure (.defer (<-resolve ρ' c ty))) r h':=by
 unfold vd at hr
 have i:=ay.ops j c.args
 split at hr
 .rename_i f hc
  split at hr
  .rename_i fn first cap m
   cases hr
   obtain⟨a',c',hv,h1,h2⟩:=DE (j f) m
   refine⟨rfl,{target:=.fn fn c',args:=a'++c.args.map ρ'},?_,c'.toList,a'.toList++(c.args.map ρ').toList,by simp,h2,h1.append i⟩
   have e:resolve ρ' c ty=pure {target:=.fn fn c',args:=a'++c.args.map ρ'}:=by unfold resolve;rw[hc];dsimp only;rw[hv];rfl
   rw[e];rfl
  .cases hr
 .cases hr
theorem oJ{ρ:Operand->AV}{ρ':Operand->Value}{o:Oper}{r:dv}(hP:ProgOK P)(hw:W h g w)(hf:∀v,g.B h.next v=none)(j:∀x,VR g (ρ x) (ρ' x))
 (hr:aJ P ρ o h=some (r,h')):bf P h g w (execOp ρ' o) r h':=by
 obtain⟨dst,op,type,pos,after,guard⟩:=o
 cases op<;>simp only[aJ]at hr<;>simp only[execOp]<;>first|(cases hr;done)|skip
 case move x=>simp only[an,aV]at hr;obtain⟨rfl,rfl⟩:=hr;exact bf.same hw rfl (j x)
 case assign x=>simp only[an,aV]at hr;obtain⟨rfl,rfl⟩:=hr;exact bf.same hw rfl (j x)
 case pick c a b=>
  have hc:=j c
  split at hr
  .rename_i t ht;simp only[an,aV]at hr;obtain⟨rfl,rfl⟩:=hr;rw[ht]at hc;have hv:ρ' c=.bool t:=VR.kD hc;rw[hv];cases t with|true=>exact bf.same hw rfl (j a)|false=>exact bf.same hw rfl (j b)
  .cases hr
 case alloc e=>
  split at hr
  .rename_i z hz
   split at hr
   .simp only[an,aV]at hr;obtain⟨rfl,rfl⟩:=hr;exact S2 hw hf hz
   .cases hr
  .cases hr
 case box e x=>
  split at hr
  .rename_i hc;simp only[an,aV]at hr;obtain⟨rfl,rfl⟩:=hr;exact WW hw hf (j x) hc
  .cases hr
 case build t parts=>exact iG hw hr λv e=>Jz e (by rw[Array.toList_map];exact lT.map j _)
 case buildSlice t len parts=>exact tA hr λv h2 e=>Q1 hw hf e (by rw[Array.toList_map];exact lT.map j _)
 case load t a=>exact iG hw hr λv e=>C5 hw e (j a)
 case store t a x=>cases hs:oG P h t (ρ a) (ρ x)with|none=>rw[hs]at hr;cases hr|some h2=>rw[hs]at hr;simp only[Option.map_some,an,aV]at hr;obtain⟨rfl,rfl⟩:=hr;exact S3 hw (j a) (j x) hs
 case nilCheck x=>
  have hx:=j x
  split at hr
  .rename_i q;simp only[an,aV]at hr;obtain⟨rfl,rfl⟩:=hr;have C:=hx;rw[q]at hx;cases hv:ρ' x with|pointer p=>rw[hv]at hx C;cases hx;exact bf.same hw rfl C|_=>rw[hv]at hx;cases hx
  .rename_i q;simp only[an,aV]at hr;obtain⟨rfl,rfl⟩:=hr;have C:=hx;rw[q]at hx;cases hv:ρ' x with|pointer p=>rw[hv]at hx C;cases hx;exact bf.same hw rfl C|_=>rw[hv]at hx;cases hx
  .rename_i f a c q;simp only[an,aV]at hr;obtain⟨rfl,rfl⟩:=hr;rw[q]at hx;obtain⟨a',c',hv,h1,h2⟩:=VR.qA.1 hx;rw[hv];exact bf.same hw rfl (by rw[<-hv];exact hx)
  .rename_i l q;simp only[an,aV]at hr;obtain⟨rfl,rfl⟩:=hr;rw[q]at hx;cases hv:ρ' x with|func fn a I=>rw[hv]at hx;have C:=hx;cases hx;exact bf.same hw rfl C|_=>rw[hv]at hx;cases hx
  .rename_i f a c q;simp only[an,aV]at hr;obtain⟨rfl,rfl⟩:=hr;rw[q]at hx;have hv:ρ' x=.func (.func f) a c:=VR.kD hx;rw[hv];exact bf.same hw rfl (.sc _)
  .rename_i t v q;simp only[an,aV]at hr;obtain⟨rfl,rfl⟩:=hr;rw[q]at hx;cases hv:ρ' x with|iface t' u=>rw[hv]at hx;have C:=hx;cases hx;exact bf.same hw rfl C|_=>rw[hv]at hx;cases hx
  .cases hr
 case binOp op xt x y yt=>exact iG hw hr λv e=>LR (j x) (j y) e
 case unOp op xt x=>
  split at hr
  .rename_i v hv;rw[qB hv (j x)];exact iG hw hr λv e=>DD e
  .cases hr
 case convert s d x=>exact tA hr λv h2 e=>RI hw hf (j x) e
 case makeInterface t x=>
  split at hr
  .cases hr
  .rename_i d hd hu
   simp only[an,aV]at hr
   obtain⟨rfl,rfl⟩:=hr
   refine bf.same hw ?_ (.iface (j x))
   have:(Instr.makeInterface t (ρ' x)).run P w=.ok (.iface t (ρ' x)) w:=by unfold Instr.makeInterface;simp only[Sem.run_bind,run_underlying hu,Result.andThen_ok];cases d<;>first|(exact absurd rfl (hd _))|rfl
   simp[this]
  .cases hr
 case makeFunc fn first captured=>simp only[an,aV]at hr;obtain⟨rfl,rfl⟩:=hr;exact bf.same hw rfl (VR.qA.2 ⟨_,_,rfl,ay.ops j _,ay.ops j _⟩)
 case makeMap t r0=>
  split at hr
  .simp only[an,aV]at hr;obtain⟨rfl,rfl⟩:=hr;exact Ia hw hf (.inl rfl)
  .rename_i x k e hu
   have hx:=j x
   split at hr
   .rename_i n i q;simp only[an,aV]at hr;obtain⟨rfl,rfl⟩:=hr;rw[q]at hx;have hv:ρ' x=.int n i:=VR.kD hx;exact Ia hw hf (.inr ⟨k,e,n,i,hu,by simp[hv]⟩)
   .cases hr
  .cases hr
 case makeSlice t l c=>exact tA hr λv h2 e=>Q6 hw hf (j l) (j c) e
 case slice t x lo hi mx=>exact iG hw hr λv e=>JC (j x) (jn.map j lo) (jn.map j hi) (jn.map j mx) e
 case fieldAddr s x f=>exact iG hw hr λv e=>HG (j x) e
 case field t x f=>exact iG hw hr λv e=>Jx (j x) e
 case indexAddr t x i=>exact iG hw hr λv e=>HH (j x) (j i) e
 case index t x i=>exact iG hw hr λv e=>Jy (j x) (j i) e
 case lookup t x i ok=>exact iG hw hr λv e=>II hw (j x) (j i) e
 case mapUpdate t m k x=>cases hs:mA P h t (ρ m) (ρ k) (ρ x)with|none=>rw[hs]at hr;cases hr|some h2=>rw[hs]at hr;simp only[Option.map_some,an,aV]at hr;obtain⟨rfl,rfl⟩:=hr;exact HI hw (j m) (j k) (j x) hs
 case insert t m k x=>cases hs:mA P h t (ρ m) (ρ k) (ρ x)with|none=>rw[hs]at hr;cases hr|some h2=>rw[hs]at hr;simp only[Option.map_some,an,aV]at hr;obtain⟨rfl,rfl⟩:=hr;exact HI hw (j m) (j k) (j x) hs
 case range t x=>
  have hx:=j x
  split at hr
  .rename_i s hu q;simp only[an,aV]at hr;obtain⟨rfl,rfl⟩:=hr;rw[q]at hx;have hv:ρ' x=.string s:=VR.kD hx;rw[hv];exact QP hw hf hu
  .rename_i k e hu q;simp only[an,aV]at hr;obtain⟨rfl,rfl⟩:=hr;rw[q]at hx;have hv:ρ' x=.map none:=VR.kD hx;rw[hv];exact Q7 hw hf hu
  .rename_i k e m hu q
   rw[q]at hx
   cases hv:ρ' x with
   |map r=>
    rw[hv]at hx
    cases hx with
    |map hB=>
     split at hr
     .rename_i es clock hg;simp only[an,aV]at hr;obtain⟨rfl,rfl⟩:=hr;exact Q8 hw hf hu hB hg
     .cases hr
   |_=>rw[hv]at hx;cases hx
  .cases hr
 case next it str=>
  have hx:=j it
  cases str with
  |true=>
   simp only at hr
   split at hr
   .rename_i o q
    rw[q]at hx
    cases hv:ρ' it with
    |pointer p=>
     rw[hv]at hx
     cases hx with
     |ref hB=>
      split at hr
      .rename_i s pos hg
       split at hr
       .rename_i D;simp only[an,aV]at hr;obtain⟨rfl,rfl⟩:=hr;exact QZ hw hB hg D
       .rename_i D;simp only[an,aV]at hr;obtain⟨rfl,rfl⟩:=hr;exact Q9 hw hB hg D
      .cases hr
    |_=>rw[hv]at hx;cases hx
   .cases hr
  |false=>
   simp only at hr
   split at hr
   .rename_i o q
    rw[q]at hx
    cases hv:ρ' it with
    |pointer p=>
     rw[hv]at hx
     cases hx with
     |ref hB=>
      rename_i b s
      split at hr
      .rename_i since seen last hg;simp only[an,aV]at hr;obtain⟨rfl,rfl⟩:=hr;exact Rn hw hB hg
      .rename_i m since seen last hg
       split at hr
       .rename_i es clock F
        obtain⟨G,q1,b',s',n',q2,rfl⟩:=hw.obj o _ hg b s 0 hB
        split at hr
        .cases hr
        .rename_i E;exact Ro hw hB hg q2 F (by simpa using E) hr
       .cases hr
      .cases hr
    |_=>rw[hv]at hx;cases hx
   .cases hr
 case typeAssert x xt a ok=>exact iG hw hr λv e=>IK (j x) e
 case extract t i=>
  have hx:=j t
  split at hr
  .rename_i vs q
   rw[q]at hx
   obtain⟨us,hv,h1⟩:=VR.eo.1 hx
   rw[hv]
   refine iG hw hr λv e=>?_
   have hi:i<us.size:=by
    have:=h1.length
    have h2:i<vs.length:=by
     rcases Nat.lt_or_ge i vs.length with h'|h'
     .exact h'
     .rw[List.getElem?_eq_none h']at e;cases e
    simp at this;omega
   refine⟨us[i],by simp[Instr.extract,hi],h1.get i v us[i] e (by simp[hi])⟩
  .cases hr
 case call c=>exact UR hP hw hf j hr
 case defer c=>exact S5 j hr
 case panic x=>
  have hx:=j x
  split at hr
  .rename_i t v q;simp only[an,aV]at hr;obtain⟨rfl,rfl⟩:=hr;rw[q]at hx;cases hv:ρ' x with|iface t' u=>rw[hv]at hx;exact⟨rfl,_,rfl,hx⟩|_=>rw[hv]at hx;cases hx
  .rename_i t v q;simp only[an,aV]at hr;obtain⟨rfl,rfl⟩:=hr;rw[q]at hx;have hv:ρ' x=.iface t v:=VR.kD hx;rw[hv];exact⟨rfl,_,rfl,.sc _⟩
  .cases hr
end
end Go.AI
end
