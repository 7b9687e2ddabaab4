/- A part of the proof. -/
import Derived.Laws.BytesArg
import Derived.Laws.BytesString
import Derived.Lib.ConvBytes
import Derived.KernelRfl
import Derived.Test.YteibmaelhdbgfaaGreatDoorAb
set_option linter.all false

section
namespace Go.AI
section
variable {P:Program}{h h':AHeap}{g:Gh}{w:World}
def Ly:Obj->Bool|.cells ..=>false|_=>true
theorem fI{r:Nat}{o:Obj}(hh:w.heap[r]?=some o)(hn:Ly o=true):(getObj r).run P w=.ok o w:=by unfold getObj;cases o<;>first|(cases hn;done)|simp[Sem.run,hh]
theorem kr{r:Nat}{o o':Obj}(hh:w.heap[r]?=some o)(hn:Ly o=true):(setObj r o').run P w=.ok () (dk w r o'):=by unfold setObj;cases o<;>first|(cases hn;done)|simp[Sem.run,hh,dk]
theorem ac1{a b:ByteArray}(h:(a==b)=true):a=b:=by have h':(a.data==b.data)=true:=h;have:=eq_of_beq h';cases a;simp_all
theorem YA(a:ByteArray):(a==a)=true:=by show(a.data==a.data)=true;simp
theorem UD{b:Bool}{o:TypeId}{kd:TypeDesc}{c:Value}(n:Nat)(hu:P.underlying o=some kd)(hk:fx kd c=true):(Instr.checkKey b (n+1) o c).run P w=.ok () w:=by unfold fx at hk;split at hk<;>first|(simp[Instr.checkKey,run_underlying hu];done)|cases hk
theorem run_checkKey{b:Bool}{o:TypeId}{kd:TypeDesc}{c:Value}(hu:P.underlying o=some kd)(hk:fx kd c=true):(Instr.checkKey b 10000 o c).run P w=.ok () w:=UD 9999 hu hk
theorem sameKey_eq{a b:Value}(h:sameKey a b=some true):b=a:=by
 unfold sameKey at h
 split at h
 .grind
 .simp only[ad]at h;rw[ac1 h]
 .grind
 .cases h
theorem JC{kd:TypeDesc}{a b:Value}{r:Bool}(hk:fx kd a=true)(h:sameKey a b=some r):Instr.sameNow kd a b=some r:=by
 unfold fx at hk
 split at hk
 .unfold sameKey at h
  split at h<;>first|(cases h;done)|(unfold Instr.sameNow;simpa using h)|skip
  all_goals simp_all[Instr.sameNow]
 .unfold sameKey at h
  split at h<;>first|(cases h;done)|skip
  all_goals simp_all[Instr.sameNow]
 .unfold sameKey at h
  split at h<;>first|(cases h;done)|skip
  all_goals simp_all[Instr.sameNow]
 .cases hk
theorem sameBits_self{kd:TypeDesc}{a:Value}(hk:fx kd a=true):Instr.sameBits 10000 a a=true:=by unfold fx at hk;split at hk<;>first|(simp[Instr.sameBits];done)|(unfold Instr.sameBits;exact YA _)|cases hk
theorem rB{kd:TypeDesc}{o:Value}(hk:fx kd o=true):∀{es:List (AV×AV×Nat)}{c:List MapEntry}{i:Nat}{r:Option (Nat×AV×Nat)},
 gR o es i=some r->cY g es c->∃r',Instr.findNow kd o c i=some r'/\(match r with|none=>r'=none|some (j,v,b)=>∃v',r'=some (j,v')/\VR g v v'/\i<=j/\j-i<es.length/\∃e,c[j-i]?=some e/\e.key=o/\e.born=b)
 |[],[],i,r,h,_=>by simp[gR]at h;subst h;exact⟨none,rfl,rfl⟩
 |(k,v,b)::es,e::c,i,r,h,hr=>by
  obtain⟨h1,h2,h3,h4⟩:=hr
  cases k with
  |sc q=>
   simp only[gR]at h
   cases h1
   split at h
   .rename_i hs;simp only[ad]at h;subst h;refine⟨some (i,e.val),?_,e.val,rfl,h2,aC _,by simp,e,by simp,sameKey_eq hs,h3⟩;simp[Instr.findNow,JC hk hs]
   .rename_i hs;obtain⟨r',q1,q2⟩:=rB hk h h4;refine⟨r',by simp[Instr.findNow,JC hk hs,q1],?_⟩;grind
   .cases h|_=>simp[gR]at h
 |[],_::_,_,_,_,hr=>hr.elim|(_,_,_)::_,[],_,_,_,hr=>hr.elim
theorem run_findKey{z:TypeId}{kd:TypeDesc}{o:Value}{c:List MapEntry}{r:Option (Nat×Value)}(hu:P.underlying z=some kd)(hf:Instr.findNow kd o c 0=some r):(Instr.findKey z o c).run P w=.ok r w:=by unfold Instr.findKey;simp only[Sem.run_bind,run_underlying hu,Result.andThen_ok,hf,Sem.run_pure]
theorem IU{t E e:TypeId}{kd:TypeDesc}{v z:Value}{ok:Bool}{b:Nat}{o:Array MapEntry}{clock:Nat}{r:Option (Nat×Value)}(hu:P.underlying t=some (.map E e))(c:P.underlying E=some kd)(D:fx kd v=true)(hz:(zeroValue e).run P w=.ok z w)(hh:w.heap[b]?=some (.map o clock))(hf:Instr.findNow kd v o.toList 0=some r):(Instr.lookup t (.map (some b)) v ok).run P w=.ok (match r with|some (_,x)=>if ok then .tuple #[x,.bool true]else x|none=>if ok then .tuple #[z,.bool false]else z) w:=by unfold Instr.lookup;simp only[Sem.run_bind,run_underlying hu,Result.andThen_ok,fI hh rfl,Sem.run_pure,run_checkKey c D,run_findKey c hf];cases r with|none=>simp_all|some x=>simp_all
theorem UR{t D e:TypeId}{kd:TypeDesc}{v o:Value}{ok:Bool}(hu:P.underlying t=some (.map D e))(c:P.underlying D=some kd)(z:fx kd v=true)(hz:(zeroValue e).run P w=.ok o w):(Instr.lookup t (.map none) v ok).run P w=.ok (if ok then .tuple #[o,.bool false]else o) w:=by unfold Instr.lookup;have hf:Instr.findNow kd v (#[]:Array MapEntry).toList 0=some none:=rfl;simp only[Sem.run_bind,run_underlying hu,Result.andThen_ok,Sem.run_pure,run_checkKey c z,run_findKey c hf,hz]
theorem VR.opt{ok b:Bool}{x:AV}{v:Value}(hx:VR g x v):VR g (if ok then .tuple [x,.sc (.bool b)]else x) (if ok then .tuple #[v,.bool b]else v):=by cases ok with|false=>exact hx|true=>exact VR.fm.2 ⟨_,rfl,hx,.sc _,trivial⟩
def abq(g:Gh):Option (Nat×AV×Nat)->Option (Nat×Value)->Prop|none,r=>r=none|some (_,y,_),r=>∃j c,r=some (j,c)/\VR g y c
theorem J8{kd:TypeDesc}{x:AV}{u v:Value}{r:Option (Nat×AV×Nat)}(hw:W h g w)(z:fx kd v=true)(hx:VR g x u)(hr:qe h v x=some r):
 (u=.map none/\r=none)\/∃b,∃c:Array MapEntry,∃clock r',u=.map (some b)/\w.heap[b]?=some (.map c clock)/\Instr.findNow kd v c.toList 0=some r'/\abq g r r':=by
 cases hx with
 |sc u=>unfold qe at hr;grind
 |map hB=>
  rename_i o b s n
  simp only[qe]at hr
  split at hr
  .rename_i es clock hg;obtain⟨c,q1,q2⟩:=hw.obj o _ hg b s n hB;obtain⟨r',F,D⟩:=rB z hr q2;refine .inr ⟨b,c,clock,r',rfl,q1,F,?_⟩;cases r with|none=>exact D|some q=>obtain⟨j,y,I⟩:=q;obtain⟨E,e1,e2,_⟩:=D;exact⟨j,E,e1,e2⟩
  .cases hr|_=>simp[qe]at hr
theorem J9{t:TypeId}{x k y:AV}{u v:Value}{ok:Bool}(hw:W h g w)(hx:VR g x u)(hk:VR g k v)(hr:rJ P h t x k ok=some y):
 ∃z,(Instr.lookup t u v ok).run P w=.ok z w/\VR g y z:=by
 unfold rJ at hr
 split at hr
 .rename_i J e I hu
  cases hk
  split at hr
  .rename_i kd z D hz
   split at hr
   .cases hr
   .rename_i c
    have c:fx kd v=true:=by grind
    obtain⟨F,o,rfl⟩:=yh hz w
    split at hr
    .rename_i i x b hl
     simp only[ad]at hr;subst hr
     rcases J8 hw c hx hl with⟨_,e1⟩|⟨b',E,clock,r',rfl,q1,q2,j,x',rfl,q3⟩
     .cases e1
     .exact⟨_,IU hu D c o q1 q2,VR.opt q3⟩
    .rename_i hl
     simp only[ad]at hr;subst hr
     rcases J8 hw c hx hl with⟨rfl,_⟩|⟨b',E,clock,r',rfl,q1,q2,q3⟩
     .exact⟨_,UR hu D c o,VR.opt (VR.bz F)⟩
     .cases q3;exact⟨_,IU hu D c o q1 q2,VR.opt (VR.bz F)⟩
    .cases hr
  .cases hr
 .cases hr
theorem cY.length:∀{es:List (AV×AV×Nat)}{c:List MapEntry},cY g es c->es.length=c.length|[],[],_=>rfl|(_,_,_)::_,_::_,h=>by simp[cY.length h.2.2.2]|[],_::_,h=>h.elim|(_,_,_)::_,[],h=>h.elim
theorem cY.set{k v:AV}{e:MapEntry}(hk:VR g k e.key)(hv:VR g v e.val):∀{es:List (AV×AV×Nat)}{c:List MapEntry}(i:Nat),cY g es c->cY g (es.set i (k,v,e.born)) (c.set i e)|[],[],_,_=>by simp[cY]|(_,_,_)::_,_::_,0,h=>⟨hk,hv,rfl,h.2.2.2⟩|(_,_,_)::_,_::_,i+1,h=>⟨h.1,h.2.1,h.2.2.1,cY.set hk hv i h.2.2.2⟩|[],_::_,_,h=>h.elim|(_,_,_)::_,[],_,h=>h.elim
theorem cY.push{k v:AV}{e:MapEntry}(hk:VR g k e.key)(hv:VR g v e.val):∀{es:List (AV×AV×Nat)}{c:List MapEntry},cY g es c->cY g (es++[(k,v,e.born)]) (c++[e])|[],[],_=>⟨hk,hv,rfl,trivial⟩|(_,_,_)::_,_::_,h=>⟨h.1,h.2.1,h.2.2.1,cY.push hk hv h.2.2.2⟩|[],_::_,h=>h.elim|(_,_,_)::_,[],h=>h.elim
theorem cY.erase:∀{es:List (AV×AV×Nat)}{c:List MapEntry}(i:Nat),cY g es c->cY g (es.eraseIdx i) (c.eraseIdx i)|[],[],_,_=>by simp[cY]|(_,_,_)::_,_::_,0,h=>by simpa using h.2.2.2|(_,_,_)::_,_::_,i+1,h=>⟨h.1,h.2.1,h.2.2.1,cY.erase i h.2.2.2⟩|[],_::_,_,h=>h.elim|(_,_,_)::_,[],_,h=>h.elim
theorem Jd{t:TypeId}{x k y:AV}{u v z:Value}(hw:W h g w)(hx:VR g x u)(hk:VR g k v)(hy:VR g y z)(hr:me P h t x k y=some h'):
 bn P h g w (do Instr.mapUpdate t u v z;pure .skip) .skip h':=by
 unfold me at hr
 split at hr
 .rename_i kt e Z o hu
  cases hk
  cases hx with
  |map hB=>
   rename_i b s n
   split at hr
   .rename_i kd es clock I hg
    split at hr
    .cases hr
    .rename_i E
     have E:fx kd v=true:=by grind
     obtain⟨F,q1,q2⟩:=hw.obj o _ hg b s n hB
     have hlen:=q2.length
     split at hr
     .rename_i i U T hf
      simp only[ad]at hr;subst hr
      obtain⟨r',L,V,K,Y,X,S,N,R,Q,O⟩:=rB E hf q2
      subst K
      simp only[Nat.sub_zero]at S R
      have hi:i<F.size:=by grind
      have M:F[i]?=some N:=by grind
      have J:(F.modify i λe=>{e with key:=v,val:=z})=F.set i {N with key:=v,val:=z} hi:=by grind
      have c:=jV (x':=.map (es.set i (.sc v,y,T)) clock) hw hg hB (w':=dk w b (.map (F.modify i λe=>{e with key:=v,val:=z}) clock)) rfl ?_
      .refine⟨g,_,?_,c.1,c.2⟩;unfold Instr.mapUpdate;simp only[Sem.run_bind,run_underlying hu,Result.andThen_ok,fI q1 rfl,run_checkKey I E,run_findKey I L,M,Option.map_some,Option.getD_some,Instr.keyThatStays,Q,sameBits_self E,if_true,Sem.run_pure,kr q1 rfl]
      .intro b' s' n' D;rw[hB]at D;simp only[ad,av]at D;obtain⟨rfl,rfl,rfl⟩:=D;refine⟨_,il (ik q1),?_⟩;rw[J];simp only[Array.toList_set];rw[<-O];exact cY.set (e:={N with key:=v,val:=z}) (.sc v) hy i q2
     .rename_i hf
      simp only[ad]at hr;subst hr
      obtain⟨r',L,K⟩:=rB E hf q2
      subst K
      have c:=jV (x':=.map (es++[(.sc v,y,clock)]) (clock+1)) hw hg hB (w':=dk w b (.map (F.push {key:=v,val:=z,born:=clock}) (clock+1))) rfl ?_
      .refine⟨g,_,?_,c.1,c.2⟩;unfold Instr.mapUpdate;simp only[Sem.run_bind,run_underlying hu,Result.andThen_ok,fI q1 rfl,run_checkKey I E,run_findKey I L,Sem.run_pure,kr q1 rfl]
      .intro b' s' n' D;rw[hB]at D;simp only[ad,av]at D;obtain⟨rfl,rfl,rfl⟩:=D;refine⟨_,il (ik q1),?_⟩;simp only[Array.toList_push];exact cY.push (e:={key:=v,val:=z,born:=clock}) (.sc v) hy q2
     .cases hr
   .cases hr
 .cases hr
theorem Wo{I:Array TypeId}{t ty:TypeId}{x k:AV}{u v:Value}(hw:W h g w)(F:I[0]?=some t)(hx:VR g x u)(hk:VR g k v)(hr:zi P h t x k=some h'):
 bn P h g w (do pure (.value (<-Builtin.delete_ I ty #[u,v]))) (.val dS) h':=by
 unfold zi at hr
 split at hr
 .rename_i Q e O o hu
  cases hk
  cases hx with
  |map hB=>
   rename_i b s n
   split at hr
   .rename_i kd es clock z hg
    split at hr
    .cases hr
    .rename_i c
     have c:fx kd v=true:=by grind
     obtain⟨L,q1,q2⟩:=hw.obj o _ hg b s n hB
     split at hr
     .rename_i i M R hf
      simp only[ad]at hr;subst hr
      obtain⟨r',K,N,J,_⟩:=rB c hf q2
      subst J
      have D:=jV (x':=.map (es.eraseIdx i) clock) hw hg hB (w':=dk w b (.map (L.eraseIdxIfInBounds i) clock)) rfl ?_
      .refine⟨g,_,.tuple #[],?_,VR.fm.2 ⟨#[],rfl,trivial⟩,D.1,D.2⟩;unfold Builtin.delete_;simp only[F,List.getElem?_toArray,List.getElem?_cons_zero,List.getElem?_cons_succ,Sem.run_bind,run_underlying hu,Result.andThen_ok,fI q1 rfl,run_checkKey z c,run_findKey z K,Sem.run_pure,kr q1 rfl]
      .intro b' s' n' E;rw[hB]at E;simp only[ad,av]at E;obtain⟨rfl,rfl,rfl⟩:=E;refine⟨_,il (ik q1),?_⟩;rw[Array.toList_eraseIdxIfInBounds];exact cY.erase i q2
     .rename_i hf;simp only[ad]at hr;subst hr;obtain⟨r',K,J⟩:=rB c hf q2;subst J;refine bn.same hw (x:=.tuple #[]) ?_ (VR.fm.2 ⟨#[],rfl,trivial⟩);unfold Builtin.delete_;simp only[F,List.getElem?_toArray,List.getElem?_cons_zero,List.getElem?_cons_succ,Sem.run_bind,run_underlying hu,Result.andThen_ok,fI q1 rfl,run_checkKey z c,run_findKey z K,Sem.run_pure,kr q1 rfl,ME q1]
     .cases hr
   .cases hr
 .cases hr
end
end Go.AI
end

section
namespace Go.AI
section
variable {P:Program}{h h':AHeap}{g:Gh}{w:World}
theorem zF{x:cr}{ob:Obj}(hw:W h g w)(hf:∀v,g.B h.next v=none)
 (ho:∀g',(g'.B h.next 0=some (w.heap.size,0,0))->g.Le g'->(∀v y,g'.B h.next v=some y->v=0/\y=(w.heap.size,0,0))->OR g' (w.alloc ob) h.next x):
 ∃g',g'.B h.next 0=some (w.heap.size,0,0)/\W (h.alloc x) g' (w.alloc ob)/\Step h g w (h.alloc x) g' (w.alloc ob):=by
 refine⟨g.eA h.next 0 (w.heap.size,0,0),Gh.hI _ _ _ _,?_⟩
 refine pT hw hf rfl (ho _ (Gh.hI _ _ _ _) (Gh.lD (hf 0)) ?_)
 intro v y hy
 rcases Gh.ek hy with⟨_,e1,e2⟩|e1
 .grind
 grind
theorem JD{t:TypeId}{r:Option Value}(hw:W h g w)(hf:∀v,g.B h.next v=none)(hr:r=none\/∃k e n i,P.underlying t=some (.map k e)/\r=some (.int n i)):
 bn P h g w (do pure (.value (<-Instr.makeMap t r))) (.val (.map h.next)) (h.alloc (.map [] 0)):=by
 obtain⟨g',h1,h2,h3⟩:=zF (x:=.map [] 0) (ob:=.map #[] 0) hw hf (by intro g' e1 _ _ b s n hb;rw[e1]at hb;simp only[ad,av]at hb;obtain⟨rfl,rfl,rfl⟩:=hb;exact⟨#[],ku _ _,trivial⟩)
 refine⟨g',_,.map (some w.heap.size),?_,.map h1,h2,h3⟩
 rcases hr with rfl|⟨k,e,n,i,hu,rfl⟩
 .simp[Instr.makeMap]
 .simp[Instr.makeMap,run_underlying hu,asInt,asIntOf]
theorem UI{t:TypeId}{s:ByteArray}(hw:W h g w)(hf:∀v,g.B h.next v=none)(hu:P.underlying t=some .string):bn P h g w (do pure (.value (<-Instr.range t (.string s)))) (.val (.ref h.next 0 0 0)) (h.alloc (.kb s 0)):=by obtain⟨g',h1,h2,h3⟩:=zF (x:=.kb s 0) (ob:=.stringIter s 0) hw hf (by intro g' e1 _ _ b k n hb;rw[e1]at hb;simp only[ad,av]at hb;obtain⟨rfl,rfl,rfl⟩:=hb;exact ku _ _);refine⟨g',_,.pointer (some ⟨w.heap.size,0,none⟩),?_,.ref h1,h2,h3⟩;simp[Instr.range,run_underlying hu]
theorem Va{t k e:TypeId}(hw:W h g w)(hf:∀v,g.B h.next v=none)(hu:P.underlying t=some (.map k e)):bn P h g w (do pure (.value (<-Instr.range t (.map none)))) (.val (.ref h.next 0 0 0)) (h.alloc (.ic none 0 [] 0)):=by obtain⟨g',h1,h2,h3⟩:=zF (x:=.ic none 0 [] 0) (ob:=.mapIter none 0 #[] 0) hw hf (by intro g' e1 _ _ b k n hb;rw[e1]at hb;simp only[ad,av]at hb;obtain⟨rfl,rfl,rfl⟩:=hb;exact⟨none,ku _ _,rfl⟩);refine⟨g',_,.pointer (some ⟨w.heap.size,0,none⟩),?_,.ref h1,h2,h3⟩;simp[Instr.range,run_underlying hu]
theorem Vb{t k e:TypeId}{o b s n clock:Nat}{es:List (AV×AV×Nat)}(hw:W h g w)(hf:∀v,g.B h.next v=none)(hu:P.underlying t=some (.map k e))(hB:g.B o 0=some (b,s,n))(hg:h.get o=some (.map es clock)):bn P h g w (do pure (.value (<-Instr.range t (.map (some b))))) (.val (.ref h.next 0 0 0)) (h.alloc (.ic (some o) clock [] clock)):=by obtain⟨z,q1,q2⟩:=hw.obj o _ hg b s n hB;obtain⟨g',h1,h2,h3⟩:=zF (x:=.ic (some o) clock [] clock) (ob:=.mapIter (some b) clock #[] clock) hw hf (by intro g' e1 c _ b' k' n' hb;rw[e1]at hb;simp only[ad,av]at hb;obtain⟨rfl,rfl,rfl⟩:=hb;exact⟨some b,ku _ _,b,s,n,c.b _ _ _ hB,rfl⟩);refine⟨g',_,.pointer (some ⟨w.heap.size,0,none⟩),?_,.ref h1,h2,h3⟩;simp[Instr.range,run_underlying hu,fI q1 rfl]
theorem US{o b s n pos:Nat}{str:ByteArray}{ty:TypeId}(hw:W h g w)(hB:g.B o 0=some (b,s,n))(hg:h.get o=some (.kb str pos))(hlt:pos<str.size):bn P h g w (do pure (.value (<-Instr.next (.pointer (some ⟨b,0,none⟩)) true ty))) (.val (.tuple [.sc (.bool true),.sc (goInt pos),.sc (.int .i32 (Utf8.decode str pos).1)])) (h.aU o (.kb str (pos+(Utf8.decode str pos).2))):=by have q1:=hw.obj o _ hg b s n hB;have c:=jV (x':=.kb str (pos+(Utf8.decode str pos).2)) hw hg hB (w':=dk w b (.stringIter str (pos+(Utf8.decode str pos).2))) rfl (by intro b' k' n' z;rw[hB]at z;simp only[ad,av]at z;obtain⟨rfl,rfl,rfl⟩:=z;exact il (ik q1));refine⟨g,_,.tuple #[.bool true,goInt pos,.int .i32 (Utf8.decode str pos).1],?_,VR.fm.2 ⟨_,rfl,.sc _,.sc _,.sc _,trivial⟩,c.1,c.2⟩;simp[Instr.next,fI q1 rfl,hlt,kr q1 rfl]
theorem Vc{o b s n pos:Nat}{str:ByteArray}{ty:TypeId}(hw:W h g w)(hB:g.B o 0=some (b,s,n))(hg:h.get o=some (.kb str pos))(hlt:¬pos<str.size):bn P h g w (do pure (.value (<-Instr.next (.pointer (some ⟨b,0,none⟩)) true ty))) (.val (.tuple [.sc (.bool false)])) h:=by have q1:=hw.obj o _ hg b s n hB;refine bn.same hw (x:=.tuple #[.bool false]) ?_ (VR.fm.2 ⟨_,rfl,.sc _,trivial⟩);simp[Instr.next,fI q1 rfl,hlt]
theorem Vn{o b s n since last:Nat}{seen:List Nat}{ty:TypeId}(hw:W h g w)(hB:g.B o 0=some (b,s,n))(hg:h.get o=some (.ic none since seen last)):bn P h g w (do pure (.value (<-Instr.next (.pointer (some ⟨b,0,none⟩)) false ty))) (.val (.tuple [.sc (.bool false)])) h:=by obtain⟨c,q1,q2⟩:=hw.obj o _ hg b s n hB;simp only at q2;subst q2;refine bn.same hw (x:=.tuple #[.bool false]) ?_ (VR.fm.2 ⟨_,rfl,.sc _,trivial⟩);simp[Instr.next,fI q1 rfl]
theorem cY.filter(p:Nat->Bool):∀{es:List (AV×AV×Nat)}{c:List MapEntry},cY g es c->cY g (es.filter λe=>p e.2.2) (c.filter λe=>p e.born)
 |[],[],_=>trivial
 |(k,v,b)::es,e::c,hh=>by obtain⟨h1,h2,h3,h4⟩:=hh;subst h3;simp only[List.filter_cons];cases p e.born with|false=>simpa using cY.filter p h4|true=>simpa using⟨h1,h2,rfl,cY.filter p h4⟩
 |[],_::_,hh=>hh.elim|(_,_,_)::_,[],hh=>hh.elim
theorem cY.all(p:Nat->Bool):∀{es:List (AV×AV×Nat)}{c:List MapEntry},cY g es c->(es.all λe=>p e.2.2)=(c.all λe=>p e.born)|[],[],_=>rfl|(_,_,_)::_,_::_,hh=>by obtain⟨h1,h2,h3,h4⟩:=hh;subst h3;simp[cY.all p h4]|[],_::_,hh=>hh.elim|(_,_,_)::_,[],hh=>hh.elim
theorem Vo{o m b s n O sm nm since last clock:Nat}{seen:List Nat}{es:List (AV×AV×Nat)}{ty:TypeId}{r:dU}
 (hw:W h g w)(hB:g.B o 0=some (b,s,n))(hg:h.get o=some (.ic (some m) since seen last))(J:g.B m 0=some (O,sm,nm))(Q:h.get m=some (.map es clock))
 (hok:(!seen.isEmpty&&!es.isEmpty&&es.all (λe=>decide (last<=e.2.2)))=false)
 (hr:(match es.filter (λe=>!seen.contains e.2.2)with|[]=>some (.val (.tuple [.sc (.bool false)]),h)|[e]=>if e.2.2<since then some (.val (.tuple [.sc (.bool true),e.1,e.2.1]),h.aU o (.ic (some m) since (seen++[e.2.2]) clock))else none|_=>none)=some (r,h')):
 bn P h g w (do pure (.value (<-Instr.next (.pointer (some ⟨b,0,none⟩)) false ty))) r h':=by
 obtain⟨Z,q1,b',s',n',q2,rfl⟩:=hw.obj o _ hg b s n hB
 rw[J]at q2
 simp only[ad,av]at q2
 obtain⟨rfl,rfl,rfl⟩:=q2
 obtain⟨D,q3,q4⟩:=hw.obj m _ Q O sm nm J
 have hall:=cY.all (λk=>decide (last<=k)) q4
 have hlen:=q4.length
 have c:=cY.filter (λk=>!seen.contains k) q4
 have E:(!seen.toArray.isEmpty&&!D.isEmpty&&D.all (λe=>decide (e.born>=last)))=false:=by grind
 have z:D.filter (λe=>!seen.toArray.contains e.born)=(D.toList.filter λe=>!seen.contains e.born).toArray:=by apply Array.ext';simp
 split at hr
 .rename_i K
  simp only[ad,av]at hr
  obtain⟨rfl,rfl⟩:=hr
  rw[K]at c
  have S:(D.toList.filter λe=>!seen.contains e.born)=[]:=by cases hx:(D.toList.filter λe=>!seen.contains e.born)with|nil=>rfl|cons _ _=>rw[hx]at c;exact c.elim
  refine bn.same hw (x:=.tuple #[.bool false]) ?_ (VR.fm.2 ⟨_,rfl,.sc _,trivial⟩);rw[S]at z;simp only[Instr.next,Sem.run_bind,fI q1 rfl,Result.andThen_ok,fI q3 rfl,E,Bool.false_eq_true,if_false,z];simp[Question.forced]
 .rename_i e R
  split at hr
  .rename_i hlt
   simp only[ad,av]at hr
   obtain⟨rfl,rfl⟩:=hr
   rw[R]at c
   obtain⟨k,v,Y⟩:=e
   generalize hx:(D.toList.filter λe=>!seen.contains e.born)=U at c z
   match U,c,z with
   |[N],c,z=>
    obtain⟨X,V,T,_⟩:=c
    simp only at hlt T
    have M:N.born<since:=by omega
    have L:¬since<=N.born:=by omega
    have F:=jV (x':=.ic (some m) since (seen++[Y]) clock) hw hg hB (w':=dk w b (.mapIter (some O) since (seen.toArray.push N.born) clock)) rfl (by intro b' k' n' I;rw[hB]at I;simp only[ad,av]at I;obtain⟨rfl,rfl,rfl⟩:=I;refine⟨some O,?_,O,sm,nm,J,rfl⟩;rw[il (ik q1),T];simp);refine⟨g,_,.tuple #[.bool true,N.key,N.val],?_,VR.fm.2 ⟨_,rfl,.sc _,X,V,trivial⟩,F.1,F.2⟩;simp only[Instr.next,Sem.run_bind,fI q1 rfl,Result.andThen_ok,fI q3 rfl,E,Bool.false_eq_true,if_false,z];simp[Question.forced,M,L,kr q1 rfl]|[],c,_=>exact c.elim|_::_::_,c,_=>exact c.2.2.2.elim
  .cases hr
 .cases hr
end
end Go.AI
end

section
namespace Go.AI
section
variable {P:Program}{h h':AHeap}{g:Gh}{w:World}
theorem DW{s:Sem Value}{y:AV}(h1:(b8 P s).map bz=some y):∃u,s.run P w=.ok u w/\VR g y u:=by cases hp:b8 P s with|none=>grind|some u=>rw[hp]at h1;simp at h1;subst h1;exact⟨u,lA hp w,VR.bz u⟩
theorem yi:∀{xs:List AV}{vs:List Value}{bs:List UInt8},iO xs=some bs->aG g xs vs->∃o:List Int,vs=o.map (Value.int .u8)/\bs=o.map λn=>UInt8.ofNat n.toNat
 |[],[],bs,hb,_=>by simp[iO]at hb;simp_all
 |x::xs,v::vs,bs,hb,hr=>by
  unfold iO at hb
  split at hb
  .grind
  .rename_i n z e;simp only[List.cons.injEq]at e;obtain⟨rfl,rfl⟩:=e;cases c:iO xs with|none=>grind|some l=>rw[c]at hb;simp at hb;subst hb;obtain⟨o,e1,e2⟩:=yi c hr.2;have h1:=hr.1;cases h1;exact⟨n::o,by simp[e1],by simp[e2]⟩
  .cases hb|[],_::_,_,_,hr=>hr.elim|_::_,[],_,_,hr=>hr.elim
theorem rC{b:Nat}{c:Array Value}{el:TypeId}{f:Nat×Nat}(hh:w.heap[b]?=some (.cells c el f)):w.shape? b=some (el,c.size):=by unfold World.shape?;simp[hh]
theorem VG{b:Nat}{c:Array Value}{el:TypeId}{f:Nat×Nat}(hh:w.heap[b]?=some (.cells c el f)):(viewAt b).run P w=.ok none w:=by unfold viewAt;simp[rC hh]
theorem yq{b off:Nat}{c:Array Value}{el:TypeId}{f:Nat×Nat}(hh:w.heap[b]?=some (.cells c el f)):(Conv.seenAt ⟨b,off,none⟩).run P w=.ok ⟨b,off,none⟩ w:=by unfold Conv.seenAt;simp only[Sem.run_bind,VG hh,Result.andThen_ok,Sem.run_pure]
theorem yR{o ver n off s b sz:Nat}{cs:List AV}(hw:W h g w)(hr:c9 h o ver n off s=some cs)(hb:g.B o ver=some (b,sz,n)):
 ∃v m c fz el ex sh,h.get o=some (.cells v m c fz el ex sh)/\∃ca f,MD g w b sz n c fz el ex sh ca f/\off+s<=n:=by
 unfold c9 at hr
 split at hr
 .rename_i v m c fz el ex sh hx
  split at hr
  .rename_i hc;obtain⟨h1,h2,h3⟩:=hc;obtain⟨_,ca,f,hk⟩:=(hw.obj o _ hx).2 ver h1 h2 b sz n hb;grind
  .cases hr
 .cases hr
theorem UJ(w:World)(e:TypeId)(s:ByteArray):
 Lib.bytesWorld w e s=gU {w with drawn:=w.drawn+1} (.cells (Lib.bytesCells w e s) e ((Lib.bytesCells w e s).size,(Lib.bytesCells w e s).size+1)):=by
 have hh:(Lib.bytesWorld w e s).heap=w.heap.push (.cells (Lib.bytesCells w e s) e ((Lib.bytesCells w e s).size,(Lib.bytesCells w e s).size+1)):=by
  apply Array.ext_getElem?
  intro j
  rcases Nat.lt_trichotomy j w.heap.size with h|h|h
  .rw[Lib.bytesWorld_at_old w e s j h,Array.getElem?_push,if_neg (by omega)]
  .subst h;rw[Lib.bytesWorld_at_new,Array.getElem?_push,if_pos rfl]
  .rw[Array.getElem?_eq_none (by rw[Lib.bytesWorld_size];omega),Array.getElem?_eq_none (by simp;omega)]
 have hd:(Lib.bytesWorld w e s).drawn=w.drawn+1:=rfl;show Lib.bytesWorld w e s={w with drawn:=w.drawn+1,heap:=w.heap.push _};rw[<-hh];rfl
theorem UK{src dst e:TypeId}{s:ByteArray}(hw:W h g w)(hf:∀v,g.B h.next v=none)(hs:P.underlying src=some .string)(hd:P.underlying dst=some (.slice e))(he:P.underlying e=some (.int .u8)):
 bn P h g w (do pure (.value (<-convert src dst (.string s)))) (.val (.sl h.next 0 s.size 0 1 s.size none)) (h.alloc (.cells 0 0 (s.data.toList.map λb=>.sc (.int .u8 b.toNat)) 0 e false true)):=by
 have hr:=Lib.run_convert_string_bytes (P:=P) w src dst e s hs hd he
 have o:s.size<=grownCap w s.size 0 e:=by simp[grownCap,Question.cut]
 have fk:(Lib.bytesCells w e s).size=grownCap w s.size 0 e:=by simp only[Lib.bytesCells,Array.size_append,Array.size_map,Array.size_replicate];have:s.data.size=s.size:=rfl;omega
 rw[UJ]at hr
 have c:=pT (x:=.cells 0 0 (s.data.toList.map λb=>.sc (.int .u8 b.toNat)) 0 e false true) (s:=grownCap w s.size 0 e) (n:=s.size) (hw.drew (w.drawn+1)) hf (w':=gU {w with drawn:=w.drawn+1} (.cells (Lib.bytesCells w e s) e ((Lib.bytesCells w e s).size,(Lib.bytesCells w e s).size+1))) rfl ?_
 .refine⟨_,_,.slice (some ⟨w.heap.size,0,none⟩) s.size (grownCap w s.size 0 e),by simp_all,?_,c.1,?_⟩
  .refine .sl (Gh.hI _ _ _ _) ?_ o (by simp);simp
  .have h2:=c.2;exact{h2 with size:=h2.size,fr:=h2.fr,tape:=h2.tape,os:=h2.os,out:=h2.out,old:=h2.old,fX:=h2.fX}
 .refine⟨λv hv=>?_,?_⟩
  .cases e':(g.eA h.next 0 (w.heap.size,grownCap w s.size 0 e,s.size)).B h.next v with
   |none=>rfl
   |some y=>
    rcases Gh.ek e' with⟨_,e',_⟩|e'
    .omega
    grind
  intro v h1 h2 b s' n' hb
  have hv:v=0:=by omega
  subst hv
  have z:some (w.heap.size,grownCap w s.size 0 e,s.size)=some (b,s',n'):=(Gh.hI _ _ _ _).symm.trans hb
  simp only[ad,av]at z
  obtain⟨rfl,rfl,rfl⟩:=z
  have D:(s.data.toList.map λb=>AV.sc (.int .u8 b.toNat)).length=s.size:=by simp
  refine⟨λ_=>D.symm,Lib.bytesCells w e s,_,⟨ku {w with drawn:=w.drawn+1} _,fk,by omega,o,(by simp),?_,(by simp),?_⟩⟩
  .grind
  .intro i x hi hx;rw[List.getElem?_map]at hx;cases hb:s.data.toList[i]? with|none=>grind|some u=>rw[hb]at hx;simp only[Option.map_some,ad]at hx;subst hx;refine⟨_,?_,.sc _⟩;unfold Lib.bytesCells;grind
theorem VH{src dst:TypeId}{x r:AV}{v:Value}(hw:W h g w)(hf:∀v,g.B h.next v=none)(hx:VR g x v)(hr:gg P h src dst x=some (r,h')):
 bn P h g w (do pure (.value (<-convert src dst v))) (.val r) h':=by
 unfold gg at hr
 split at hr
 .rename_i e hs hd
  split at hr
  .rename_i n he hn M
   split at hr
   .rename_i l O
    cases eC:iO l with
    |none=>grind
    |some bs=>
     rw[eC]at hr
     simp only[Option.map_some,ad,av]at hr
     obtain⟨rfl,rfl⟩:=hr
     obtain⟨vs,q1,q2,q3⟩:=tk (P:=P) hw hx O
     obtain⟨L,e1,e2⟩:=yi eC q1
     have q3:=q3 w.drawn
     have J:∃a c,v=.slice a n c:=by
      unfold ft at hn
      split at hn
      .cases hx;grind
      .cases hx;grind
      .cases hx with|hU=>grind|ia _=>grind|aQ _ _ _=>grind
      .cases hx;grind
      .cases hx;grind
      .simp[kQ]at M
      .cases hn
     obtain⟨a,c,rfl⟩:=J
     refine bn.same hw (x:=.string ⟨bs.toArray⟩) ?_ (.sc _)
     simp only[Sem.run_bind]
     rw[run_convert_bytes_string w src dst e a n c hs he hd]
     cases a with
     |none=>
      simp only[Builtin.firstCells,Sem.run_pure,Result.ok.injEq,and_true]at q3
      have:vs=[]:=by grind
      rw[this]at e1
      have:L=[]:=by grind
      subst this
      subst e2
      simp[Conv.bytesToString]
      rfl|some a=>have hl:(loadCells a n).run P w=.ok (L.map (Value.int .u8)).toArray w:=by rw[<-e1];have:(Builtin.firstCells 1 n (.slice (some a) n c)).run P w=(loadCells a (n*1)).run P w:=rfl;rw[Nat.mul_one]at this;rw[<-this];exact q3
                  rw[run_bytesToString w a n c L hl,foldl_push_bytes,e2,show ByteArray.empty.data=#[]from rfl,Array.empty_append];rfl
   .cases hr
  .cases hr
 .rename_i e hs hd
  split at hr
  .rename_i s he
   split at hr
   .simp only[ad,av]at hr;obtain⟨rfl,rfl⟩:=hr;cases hx;exact UK hw hf hs hd he
   .cases hr
  .cases hr
 .rename_i t hs hd
  split at hr
  .rename_i o ver n off k D
   split at hr
   .rename_i cs E
    simp only[ad,av]at hr
    obtain⟨rfl,rfl⟩:=hr
    have z:=hx
    cases hx with
    |ref hB=>
     rename_i b Q
     obtain⟨v',R,c',fz,el,ex,sh,_,ca,f,hk,N⟩:=yR hw E hB
     refine bn.same hw (x:=.pointer (some ⟨b,off,none⟩)) ?_ z
     have h1:¬ca.size<=off:=by have:=hk.lh;have:=hk.size;omega
     simp[convert,run_underlying hs,run_underlying hd,Conv.unsafePointer,yq hk.here,cellsIn,rC hk.here,run_sizeOf D,h1]
   .cases hr
  .simp only[ad,av]at hr;obtain⟨rfl,rfl⟩:=hr;cases hx;refine bn.same hw (x:=.pointer none) ?_ (.sc _);simp[convert,run_underlying hs,run_underlying hd,Conv.unsafePointer]
  .cases hr
 .rename_i hs hd
  split at hr
  .simp only[ad,av]at hr;obtain⟨rfl,rfl⟩:=hr;have z:=hx;cases hx with|ref hB=>refine bn.same hw ?_ z;simp[convert,run_underlying hs,run_underlying hd,Conv.unsafePointer]
  .simp only[ad,av]at hr;obtain⟨rfl,rfl⟩:=hr;cases hx;refine bn.same hw (x:=.pointer none) ?_ (.sc _);simp[convert,run_underlying hs,run_underlying hd,Conv.unsafePointer]
  .cases hr
 .rename_i u hs hd
  split at hr
  .rename_i o ver n off k D
   split at hr
   .rename_i cs V X U S T bJ E K
    split at hr
    .rename_i F
     simp only[ad,av]at hr
     obtain⟨rfl,rfl⟩:=hr
     have z:=hx
     cases hx with
     |ref hB=>
      rename_i b Q
      obtain⟨v',R,c',fz,el,ex,sh,I,ca,f,hk,N⟩:=yR hw E hB
      rw[K]at I
      simp only[ad,cr.cells.injEq]at I
      obtain⟨rfl,rfl,rfl,rfl,rfl,rfl,rfl⟩:=I
      refine bn.same hw (x:=.pointer (some ⟨b,off,none⟩)) ?_ z
      have fk:ca.size=U.length:=by rw[hk.size,hk.exact rfl]
      simp[convert,run_underlying hs,run_underlying hd,Conv.unsafePointer,yq hk.here,variablesAt,rC hk.here,run_sizeOf D,fk,F]
    .cases hr
   .cases hr
  .simp only[ad,av]at hr;obtain⟨rfl,rfl⟩:=hr;cases hx;refine bn.same hw (x:=.pointer none) ?_ (.sc _);simp[convert,run_underlying hs,run_underlying hd,Conv.unsafePointer]
  .cases hr
 .split at hr
  .rename_i v' hv;cases hp:b8 P (convert src dst v')with|none=>grind|some u=>rw[hp]at hr;simp only[Option.map_some,ad,av]at hr;obtain⟨rfl,rfl⟩:=hr;rw[pS hv hx];exact bn.same hw (by simp[lA hp w]) (VR.bz u)
  .cases hr
 .cases hr
end
end Go.AI
end

section
namespace Go.AI
section
variable {P:Program}{h h':AHeap}{g:Gh}{w:World}
inductive p7:TypeDesc->Value->Value->Prop where|ptr(e:TypeId)(p:Addr):p7 (.pointer e) (.pointer (some p)) (.pointer none)|slice(e:TypeId)(p:Addr)(l c l' c':Nat):p7 (.slice e) (.slice (some p) l c) (.slice none l' c')|map(k e:TypeId)(r:Nat):p7 (.map k e) (.map (some r)) (.map none)|func(ps rs:Array TypeId)(v:Bool)(fn:Fn)(a c:Array Value):p7 (.func ps rs v) (.func fn a c) .nilFunc|iface(ms:Array (String×TypeId))(t:TypeId)(v:Value):p7 (.interface ms) (.iface t v) .nilIface
theorem JE{d:TypeDesc}{x y:AV}{a b:Value}(h1:gj d x=true)(h2:eF d y=true)(hx:VR g x a)(hy:VR g y b):p7 d a b:=by
 unfold gj at h1
 split at h1
 .unfold eF at h2
  split at h2<;>first|(cases h2;done)|(rename_i e;cases e;done)|skip
  cases hx;cases hy;exact .ptr _ _
 .unfold eF at h2
  split at h2<;>first|(cases h2;done)|(rename_i e;cases e;done)|skip
  cases hx;cases hy;exact .ptr _ _
 .unfold eF at h2
  split at h2<;>first|(cases h2;done)|(rename_i e;cases e;done)|skip
  cases hx;cases hy;exact .slice _ _ _ _ _ _
 .unfold eF at h2
  split at h2<;>first|(cases h2;done)|(rename_i e;cases e;done)|skip
  cases hx;cases hy;exact .slice _ _ _ _ _ _
 .unfold eF at h2
  split at h2<;>first|(cases h2;done)|(rename_i e;cases e;done)|skip
  cases hx;cases hy;exact .slice _ _ _ _ _ _
 .unfold eF at h2
  split at h2<;>first|(cases h2;done)|(rename_i e;cases e;done)|skip
  cases hx;cases hy;exact .slice _ _ _ _ _ _
 .unfold eF at h2
  split at h2<;>first|(cases h2;done)|(rename_i e;cases e;done)|skip
  cases hx;cases hy;exact .map _ _ _
 .unfold eF at h2
  split at h2<;>first|(cases h2;done)|(rename_i e;cases e;done)|skip
  cases hx;cases hy;exact .func _ _ _ _ _ _
 .unfold eF at h2
  split at h2<;>first|(cases h2;done)|(rename_i e;cases e;done)|skip
  cases hx;cases hy;exact .func _ _ _ _ _ _
 .unfold eF at h2
  split at h2<;>first|(cases h2;done)|(rename_i e;cases e;done)|skip
  cases hx;cases hy;exact .iface _ _ _
 .cases h1
theorem IV{d:TypeDesc}{t:TypeId}{a b:Value}(hu:P.underlying t=some d)(hp:p7 d a b)(n:Nat):(Op.equalIn (n+1) t a b).run P w=.ok false w/\(Op.equalIn (n+1) t b a).run P w=.ok false w:=by cases hp<;>constructor<;>simp only[Op.equalIn,Sem.run_bind,run_underlying hu,Result.andThen_ok,Sem.run_pure,Option.isNone_some]
theorem Ka{op:BinOp}{t:TypeId}{xo yo:Operand}{a b:Value}{r:Bool}(c:op=.eql\/op=.neq)(he:(Op.equal t a b).run P w=.ok r w)
 (hg:∀op,(eqGuard op t xo yo a b).run P w=.ok () w)
 (hb:∀op,(op=BinOp.eql->binOp op t a b=(do pure (.bool (<-Op.equal t a b))))/\(op=BinOp.neq->binOp op t a b=(do pure (.bool (!(<-Op.equal t a b)))))):
 (do eqGuard op t xo yo a b;binOp op t a b:Sem Value).run P w=.ok (.bool (if op=.eql then r else !r)) w:=by
 rcases c with rfl|rfl
 .simp_all
 simp_all
def tZ:Value->Value->Bool|.pointer _,.pointer _=>true|.slice ..,.slice ..=>true|.map _,.map _=>true|.func ..,.nilFunc|.nilFunc,.func ..=>true|.iface ..,.nilIface|.nilIface,.iface ..=>true|.iface ..,.iface ..=>true|_,_=>false
theorem I3{t:TypeId}{xo yo:Operand}{a b:Value}(hp:tZ a b=true)(op:BinOp):(eqGuard op t xo yo a b).run P w=.ok () w:=by
 unfold tZ at hp
 split at hp<;>first|(cases hp;done)|skip
 all_goals unfold eqGuard;simp_all
theorem Jk{t:TypeId}{a b:Value}(hp:tZ a b=true)(op:BinOp):
 (op=.eql->binOp op t a b=(do pure (.bool (<-Op.equal t a b))))/\(op=.neq->binOp op t a b=(do pure (.bool (!(<-Op.equal t a b))))):=by
 unfold tZ at hp
 split at hp<;>first|(cases hp;done)|skip
 all_goals exact⟨λe=>by subst e;rfl,λe=>by subst e;rfl⟩
theorem Ob{t:TypeId}{x y:AV}{a b:Value}{r:Bool}(hx:VR g x a)(hy:VR g y b)(hr:fQ P t x y=some r):tZ a b=true/\(Op.equal t a b).run P w=.ok r w:=by
 unfold fQ at hr
 split at hr
 .rename_i d hu
  split at hr
  .rename_i hc
   simp only[ad]at hr;subst hr
   simp only[Bool.or_eq_true,bB]at hc
   rcases hc with⟨h1,h2⟩|⟨h1,h2⟩
   .have hp:=JE h1 h2 hx hy;refine⟨by cases hp<;>rfl,(IV hu hp 9999).1⟩
   .have hp:=JE h1 h2 hy hx;refine⟨by cases hp<;>rfl,(IV hu hp 9999).2⟩
  .split at hr
   .rename_i e o v n off o' v' n' E I
    split at hr
    .rename_i hc
     obtain⟨rfl,rfl,h3,h4⟩:=hc
     simp only[ad]at hr;subst hr
     cases hx with
     |ref hB=>
      cases hy with
      |ref F=>
       rename_i b s b' s'
       rw[hB]at F
       simp only[ad,av]at F
       obtain⟨rfl,rfl,rfl⟩:=F
       refine⟨rfl,?_⟩
       cases hs:bt P e with
       |none=>grind
       |some k=>
        have hk:k≠0:=λe'=>h3 (by rw[hs,e'])
        have key:∀m:Nat,(Op.equalIn (m+1) t (.pointer (some ⟨b,off,none⟩)) (.pointer (some ⟨b,E,none⟩))).run P w=.ok (off==E) w:=by intro m;simp only[Op.equalIn,Sem.run_bind,run_underlying hu,Result.andThen_ok,run_sizeOf hs];rw[if_pos hk];unfold sameAddr;simp only[beq_self_eq_true,if_true,Sem.run_pure];congr 1;rw[Bool.eq_iff_iff];simp
        exact key 9999
    .cases hr
   .split at hr
    .rename_i c
     simp only[ad]at hr;subst hr
     cases hx;cases hy
     refine⟨rfl,?_⟩
     have key:∀(m:Nat)(u v:Value)(D z:TypeId),D≠z->(Op.equalIn (m+1) t (.iface D u) (.iface z v)).run P w=.ok false w:=by intro m u v D z c;simp only[Op.equalIn,Sem.run_bind,run_underlying hu,Result.andThen_ok];rw[if_pos c];rfl
     exact key 9999 _ _ _ _ c
    .cases hr
   .split at hr
    .rename_i c
     simp only[ad]at hr;subst hr
     cases hx;cases hy
     refine⟨rfl,?_⟩
     have key:∀(m:Nat)(u v:Value)(D z:TypeId),D≠z->(Op.equalIn (m+1) t (.iface D u) (.iface z v)).run P w=.ok false w:=by intro m u v D z c;simp only[Op.equalIn,Sem.run_bind,run_underlying hu,Result.andThen_ok];rw[if_pos c];rfl
     exact key 9999 _ _ _ _ c
    .cases hr
   .split at hr
    .rename_i c
     simp only[ad]at hr;subst hr
     cases hx;cases hy
     refine⟨rfl,?_⟩
     have key:∀(m:Nat)(u v:Value)(D z:TypeId),D≠z->(Op.equalIn (m+1) t (.iface D u) (.iface z v)).run P w=.ok false w:=by intro m u v D z c;simp only[Op.equalIn,Sem.run_bind,run_underlying hu,Result.andThen_ok];rw[if_pos c];rfl
     exact key 9999 _ _ _ _ c
    .cases hr
   .cases hr
 .cases hr
theorem Oc{op:BinOp}{t:TypeId}{xo yo:Operand}{x y r:AV}{a b:Value}(hx:VR g x a)(hy:VR g y b)(hr:cW P op t xo yo x y=some r):
 ∃u,(do eqGuard op t xo yo a b;binOp op t a b:Sem Value).run P w=.ok u w/\VR g r u:=by
 unfold cW at hr
 split at hr
 .rename_i a' b' ha hb;rw[pS ha hx,pS hb hy];exact DW hr
 .split at hr
  .cases he:fQ P t x y with|none=>grind|some q=>rw[he]at hr;simp at hr;subst hr;obtain⟨h1,h2⟩:=Ob (w:=w) hx hy he;refine⟨_,Ka (.inl rfl) h2 (I3 h1) (Jk h1),?_⟩;simp;exact .sc _
  .cases he:fQ P t x y with|none=>grind|some q=>rw[he]at hr;simp at hr;subst hr;obtain⟨h1,h2⟩:=Ob (w:=w) hx hy he;refine⟨_,Ka (.inr rfl) h2 (I3 h1) (Jk h1),?_⟩;simp;exact .sc _
  .cases hr
theorem Lz{x:AV}{v:Value}{t:TypeId}{y:AV}(hx:VR g x v)(hr:nW x=some (t,y)):∃u,v=.iface t u/\VR g y u:=by
 unfold nW at hr
 split at hr
 .simp only[ad,av]at hr;obtain⟨rfl,rfl⟩:=hr;cases hx with|iface h1=>grind
 .simp only[ad,av]at hr;obtain⟨rfl,rfl⟩:=hr;cases hx;exact⟨_,rfl,VR.bz _⟩
 .cases hr
theorem Kb{x r:AV}{v:Value}{E asserted:TypeId}{ok:Bool}(hx:VR g x v)(hr:tY P x asserted ok=some r):
 ∃u,(Instr.typeAssert v E asserted ok).run P w=.ok u w/\VR g r u:=by
 unfold tY at hr
 have c:∀(a b:Option TypeId)(m:String),my P asserted ok=some r->∃u,((if ok then do pure (.tuple #[<-zeroValue asserted,.bool false])else runtimePanic (.typeAssertion a b asserted m):Sem Value)).run P w=.ok u w/\VR g r u:=by intro a b m hf;unfold my at hf;cases ok with|false=>cases hf|true=>cases hz:eE P asserted with|none=>grind|some z=>simp[hz]at hf;subst hf;obtain⟨F,h1,rfl⟩:=yh hz w;exact⟨.tuple #[F,.bool false],by simp[h1],VR.fm.2 ⟨_,rfl,VR.bz F,.sc _,trivial⟩⟩
 split at hr
 .rename_i want hu
  split at hr
  .rename_i t y o
   obtain⟨u,rfl,hy⟩:=Lz hx o
   split at hr
   .rename_i i hi
    split at hr
    .rename_i hm;simp only[ad]at hr;subst hr;refine⟨_,?_,VR.opt (b:=true) hx⟩;simp only[Instr.typeAssert,Sem.run_bind,run_underlying hu,Result.andThen_ok,run_typeInfo hi,hm,Sem.run_pure]
    .rename_i m hm;obtain⟨D,h1,h2⟩:=c none (some t) m hr;refine⟨D,?_,h2⟩;rw[<-h1];simp only[Instr.typeAssert,Sem.run_bind,run_underlying hu,Result.andThen_ok,run_typeInfo hi,hm]
   .cases hr
  .split at hr
   .cases hx;obtain⟨D,h1,h2⟩:=c none none "" hr;refine⟨D,?_,h2⟩;rw[<-h1];simp only[Instr.typeAssert,Sem.run_bind,run_underlying hu,Result.andThen_ok]
   .cases hr
 .rename_i d hd hu
  split at hr
  .rename_i t y o
   obtain⟨u,rfl,hy⟩:=Lz hx o
   have I:(Instr.typeAssert (.iface t u) E asserted ok).run P w=(if t=asserted then pure (if ok then .tuple #[u,.bool true]else u)else if ok then do pure (.tuple #[<-zeroValue asserted,.bool false])else runtimePanic (.typeAssertion (some E) (some t) asserted ""):Sem Value).run P w:=by simp only[Instr.typeAssert,Sem.run_bind,run_underlying hu,Result.andThen_ok]
   split at hr
   .rename_i e;simp only[ad]at hr;subst hr;refine⟨_,?_,VR.opt (b:=true) hy⟩;simp_all
   simp_all
  .split at hr
   .cases hx;obtain⟨D,h1,h2⟩:=c (some E) none "" hr;refine⟨D,?_,h2⟩;rw[<-h1];simp only[Instr.typeAssert,Sem.run_bind,run_underlying hu,Result.andThen_ok]
   .cases hr
 .cases hr
end
end Go.AI
end

section
namespace Go.AI
structure ProgOK(P:Program):Prop where
 ng:∀(f:FuncId)(fn:Func),P.funcs[f]?=some fn->fn.body.isSome=true->(fn.name== "runtime.NumGoroutine")=false
 mixed:P.follows .mixedOrders=true
theorem UW{fn:Func}(h:pY fn=1):Extern.findNext fn=none/\Extern.find fn=some Extern.AbiNoEscape.same/\(fn.name== "runtime.NumGoroutine")=false:=by
 unfold pY at h
 split at h
 .rename_i hc
  obtain⟨h1,h2⟩:=hc
  unfold Extern.findNext Extern.find
  rw[h1,h2]
  refine⟨?_,?_,by decide⟩
  .have e1:Extern.allNextRows.lookup "internal/abi.NoEscape"=none:=by kernel_rfl
   have e2:Extern.allNextRows.lookup ""=none:=by kernel_rfl
   grind
  .have e1:Extern.allGenericRows.lookup "internal/abi.NoEscape"=none:=by kernel_rfl
   have e2:Extern.allTypedRows.lookup "internal/abi.NoEscape"=none:=by kernel_rfl
   have e3:Extern.allRows.lookup "internal/abi.NoEscape"=some Extern.AbiNoEscape.same:=by kernel_rfl
   grind
 grind
theorem UL{fn:Func}(h:pY fn=2):Extern.findNext fn=none/\Extern.find fn=some (Extern.BytealgMakeNoZero.makeNoZero fn.params fn.resultTypes)/\(fn.name== "runtime.NumGoroutine")=false:=by
 unfold pY at h
 split at h
 .cases h
 .split at h
  .rename_i hc
   obtain⟨h1,h2⟩:=hc
   unfold Extern.findNext Extern.find
   rw[h1,h2]
   refine⟨?_,?_,by decide⟩
   .have e1:Extern.allNextRows.lookup "internal/bytealg.MakeNoZero"=none:=by kernel_rfl
    have e2:Extern.allNextRows.lookup ""=none:=by kernel_rfl
    grind
   .have e1:Extern.allGenericRows.lookup "internal/bytealg.MakeNoZero"=none:=by kernel_rfl
    have e2:Extern.allTypedRows.lookup "internal/bytealg.MakeNoZero"=some Extern.BytealgMakeNoZero.makeNoZero:=by kernel_rfl
    grind
  .cases h
section
variable {P:Program}{h h':AHeap}{g:Gh}{w:World}
theorem IM{f:FuncId}{fn:Func}{e:Array Value->Sem Value}{args:Array Value}(hfn:P.funcs[f]?=some fn)(hb:fn.body=none)(h1:Extern.findNext fn=none)(h2:Extern.find fn=some e)
 (h3:(fn.name== "runtime.NumGoroutine")=false):(callFunc f args).run P w=(do pure (.value (<-e args)):Sem Next).run P w:=by
 have c:¬fn.name= "runtime.NumGoroutine":=by grind
 unfold callFunc;simp_all
theorem size_digits:∀(n t:Nat)(c:Array Value),(Extern.BytealgMakeNoZero.digits n t c).size=c.size+n|0,_,_=>by simp[Extern.BytealgMakeNoZero.digits]|n+1,t,c=>by simp[Extern.BytealgMakeNoZero.digits,size_digits n];omega
theorem CR{f:FuncId}{args:List AV}{vs:List Value}{r:dU}(hP:ProgOK P)(hw:W h g w)(hf:∀v,g.B h.next v=none)(hv:aG g args vs)(hr:iM P h f args=some (r,h')):
 bn P h g w (callFunc f vs.toArray) r h':=by
 unfold iM at hr
 split at hr
 .cases hr
 .rename_i fn hfn
  split at hr
  .rename_i c hb
   simp only[ad,av]at hr
   obtain⟨rfl,rfl⟩:=hr
   refine⟨rfl,vs,?_,hv⟩
   have X:=hP.ng f fn hfn (by simp[hb])
   have U:¬fn.name= "runtime.NumGoroutine":=by grind
   unfold callFunc;simp_all
  .rename_i hb
   split at hr
   .rename_i k hk
    unfold Du at hr
    split at hr
    .rename_i x N;simp only[ad,av]at hr;obtain⟨rfl,rfl⟩:=hr;obtain⟨h1,h2,h3⟩:=UW N;match vs,hv with|[v],hv=>refine bn.same hw ?_ hv.1;rw[IM hfn hb h1 h2 h3,show Extern.AbiNoEscape.same [v].toArray=pure v from rfl];simp
    .rename_i n M
     obtain⟨h1,h2,h3⟩:=UL M
     match vs,hv with
     |[v],hv=>
      have K:=hv.1
      cases K
      split at hr
      .rename_i t ht
       split at hr
       .rename_i e hu
        split at hr
        .rename_i hc
         obtain⟨h0,V⟩:=hc
         simp only[ad,av]at hr
         obtain⟨rfl,rfl⟩:=hr
         have I:¬n<0:=by omega
         have F:¬n>281474976710656:=by omega
         generalize D:(Question.appendCap n.toNat 0 e).cut (w.tape w.drawn (.appendCap n.toNat 0 e))=cap
         have O:n.toNat<=cap:=by rw[<-D];simp[Question.cut]
         have o:∃E,(callFunc f #[.int .i64 n]).run P w=.ok (.value (.slice (some ⟨w.heap.size,0,none⟩) n.toNat cap)) ({w with drawn:=w.drawn+2}.alloc (.cells (Extern.BytealgMakeNoZero.digits cap E #[]) e)):=by obtain⟨q,T,S,R,hq,J⟩:∃(q:Question)(T:Sem Value)(S:TypeDesc->Sem Value)(R:Sem Unit),q.forced=false/\Extern.BytealgMakeNoZero.makeNoZero fn.params fn.resultTypes #[.int .i64 n]=(do
          let some t:=fn.resultTypes[0]?|T
          match<-underlying t with
          |.slice elem=>if n<0||n>2^48 then R
                        let cap<-choose (.appendCap n.toNat 0 elem)askRoom cap let bytes<-choose q let a<-newRow elem (Extern.BytealgMakeNoZero.digits cap bytes #[])pure (.slice (some a) n.toNat cap)|d=>S d):=⟨_,_,_,_,rfl,rfl⟩;rw[IM hfn hb h1 h2 h3,J];simp only[ht,Sem.run_bind,run_underlying hu,Result.andThen_ok,I,F,Int.reducePow,decide_false,Bool.or_self,Bool.false_eq_true,if_false,run_choose,show∀m l,(Question.appendCap m l e).forced=false fromλ_ _=>rfl,hq,run_askRoom,newRow,run_newObj,Sem.run_pure,D];exact⟨_,rfl⟩
         obtain⟨E,o⟩:=o
         have z:=pT (x:=.cells 0 0 [] 0 e false false) (s:=cap) (n:=0) (hw.drew (w.drawn+2)) hf (w':={w with drawn:=w.drawn+2}.alloc (.cells (Extern.BytealgMakeNoZero.digits cap E #[]) e)) rfl ?_
         .refine⟨_,_,.slice (some ⟨w.heap.size,0,none⟩) n.toNat cap,o,?_,z.1,?_⟩
          .exact .sl (Gh.hI _ _ _ _) (by simp) O (by simp)
          .have h2:=z.2;exact{h2 with size:=h2.size,fr:=h2.fr,tape:=h2.tape,os:=h2.os,out:=h2.out,old:=h2.old,fX:=h2.fX}
         .refine⟨λv hv=>?_,?_⟩
          .cases e':(g.eA h.next 0 (w.heap.size,cap,0)).B h.next v with
           |none=>rfl
           |some y=>rcases Gh.ek e' with⟨_,Q,_⟩|Q
                    .omega
                    grind
          intro v h1 h2 b s' n' hb
          obtain rfl:v=0:=by omega
          rw[Gh.hI]at hb;simp only[ad,av]at hb;obtain⟨rfl,rfl,rfl⟩:=hb;refine⟨λ_=>rfl,_,(0,0),⟨ku _ _,by simp[size_digits],aC _,Nat.zero_le _,(λh=>by cases h),(λi _ h3 h4=>by simp at h4),λ_=>.inl rfl,?_⟩⟩;grind
        .cases hr
       .cases hr
      .cases hr
    .cases hr
   .split at hr
    .rename_i us L
     split at hr
     .rename_i u hp;simp only[ad,av]at hr;obtain⟨rfl,rfl⟩:=hr;rw[rr L hv];exact bn.same hw (lA hp w) (VR.bz u)
     .cases hr
    .cases hr
end
end Go.AI
end

section
namespace Go.AI
section
variable {P:Program}{h h':AHeap}{g:Gh}{w:World}
theorem Od{z:Array TypeId}{t ty:TypeId}{x:AV}{v:Value}{n:Nat}(hw:W h g w)(ha:z[0]?=some t)(hx:VR g x v)(hr:qC P h t x=some n):
 (Builtin.len_ z ty #[v]).run P w=.ok (goInt n) w:=by
 unfold qC at hr
 have h0:(#[v]:Array Value)[0]?=some v:=rfl
 split at hr
 .rename_i e hu
  split at hr
  .rename_i hs
   have:∃a c,v=.slice a n c:=by
    unfold ft at hr
    split at hr
    .cases hx;grind
    .cases hx;grind
    .cases hx with|hU=>grind|ia _=>grind|aQ _ _ _=>grind
    .cases hx;grind
    .cases hx;grind
    .simp[kQ]at hs
    .cases hr
   obtain⟨a,c,rfl⟩:=this;simp only[Builtin.len_,ha,h0,Sem.run_bind,run_underlying hu,Result.andThen_ok,Sem.run_pure]
  .cases hr
 .rename_i hu
  split at hr
  .cases hx;simp at hr;subst hr;simp only[Builtin.len_,ha,h0,Sem.run_bind,run_underlying hu,Result.andThen_ok,Sem.run_pure]
  .cases hr
 .rename_i k e hu;simp at hr;subst hr;simp only[Builtin.len_,ha,h0,Sem.run_bind,run_underlying hu,Result.andThen_ok,Sem.run_pure]
 .rename_i k e hu
  split at hr
  .cases hx;simp at hr;subst hr;simp only[Builtin.len_,ha,h0,Sem.run_bind,run_underlying hu,Result.andThen_ok,Sem.run_pure];rfl
  .rename_i o
   cases hx with
   |map hB=>
    rename_i b s m
    split at hr
    .rename_i es clock hg;simp at hr;subst hr;obtain⟨D,q1,q2⟩:=hw.obj o _ hg b s m hB;have:=q2.length;simp only[Builtin.len_,ha,h0,Sem.run_bind,run_underlying hu,Result.andThen_ok,fI q1 rfl,Sem.run_pure];grind
    .cases hr
  .cases hr
 .cases hr
theorem Oe{c:Array TypeId}{t ty:TypeId}{x:AV}{v:Value}{n:Nat}(ha:c[0]?=some t)(hx:VR g x v)(hr:vv P t x=some n):
 (Builtin.cap_ c ty #[v]).run P w=.ok (goInt n) w:=by
 unfold vv at hr
 have h0:(#[v]:Array Value)[0]?=some v:=rfl
 split at hr
 .rename_i hu;simp at hr;subst hr;cases hx with|sl hB p1 p2 p3=>obtain rfl:=p3 _ rfl;simp only[Builtin.cap_,ha,h0,Sem.run_bind,run_underlying hu,Result.andThen_ok,Sem.run_pure]
 .rename_i hu;simp at hr;subst hr;cases hx with|aZ f q1 q2 p1 p2 p3=>obtain rfl:=p3 _ rfl;simp only[Builtin.cap_,ha,h0,Sem.run_bind,run_underlying hu,Result.andThen_ok,Sem.run_pure]
 .rename_i hu;simp at hr;subst hr;cases hx;simp only[Builtin.cap_,ha,h0,Sem.run_bind,run_underlying hu,Result.andThen_ok,Sem.run_pure]
 .cases hr
theorem Xj{D:Array TypeId}{ty:TypeId}{o b s n clock:Nat}{d:TypeDesc}{es:List (AV×AV×Nat)}(hw:W h g w)(hd:D[0]?.bind P.underlying=some d)(hB:g.B o 0=some (b,s,n))(hg:h.get o=some (.map es clock)):bn P h g w (do pure (.value (<-Builtin.clear_ D ty #[.map (some b)]))) (.val dS) (h.aU o (.map [] clock)):=by obtain⟨E,q1,q2⟩:=hw.obj o _ hg b s n hB;have h0:(#[Value.map (some b)]:Array Value)[0]?=some (.map (some b)):=rfl;cases ha:D[0]? with|none=>grind|some t=>rw[ha]at hd;have hu:P.underlying t=some d:=hd;have c:=jV (x':=.map [] clock) hw hg hB (w':=dk w b (.map #[] clock)) rfl (by intro b' k' n' z;rw[hB]at z;simp only[ad,av]at z;obtain⟨rfl,rfl,rfl⟩:=z;exact⟨#[],il (ik q1),trivial⟩);refine⟨g,_,.tuple #[],?_,VR.fm.2 ⟨#[],rfl,trivial⟩,c.1,c.2⟩;simp only[Builtin.clear_,ha,h0,Sem.run_bind,run_underlying hu,Result.andThen_ok,fI q1 rfl,kr q1 rfl,Sem.run_pure]
theorem run_loadBytes{b:Nat}:∀(o:List Int)(off:Nat)(c:ByteArray),(∀(j:Nat)(v:Value),(o.map (Value.int .u8))[j]?=some v->w.cell? ⟨b,off+j,none⟩=some v)->(loadBytes ⟨b,off,none⟩ c o.length).run P w=.ok ⟨c.data++(o.map λn=>UInt8.ofNat n.toNat).toArray⟩ w|[],off,c,_=>by simp[loadBytes]|n::o,off,c,hc=>by have h1:=hc 0 (.int .u8 n) (by simp);simp only[Nat.add_zero]at h1;simp only[lC,loadBytes,Sem.run_bind,run_load,h1,Result.andThen_ok];rw[add_eq _ _ rfl,run_loadBytes o (off+1) _ (λj v hv=>by rw[Nat.add_assoc,Nat.add_comm 1 j];exact hc (j+1) v (by grind))];simp_all
theorem VI{u off n cells:Nat}(hs:bt P u=some 1)(c:off+n<=cells):liesAt P P.depth u (cells/P.cellsOf u) off u n=true:=by
 have hc:P.cellsOf u=1:=by unfold bt at hs;unfold Program.cellsOf;cases hi:P.info? u with|none=>grind|some i=>grind
 have hd:∃k,P.depth=k+1:=⟨2*(P.types.size+Made.depth)+1,rfl⟩;obtain⟨k,hk⟩:=hd;rw[hk,hc];unfold liesAt;rw[hk];unfold rowAt;rw[hc];simp only[Nat.div_one,Nat.mod_one];unfold sameLayout;simp[c]
theorem Wp{b off n:Nat}{c:Array Value}{el:TypeId}{f:Nat×Nat}(hn:n≠0)(hh:w.heap[b]?=some (.cells c el f)):w.freeze ⟨b,off,none⟩ n=dk w b (.cells c el (if f.1==f.2 then(off,off+n)else(min f.1 off,max f.2 (off+n)))):=by unfold World.freeze dk;rw[if_neg hn];congr 1;grind
theorem UM{D:Array TypeId}{pt ty:TypeId}{p n r:AV}{a v:Value}(hw:W h g w)(ha:D[0]?=some pt)(hp:VR g p a)(hn:VR g n v)(hr:rl P h pt p n=some (r,h')):
 bn P h g w (do pure (.value (<-Builtin.unsafeString_ D ty #[a,v]))) (.val r) h':=by
 unfold rl at hr
 obtain⟨z1,z2,Z,Y,X,I⟩:∃(z1:Sem Value)(z2 Z:Sem Unit)(Y X:Sem Value),∀(q:Option Addr)(len_:Value),Builtin.unsafeString_ D ty #[.pointer q,len_]=(do
  let n<-asInt len_
  let some pt:=D[0]?|z1
  if n<0 then z2
  if n>IntKind.i64.max then Z
  match q with
  |none=>if n=0 then pure (.string .empty)else Y
  |some a=>if n=0 then pure (.string .empty)else if<-variablesAt a (<-elemOf pt) n.toNat then do
   let s<-loadBytes a .empty n.toNat
   freeze a n.toNat
   pure (.string s)else X):=⟨_,_,_,_,_,λ_ _=>rfl⟩
 split at hr
 .rename_i J
  simp only[ad,av]at hr
  obtain⟨rfl,rfl⟩:=hr
  cases hp
  obtain⟨k,i,rfl,_,_,e⟩:=jl hn J
  simp only[Int.natCast_zero]at e
  subst e
  refine bn.same hw (x:=.string .empty) ?_ (.sc _)
  rw[I]
  have z:IntKind.i64.max=9223372036854775807:=by decide
  simp[asInt,asIntOf,ha,z]
 .rename_i o ver m off k J
  split at hr
  .rename_i u v0 m' c fz el ex hu hg
   split at hr
   .rename_i hc
    obtain⟨rfl,hm',rfl,Q,akA⟩:=hc
    split at hr
    .rename_i l R
     cases hb:iO l with
     |none=>grind
     |some bs=>
      rw[hb]at hr
      simp only[Option.map_some,ad,av]at hr
      obtain⟨rfl,rfl⟩:=hr
      cases hp with
      |ref hB=>
       rename_i b sb
       obtain⟨kk,i,rfl,hi0,U,hi2⟩:=jl hn J
       obtain⟨vs,q1,q2,q3,q4,q5⟩:=nA hw R hB
       obtain⟨ns,e1,e2⟩:=yi hb q1
       have E:=hw.obj o _ hg
       obtain⟨hm,ca,f,hk⟩:=E.2 ver hm' (aC _) b sb m hB
       have hlen:ns.length=k+1:=by grind
       have K:(loadBytes ⟨b,off,none⟩ .empty (k+1)).run P w=.ok ⟨bs.toArray⟩ w:=by rw[<-hlen,run_loadBytes ns off .empty (by grind),e2,show ByteArray.empty.data=#[]from rfl,Array.empty_append]
       have N:=VI (P:=P) (u:=el) (off:=off) (n:=k+1) (cells:=ca.size) Q (by have:=hk.size;omega)
       have O:=Wp (n:=k+1) (off:=off) (by omega) hk.here
       have F:=jV (x':=.cells ver ver c (max fz (off+(k+1))) el ex false) hw hg hB (w':=w.freeze ⟨b,off,none⟩ (k+1)) O ?_
       .refine⟨g,_,.string ⟨bs.toArray⟩,?_,.sc _,F.1,F.2⟩
        rw[I]
        have M:¬i<0:=by omega
        have z:IntKind.i64.max=9223372036854775807:=by decide
        have T:¬i>IntKind.i64.max:=by grind
        have S:¬i=0:=by omega
        simp only[asInt,asIntOf,Sem.run_bind,Sem.run_pure,Result.andThen_ok,ha,M,T,S,if_false,elemOf,run_underlying hu,variablesAt,run_program,run_shape,rC hk.here,U,N,if_true,K,run_freeze]
       .refine⟨E.1,?_⟩
        intro v' h1 h2 b' s' n' L
        obtain rfl:v'=ver:=by omega
        rw[hB]at L
        simp only[ad,av]at L
        obtain⟨rfl,rfl,rfl⟩:=L
        refine⟨hm,ca,_,⟨by rw[O];exact il (ik hk.here),hk.size,hk.le,hk.lh,hk.exact,?_,?_,hk.cell⟩⟩
        .intro j hj h3 h4
         split at h3
         .grind
         .rename_i V;rw[if_neg V]at h4;have:=hk.plain rfl;grind
        .intro _;right;have:=hk.plain rfl;grind
    .cases hr
   .cases hr
  .cases hr
 .cases hr
theorem nR{xs:List AV}{x:AV}{vs:List Value}(e:xs=[x])(hv:aG g xs vs):∃v,vs=[v]/\VR g x v:=by subst e;match vs,hv with|[v],hv=>exact⟨v,rfl,hv.1⟩
theorem yS{xs:List AV}{x y:AV}{vs:List Value}(e:xs=[x,y])(hv:aG g xs vs):∃v u,vs=[v,u]/\VR g x v/\VR g y u:=by subst e;match vs,hv with|[v,u],hv=>exact⟨v,u,rfl,hv.1,hv.2.1⟩
theorem su{s:Sem Next}{q:Option (AV×AHeap)}{r:dU}(hr:(q.map λ(x:AV×AHeap)=>(dU.val x.1,x.2))=some (r,h'))(hk:∀v h2,q=some (v,h2)->bn P h g w s (.val v) h2):bn P h g w s r h':=by cases q with|none=>cases hr|some x=>grind
theorem VJ{b:Builtin}{z:Array TypeId}{ty:TypeId}{cs:Array Bool}{xs:List AV}{vs:List Value}{r:dU}(hw:W h g w)(hf:∀v,g.B h.next v=none)(hv:aG g xs vs)
 (hr:hN P h b z ty xs=some (r,h')):bn P h g w (builtin b z ty cs vs.toArray) r h':=by
 unfold hN at hr
 split at hr
 .obtain⟨u,v,rfl,hu,hv⟩:=yS rfl hv
  split at hr
  .rename_i st K h0 h1;exact su hr λv h2 e=>VF hw hf h0 h1 hu hv e
  .cases hr
 .obtain⟨u,v,rfl,hu,hv⟩:=yS rfl hv
  split at hr
  .rename_i L h0;exact su hr λv h2 e=>Yz hw h0 hu hv e
  .cases hr
 .rename_i x
  obtain⟨u,rfl,hu⟩:=nR rfl hv
  split at hr
  .rename_i t h0;refine iS (s:=Builtin.len_ z ty #[u]) hw hr λv e=>?_;cases hl:qC P h t x with|none=>grind|some n=>rw[hl]at e;simp at e;subst e;exact⟨_,Od hw h0 hu hl,.sc _⟩
  .cases hr
 .rename_i x
  obtain⟨u,rfl,hu⟩:=nR rfl hv
  split at hr
  .rename_i t h0;refine iS (s:=Builtin.cap_ z ty #[u]) hw hr λv e=>?_;cases hl:vv P t x with|none=>grind|some n=>rw[hl]at e;simp at e;subst e;exact⟨_,Oe h0 hu hl,.sc _⟩
  .cases hr
 .rename_i m k
  obtain⟨u,v,rfl,hu,hv⟩:=yS rfl hv
  split at hr
  .rename_i t h0;cases hd:zi P h t m k with|none=>grind|some h2=>rw[hd]at hr;simp only[Option.map_some,ad,av]at hr;obtain⟨rfl,rfl⟩:=hr;exact Wo hw h0 hu hv hd
  .cases hr
 .obtain⟨u,rfl,hu⟩:=nR rfl hv
  split at hr
  .rename_i o d hd
   cases hu with
   |map hB=>
    split at hr
    .rename_i es clock hg;simp only[ad,av]at hr;obtain⟨rfl,rfl⟩:=hr;exact Xj hw hd hB hg
    .cases hr
  .cases hr
 .obtain⟨u,rfl,hu⟩:=nR rfl hv
  split at hr
  .simp only[ad,av]at hr;obtain⟨rfl,rfl⟩:=hr;have E:=hu;cases hu with|iface hi=>refine⟨rfl,_,?_,E⟩;simp only[builtin,Instr.panic];rfl
  .simp only[ad,av]at hr;obtain⟨rfl,rfl⟩:=hr;have E:=hu;cases hu;refine⟨rfl,_,?_,E⟩;simp only[builtin,Instr.panic];rfl
  .cases hr
 .simp only[ad,av]at hr;obtain⟨rfl,rfl⟩:=hr;match vs,hv with|[],_=>exact⟨rfl,rfl⟩
 .split at hr
  .rename_i us D
   split at hr
   .rename_i u hp;simp only[ad,av]at hr;obtain⟨rfl,rfl⟩:=hr;rw[rr D hv];exact bn.same hw (lA hp w) (VR.bz u)
   .cases hr
  .cases hr
 .split at hr
  .rename_i us D
   split at hr
   .rename_i u hp;simp only[ad,av]at hr;obtain⟨rfl,rfl⟩:=hr;rw[rr D hv];exact bn.same hw (lA hp w) (VR.bz u)
   .cases hr
  .cases hr
 .obtain⟨u,rfl,hu⟩:=nR rfl hv
  have F:builtin .unsafeSliceData z ty cs [u].toArray=(do pure (.value (<-Builtin.unsafeSliceData_ z ty #[u]))):=rfl
  rw[F]
  split at hr
  .simp only[ad,av]at hr;obtain⟨rfl,rfl⟩:=hr;cases hu;exact bn.same hw (x:=.pointer none) rfl (.sc _)
  .split at hr
   .rename_i hc
    simp only[ad,av]at hr
    obtain⟨rfl,rfl⟩:=hr
    cases hu with
    |sl hB p1 p2 p3=>
     rename_i o ver n off sz len cap b s c
     have J:c≠0:=by
      rcases hc with hc|hc
      .omega
      .cases cap with|none=>simp[lK]at hc|some k=>have:=p3 k rfl;simp[lK]at hc;omega
     refine bn.same hw (x:=.pointer (some ⟨b,off,none⟩)) ?_ (.ref hB);have I:Builtin.unsafeSliceData_ z ty #[.slice (some ⟨b,off,none⟩) len c]=(do if c≠0 then pure (.pointer (some ⟨b,off,none⟩))else if(<-viewAt b).isSome then pure (.pointer (some ⟨b,off,none⟩))else pure (.pointer (some ⟨<-newObj (.view ⟨b,off,none⟩ (<-elemOf ty)),0,none⟩))):=rfl;simp_all
   .cases hr
  .cases hr
 .obtain⟨u,v,rfl,hu,hv⟩:=yS rfl hv
  split at hr
  .rename_i pt h0;exact su hr λv h2 e=>UM hw h0 hu hv e
  .cases hr
 .cases hr
end
end Go.AI
end

section
namespace Go.AI
section
variable {P:Program}{h h':AHeap}{g:Gh}{w:World}
theorem VR.kB{v u:Value}(h:VR g (.sc v) u):u=v:=by cases h;rfl
theorem aG.ops{ρ:Operand->AV}{ρ':Operand->Value}(c:∀x,VR g (ρ x) (ρ' x))(l:Array Operand):aG g (l.toList.map ρ) (l.map ρ').toList:=by rw[Array.toList_map];exact aG.map ρ ρ' c l.toList
theorem DX{x:AV}{v:Value}{fn:Fn}{a c:List AV}(hx:VR g x v)(hr:mO x=some (fn,a,c)):∃a' c':Array Value,v=.func fn a' c'/\aG g a a'.toList/\aG g c c'.toList:=by
 unfold mO at hr
 split at hr
 .simp only[ad,av]at hr;obtain⟨rfl,rfl,rfl⟩:=hr;exact VR.rA.1 hx
 .simp only[ad,av]at hr;obtain⟨rfl,rfl,rfl⟩:=hr;cases hx;exact⟨_,_,rfl,aG.sX _,aG.sX _⟩
 .cases hr
theorem YB{ρ:Operand->AV}{ρ':Operand->Value}{c:Call}{ty:TypeId}{r:dU}(hP:ProgOK P)(hw:W h g w)(hf:∀v,g.B h.next v=none)(z:∀x,VR g (ρ x) (ρ' x))
 (hr:gT P h ρ c ty=some (r,h')):bn P h g w (do let d<-resolve ρ' c ty;invoke d.target d.args) r h':=by
 unfold gT at hr
 have o:=aG.ops z c.args
 split at hr
 .rename_i b hc
  have:=VJ (cs:=c.args.map λ|.const _=>true|_=>false) hw hf o hr
  have e:(do let d<-resolve ρ' c ty;invoke d.target d.args:Sem Next)=builtin b c.argTypes ty (c.args.map λ|.const _=>true|_=>false) (c.args.map ρ'):=by unfold resolve;rw[hc];rfl
  rw[e];rwa[Array.toArray_toList]at this
 .cases hr
 .rename_i f hc
  split at hr
  .rename_i l hl
   simp only[ad,av]at hr
   obtain⟨rfl,rfl⟩:=hr
   have hx:=z f
   rw[hl]at hx
   cases hv:ρ' f with
   |func fn a E=>
    rw[hv]at hx
    cases hx with
    |eB hB=>
     rename_i b s n
     refine⟨rfl,b,s,n,(c.args.map ρ').toList,hB,o,?_⟩
     have e:(do let d<-resolve ρ' c ty;invoke d.target d.args:Sem Next)=Instr.yield b (#[]++c.args.map ρ'):=by unfold resolve;rw[hc];dsimp only;rw[hv];rfl
     rw[e,Array.toArray_toList,Array.empty_append]
   |_=>rw[hv]at hx;cases hx
  .split at hr
   .rename_i fn first cap hfn
    obtain⟨a',c',hv,h1,h2⟩:=DX (z f) hfn
    unfold zj at hr
    split at hr
    .rename_i k
     have e:(do let d<-resolve ρ' c ty;invoke d.target d.args:Sem Next)=callFunc k ((a'++c.args.map ρ')++c'):=by unfold resolve;rw[hc];dsimp only;rw[hv];rfl
     rw[e];have:=CR (vs:=(a'.toList++(c.args.map ρ').toList)++c'.toList) hP hw hf ((h1.append o).append h2) hr;have D:((a'.toList++(c.args.map ρ').toList)++c'.toList).toArray=(a'++c.args.map ρ')++c':=Array.ext' (by simp);grind
    .cases hr
   .cases hr
theorem Xk{ρ:Operand->AV}{ρ':Operand->Value}{c:Call}{ty:TypeId}{r:dU}(z:∀x,VR g (ρ x) (ρ' x))
 (hr:uu h ρ c=some (r,h')):bn P h g w (do pure (.defer (<-resolve ρ' c ty))) r h':=by
 unfold uu at hr
 have o:=aG.ops z c.args
 split at hr
 .rename_i f hc
  split at hr
  .rename_i fn first cap hfn
   simp only[ad,av]at hr
   obtain⟨rfl,rfl⟩:=hr
   obtain⟨a',c',hv,h1,h2⟩:=DX (z f) hfn
   refine⟨rfl,{target:=.fn fn c',args:=a'++c.args.map ρ'},?_,c'.toList,a'.toList++(c.args.map ρ').toList,by simp,h2,h1.append o⟩
   have e:resolve ρ' c ty=pure {target:=.fn fn c',args:=a'++c.args.map ρ'}:=by unfold resolve;rw[hc];dsimp only;rw[hv];rfl
   rw[e];rfl
  .cases hr
 .cases hr
theorem nZ{ρ:Operand->AV}{ρ':Operand->Value}{o:Oper}{r:dU}(hP:ProgOK P)(hw:W h g w)(hf:∀v,g.B h.next v=none)(D:∀x,VR g (ρ x) (ρ' x))
 (hr:aV P ρ o h=some (r,h')):bn P h g w (execOp ρ' o) r h':=by
 obtain⟨dst,op,type,pos,after,guard⟩:=o
 cases op<;>simp only[aV]at hr<;>simp only[execOp]<;>first|(cases hr;done)|skip
 case move x=>simp only[ad,av]at hr;obtain⟨rfl,rfl⟩:=hr;exact bn.same hw rfl (D x)
 case assign x=>simp only[ad,av]at hr;obtain⟨rfl,rfl⟩:=hr;exact bn.same hw rfl (D x)
 case pick c a b=>
  have hc:=D c
  split at hr
  .rename_i t ht;simp only[ad,av]at hr;obtain⟨rfl,rfl⟩:=hr;rw[ht]at hc;have hv:ρ' c=.bool t:=VR.kB hc;rw[hv];cases t with|true=>exact bn.same hw rfl (D a)|false=>exact bn.same hw rfl (D b)
  .cases hr
 case alloc e=>
  split at hr
  .rename_i z hz
   split at hr
   .simp only[ad,av]at hr;obtain⟨rfl,rfl⟩:=hr;exact Xh hw hf hz
   .cases hr
  .cases hr
 case box e x=>
  split at hr
  .rename_i hc;simp only[ad,av]at hr;obtain⟨rfl,rfl⟩:=hr;exact abp hw hf (D x) hc
  .cases hr
 case build t parts=>exact iS hw hr λv e=>Lu e (by rw[Array.toList_map];exact lG.map D _)
 case buildSlice t len parts=>exact su hr λv h2 e=>UU hw hf e (by rw[Array.toList_map];exact lG.map D _)
 case load t a=>exact iS hw hr λv e=>Dx hw e (D a)
 case store t a x=>cases hs:nV P h t (ρ a) (ρ x)with|none=>grind|some h2=>rw[hs]at hr;simp only[Option.map_some,ad,av]at hr;obtain⟨rfl,rfl⟩:=hr;exact Xi hw (D a) (D x) hs
 case nilCheck x=>
  have hx:=D x
  split at hr
  .rename_i E;simp only[ad,av]at hr;obtain⟨rfl,rfl⟩:=hr;have F:=hx;rw[E]at hx;cases hv:ρ' x with|pointer p=>rw[hv]at hx F;cases hx;exact bn.same hw rfl F|_=>rw[hv]at hx;cases hx
  .rename_i E;simp only[ad,av]at hr;obtain⟨rfl,rfl⟩:=hr;have F:=hx;rw[E]at hx;cases hv:ρ' x with|pointer p=>rw[hv]at hx F;cases hx;exact bn.same hw rfl F|_=>rw[hv]at hx;cases hx
  .rename_i f a c E;simp only[ad,av]at hr;obtain⟨rfl,rfl⟩:=hr;rw[E]at hx;obtain⟨a',c',hv,h1,h2⟩:=VR.rA.1 hx;rw[hv];exact bn.same hw rfl (by grind)
  .rename_i l E;simp only[ad,av]at hr;obtain⟨rfl,rfl⟩:=hr;rw[E]at hx;cases hv:ρ' x with|func fn a K=>rw[hv]at hx;have F:=hx;cases hx;exact bn.same hw rfl F|_=>rw[hv]at hx;cases hx
  .rename_i f a c E;simp only[ad,av]at hr;obtain⟨rfl,rfl⟩:=hr;rw[E]at hx;have hv:ρ' x=.func (.func f) a c:=VR.kB hx;rw[hv];exact bn.same hw rfl (.sc _)
  .rename_i t v E;simp only[ad,av]at hr;obtain⟨rfl,rfl⟩:=hr;rw[E]at hx;cases hv:ρ' x with|iface t' u=>rw[hv]at hx;have F:=hx;cases hx;exact bn.same hw rfl F|_=>rw[hv]at hx;cases hx
  .cases hr
 case binOp op xt x y yt=>exact iS hw hr λv e=>Oc (D x) (D y) e
 case unOp op xt x=>
  split at hr
  .rename_i v hv;rw[pS hv (D x)];exact iS hw hr λv e=>DW e
  .cases hr
 case convert s d x=>exact su hr λv h2 e=>VH hw hf (D x) e
 case makeInterface t x=>
  split at hr
  .cases hr
  .rename_i d hd hu
   simp only[ad,av]at hr
   obtain⟨rfl,rfl⟩:=hr
   refine bn.same hw ?_ (.iface (D x))
   have:(Instr.makeInterface t (ρ' x)).run P w=.ok (.iface t (ρ' x)) w:=by unfold Instr.makeInterface;simp only[Sem.run_bind,run_underlying hu,Result.andThen_ok];simp_all
   simp[this]
  .cases hr
 case makeFunc fn first captured=>simp only[ad,av]at hr;obtain⟨rfl,rfl⟩:=hr;exact bn.same hw rfl (VR.rA.2 ⟨_,_,rfl,aG.ops D _,aG.ops D _⟩)
 case makeMap t r0=>
  split at hr
  .simp only[ad,av]at hr;obtain⟨rfl,rfl⟩:=hr;exact JD hw hf (.inl rfl)
  .rename_i x k e hu
   have hx:=D x
   split at hr
   .rename_i n i E;simp only[ad,av]at hr;obtain⟨rfl,rfl⟩:=hr;rw[E]at hx;have hv:ρ' x=.int n i:=VR.kB hx;exact JD hw hf (.inr ⟨k,e,n,i,hu,by simp[hv]⟩)
   .cases hr
  .cases hr
 case makeSlice t l c=>exact su hr λv h2 e=>U0 hw hf (D l) (D c) e
 case slice t x lo hi mx=>exact iS hw hr λv e=>Lx (D x) (jF.map D lo) (jF.map D hi) (jF.map D mx) e
 case fieldAddr s x f=>exact iS hw hr λv e=>Jb (D x) e
 case field t x f=>exact iS hw hr λv e=>Ls (D x) e
 case indexAddr t x i=>exact iS hw hr λv e=>Jc (D x) (D i) e
 case index t x i=>exact iS hw hr λv e=>Lt (D x) (D i) e
 case lookup t x i ok=>exact iS hw hr λv e=>J9 hw (D x) (D i) e
 case mapUpdate t m k x=>cases hs:me P h t (ρ m) (ρ k) (ρ x)with|none=>grind|some h2=>rw[hs]at hr;simp only[Option.map_some,ad,av]at hr;obtain⟨rfl,rfl⟩:=hr;exact Jd hw (D m) (D k) (D x) hs
 case insert t m k x=>cases hs:me P h t (ρ m) (ρ k) (ρ x)with|none=>grind|some h2=>rw[hs]at hr;simp only[Option.map_some,ad,av]at hr;obtain⟨rfl,rfl⟩:=hr;exact Jd hw (D m) (D k) (D x) hs
 case range t x=>
  have hx:=D x
  split at hr
  .rename_i s hu E;simp only[ad,av]at hr;obtain⟨rfl,rfl⟩:=hr;rw[E]at hx;have hv:ρ' x=.string s:=VR.kB hx;rw[hv];exact UI hw hf hu
  .rename_i k e hu E;simp only[ad,av]at hr;obtain⟨rfl,rfl⟩:=hr;rw[E]at hx;have hv:ρ' x=.map none:=VR.kB hx;rw[hv];exact Va hw hf hu
  .rename_i k e m hu E
   rw[E]at hx
   cases hv:ρ' x with
   |map r=>
    rw[hv]at hx
    cases hx with
    |map hB=>
     split at hr
     .rename_i es clock hg;simp only[ad,av]at hr;obtain⟨rfl,rfl⟩:=hr;exact Vb hw hf hu hB hg
     .cases hr
   |_=>rw[hv]at hx;cases hx
  .cases hr
 case next it str=>
  have hx:=D it
  cases str with
  |true=>
   simp only at hr
   split at hr
   .rename_i o E
    rw[E]at hx
    cases hv:ρ' it with
    |pointer p=>
     rw[hv]at hx
     cases hx with
     |ref hB=>
      split at hr
      .rename_i s pos hg
       split at hr
       .rename_i hlt;simp only[ad,av]at hr;obtain⟨rfl,rfl⟩:=hr;exact US hw hB hg hlt
       .rename_i hlt;simp only[ad,av]at hr;obtain⟨rfl,rfl⟩:=hr;exact Vc hw hB hg hlt
      .cases hr
    |_=>rw[hv]at hx;cases hx
   .cases hr
  |false=>
   simp only at hr
   split at hr
   .rename_i o E
    rw[E]at hx
    cases hv:ρ' it with
    |pointer p=>
     rw[hv]at hx
     cases hx with
     |ref hB=>
      rename_i b s
      split at hr
      .rename_i since seen last hg;simp only[ad,av]at hr;obtain⟨rfl,rfl⟩:=hr;exact Vn hw hB hg
      .rename_i m since seen last hg
       split at hr
       .rename_i es clock I
        obtain⟨J,q1,b',s',n',q2,rfl⟩:=hw.obj o _ hg b s 0 hB
        split at hr
        .cases hr
        .rename_i hok;exact Vo hw hB hg q2 I (by grind) hr
       .cases hr
      .cases hr
    |_=>rw[hv]at hx;cases hx
   .cases hr
 case typeAssert x xt a ok=>exact iS hw hr λv e=>Kb (D x) e
 case extract t i=>
  have hx:=D t
  split at hr
  .rename_i vs E
   rw[E]at hx
   obtain⟨us,hv,h1⟩:=VR.fm.1 hx
   rw[hv]
   refine iS hw hr λv e=>?_
   have hi:i<us.size:=by
    have:=h1.length
    have h2:i<vs.length:=by grind
    simp at this;omega
   refine⟨us[i],by simp[Instr.extract,hi],h1.get i v us[i] e (by simp[hi])⟩
  .cases hr
 case call c=>exact YB hP hw hf D hr
 case defer c=>exact Xk D hr
 case panic x=>
  have hx:=D x
  split at hr
  .rename_i t v E;simp only[ad,av]at hr;obtain⟨rfl,rfl⟩:=hr;rw[E]at hx;cases hv:ρ' x with|iface t' u=>rw[hv]at hx;exact⟨rfl,_,rfl,hx⟩|_=>rw[hv]at hx;cases hx
  .rename_i t v E;simp only[ad,av]at hr;obtain⟨rfl,rfl⟩:=hr;rw[E]at hx;have hv:ρ' x=.iface t v:=VR.kB hx;rw[hv];exact⟨rfl,_,rfl,.sc _⟩
  .cases hr
end
end Go.AI
end
