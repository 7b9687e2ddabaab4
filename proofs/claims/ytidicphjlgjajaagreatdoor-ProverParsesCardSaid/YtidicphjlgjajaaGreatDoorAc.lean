/-
  A part of the proof: AiOp6 AiOp7 AiOp8 AiOp9 AiOp10 AiOp11 AiOp12.
-/
import Derived.Laws.BytesArg
import Derived.Laws.BytesString
import Derived.Lib.ConvBytes
import Derived.KernelRfl
import Derived.Test.YtidicphjlgjajaaGreatDoorAb
set_option linter.all false

section
namespace Go.AI
section
variable {P:Program}{h h':AHeap}{g:Gh}{w:World}
def IP:Obj->Bool|.cells ..=>false|_=>true
theorem fY{r:Nat}{o:Obj}(b:w.heap[r]?=some o)(hn:IP o=true):(getObj r).run P w=.ok o w:=by unfold getObj;cases o<;>first|(cases hn;done)|simp[Sem.run,b]
theorem ld{r:Nat}{o o':Obj}(b:w.heap[r]?=some o)(hn:IP o=true):(setObj r o').run P w=.ok () (cS w r o'):=by unfold setObj;cases o<;>first|(cases hn;done)|simp[Sem.run,b,cS]
theorem Xe{a b:ByteArray}(h:(a==b)=true):a=b:=by have h':(a.data==b.data)=true:=h;have:=eq_of_beq h';cases a;cases b;simp_all
theorem Tt(a:ByteArray):(a==a)=true:=by show(a.data==a.data)=true;simp
theorem O5{b:Bool}{e:TypeId}{kd:TypeDesc}{c:Value}(n:Nat)(f:P.underlying e=some kd)(hk:hN kd c=true):(Instr.checkKey b (n+1) e c).run P w=.ok () w:=by unfold hN at hk;split at hk<;>first|(simp[Instr.checkKey,run_underlying f];done)|cases hk
theorem run_checkKey{b:Bool}{e:TypeId}{kd:TypeDesc}{c:Value}(f:P.underlying e=some kd)(hk:hN kd c=true):(Instr.checkKey b 10000 e c).run P w=.ok () w:=O5 9999 f hk
theorem sameKey_eq{a b:Value}(h:sameKey a b=some true):b=a:=by
 unfold sameKey at h
 split at h
 .split at h
  .rename_i e;simp at h;simp[e,h]
  .cases h
 .simp only[ab]at h;rw[Xe h]
 .simp at h;simp[h]
 .cases h
theorem Hu{kd:TypeDesc}{a b:Value}{r:Bool}(hk:hN kd a=true)(h:sameKey a b=some r):Instr.sameNow kd a b=some r:=by
 unfold hN at hk
 split at hk
 .unfold sameKey at h
  split at h<;>first|(cases h;done)|(unfold Instr.sameNow;simpa using h)|skip
  all_goals simp_all[Instr.sameNow]
 .unfold sameKey at h
  split at h<;>first|(cases h;done)|skip
  all_goals simp_all[Instr.sameNow]
 .unfold sameKey at h
  split at h<;>first|(cases h;done)|skip
  all_goals simp_all[Instr.sameNow]
 .cases hk
theorem sameBits_self{kd:TypeDesc}{a:Value}(hk:hN kd a=true):Instr.sameBits 10000 a a=true:=by unfold hN at hk;split at hk<;>first|(simp[Instr.sameBits];done)|(unfold Instr.sameBits;exact Tt _)|cases hk
theorem rW{kd:TypeDesc}{f:Value}(hk:hN kd f=true):∀{es:List (AV×AV×Nat)}{c:List MapEntry}{i:Nat}{r:Option (Nat×AV×Nat)},
 oR f es i=some r->cR g es c->∃r',Instr.findNow kd f c i=some r'/\(match r with|none=>r'=none|some (j,v,b)=>∃v',r'=some (j,v')/\VR g v v'/\i<=j/\j-i<es.length/\∃e,c[j-i]?=some e/\e.key=f/\e.born=b)
 |[],[],i,r,h,_=>by simp[oR]at h;subst h;exact⟨none,rfl,rfl⟩
 |(k,v,b)::es,e::c,i,r,h,hr=>by
  obtain⟨h1,h2,h3,h4⟩:=hr
  cases k with
  |sc q=>
   simp only[oR]at h
   cases h1
   split at h
   .rename_i hs;simp only[ab]at h;subst h;refine⟨some (i,e.val),?_,e.val,rfl,h2,ak _,by simp,e,by simp,sameKey_eq hs,h3⟩;simp[Instr.findNow,Hu hk hs]
   .rename_i hs;obtain⟨r',q1,q2⟩:=rW hk h h4;refine⟨r',by simp[Instr.findNow,Hu hk hs,q1],?_⟩;cases r with|none=>exact q2|some x=>obtain⟨j,t,C⟩:=x;obtain⟨u,o,n,B,z,p,m,l⟩:=q2;refine⟨u,o,n,by omega,by simp;omega,p,?_,l⟩;rw[show j-i=(j-(i+1))+1 by omega];simpa using m
   .cases h|_=>simp[oR]at h
 |[],_::_,_,_,_,hr=>hr.elim|(_,_,_)::_,[],_,_,_,hr=>hr.elim
theorem run_findKey{e:TypeId}{kd:TypeDesc}{c:Value}{b:List MapEntry}{r:Option (Nat×Value)}(f:P.underlying e=some kd)(hf:Instr.findNow kd c b 0=some r):(Instr.findKey e c b).run P w=.ok r w:=by unfold Instr.findKey;simp only[Sem.run_bind,run_underlying f,Result.andThen_ok,hf,Sem.run_pure]
theorem GJ{t k e:TypeId}{kd:TypeDesc}{v i:Value}{ok:Bool}{b:Nat}{f:Array MapEntry}{clock:Nat}{r:Option (Nat×Value)}(l:P.underlying t=some (.map k e))(c:P.underlying k=some kd)(j:hN kd v=true)(hz:(zeroValue e).run P w=.ok i w)(m:w.heap[b]?=some (.map f clock))(hf:Instr.findNow kd v f.toList 0=some r):(Instr.lookup t (.map (some b)) v ok).run P w=.ok (match r with|some (_,x)=>if ok then .tuple #[x,.bool true]else x|none=>if ok then .tuple #[i,.bool false]else i) w:=by unfold Instr.lookup;simp only[Sem.run_bind,run_underlying l,Result.andThen_ok,fY m rfl,Sem.run_pure,run_checkKey c j,run_findKey c hf];cases r with|none=>simp only[Sem.run_bind,hz,Result.andThen_ok,Sem.run_pure]|some x=>simp only[Sem.run_bind,Sem.run_pure,Result.andThen_ok]
theorem Pp{t i e:TypeId}{kd:TypeDesc}{v c:Value}{ok:Bool}(j:P.underlying t=some (.map i e))(b:P.underlying i=some kd)(f:hN kd v=true)(hz:(zeroValue e).run P w=.ok c w):(Instr.lookup t (.map none) v ok).run P w=.ok (if ok then .tuple #[c,.bool false]else c) w:=by unfold Instr.lookup;have hf:Instr.findNow kd v (#[]:Array MapEntry).toList 0=some none:=rfl;simp only[Sem.run_bind,run_underlying j,Result.andThen_ok,Sem.run_pure,run_checkKey b f,run_findKey b hf,hz]
theorem VR.opt{ok b:Bool}{x:AV}{v:Value}(hx:VR g x v):VR g (if ok then .tuple [x,.sc (.bool b)]else x) (if ok then .tuple #[v,.bool b]else v):=by cases ok with|false=>exact hx|true=>exact VR.fZ.2 ⟨_,rfl,hx,.sc _,trivial⟩
def U6(g:Gh):Option (Nat×AV×Nat)->Option (Nat×Value)->Prop|none,r=>r=none|some (_,y,_),r=>∃j b,r=some (j,b)/\VR g y b
theorem HS{kd:TypeDesc}{x:AV}{u v:Value}{r:Option (Nat×AV×Nat)}(hw:W h g w)(f:hN kd v=true)(hx:VR g x u)(hr:u0 h v x=some r):
 (u=.map none/\r=none)\/∃b,∃c:Array MapEntry,∃clock r',u=.map (some b)/\w.heap[b]?=some (.map c clock)/\Instr.findNow kd v c.toList 0=some r'/\U6 g r r':=by
 cases hx with
 |sc u=>
  unfold u0 at hr
  split at hr
  .rename_i e;simp only[AV.sc.injEq]at e;subst e;exact .inl ⟨rfl,by simpa using hr.symm⟩
  .rename_i e;cases e
  .cases hr
 |map hB=>
  rename_i o b s n
  simp only[u0]at hr
  split at hr
  .rename_i es clock hg;obtain⟨c,q1,q2⟩:=hw.obj o _ hg b s n hB;obtain⟨r',l,i⟩:=rW f hr q2;refine .inr ⟨b,c,clock,r',rfl,q1,l,?_⟩;cases r with|none=>exact i|some q=>obtain⟨j,y,t⟩:=q;obtain⟨k,p,m,_⟩:=i;exact⟨j,k,p,m⟩
  .cases hr|_=>simp[u0]at hr
theorem HT{t:TypeId}{x k y:AV}{u v:Value}{ok:Bool}(hw:W h g w)(hx:VR g x u)(hk:VR g k v)(hr:Dz P h t x k ok=some y):
 ∃z,(Instr.lookup t u v ok).run P w=.ok z w/\VR g y z:=by
 unfold Dz at hr
 split at hr
 .rename_i B e q m
  cases hk
  split at hr
  .rename_i kd z l hz
   split at hr
   .cases hr
   .rename_i c
    have c:hN kd v=true:=by simpa using c
    obtain⟨o,f,rfl⟩:=xq hz w
    split at hr
    .rename_i i x b hl
     simp only[ab]at hr;subst hr
     rcases HS hw c hx hl with⟨_,p⟩|⟨b',n,clock,r',rfl,q1,q2,j,x',rfl,q3⟩
     .cases p
     .exact⟨_,GJ m l c f q1 q2,VR.opt q3⟩
    .rename_i hl
     simp only[ab]at hr;subst hr
     rcases HS hw c hx hl with⟨rfl,_⟩|⟨b',n,clock,r',rfl,q1,q2,q3⟩
     .exact⟨_,Pp m l c f,VR.opt (VR.bn o)⟩
     .cases q3;exact⟨_,GJ m l c f q1 q2,VR.opt (VR.bn o)⟩
    .cases hr
  .cases hr
 .cases hr
theorem cR.length:∀{es:List (AV×AV×Nat)}{b:List MapEntry},cR g es b->es.length=b.length|[],[],_=>rfl|(_,_,_)::_,_::_,h=>by simp[cR.length h.2.2.2]|[],_::_,h=>h.elim|(_,_,_)::_,[],h=>h.elim
theorem cR.set{k v:AV}{e:MapEntry}(hk:VR g k e.key)(hv:VR g v e.val):∀{es:List (AV×AV×Nat)}{b:List MapEntry}(i:Nat),cR g es b->cR g (es.set i (k,v,e.born)) (b.set i e)|[],[],_,_=>by simp[cR]|(_,_,_)::_,_::_,0,h=>⟨hk,hv,rfl,h.2.2.2⟩|(_,_,_)::_,_::_,i+1,h=>⟨h.1,h.2.1,h.2.2.1,cR.set hk hv i h.2.2.2⟩|[],_::_,_,h=>h.elim|(_,_,_)::_,[],_,h=>h.elim
theorem cR.push{k v:AV}{e:MapEntry}(hk:VR g k e.key)(hv:VR g v e.val):∀{es:List (AV×AV×Nat)}{b:List MapEntry},cR g es b->cR g (es++[(k,v,e.born)]) (b++[e])|[],[],_=>⟨hk,hv,rfl,trivial⟩|(_,_,_)::_,_::_,h=>⟨h.1,h.2.1,h.2.2.1,cR.push hk hv h.2.2.2⟩|[],_::_,h=>h.elim|(_,_,_)::_,[],h=>h.elim
theorem cR.erase:∀{es:List (AV×AV×Nat)}{b:List MapEntry}(i:Nat),cR g es b->cR g (es.eraseIdx i) (b.eraseIdx i)|[],[],_,_=>by simp[cR]|(_,_,_)::_,_::_,0,h=>by simpa using h.2.2.2|(_,_,_)::_,_::_,i+1,h=>⟨h.1,h.2.1,h.2.2.1,cR.erase i h.2.2.2⟩|[],_::_,_,h=>h.elim|(_,_,_)::_,[],_,h=>h.elim
theorem G3{t:TypeId}{x k y:AV}{u v z:Value}(hw:W h g w)(hx:VR g x u)(hk:VR g k v)(hy:VR g y z)(hr:uq P h t x k y=some h'):
 bh P h g w (do Instr.mapUpdate t u v z;pure .skip) .skip h':=by
 unfold uq at hr
 split at hr
 .rename_i R e Q o G
  cases hk
  cases hx with
  |map hB=>
   rename_i b s n
   split at hr
   .rename_i kd es clock p hg
    split at hr
    .cases hr
    .rename_i f
     have f:hN kd v=true:=by simpa using f
     obtain⟨m,q1,q2⟩:=hw.obj o _ hg b s n hB
     have hlen:=q2.length
     split at hr
     .rename_i i L b0 hf
      simp only[ab]at hr;subst hr
      obtain⟨r',D,M,C,O,N,K,E,F,J,I⟩:=rW f hf q2
      subst C
      simp only[Nat.sub_zero]at K F
      have hi:i<m.size:=by simpa using(by omega:i<m.toList.length)
      have B:m[i]?=some E:=by simpa using F
      have q:(m.modify i λe=>{e with key:=v,val:=z})=m.set i {E with key:=v,val:=z} hi:=by
       apply Array.ext_getElem?
       intro j
       rw[Array.getElem?_modify,Array.getElem?_set]
       by_cases hj:i=j
       .subst hj;simp[B]
       .simp[hj]
      have c:=kE (x':=.map (es.set i (.sc v,y,b0)) clock) hw hg hB (w':=cS w b (.map (m.modify i λe=>{e with key:=v,val:=z}) clock)) rfl ?_
      .refine⟨g,_,?_,c.1,c.2⟩;unfold Instr.mapUpdate;simp only[Sem.run_bind,run_underlying G,Result.andThen_ok,fY q1 rfl,run_checkKey p f,run_findKey p D,B,Option.map_some,Option.getD_some,Instr.keyThatStays,J,sameBits_self f,if_true,Sem.run_pure,ld q1 rfl]
      .intro b' s' n' l;rw[hB]at l;simp only[ab,an]at l;obtain⟨rfl,rfl,rfl⟩:=l;refine⟨_,iV (lt_of_heap q1),?_⟩;rw[q];simp only[Array.toList_set];rw[<-I];exact cR.set (e:={E with key:=v,val:=z}) (.sc v) hy i q2
     .rename_i hf
      simp only[ab]at hr;subst hr
      obtain⟨r',D,C⟩:=rW f hf q2
      subst C
      have c:=kE (x':=.map (es++[(.sc v,y,clock)]) (clock+1)) hw hg hB (w':=cS w b (.map (m.push {key:=v,val:=z,born:=clock}) (clock+1))) rfl ?_
      .refine⟨g,_,?_,c.1,c.2⟩;unfold Instr.mapUpdate;simp only[Sem.run_bind,run_underlying G,Result.andThen_ok,fY q1 rfl,run_checkKey p f,run_findKey p D,Sem.run_pure,ld q1 rfl]
      .intro b' s' n' l;rw[hB]at l;simp only[ab,an]at l;obtain⟨rfl,rfl,rfl⟩:=l;refine⟨_,iV (lt_of_heap q1),?_⟩;simp only[Array.toList_push];exact cR.push (e:={key:=v,val:=z,born:=clock}) (.sc v) hy q2
     .cases hr
   .cases hr
 .cases hr
theorem Rc{p:Array TypeId}{t ty:TypeId}{x k:AV}{u v:Value}(hw:W h g w)(m:p[0]?=some t)(hx:VR g x u)(hk:VR g k v)(hr:yz P h t x k=some h'):
 bh P h g w (do pure (.value (<-Builtin.delete_ p ty #[u,v]))) (.val dZ) h':=by
 unfold yz at hr
 split at hr
 .rename_i G e F o C
  cases hk
  cases hx with
  |map hB=>
   rename_i b s n
   split at hr
   .rename_i kd es clock f hg
    split at hr
    .cases hr
    .rename_i c
     have c:hN kd v=true:=by simpa using c
     obtain⟨B,q1,q2⟩:=hw.obj o _ hg b s n hB
     split at hr
     .rename_i i D b0 hf
      simp only[ab]at hr;subst hr
      obtain⟨r',z,E,q,_⟩:=rW c hf q2
      subst q
      have j:=kE (x':=.map (es.eraseIdx i) clock) hw hg hB (w':=cS w b (.map (B.eraseIdxIfInBounds i) clock)) rfl ?_
      .refine⟨g,_,.tuple #[],?_,VR.fZ.2 ⟨#[],rfl,trivial⟩,j.1,j.2⟩;unfold Builtin.delete_;simp only[m,List.getElem?_toArray,List.getElem?_cons_zero,List.getElem?_cons_succ,Sem.run_bind,run_underlying C,Result.andThen_ok,fY q1 rfl,run_checkKey f c,run_findKey f z,Sem.run_pure,ld q1 rfl]
      .intro b' s' n' l;rw[hB]at l;simp only[ab,an]at l;obtain⟨rfl,rfl,rfl⟩:=l;refine⟨_,iV (lt_of_heap q1),?_⟩;rw[Array.toList_eraseIdxIfInBounds];exact cR.erase i q2
     .rename_i hf;simp only[ab]at hr;subst hr;obtain⟨r',z,q⟩:=rW c hf q2;subst q;refine bh.same hw (x:=.tuple #[]) ?_ (VR.fZ.2 ⟨#[],rfl,trivial⟩);unfold Builtin.delete_;simp only[m,List.getElem?_toArray,List.getElem?_cons_zero,List.getElem?_cons_succ,Sem.run_bind,run_underlying C,Result.andThen_ok,fY q1 rfl,run_checkKey f c,run_findKey f z,Sem.run_pure,ld q1 rfl,J9 q1]
     .cases hr
   .cases hr
 .cases hr
end
end Go.AI
end

section
namespace Go.AI
section
variable {P:Program}{h h':AHeap}{g:Gh}{w:World}
theorem zr{x:b7}{ob:Obj}(hw:W h g w)(hf:∀v,g.B h.next v=none)
 (ho:∀g',(g'.B h.next 0=some (w.heap.size,0,0))->g.Le g'->(∀v y,g'.B h.next v=some y->v=0/\y=(w.heap.size,0,0))->OR g' (w.alloc ob) h.next x):
 ∃g',g'.B h.next 0=some (w.heap.size,0,0)/\W (h.alloc x) g' (w.alloc ob)/\Step h g w (h.alloc x) g' (w.alloc ob):=by
 refine⟨g.er h.next 0 (w.heap.size,0,0),Gh.iy _ _ _ _,?_⟩
 refine p0 hw hf rfl (ho _ (Gh.iy _ _ _ _) (Gh.l7 (hf 0)) ?_)
 intro v y hy
 rcases Gh.ei hy with⟨_,b,c⟩|b
 .exact⟨b,c⟩
 .rw[hf v]at b;cases b
theorem Hv{t:TypeId}{r:Option Value}(hw:W h g w)(hf:∀v,g.B h.next v=none)(hr:r=none\/∃k e n i,P.underlying t=some (.map k e)/\r=some (.int n i)):
 bh P h g w (do pure (.value (<-Instr.makeMap t r))) (.val (.map h.next)) (h.alloc (.map [] 0)):=by
 obtain⟨g',h1,h2,h3⟩:=zr (x:=.map [] 0) (ob:=.map #[] 0) hw hf (by intro g' f _ _ b s n hb;rw[f]at hb;simp only[ab,an]at hb;obtain⟨rfl,rfl,rfl⟩:=hb;exact⟨#[],lg _ _,trivial⟩)
 refine⟨g',_,.map (some w.heap.size),?_,.map h1,h2,h3⟩
 rcases hr with rfl|⟨k,e,n,i,c,rfl⟩
 .simp[Instr.makeMap]
 .simp[Instr.makeMap,run_underlying c,asInt,asIntOf]
theorem Pe{t:TypeId}{s:ByteArray}(hw:W h g w)(hf:∀v,g.B h.next v=none)(c:P.underlying t=some .string):bh P h g w (do pure (.value (<-Instr.range t (.string s)))) (.val (.ref h.next 0 0 0)) (h.alloc (.kW s 0)):=by obtain⟨g',h1,h2,h3⟩:=zr (x:=.kW s 0) (ob:=.stringIter s 0) hw hf (by intro g' e _ _ b k n hb;rw[e]at hb;simp only[ab,an]at hb;obtain⟨rfl,rfl,rfl⟩:=hb;exact lg _ _);refine⟨g',_,.pointer (some ⟨w.heap.size,0,none⟩),?_,.ref h1,h2,h3⟩;simp[Instr.range,run_underlying c]
theorem PQ{t k e:TypeId}(hw:W h g w)(hf:∀v,g.B h.next v=none)(c:P.underlying t=some (.map k e)):bh P h g w (do pure (.value (<-Instr.range t (.map none)))) (.val (.ref h.next 0 0 0)) (h.alloc (.iI none 0 [] 0)):=by obtain⟨g',h1,h2,h3⟩:=zr (x:=.iI none 0 [] 0) (ob:=.mapIter none 0 #[] 0) hw hf (by intro g' f _ _ b k n hb;rw[f]at hb;simp only[ab,an]at hb;obtain⟨rfl,rfl,rfl⟩:=hb;exact⟨none,lg _ _,rfl⟩);refine⟨g',_,.pointer (some ⟨w.heap.size,0,none⟩),?_,.ref h1,h2,h3⟩;simp[Instr.range,run_underlying c]
theorem PR{t k e:TypeId}{o b s n clock:Nat}{es:List (AV×AV×Nat)}(hw:W h g w)(hf:∀v,g.B h.next v=none)(f:P.underlying t=some (.map k e))(hB:g.B o 0=some (b,s,n))(hg:h.get o=some (.map es clock)):bh P h g w (do pure (.value (<-Instr.range t (.map (some b))))) (.val (.ref h.next 0 0 0)) (h.alloc (.iI (some o) clock [] clock)):=by obtain⟨j,q1,q2⟩:=hw.obj o _ hg b s n hB;obtain⟨g',h1,h2,h3⟩:=zr (x:=.iI (some o) clock [] clock) (ob:=.mapIter (some b) clock #[] clock) hw hf (by intro g' i c _ b' l n' hb;rw[i]at hb;simp only[ab,an]at hb;obtain⟨rfl,rfl,rfl⟩:=hb;exact⟨some b,lg _ _,b,s,n,c.b _ _ _ hB,rfl⟩);refine⟨g',_,.pointer (some ⟨w.heap.size,0,none⟩),?_,.ref h1,h2,h3⟩;simp[Instr.range,run_underlying f,fY q1 rfl]
theorem Pq{o b s n pos:Nat}{str:ByteArray}{ty:TypeId}(hw:W h g w)(hB:g.B o 0=some (b,s,n))(hg:h.get o=some (.kW str pos))(f:pos<str.size):bh P h g w (do pure (.value (<-Instr.next (.pointer (some ⟨b,0,none⟩)) true ty))) (.val (.tuple [.sc (.bool true),.sc (goInt pos),.sc (.int .i32 (Utf8.decode str pos).1)])) (h.aQ o (.kW str (pos+(Utf8.decode str pos).2))):=by have q1:=hw.obj o _ hg b s n hB;have c:=kE (x':=.kW str (pos+(Utf8.decode str pos).2)) hw hg hB (w':=cS w b (.stringIter str (pos+(Utf8.decode str pos).2))) rfl (by intro b' i n' e;rw[hB]at e;simp only[ab,an]at e;obtain⟨rfl,rfl,rfl⟩:=e;exact iV (lt_of_heap q1));refine⟨g,_,.tuple #[.bool true,goInt pos,.int .i32 (Utf8.decode str pos).1],?_,VR.fZ.2 ⟨_,rfl,.sc _,.sc _,.sc _,trivial⟩,c.1,c.2⟩;simp[Instr.next,fY q1 rfl,f,ld q1 rfl]
theorem PS{o b s n pos:Nat}{str:ByteArray}{ty:TypeId}(hw:W h g w)(hB:g.B o 0=some (b,s,n))(hg:h.get o=some (.kW str pos))(c:¬pos<str.size):bh P h g w (do pure (.value (<-Instr.next (.pointer (some ⟨b,0,none⟩)) true ty))) (.val (.tuple [.sc (.bool false)])) h:=by have q1:=hw.obj o _ hg b s n hB;refine bh.same hw (x:=.tuple #[.bool false]) ?_ (VR.fZ.2 ⟨_,rfl,.sc _,trivial⟩);simp[Instr.next,fY q1 rfl,c]
theorem P8{o b s n since last:Nat}{seen:List Nat}{ty:TypeId}(hw:W h g w)(hB:g.B o 0=some (b,s,n))(hg:h.get o=some (.iI none since seen last)):bh P h g w (do pure (.value (<-Instr.next (.pointer (some ⟨b,0,none⟩)) false ty))) (.val (.tuple [.sc (.bool false)])) h:=by obtain⟨c,q1,q2⟩:=hw.obj o _ hg b s n hB;simp only at q2;subst q2;refine bh.same hw (x:=.tuple #[.bool false]) ?_ (VR.fZ.2 ⟨_,rfl,.sc _,trivial⟩);simp[Instr.next,fY q1 rfl]
theorem cR.filter(p:Nat->Bool):∀{es:List (AV×AV×Nat)}{c:List MapEntry},cR g es c->cR g (es.filter λe=>p e.2.2) (c.filter λe=>p e.born)
 |[],[],_=>trivial
 |(k,v,b)::es,e::c,f=>by obtain⟨h1,h2,h3,h4⟩:=f;subst h3;simp only[List.filter_cons];cases p e.born with|false=>simpa using cR.filter p h4|true=>simpa using⟨h1,h2,rfl,cR.filter p h4⟩
 |[],_::_,f=>f.elim|(_,_,_)::_,[],f=>f.elim
theorem cR.all(p:Nat->Bool):∀{es:List (AV×AV×Nat)}{c:List MapEntry},cR g es c->(es.all λe=>p e.2.2)=(c.all λe=>p e.born)|[],[],_=>rfl|(_,_,_)::_,_::_,b=>by obtain⟨h1,h2,h3,h4⟩:=b;subst h3;simp[cR.all p h4]|[],_::_,b=>b.elim|(_,_,_)::_,[],b=>b.elim
theorem P9{o m b s n E sm nm since last clock:Nat}{seen:List Nat}{es:List (AV×AV×Nat)}{ty:TypeId}{r:dJ}
 (hw:W h g w)(hB:g.B o 0=some (b,s,n))(hg:h.get o=some (.iI (some m) since seen last))(q:g.B m 0=some (E,sm,nm))(I:h.get m=some (.map es clock))
 (aS:(!seen.isEmpty&&!es.isEmpty&&es.all (λe=>decide (last<=e.2.2)))=false)
 (hr:(match es.filter (λe=>!seen.contains e.2.2)with|[]=>some (.val (.tuple [.sc (.bool false)]),h)|[e]=>if e.2.2<since then some (.val (.tuple [.sc (.bool true),e.1,e.2.1]),h.aQ o (.iI (some m) since (seen++[e.2.2]) clock))else none|_=>none)=some (r,h')):
 bh P h g w (do pure (.value (<-Instr.next (.pointer (some ⟨b,0,none⟩)) false ty))) r h':=by
 obtain⟨R,q1,b',s',n',q2,rfl⟩:=hw.obj o _ hg b s n hB
 rw[q]at q2
 simp only[ab,an]at q2
 obtain⟨rfl,rfl,rfl⟩:=q2
 obtain⟨i,q3,F⟩:=hw.obj m _ I E sm nm q
 have C:=cR.all (λk=>decide (last<=k)) F
 have hlen:=F.length
 have c:=cR.filter (λk=>!seen.contains k) F
 have j:(!seen.toArray.isEmpty&&!i.isEmpty&&i.all (λe=>decide (e.born>=last)))=false:=by
  rw[<-aS]
  congr 1
  .congr 1
   .simp
   .congr 1
    rw[Bool.eq_iff_iff]
    simp only[Array.isEmpty_iff,List.isEmpty_iff]
    constructor
    .intro e;subst e;simpa using hlen
    .intro e;subst e;simp at hlen;exact Array.eq_empty_of_size_eq_zero (by simpa using hlen.symm)
  .rw[C,<-Array.all_toList]
 have f:i.filter (λe=>!seen.toArray.contains e.born)=(i.toList.filter λe=>!seen.contains e.born).toArray:=by apply Array.ext';simp
 split at hr
 .rename_i t
  simp only[ab,an]at hr
  obtain⟨rfl,rfl⟩:=hr
  rw[t]at c
  have K:(i.toList.filter λe=>!seen.contains e.born)=[]:=by cases hx:(i.toList.filter λe=>!seen.contains e.born)with|nil=>rfl|cons _ _=>rw[hx]at c;exact c.elim
  refine bh.same hw (x:=.tuple #[.bool false]) ?_ (VR.fZ.2 ⟨_,rfl,.sc _,trivial⟩);rw[K]at f;simp only[Instr.next,Sem.run_bind,fY q1 rfl,Result.andThen_ok,fY q3 rfl,j,Bool.false_eq_true,if_false,f];simp[Question.forced]
 .rename_i e J
  split at hr
  .rename_i G
   simp only[ab,an]at hr
   obtain⟨rfl,rfl⟩:=hr
   rw[J]at c
   obtain⟨k,v,Q⟩:=e
   generalize hx:(i.toList.filter λe=>!seen.contains e.born)=M at c f
   match M,c,f with
   |[D],c,f=>
    obtain⟨O,N,L,_⟩:=c
    simp only at G L
    have z:D.born<since:=by omega
    have u:¬since<=D.born:=by omega
    have l:=kE (x':=.iI (some m) since (seen++[Q]) clock) hw hg hB (w':=cS w b (.mapIter (some E) since (seen.toArray.push D.born) clock)) rfl (by intro b' S n' p;rw[hB]at p;simp only[ab,an]at p;obtain⟨rfl,rfl,rfl⟩:=p;refine⟨some E,?_,E,sm,nm,q,rfl⟩;rw[iV (lt_of_heap q1),L];simp);refine⟨g,_,.tuple #[.bool true,D.key,D.val],?_,VR.fZ.2 ⟨_,rfl,.sc _,O,N,trivial⟩,l.1,l.2⟩;simp only[Instr.next,Sem.run_bind,fY q1 rfl,Result.andThen_ok,fY q3 rfl,j,Bool.false_eq_true,if_false,f];simp[Question.forced,z,u,ld q1 rfl]|[],c,_=>exact c.elim|_::_::_,c,_=>exact c.2.2.2.elim
  .cases hr
 .cases hr
end
end Go.AI
end

section
namespace Go.AI
section
variable {P:Program}{h h':AHeap}{g:Gh}{w:World}
theorem DG{s:Sem Value}{y:AV}(h1:(bW P s).map bn=some y):∃u,s.run P w=.ok u w/\VR g y u:=by cases hp:bW P s with|none=>rw[hp]at h1;cases h1|some u=>rw[hp]at h1;simp at h1;subst h1;exact⟨u,l3 hp w,VR.bn u⟩
theorem xA:∀{xs:List AV}{vs:List Value}{bs:List UInt8},jt xs=some bs->aE g xs vs->∃c:List Int,vs=c.map (Value.int .u8)/\bs=c.map λn=>UInt8.ofNat n.toNat
 |[],[],bs,hb,_=>by simp[jt]at hb;subst hb;exact⟨[],rfl,rfl⟩
 |x::xs,v::vs,bs,hb,hr=>by
  unfold jt at hb
  split at hb
  .rename_i e;cases e
  .rename_i n f e;simp only[List.cons.injEq]at e;obtain⟨rfl,rfl⟩:=e;cases b:jt xs with|none=>rw[b]at hb;cases hb|some l=>rw[b]at hb;simp at hb;subst hb;obtain⟨c,j,i⟩:=xA b hr.2;have h1:=hr.1;cases h1;exact⟨n::c,by simp[j],by simp[i]⟩
  .cases hb|[],_::_,_,_,hr=>hr.elim|_::_,[],_,_,hr=>hr.elim
theorem rX{b:Nat}{c:Array Value}{el:TypeId}{f:Nat×Nat}(e:w.heap[b]?=some (.cells c el f)):w.shape? b=some (el,c.size):=by unfold World.shape?;simp[e]
theorem Qs{b:Nat}{c:Array Value}{el:TypeId}{f:Nat×Nat}(e:w.heap[b]?=some (.cells c el f)):(viewAt b).run P w=.ok none w:=by unfold viewAt;simp[rX e]
theorem xJ{b off:Nat}{c:Array Value}{el:TypeId}{f:Nat×Nat}(e:w.heap[b]?=some (.cells c el f)):(Conv.seenAt ⟨b,off,none⟩).run P w=.ok ⟨b,off,none⟩ w:=by unfold Conv.seenAt;simp only[Sem.run_bind,Qs e,Result.andThen_ok,Sem.run_pure]
theorem yb{o ad n off s b sz:Nat}{cs:List AV}(hw:W h g w)(hr:dp h o ad n off s=some cs)(hb:g.B o ad=some (b,sz,n)):
 ∃v m c fz el ex sh,h.get o=some (.cells v m c fz el ex sh)/\∃ca f,J8 g w b sz n c fz el ex sh ca f/\off+s<=n:=by
 unfold dp at hr
 split at hr
 .rename_i v m c fz el ex sh hx
  split at hr
  .rename_i hc;obtain⟨h1,h2,h3⟩:=hc;obtain⟨_,ca,f,hk⟩:=(hw.obj o _ hx).2 ad h1 h2 b sz n hb;exact⟨v,m,c,fz,el,ex,sh,hx,ca,f,hk,h3⟩
  .cases hr
 .cases hr
theorem Pf(w:World)(e:TypeId)(s:ByteArray):
 Lib.bytesWorld w e s=gx {w with drawn:=w.drawn+1} (.cells (Lib.bytesCells w e s) e ((Lib.bytesCells w e s).size,(Lib.bytesCells w e s).size+1)):=by
 have b:(Lib.bytesWorld w e s).heap=w.heap.push (.cells (Lib.bytesCells w e s) e ((Lib.bytesCells w e s).size,(Lib.bytesCells w e s).size+1)):=by
  apply Array.ext_getElem?
  intro j
  rcases Nat.lt_trichotomy j w.heap.size with h|h|h
  .rw[Lib.bytesWorld_at_old w e s j h,Array.getElem?_push,if_neg (by omega)]
  .subst h;rw[Lib.bytesWorld_at_new,Array.getElem?_push,if_pos rfl]
  .rw[Array.getElem?_eq_none (by rw[Lib.bytesWorld_size];omega),Array.getElem?_eq_none (by simp;omega)]
 have hd:(Lib.bytesWorld w e s).drawn=w.drawn+1:=rfl;show Lib.bytesWorld w e s={w with drawn:=w.drawn+1,heap:=w.heap.push _};rw[<-b];rfl
theorem Pg{src dst e:TypeId}{s:ByteArray}(hw:W h g w)(hf:∀v,g.B h.next v=none)(hs:P.underlying src=some .string)(hd:P.underlying dst=some (.slice e))(o:P.underlying e=some (.int .u8)):
 bh P h g w (do pure (.value (<-convert src dst (.string s)))) (.val (.sl h.next 0 s.size 0 1 s.size none)) (h.alloc (.cells 0 0 (s.data.toList.map λb=>.sc (.int .u8 b.toNat)) 0 e false true)):=by
 have hr:=Lib.run_convert_string_bytes (P:=P) w src dst e s hs hd o
 have f:s.size<=grownCap w s.size 0 e:=by simp[grownCap,Question.cut]
 have eY:(Lib.bytesCells w e s).size=grownCap w s.size 0 e:=by simp only[Lib.bytesCells,Array.size_append,Array.size_map,Array.size_replicate];have:s.data.size=s.size:=rfl;omega
 rw[Pf]at hr
 have c:=p0 (x:=.cells 0 0 (s.data.toList.map λb=>.sc (.int .u8 b.toNat)) 0 e false true) (s:=grownCap w s.size 0 e) (n:=s.size) (hw.drew (w.drawn+1)) hf (w':=gx {w with drawn:=w.drawn+1} (.cells (Lib.bytesCells w e s) e ((Lib.bytesCells w e s).size,(Lib.bytesCells w e s).size+1))) rfl ?_
 .refine⟨_,_,.slice (some ⟨w.heap.size,0,none⟩) s.size (grownCap w s.size 0 e),by simp only[Sem.run_bind,hr,Result.andThen_ok,Sem.run_pure],?_,c.1,?_⟩
  .refine .sl (Gh.iy _ _ _ _) ?_ f (by simp);simp
  .have h2:=c.2;exact{h2 with size:=h2.size,fr:=h2.fr,tape:=h2.tape,os:=h2.os,out:=h2.out,dC:=h2.dC,gz:=h2.gz}
 .refine⟨λv hv=>?_,?_⟩
  .cases k:(g.er h.next 0 (w.heap.size,grownCap w s.size 0 e,s.size)).B h.next v with
   |none=>rfl
   |some y=>
    rcases Gh.ei k with⟨_,k,_⟩|k
    .omega
    .rw[hf v]at k;cases k
  intro v h1 h2 b s' n' hb
  have hv:v=0:=by omega
  subst hv
  have j:some (w.heap.size,grownCap w s.size 0 e,s.size)=some (b,s',n'):=(Gh.iy _ _ _ _).symm.trans hb
  simp only[ab,an]at j
  obtain⟨rfl,rfl,rfl⟩:=j
  have l:(s.data.toList.map λb=>AV.sc (.int .u8 b.toNat)).length=s.size:=by simp
  refine⟨λ_=>l.symm,Lib.bytesCells w e s,_,⟨lg {w with drawn:=w.drawn+1} _,eY,by omega,f,(by simp),?_,(by simp),?_⟩⟩
  .intro i hi h1 h2;simp only at h1 h2;omega
  .intro i x hi hx;rw[List.getElem?_map]at hx;cases hb:s.data.toList[i]? with|none=>rw[hb]at hx;cases hx|some u=>rw[hb]at hx;simp only[Option.map_some,ab]at hx;subst hx;refine⟨_,?_,.sc _⟩;unfold Lib.bytesCells;have m:i<s.data.size:=hi;rw[Array.getElem?_append_left (by simpa using m),Array.getElem?_map];rw[show s.data[i]?=some u by rw[<-Array.getElem?_toList];exact hb];rfl
theorem Qt{src dst:TypeId}{x r:AV}{v:Value}(hw:W h g w)(hf:∀v,g.B h.next v=none)(hx:VR g x v)(hr:gP P h src dst x=some (r,h')):
 bh P h g w (do pure (.value (<-convert src dst v))) (.val r) h':=by
 unfold gP at hr
 split at hr
 .rename_i e hs hd
  split at hr
  .rename_i n J hn F
   split at hr
   .rename_i l I
    cases z:jt l with
    |none=>rw[z]at hr;cases hr
    |some bs=>
     rw[z]at hr
     simp only[Option.map_some,ab,an]at hr
     obtain⟨rfl,rfl⟩:=hr
     obtain⟨vs,q1,q2,q3⟩:=uy (P:=P) hw hx I
     obtain⟨E,K,L⟩:=xA z q1
     have q3:=q3 w.drawn
     have C:∃a c,v=.slice a n c:=by
      unfold ft at hn
      split at hn
      .cases hx;simp at hn;subst hn;exact⟨_,_,rfl⟩
      .cases hx;simp at hn;subst hn;exact⟨_,_,rfl⟩
      .cases hx with|hU=>simp at hn;subst hn;exact⟨_,_,rfl⟩|h9 _=>simp at hn;subst hn;exact⟨_,_,rfl⟩|aG _ _ _=>simp at hn;subst hn;exact⟨_,_,rfl⟩
      .cases hx;simp at hn;subst hn;exact⟨_,_,rfl⟩
      .cases hx;simp at hn;subst hn;exact⟨_,_,rfl⟩
      .simp[mE]at F
      .cases hn
     obtain⟨a,c,rfl⟩:=C
     refine bh.same hw (x:=.string ⟨bs.toArray⟩) ?_ (.sc _)
     simp only[Sem.run_bind]
     rw[run_convert_bytes_string w src dst e a n c hs J hd]
     cases a with
     |none=>
      simp only[Builtin.firstCells,Sem.run_pure,Result.ok.injEq,and_true]at q3
      have:vs=[]:=by simpa using q3.symm
      rw[this]at K
      have:E=[]:=by simpa using K.symm
      subst this
      subst L
      simp[Conv.bytesToString]
      rfl|some a=>have hl:(loadCells a n).run P w=.ok (E.map (Value.int .u8)).toArray w:=by rw[<-K];have:(Builtin.firstCells 1 n (.slice (some a) n c)).run P w=(loadCells a (n*1)).run P w:=rfl;rw[Nat.mul_one]at this;rw[<-this];exact q3
                  rw[run_bytesToString w a n c E hl,foldl_push_bytes,L,show ByteArray.empty.data=#[]from rfl,Array.empty_append];rfl
   .cases hr
  .cases hr
 .rename_i e hs hd
  split at hr
  .rename_i s J
   split at hr
   .simp only[ab,an]at hr;obtain⟨rfl,rfl⟩:=hr;cases hx;exact Pg hw hf hs hd J
   .cases hr
  .cases hr
 .rename_i t hs hd
  split at hr
  .rename_i o ad n off k j
   split at hr
   .rename_i cs m
    simp only[ab,an]at hr
    obtain⟨rfl,rfl⟩:=hr
    have i:=hx
    cases hx with
    |ref hB=>
     rename_i b M
     obtain⟨v',N,c',fz,el,ex,sh,_,ca,f,hk,G⟩:=yb hw m hB
     refine bh.same hw (x:=.pointer (some ⟨b,off,none⟩)) ?_ i
     have h1:¬ca.size<=off:=by have:=hk.lQ;have:=hk.size;omega
     simp[convert,run_underlying hs,run_underlying hd,Conv.unsafePointer,xJ hk.here,cellsIn,rX hk.here,run_sizeOf j,h1]
   .cases hr
  .simp only[ab,an]at hr;obtain⟨rfl,rfl⟩:=hr;cases hx;refine bh.same hw (x:=.pointer none) ?_ (.sc _);simp[convert,run_underlying hs,run_underlying hd,Conv.unsafePointer]
  .cases hr
 .rename_i hs hd
  split at hr
  .simp only[ab,an]at hr;obtain⟨rfl,rfl⟩:=hr;have i:=hx;cases hx with|ref hB=>refine bh.same hw ?_ i;simp[convert,run_underlying hs,run_underlying hd,Conv.unsafePointer]
  .simp only[ab,an]at hr;obtain⟨rfl,rfl⟩:=hr;cases hx;refine bh.same hw (x:=.pointer none) ?_ (.sc _);simp[convert,run_underlying hs,run_underlying hd,Conv.unsafePointer]
  .cases hr
 .rename_i u hs hd
  split at hr
  .rename_i o ad n off k j
   split at hr
   .rename_i cs S T R O Q bN m D
    split at hr
    .rename_i p
     simp only[ab,an]at hr
     obtain⟨rfl,rfl⟩:=hr
     have i:=hx
     cases hx with
     |ref hB=>
      rename_i b M
      obtain⟨v',N,c',fz,el,ex,sh,q,ca,f,hk,G⟩:=yb hw m hB
      rw[D]at q
      simp only[ab,b7.cells.injEq]at q
      obtain⟨rfl,rfl,rfl,rfl,rfl,rfl,rfl⟩:=q
      refine bh.same hw (x:=.pointer (some ⟨b,off,none⟩)) ?_ i
      have eY:ca.size=R.length:=by rw[hk.size,hk.exact rfl]
      simp[convert,run_underlying hs,run_underlying hd,Conv.unsafePointer,xJ hk.here,variablesAt,rX hk.here,run_sizeOf j,eY,p]
    .cases hr
   .cases hr
  .simp only[ab,an]at hr;obtain⟨rfl,rfl⟩:=hr;cases hx;refine bh.same hw (x:=.pointer none) ?_ (.sc _);simp[convert,run_underlying hs,run_underlying hd,Conv.unsafePointer]
  .cases hr
 .split at hr
  .rename_i v' hv;cases hp:bW P (convert src dst v')with|none=>rw[hp]at hr;cases hr|some u=>rw[hp]at hr;simp only[Option.map_some,ab,an]at hr;obtain⟨rfl,rfl⟩:=hr;rw[pZ hv hx];exact bh.same hw (by simp[l3 hp w]) (VR.bn u)
  .cases hr
 .cases hr
end
end Go.AI
end

section
namespace Go.AI
section
variable {P:Program}{h h':AHeap}{g:Gh}{w:World}
inductive qd:TypeDesc->Value->Value->Prop where|ptr(e:TypeId)(p:Addr):qd (.pointer e) (.pointer (some p)) (.pointer none)|slice(e:TypeId)(p:Addr)(l c l' c':Nat):qd (.slice e) (.slice (some p) l c) (.slice none l' c')|map(k e:TypeId)(r:Nat):qd (.map k e) (.map (some r)) (.map none)|func(ps rs:Array TypeId)(v:Bool)(fn:Fn)(a c:Array Value):qd (.func ps rs v) (.func fn a c) .nilFunc|iface(ms:Array (String×TypeId))(t:TypeId)(v:Value):qd (.interface ms) (.iface t v) .nilIface
theorem Hw{d:TypeDesc}{x y:AV}{a b:Value}(h1:jv d x=true)(h2:fl d y=true)(hx:VR g x a)(hy:VR g y b):qd d a b:=by
 unfold jv at h1
 split at h1
 .unfold fl at h2
  split at h2<;>first|(cases h2;done)|(rename_i e;cases e;done)|skip
  cases hx;cases hy;exact .ptr _ _
 .unfold fl at h2
  split at h2<;>first|(cases h2;done)|(rename_i e;cases e;done)|skip
  cases hx;cases hy;exact .ptr _ _
 .unfold fl at h2
  split at h2<;>first|(cases h2;done)|(rename_i e;cases e;done)|skip
  cases hx;cases hy;exact .slice _ _ _ _ _ _
 .unfold fl at h2
  split at h2<;>first|(cases h2;done)|(rename_i e;cases e;done)|skip
  cases hx;cases hy;exact .slice _ _ _ _ _ _
 .unfold fl at h2
  split at h2<;>first|(cases h2;done)|(rename_i e;cases e;done)|skip
  cases hx;cases hy;exact .slice _ _ _ _ _ _
 .unfold fl at h2
  split at h2<;>first|(cases h2;done)|(rename_i e;cases e;done)|skip
  cases hx;cases hy;exact .slice _ _ _ _ _ _
 .unfold fl at h2
  split at h2<;>first|(cases h2;done)|(rename_i e;cases e;done)|skip
  cases hx;cases hy;exact .map _ _ _
 .unfold fl at h2
  split at h2<;>first|(cases h2;done)|(rename_i e;cases e;done)|skip
  cases hx;cases hy;exact .func _ _ _ _ _ _
 .unfold fl at h2
  split at h2<;>first|(cases h2;done)|(rename_i e;cases e;done)|skip
  cases hx;cases hy;exact .func _ _ _ _ _ _
 .unfold fl at h2
  split at h2<;>first|(cases h2;done)|(rename_i e;cases e;done)|skip
  cases hx;cases hy;exact .iface _ _ _
 .cases h1
theorem GK{d:TypeDesc}{t:TypeId}{a b:Value}(c:P.underlying t=some d)(hp:qd d a b)(n:Nat):(Op.equalIn (n+1) t a b).run P w=.ok false w/\(Op.equalIn (n+1) t b a).run P w=.ok false w:=by cases hp<;>constructor<;>simp only[Op.equalIn,Sem.run_bind,run_underlying c,Result.andThen_ok,Sem.run_pure,Option.isNone_some]
theorem HU{op:BinOp}{t:TypeId}{xo yo:Operand}{a b:Value}{r:Bool}(c:op=.eql\/op=.neq)(e:(Op.equal t a b).run P w=.ok r w)
 (hg:∀op,(eqGuard op t xo yo a b).run P w=.ok () w)
 (hb:∀op,(op=BinOp.eql->binOp op t a b=(do pure (.bool (<-Op.equal t a b))))/\(op=BinOp.neq->binOp op t a b=(do pure (.bool (!(<-Op.equal t a b)))))):
 (do eqGuard op t xo yo a b;binOp op t a b:Sem Value).run P w=.ok (.bool (if op=.eql then r else !r)) w:=by
 rcases c with rfl|rfl
 .simp only[Sem.run_bind,hg,Result.andThen_ok,(hb .eql).1 rfl,e,Sem.run_pure,if_true]
 .simp only[Sem.run_bind,hg,Result.andThen_ok,(hb .neq).2 rfl,e,Sem.run_pure];simp
def uR:Value->Value->Bool|.pointer _,.pointer _=>true|.slice ..,.slice ..=>true|.map _,.map _=>true|.func ..,.nilFunc|.nilFunc,.func ..=>true|.iface ..,.nilIface|.nilIface,.iface ..=>true|.iface ..,.iface ..=>true|_,_=>false
theorem GW{t:TypeId}{xo yo:Operand}{a b:Value}(hp:uR a b=true)(op:BinOp):(eqGuard op t xo yo a b).run P w=.ok () w:=by
 unfold uR at hp
 split at hp<;>first|(cases hp;done)|skip
 all_goals unfold eqGuard;cases op<;>rfl
theorem He{t:TypeId}{a b:Value}(hp:uR a b=true)(op:BinOp):
 (op=.eql->binOp op t a b=(do pure (.bool (<-Op.equal t a b))))/\(op=.neq->binOp op t a b=(do pure (.bool (!(<-Op.equal t a b))))):=by
 unfold uR at hp
 split at hp<;>first|(cases hp;done)|skip
 all_goals exact⟨λe=>by subst e;rfl,λe=>by subst e;rfl⟩
theorem Ln{t:TypeId}{x y:AV}{a b:Value}{r:Bool}(hx:VR g x a)(hy:VR g y b)(hr:iJ P t x y=some r):uR a b=true/\(Op.equal t a b).run P w=.ok r w:=by
 unfold iJ at hr
 split at hr
 .rename_i d p
  split at hr
  .rename_i hc
   simp only[ab]at hr;subst hr
   simp only[Bool.or_eq_true,aX]at hc
   rcases hc with⟨h1,h2⟩|⟨h1,h2⟩
   .have hp:=Hw h1 h2 hx hy;refine⟨by cases hp<;>rfl,(GK p hp 9999).1⟩
   .have hp:=Hw h1 h2 hy hx;refine⟨by cases hp<;>rfl,(GK p hp 9999).2⟩
  .split at hr
   .rename_i e o v n off o' v' n' j q
    split at hr
    .rename_i hc
     obtain⟨rfl,rfl,h3,h4⟩:=hc
     simp only[ab]at hr;subst hr
     cases hx with
     |ref hB=>
      cases hy with
      |ref l=>
       rename_i b s b' s'
       rw[hB]at l
       simp only[ab,an]at l
       obtain⟨rfl,rfl,rfl⟩:=l
       refine⟨rfl,?_⟩
       cases hs:bB P e with
       |none=>rw[hs]at h4;cases h4
       |some k=>
        have hk:k≠0:=λz=>h3 (by rw[hs,z])
        have key:∀m:Nat,(Op.equalIn (m+1) t (.pointer (some ⟨b,off,none⟩)) (.pointer (some ⟨b,j,none⟩))).run P w=.ok (off==j) w:=by intro m;simp only[Op.equalIn,Sem.run_bind,run_underlying p,Result.andThen_ok,run_sizeOf hs];rw[if_pos hk];unfold sameAddr;simp only[beq_self_eq_true,if_true,Sem.run_pure];congr 1;rw[Bool.eq_iff_iff];simp
        exact key 9999
    .cases hr
   .split at hr
    .rename_i c
     simp only[ab]at hr;subst hr
     cases hx;cases hy
     refine⟨rfl,?_⟩
     have key:∀(m:Nat)(u v:Value)(i f:TypeId),i≠f->(Op.equalIn (m+1) t (.iface i u) (.iface f v)).run P w=.ok false w:=by intro m u v i f c;simp only[Op.equalIn,Sem.run_bind,run_underlying p,Result.andThen_ok];rw[if_pos c];rfl
     exact key 9999 _ _ _ _ c
    .cases hr
   .split at hr
    .rename_i c
     simp only[ab]at hr;subst hr
     cases hx;cases hy
     refine⟨rfl,?_⟩
     have key:∀(m:Nat)(u v:Value)(i f:TypeId),i≠f->(Op.equalIn (m+1) t (.iface i u) (.iface f v)).run P w=.ok false w:=by intro m u v i f c;simp only[Op.equalIn,Sem.run_bind,run_underlying p,Result.andThen_ok];rw[if_pos c];rfl
     exact key 9999 _ _ _ _ c
    .cases hr
   .split at hr
    .rename_i c
     simp only[ab]at hr;subst hr
     cases hx;cases hy
     refine⟨rfl,?_⟩
     have key:∀(m:Nat)(u v:Value)(i f:TypeId),i≠f->(Op.equalIn (m+1) t (.iface i u) (.iface f v)).run P w=.ok false w:=by intro m u v i f c;simp only[Op.equalIn,Sem.run_bind,run_underlying p,Result.andThen_ok];rw[if_pos c];rfl
     exact key 9999 _ _ _ _ c
    .cases hr
   .cases hr
 .cases hr
theorem Lo{op:BinOp}{t:TypeId}{xo yo:Operand}{x y r:AV}{a b:Value}(hx:VR g x a)(hy:VR g y b)(hr:c6 P op t xo yo x y=some r):
 ∃u,(do eqGuard op t xo yo a b;binOp op t a b:Sem Value).run P w=.ok u w/\VR g r u:=by
 unfold c6 at hr
 split at hr
 .rename_i a' b' ha hb;rw[pZ ha hx,pZ hb hy];exact DG hr
 .split at hr
  .cases c:iJ P t x y with|none=>rw[c]at hr;cases hr|some q=>rw[c]at hr;simp at hr;subst hr;obtain⟨h1,h2⟩:=Ln (w:=w) hx hy c;refine⟨_,HU (.inl rfl) h2 (GW h1) (He h1),?_⟩;simp;exact .sc _
  .cases c:iJ P t x y with|none=>rw[c]at hr;cases hr|some q=>rw[c]at hr;simp at hr;subst hr;obtain⟨h1,h2⟩:=Ln (w:=w) hx hy c;refine⟨_,HU (.inr rfl) h2 (GW h1) (He h1),?_⟩;simp;exact .sc _
  .cases hr
theorem IU{x:AV}{v:Value}{t:TypeId}{y:AV}(hx:VR g x v)(hr:oD x=some (t,y)):∃u,v=.iface t u/\VR g y u:=by
 unfold oD at hr
 split at hr
 .simp only[ab,an]at hr;obtain⟨rfl,rfl⟩:=hr;cases hx with|iface h1=>exact⟨_,rfl,h1⟩
 .simp only[ab,an]at hr;obtain⟨rfl,rfl⟩:=hr;cases hx;exact⟨_,rfl,VR.bn _⟩
 .cases hr
theorem HV{x r:AV}{v:Value}{n asserted:TypeId}{ok:Bool}(hx:VR g x v)(hr:uO P x asserted ok=some r):
 ∃u,(Instr.typeAssert v n asserted ok).run P w=.ok u w/\VR g r u:=by
 unfold uO at hr
 have c:∀(a b:Option TypeId)(m:String),nw P asserted ok=some r->∃u,((if ok then do pure (.tuple #[<-zeroValue asserted,.bool false])else runtimePanic (.typeAssertion a b asserted m):Sem Value)).run P w=.ok u w/\VR g r u:=by intro a b m hf;unfold nw at hf;cases ok with|false=>cases hf|true=>cases hz:fk P asserted with|none=>simp[hz]at hf|some z=>simp[hz]at hf;subst hf;obtain⟨o,h1,rfl⟩:=xq hz w;exact⟨.tuple #[o,.bool false],by simp[h1],VR.fZ.2 ⟨_,rfl,VR.bn o,.sc _,trivial⟩⟩
 split at hr
 .rename_i want l
  split at hr
  .rename_i t y k
   obtain⟨u,rfl,hy⟩:=IU hx k
   split at hr
   .rename_i i hi
    split at hr
    .rename_i hm;simp only[ab]at hr;subst hr;refine⟨_,?_,VR.opt (b:=true) hx⟩;simp only[Instr.typeAssert,Sem.run_bind,run_underlying l,Result.andThen_ok,run_typeInfo hi,hm,Sem.run_pure]
    .rename_i m hm;obtain⟨j,h1,h2⟩:=c none (some t) m hr;refine⟨j,?_,h2⟩;rw[<-h1];simp only[Instr.typeAssert,Sem.run_bind,run_underlying l,Result.andThen_ok,run_typeInfo hi,hm]
   .cases hr
  .split at hr
   .cases hx;obtain⟨j,h1,h2⟩:=c none none "" hr;refine⟨j,?_,h2⟩;rw[<-h1];simp only[Instr.typeAssert,Sem.run_bind,run_underlying l,Result.andThen_ok]
   .cases hr
 .rename_i d hd l
  split at hr
  .rename_i t y k
   obtain⟨u,rfl,hy⟩:=IU hx k
   have f:(Instr.typeAssert (.iface t u) n asserted ok).run P w=(if t=asserted then pure (if ok then .tuple #[u,.bool true]else u)else if ok then do pure (.tuple #[<-zeroValue asserted,.bool false])else runtimePanic (.typeAssertion (some n) (some t) asserted ""):Sem Value).run P w:=by simp only[Instr.typeAssert,Sem.run_bind,run_underlying l,Result.andThen_ok]
   split at hr
   .rename_i e;simp only[ab]at hr;subst hr;refine⟨_,?_,VR.opt (b:=true) hy⟩;rw[f,if_pos e];rfl
   .rename_i e;obtain⟨j,h1,h2⟩:=c (some n) (some t) "" hr;exact⟨j,by rw[f,if_neg e];exact h1,h2⟩
  .split at hr
   .cases hx;obtain⟨j,h1,h2⟩:=c (some n) none "" hr;refine⟨j,?_,h2⟩;rw[<-h1];simp only[Instr.typeAssert,Sem.run_bind,run_underlying l,Result.andThen_ok]
   .cases hr
 .cases hr
end
end Go.AI
end

section
namespace Go.AI
structure cZ(P:Program):Prop where
 ng:∀(f:FuncId)(fn:Func),P.funcs[f]?=some fn->fn.body.isSome=true->(fn.name== "runtime.NumGoroutine")=false
 mixed:P.follows .mixedOrders=true
theorem PK{fn:Func}(h:p8 fn=1):Extern.findNext fn=none/\Extern.find fn=some Extern.AbiNoEscape.same/\(fn.name== "runtime.NumGoroutine")=false:=by
 unfold p8 at h
 split at h
 .rename_i hc
  obtain⟨h1,h2⟩:=hc
  unfold Extern.findNext Extern.find
  rw[h1,h2]
  refine⟨?_,?_,by decide⟩
  .have c:Extern.allNextRows.lookup "internal/abi.NoEscape"=none:=by kernel_rfl
   have b:Extern.allNextRows.lookup ""=none:=by kernel_rfl
   simp[c,b]
  .have c:Extern.allGenericRows.lookup "internal/abi.NoEscape"=none:=by kernel_rfl
   have b:Extern.allTypedRows.lookup "internal/abi.NoEscape"=none:=by kernel_rfl
   have e:Extern.allRows.lookup "internal/abi.NoEscape"=some Extern.AbiNoEscape.same:=by kernel_rfl
   simp[c,b,e]
 .split at h<;>cases h
theorem Ph{fn:Func}(h:p8 fn=2):Extern.findNext fn=none/\Extern.find fn=some (Extern.BytealgMakeNoZero.makeNoZero fn.params fn.resultTypes)/\(fn.name== "runtime.NumGoroutine")=false:=by
 unfold p8 at h
 split at h
 .cases h
 .split at h
  .rename_i hc
   obtain⟨h1,h2⟩:=hc
   unfold Extern.findNext Extern.find
   rw[h1,h2]
   refine⟨?_,?_,by decide⟩
   .have c:Extern.allNextRows.lookup "internal/bytealg.MakeNoZero"=none:=by kernel_rfl
    have b:Extern.allNextRows.lookup ""=none:=by kernel_rfl
    simp[c,b]
   .have c:Extern.allGenericRows.lookup "internal/bytealg.MakeNoZero"=none:=by kernel_rfl
    have b:Extern.allTypedRows.lookup "internal/bytealg.MakeNoZero"=some Extern.BytealgMakeNoZero.makeNoZero:=by kernel_rfl
    simp[c,b]
  .cases h
section
variable {P:Program}{h h':AHeap}{g:Gh}{w:World}
theorem GF{f:FuncId}{fn:Func}{e:Array Value->Sem Value}{args:Array Value}(b:P.funcs[f]?=some fn)(hb:fn.body=none)(h1:Extern.findNext fn=none)(h2:Extern.find fn=some e)
 (h3:(fn.name== "runtime.NumGoroutine")=false):(callFunc f args).run P w=(do pure (.value (<-e args)):Sem Next).run P w:=by
 have c:¬fn.name= "runtime.NumGoroutine":=by simpa using h3
 unfold callFunc;simp[b,hb,h1,h2,c]
theorem size_digits:∀(n t:Nat)(acc:Array Value),(Extern.BytealgMakeNoZero.digits n t acc).size=acc.size+n|0,_,_=>by simp[Extern.BytealgMakeNoZero.digits]|n+1,t,acc=>by simp[Extern.BytealgMakeNoZero.digits,size_digits n];omega
theorem Cq{f:FuncId}{args:List AV}{vs:List Value}{r:dJ}(hP:cZ P)(hw:W h g w)(hf:∀v,g.B h.next v=none)(hv:aE g args vs)(hr:jr P h f args=some (r,h')):
 bh P h g w (callFunc f vs.toArray) r h':=by
 unfold jr at hr
 split at hr
 .cases hr
 .rename_i fn o
  split at hr
  .rename_i c hb
   simp only[ab,an]at hr
   obtain⟨rfl,rfl⟩:=hr
   refine⟨rfl,vs,?_,hv⟩
   have L:=hP.ng f fn o (by simp[hb])
   have E:¬fn.name= "runtime.NumGoroutine":=by simpa using L
   unfold callFunc;simp[o,hb,E]
  .rename_i hb
   split at hr
   .rename_i k hk
    unfold C2 at hr
    split at hr
    .rename_i x N;simp only[ab,an]at hr;obtain⟨rfl,rfl⟩:=hr;obtain⟨h1,h2,h3⟩:=PK N;match vs,hv with|[v],hv=>refine bh.same hw ?_ hv.1;rw[GF o hb h1 h2 h3,show Extern.AbiNoEscape.same [v].toArray=pure v from rfl];simp
    .rename_i n M
     obtain⟨h1,h2,h3⟩:=Ph M
     match vs,hv with
     |[v],hv=>
      have J:=hv.1
      cases J
      split at hr
      .rename_i t V
       split at hr
       .rename_i e U
        split at hr
        .rename_i hc
         obtain⟨h0,T⟩:=hc
         simp only[ab,an]at hr
         obtain⟨rfl,rfl⟩:=hr
         have G:¬n<0:=by omega
         have F:¬n>281474976710656:=by omega
         generalize z:(Question.appendCap n.toNat 0 e).cut (w.tape w.drawn (.appendCap n.toNat 0 e))=cap
         have O:n.toNat<=cap:=by rw[<-z];simp[Question.cut]
         have j:∃D,(callFunc f #[.int .i64 n]).run P w=.ok (.value (.slice (some ⟨w.heap.size,0,none⟩) n.toNat cap)) ({w with drawn:=w.drawn+2}.alloc (.cells (Extern.BytealgMakeNoZero.digits cap D #[]) e)):=by obtain⟨q,S,R,Q,X,I⟩:∃(q:Question)(S:Sem Value)(R:TypeDesc->Sem Value)(Q:Sem Unit),q.forced=false/\Extern.BytealgMakeNoZero.makeNoZero fn.params fn.resultTypes #[.int .i64 n]=(do
          let some t:=fn.resultTypes[0]?|S
          match<-underlying t with
          |.slice elem=>if n<0||n>2^48 then Q
                        let cap<-choose (.appendCap n.toNat 0 elem)askRoom cap let bytes<-choose q let a<-newRow elem (Extern.BytealgMakeNoZero.digits cap bytes #[])pure (.slice (some a) n.toNat cap)|d=>R d):=⟨_,_,_,_,rfl,rfl⟩;rw[GF o hb h1 h2 h3,I];simp only[V,Sem.run_bind,run_underlying U,Result.andThen_ok,G,F,Int.reducePow,decide_false,Bool.or_self,Bool.false_eq_true,if_false,run_choose,show∀m l,(Question.appendCap m l e).forced=false fromλ_ _=>rfl,X,run_askRoom,newRow,run_newObj,Sem.run_pure,z];exact⟨_,rfl⟩
         obtain⟨D,j⟩:=j
         have p:=p0 (x:=.cells 0 0 [] 0 e false false) (s:=cap) (n:=0) (hw.drew (w.drawn+2)) hf (w':={w with drawn:=w.drawn+2}.alloc (.cells (Extern.BytealgMakeNoZero.digits cap D #[]) e)) rfl ?_
         .refine⟨_,_,.slice (some ⟨w.heap.size,0,none⟩) n.toNat cap,j,?_,p.1,?_⟩
          .exact .sl (Gh.iy _ _ _ _) (by simp) O (by simp)
          .have h2:=p.2;exact{h2 with size:=h2.size,fr:=h2.fr,tape:=h2.tape,os:=h2.os,out:=h2.out,dC:=h2.dC,gz:=h2.gz}
         .refine⟨λv hv=>?_,?_⟩
          .cases Y:(g.er h.next 0 (w.heap.size,cap,0)).B h.next v with
           |none=>rfl
           |some y=>rcases Gh.ei Y with⟨_,C,_⟩|C
                    .omega
                    .rw[hf v]at C;cases C
          intro v h1 h2 b s' n' hb
          obtain rfl:v=0:=by omega
          rw[Gh.iy]at hb;simp only[ab,an]at hb;obtain⟨rfl,rfl,rfl⟩:=hb;refine⟨λ_=>rfl,_,(0,0),⟨lg _ _,by simp[size_digits],ak _,Nat.zero_le _,(λh=>by cases h),(λi _ h3 h4=>by simp at h4),λ_=>.inl rfl,?_⟩⟩;intro i x hi;omega
        .cases hr
       .cases hr
      .cases hr
    .cases hr
   .split at hr
    .rename_i us K
     split at hr
     .rename_i u hp;simp only[ab,an]at hr;obtain⟨rfl,rfl⟩:=hr;rw[rG K hv];exact bh.same hw (l3 hp w) (VR.bn u)
     .cases hr
    .cases hr
end
end Go.AI
end

section
namespace Go.AI
section
variable {P:Program}{h h':AHeap}{g:Gh}{w:World}
theorem Lq{i:Array TypeId}{t ty:TypeId}{x:AV}{v:Value}{n:Nat}(hw:W h g w)(ha:i[0]?=some t)(hx:VR g x v)(hr:qG P h t x=some n):
 (Builtin.len_ i ty #[v]).run P w=.ok (goInt n) w:=by
 unfold qG at hr
 have h0:(#[v]:Array Value)[0]?=some v:=rfl
 split at hr
 .rename_i e f
  split at hr
  .rename_i hs
   have:∃a c,v=.slice a n c:=by
    unfold ft at hr
    split at hr
    .cases hx;simp at hr;subst hr;exact⟨_,_,rfl⟩
    .cases hx;simp at hr;subst hr;exact⟨_,_,rfl⟩
    .cases hx with|hU=>simp at hr;subst hr;exact⟨_,_,rfl⟩|h9 _=>simp at hr;subst hr;exact⟨_,_,rfl⟩|aG _ _ _=>simp at hr;subst hr;exact⟨_,_,rfl⟩
    .cases hx;simp at hr;subst hr;exact⟨_,_,rfl⟩
    .cases hx;simp at hr;subst hr;exact⟨_,_,rfl⟩
    .simp[mE]at hs
    .cases hr
   obtain⟨a,c,rfl⟩:=this;simp only[Builtin.len_,ha,h0,Sem.run_bind,run_underlying f,Result.andThen_ok,Sem.run_pure]
  .cases hr
 .rename_i f
  split at hr
  .cases hx;simp at hr;subst hr;simp only[Builtin.len_,ha,h0,Sem.run_bind,run_underlying f,Result.andThen_ok,Sem.run_pure]
  .cases hr
 .rename_i k e f;simp at hr;subst hr;simp only[Builtin.len_,ha,h0,Sem.run_bind,run_underlying f,Result.andThen_ok,Sem.run_pure]
 .rename_i k e f
  split at hr
  .cases hx;simp at hr;subst hr;simp only[Builtin.len_,ha,h0,Sem.run_bind,run_underlying f,Result.andThen_ok,Sem.run_pure];rfl
  .rename_i o
   cases hx with
   |map hB=>
    rename_i b s m
    split at hr
    .rename_i es clock hg;simp at hr;subst hr;obtain⟨j,q1,q2⟩:=hw.obj o _ hg b s m hB;have:=q2.length;simp only[Builtin.len_,ha,h0,Sem.run_bind,run_underlying f,Result.andThen_ok,fY q1 rfl,Sem.run_pure];rw[this];simp
    .cases hr
  .cases hr
 .cases hr
theorem Lr{c:Array TypeId}{t ty:TypeId}{x:AV}{v:Value}{n:Nat}(ha:c[0]?=some t)(hx:VR g x v)(hr:wh P t x=some n):
 (Builtin.cap_ c ty #[v]).run P w=.ok (goInt n) w:=by
 unfold wh at hr
 have h0:(#[v]:Array Value)[0]?=some v:=rfl
 split at hr
 .rename_i b;simp at hr;subst hr;cases hx with|sl hB p1 p2 p3=>obtain rfl:=p3 _ rfl;simp only[Builtin.cap_,ha,h0,Sem.run_bind,run_underlying b,Result.andThen_ok,Sem.run_pure]
 .rename_i b;simp at hr;subst hr;cases hx with|b9 f q1 q2 p1 p2 p3=>obtain rfl:=p3 _ rfl;simp only[Builtin.cap_,ha,h0,Sem.run_bind,run_underlying b,Result.andThen_ok,Sem.run_pure]
 .rename_i b;simp at hr;subst hr;cases hx;simp only[Builtin.cap_,ha,h0,Sem.run_bind,run_underlying b,Result.andThen_ok,Sem.run_pure]
 .cases hr
theorem R6{f:Array TypeId}{ty:TypeId}{o b s n clock:Nat}{d:TypeDesc}{es:List (AV×AV×Nat)}(hw:W h g w)(hd:f[0]?.bind P.underlying=some d)(hB:g.B o 0=some (b,s,n))(hg:h.get o=some (.map es clock)):bh P h g w (do pure (.value (<-Builtin.clear_ f ty #[.map (some b)]))) (.val dZ) (h.aQ o (.map [] clock)):=by obtain⟨j,q1,q2⟩:=hw.obj o _ hg b s n hB;have h0:(#[Value.map (some b)]:Array Value)[0]?=some (.map (some b)):=rfl;cases ha:f[0]? with|none=>rw[ha]at hd;cases hd|some t=>rw[ha]at hd;have i:P.underlying t=some d:=hd;have c:=kE (x':=.map [] clock) hw hg hB (w':=cS w b (.map #[] clock)) rfl (by intro b' k n' e;rw[hB]at e;simp only[ab,an]at e;obtain⟨rfl,rfl,rfl⟩:=e;exact⟨#[],iV (lt_of_heap q1),trivial⟩);refine⟨g,_,.tuple #[],?_,VR.fZ.2 ⟨#[],rfl,trivial⟩,c.1,c.2⟩;simp only[Builtin.clear_,ha,h0,Sem.run_bind,run_underlying i,Result.andThen_ok,fY q1 rfl,ld q1 rfl,Sem.run_pure]
theorem run_loadBytes{b:Nat}:∀(c:List Int)(off:Nat)(acc:ByteArray),(∀(j:Nat)(v:Value),(c.map (Value.int .u8))[j]?=some v->w.cell? ⟨b,off+j,none⟩=some v)->(loadBytes ⟨b,off,none⟩ acc c.length).run P w=.ok ⟨acc.data++(c.map λn=>UInt8.ofNat n.toNat).toArray⟩ w|[],off,acc,_=>by simp[loadBytes]|n::c,off,acc,hc=>by have h1:=hc 0 (.int .u8 n) (by simp);simp only[Nat.add_zero]at h1;simp only[aN,loadBytes,Sem.run_bind,run_load,h1,Result.andThen_ok];rw[add_eq _ _ rfl,run_loadBytes c (off+1) _ (λj v hv=>by rw[Nat.add_assoc,Nat.add_comm 1 j];exact hc (j+1) v (by simpa using hv))];simp[ByteArray.push]
theorem Qu{u off n cells:Nat}(hs:bB P u=some 1)(b:off+n<=cells):liesAt P P.depth u (cells/P.cellsOf u) off u n=true:=by
 have hc:P.cellsOf u=1:=by unfold bB at hs;unfold Program.cellsOf;cases hi:P.info? u with|none=>rw[hi]at hs;cases hs|some i=>rw[hi]at hs;simpa using hs
 have hd:∃k,P.depth=k+1:=⟨2*(P.types.size+Made.depth)+1,rfl⟩;obtain⟨k,hk⟩:=hd;rw[hk,hc];unfold liesAt;rw[hk];unfold rowAt;rw[hc];simp only[Nat.div_one,Nat.mod_one];unfold sameLayout;simp[b]
theorem Re{b off n:Nat}{c:Array Value}{el:TypeId}{f:Nat×Nat}(hn:n≠0)(k:w.heap[b]?=some (.cells c el f)):
 w.freeze ⟨b,off,none⟩ n=cS w b (.cells c el (if f.1==f.2 then(off,off+n)else(min f.1 off,max f.2 (off+n)))):=by
 unfold World.freeze cS
 rw[if_neg hn]
 congr 1
 apply Array.ext_getElem?
 intro j
 have i:=lt_of_heap k
 by_cases e:b=j
 .subst e;rw[Array.getElem?_modify,k,Array.getElem?_setIfInBounds_self_of_lt i];simp
 .rw[Array.getElem?_setIfInBounds_ne e,Array.getElem?_modify,if_neg e]
theorem Pj{B:Array TypeId}{pt ty:TypeId}{p n r:AV}{a v:Value}(hw:W h g w)(ha:B[0]?=some pt)(hp:VR g p a)(hn:VR g n v)(hr:rq P h pt p n=some (r,h')):
 bh P h g w (do pure (.value (<-Builtin.unsafeString_ B ty #[a,v]))) (.val r) h':=by
 unfold rq at hr
 obtain⟨Y,X,V,U,T,E⟩:∃(Y:Sem Value)(X V:Sem Unit)(U T:Sem Value),∀(q:Option Addr)(len_:Value),Builtin.unsafeString_ B ty #[.pointer q,len_]=(do
  let n<-asInt len_
  let some pt:=B[0]?|Y
  if n<0 then X
  if n>IntKind.i64.max then V
  match q with
  |none=>if n=0 then pure (.string .empty)else U
  |some a=>if n=0 then pure (.string .empty)else if<-variablesAt a (<-elemOf pt) n.toNat then do
   let s<-loadBytes a .empty n.toNat
   freeze a n.toNat
   pure (.string s)else T):=⟨_,_,_,_,_,λ_ _=>rfl⟩
 split at hr
 .rename_i F
  simp only[ab,an]at hr
  obtain⟨rfl,rfl⟩:=hr
  cases hp
  obtain⟨k,i,rfl,_,_,e⟩:=jS hn F
  simp only[Int.natCast_zero]at e
  subst e
  refine bh.same hw (x:=.string .empty) ?_ (.sc _)
  rw[E]
  have t:IntKind.i64.max=9223372036854775807:=by decide
  simp[asInt,asIntOf,ha,t]
 .rename_i o ad m off k F
  split at hr
  .rename_i u v0 m' c fz el ex hu hg
   split at hr
   .rename_i hc
    obtain⟨rfl,R,rfl,M,adD⟩:=hc
    split at hr
    .rename_i l N
     cases hb:jt l with
     |none=>rw[hb]at hr;cases hr
     |some bs=>
      rw[hb]at hr
      simp only[Option.map_some,ab,an]at hr
      obtain⟨rfl,rfl⟩:=hr
      cases hp with
      |ref hB=>
       rename_i b sb
       obtain⟨kk,i,rfl,hi0,S,hi2⟩:=jS hn F
       obtain⟨vs,q1,q2,q3,q4,q5⟩:=pR hw N hB
       obtain⟨Z,e1,e2⟩:=xA hb q1
       have C:=hw.obj o _ hg
       obtain⟨hm,ca,f,hk⟩:=C.2 ad R (ak _) b sb m hB
       have hlen:Z.length=k+1:=by rw[<-q2,e1];simp
       have G:(loadBytes ⟨b,off,none⟩ .empty (k+1)).run P w=.ok ⟨bs.toArray⟩ w:=by rw[<-hlen,run_loadBytes Z off .empty (by rw[<-e1];exact q3),e2,show ByteArray.empty.data=#[]from rfl,Array.empty_append]
       have K:=Qu (P:=P) (u:=el) (off:=off) (n:=k+1) (cells:=ca.size) M (by have:=hk.size;omega)
       have L:=Re (n:=k+1) (off:=off) (by omega) hk.here
       have D:=kE (x':=.cells ad ad c (max fz (off+(k+1))) el ex false) hw hg hB (w':=w.freeze ⟨b,off,none⟩ (k+1)) L ?_
       .refine⟨g,_,.string ⟨bs.toArray⟩,?_,.sc _,D.1,D.2⟩
        rw[E]
        have J:¬i<0:=by omega
        have t:IntKind.i64.max=9223372036854775807:=by decide
        have Q:¬i>IntKind.i64.max:=by rw[t];omega
        have O:¬i=0:=by omega
        simp only[asInt,asIntOf,Sem.run_bind,Sem.run_pure,Result.andThen_ok,ha,J,Q,O,if_false,elemOf,run_underlying hu,variablesAt,run_program,run_shape,rX hk.here,S,K,if_true,G,run_freeze]
       .refine⟨C.1,?_⟩
        intro v' h1 h2 b' s' n' I
        obtain rfl:v'=ad:=by omega
        rw[hB]at I
        simp only[ab,an]at I
        obtain⟨rfl,rfl,rfl⟩:=I
        refine⟨hm,ca,_,⟨by rw[L];exact iV (lt_of_heap hk.here),hk.size,hk.le,hk.lQ,hk.exact,?_,?_,hk.cell⟩⟩
        .intro j hj h3 h4
         split at h3
         .rename_i z;rw[if_pos z]at h4;simp at h3 h4;omega
         .rename_i z;rw[if_neg z]at h4;have:=hk.plain rfl;simp at z h3 h4;omega
        .intro _
         right
         have:=hk.plain rfl
         split
         .simp;omega
         .rename_i z;simp at z⊢;omega
    .cases hr
   .cases hr
  .cases hr
 .cases hr
theorem oA{xs:List AV}{x:AV}{vs:List Value}(e:xs=[x])(hv:aE g xs vs):∃v,vs=[v]/\VR g x v:=by subst e;match vs,hv with|[v],hv=>exact⟨v,rfl,hv.1⟩
theorem yc{xs:List AV}{x y:AV}{vs:List Value}(e:xs=[x,y])(hv:aE g xs vs):∃v u,vs=[v,u]/\VR g x v/\VR g y u:=by subst e;match vs,hv with|[v,u],hv=>exact⟨v,u,rfl,hv.1,hv.2.1⟩
theorem tf{s:Sem Next}{q:Option (AV×AHeap)}{r:dJ}(hr:(q.map λ(x:AV×AHeap)=>(dJ.val x.1,x.2))=some (r,h'))(hk:∀v h2,q=some (v,h2)->bh P h g w s (.val v) h2):bh P h g w s r h':=by cases q with|none=>cases hr|some x=>obtain⟨v,h2⟩:=x;simp only[Option.map_some,ab,an]at hr;obtain⟨rfl,rfl⟩:=hr;exact hk v h2 rfl
theorem Qv{b:Builtin}{i:Array TypeId}{ty:TypeId}{cs:Array Bool}{xs:List AV}{vs:List Value}{r:dJ}(hw:W h g w)(hf:∀v,g.B h.next v=none)(hv:aE g xs vs)
 (hr:iW P h b i ty xs=some (r,h')):bh P h g w (builtin b i ty cs vs.toArray) r h':=by
 unfold iW at hr
 split at hr
 .obtain⟨u,v,rfl,f,hv⟩:=yc rfl hv
  split at hr
  .rename_i st C h0 h1;exact tf hr λv h2 e=>Qr hw hf h0 h1 f hv e
  .cases hr
 .obtain⟨u,v,rfl,f,hv⟩:=yc rfl hv
  split at hr
  .rename_i D h0;exact tf hr λv h2 e=>Ts hw h0 f hv e
  .cases hr
 .rename_i x
  obtain⟨u,rfl,f⟩:=oA rfl hv
  split at hr
  .rename_i t h0;refine jx (s:=Builtin.len_ i ty #[u]) hw hr λv e=>?_;cases hl:qG P h t x with|none=>rw[hl]at e;cases e|some n=>rw[hl]at e;simp at e;subst e;exact⟨_,Lq hw h0 f hl,.sc _⟩
  .cases hr
 .rename_i x
  obtain⟨u,rfl,f⟩:=oA rfl hv
  split at hr
  .rename_i t h0;refine jx (s:=Builtin.cap_ i ty #[u]) hw hr λv e=>?_;cases hl:wh P t x with|none=>rw[hl]at e;cases e|some n=>rw[hl]at e;simp at e;subst e;exact⟨_,Lr h0 f hl,.sc _⟩
  .cases hr
 .rename_i m k
  obtain⟨u,v,rfl,f,hv⟩:=yc rfl hv
  split at hr
  .rename_i t h0;cases hd:yz P h t m k with|none=>rw[hd]at hr;cases hr|some h2=>rw[hd]at hr;simp only[Option.map_some,ab,an]at hr;obtain⟨rfl,rfl⟩:=hr;exact Rc hw h0 f hv hd
  .cases hr
 .obtain⟨u,rfl,f⟩:=oA rfl hv
  split at hr
  .rename_i o d hd
   cases f with
   |map hB=>
    split at hr
    .rename_i es clock hg;simp only[ab,an]at hr;obtain⟨rfl,rfl⟩:=hr;exact R6 hw hd hB hg
    .cases hr
  .cases hr
 .obtain⟨u,rfl,f⟩:=oA rfl hv
  split at hr
  .simp only[ab,an]at hr;obtain⟨rfl,rfl⟩:=hr;have l:=f;cases f with|iface hi=>refine⟨rfl,_,?_,l⟩;simp only[builtin,Instr.panic];rfl
  .simp only[ab,an]at hr;obtain⟨rfl,rfl⟩:=hr;have l:=f;cases f;refine⟨rfl,_,?_,l⟩;simp only[builtin,Instr.panic];rfl
  .cases hr
 .simp only[ab,an]at hr;obtain⟨rfl,rfl⟩:=hr;match vs,hv with|[],_=>exact⟨rfl,rfl⟩
 .split at hr
  .rename_i us j
   split at hr
   .rename_i u hp;simp only[ab,an]at hr;obtain⟨rfl,rfl⟩:=hr;rw[rG j hv];exact bh.same hw (l3 hp w) (VR.bn u)
   .cases hr
  .cases hr
 .split at hr
  .rename_i us j
   split at hr
   .rename_i u hp;simp only[ab,an]at hr;obtain⟨rfl,rfl⟩:=hr;rw[rG j hv];exact bh.same hw (l3 hp w) (VR.bn u)
   .cases hr
  .cases hr
 .obtain⟨u,rfl,f⟩:=oA rfl hv
  have p:builtin .unsafeSliceData i ty cs [u].toArray=(do pure (.value (<-Builtin.unsafeSliceData_ i ty #[u]))):=rfl
  rw[p]
  split at hr
  .simp only[ab,an]at hr;obtain⟨rfl,rfl⟩:=hr;cases f;exact bh.same hw (x:=.pointer none) rfl (.sc _)
  .split at hr
   .rename_i hc
    simp only[ab,an]at hr
    obtain⟨rfl,rfl⟩:=hr
    cases f with
    |sl hB p1 p2 p3=>
     rename_i o ad n off sz len cap b s c
     have z:c≠0:=by
      rcases hc with hc|hc
      .omega
      .cases cap with|none=>simp[mf]at hc|some k=>have:=p3 k rfl;simp[mf]at hc;omega
     refine bh.same hw (x:=.pointer (some ⟨b,off,none⟩)) ?_ (.ref hB);have q:Builtin.unsafeSliceData_ i ty #[.slice (some ⟨b,off,none⟩) len c]=(do if c≠0 then pure (.pointer (some ⟨b,off,none⟩))else if(<-viewAt b).isSome then pure (.pointer (some ⟨b,off,none⟩))else pure (.pointer (some ⟨<-newObj (.view ⟨b,off,none⟩ (<-elemOf ty)),0,none⟩))):=rfl;rw[q];simp[z]
   .cases hr
  .cases hr
 .obtain⟨u,v,rfl,f,hv⟩:=yc rfl hv
  split at hr
  .rename_i pt h0;exact tf hr λv h2 e=>Pj hw h0 f hv e
  .cases hr
 .cases hr
end
end Go.AI
end

section
namespace Go.AI
section
variable {P:Program}{h h':AHeap}{g:Gh}{w:World}
theorem VR.mc{v u:Value}(h:VR g (.sc v) u):u=v:=by cases h;rfl
theorem aE.ops{ρ:Operand->AV}{aI:Operand->Value}(b:∀x,VR g (ρ x) (aI x))(l:Array Operand):aE g (l.toList.map ρ) (l.map aI).toList:=by rw[Array.toList_map];exact aE.map ρ aI b l.toList
theorem DH{x:AV}{v:Value}{fn:Fn}{a c:List AV}(hx:VR g x v)(hr:nL x=some (fn,a,c)):∃a' c':Array Value,v=.func fn a' c'/\aE g a a'.toList/\aE g c c'.toList:=by
 unfold nL at hr
 split at hr
 .simp only[ab,an]at hr;obtain⟨rfl,rfl,rfl⟩:=hr;exact VR.uI.1 hx
 .simp only[ab,an]at hr;obtain⟨rfl,rfl,rfl⟩:=hr;cases hx;exact⟨_,_,rfl,aE.tS _,aE.tS _⟩
 .cases hr
theorem Tu{ρ:Operand->AV}{aI:Operand->Value}{c:Call}{ty:TypeId}{r:dJ}(hP:cZ P)(hw:W h g w)(hf:∀v,g.B h.next v=none)(j:∀x,VR g (ρ x) (aI x))
 (hr:iB P h ρ c ty=some (r,h')):bh P h g w (do let d<-resolve aI c ty;invoke d.target d.args) r h':=by
 unfold iB at hr
 have i:=aE.ops j c.args
 split at hr
 .rename_i b hc
  have:=Qv (cs:=c.args.map λ|.const _=>true|_=>false) hw hf i hr
  have e:(do let d<-resolve aI c ty;invoke d.target d.args:Sem Next)=builtin b c.argTypes ty (c.args.map λ|.const _=>true|_=>false) (c.args.map aI):=by unfold resolve;rw[hc];rfl
  rw[e];rwa[Array.toArray_toList]at this
 .cases hr
 .rename_i f hc
  split at hr
  .rename_i l hl
   simp only[ab,an]at hr
   obtain⟨rfl,rfl⟩:=hr
   have hx:=j f
   rw[hl]at hx
   cases hv:aI f with
   |func fn a p=>
    rw[hv]at hx
    cases hx with
    |e9 hB=>
     rename_i b s n
     refine⟨rfl,b,s,n,(c.args.map aI).toList,hB,i,?_⟩
     have e:(do let d<-resolve aI c ty;invoke d.target d.args:Sem Next)=Instr.yield b (#[]++c.args.map aI):=by unfold resolve;rw[hc];dsimp only;rw[hv];rfl
     rw[e,Array.toArray_toList,Array.empty_append]
   |_=>rw[hv]at hx;cases hx
  .split at hr
   .rename_i fn first cap m
    obtain⟨a',c',hv,h1,h2⟩:=DH (j f) m
    unfold yA at hr
    split at hr
    .rename_i k
     have e:(do let d<-resolve aI c ty;invoke d.target d.args:Sem Next)=callFunc k ((a'++c.args.map aI)++c'):=by unfold resolve;rw[hc];dsimp only;rw[hv];rfl
     rw[e];have:=Cq (vs:=(a'.toList++(c.args.map aI).toList)++c'.toList) hP hw hf ((h1.append i).append h2) hr;have o:((a'.toList++(c.args.map aI).toList)++c'.toList).toArray=(a'++c.args.map aI)++c':=Array.ext' (by simp);rwa[o]at this
    .cases hr
   .cases hr
theorem R7{ρ:Operand->AV}{aI:Operand->Value}{c:Call}{ty:TypeId}{r:dJ}(i:∀x,VR g (ρ x) (aI x))
 (hr:u2 h ρ c=some (r,h')):bh P h g w (do pure (.defer (<-resolve aI c ty))) r h':=by
 unfold u2 at hr
 have b:=aE.ops i c.args
 split at hr
 .rename_i f hc
  split at hr
  .rename_i fn first cap j
   simp only[ab,an]at hr
   obtain⟨rfl,rfl⟩:=hr
   obtain⟨a',c',hv,h1,h2⟩:=DH (i f) j
   refine⟨rfl,{target:=.fn fn c',args:=a'++c.args.map aI},?_,c'.toList,a'.toList++(c.args.map aI).toList,by simp,h2,h1.append b⟩
   have e:resolve aI c ty=pure {target:=.fn fn c',args:=a'++c.args.map aI}:=by unfold resolve;rw[hc];dsimp only;rw[hv];rfl
   rw[e];rfl
  .cases hr
 .cases hr
theorem oL{ρ:Operand->AV}{aI:Operand->Value}{o:Oper}{r:dJ}(hP:cZ P)(hw:W h g w)(hf:∀v,g.B h.next v=none)(j:∀x,VR g (ρ x) (aI x))
 (hr:aU P ρ o h=some (r,h')):bh P h g w (execOp aI o) r h':=by
 obtain⟨dst,op,type,pos,after,guard⟩:=o
 cases op<;>simp only[aU]at hr<;>simp only[execOp]<;>first|(cases hr;done)|skip
 case move x=>simp only[ab,an]at hr;obtain⟨rfl,rfl⟩:=hr;exact bh.same hw rfl (j x)
 case assign x=>simp only[ab,an]at hr;obtain⟨rfl,rfl⟩:=hr;exact bh.same hw rfl (j x)
 case pick c a b=>
  have hc:=j c
  split at hr
  .rename_i t G;simp only[ab,an]at hr;obtain⟨rfl,rfl⟩:=hr;rw[G]at hc;have hv:aI c=.bool t:=VR.mc hc;rw[hv];cases t with|true=>exact bh.same hw rfl (j a)|false=>exact bh.same hw rfl (j b)
  .cases hr
 case alloc e=>
  split at hr
  .rename_i z hz
   split at hr
   .simp only[ab,an]at hr;obtain⟨rfl,rfl⟩:=hr;exact R4 hw hf hz
   .cases hr
  .cases hr
 case box e x=>
  split at hr
  .rename_i hc;simp only[ab,an]at hr;obtain⟨rfl,rfl⟩:=hr;exact U5 hw hf (j x) hc
  .cases hr
 case build t parts=>exact jx hw hr λv e=>IJ e (by rw[Array.toList_map];exact mb.map j _)
 case buildSlice t len parts=>exact tf hr λv h2 e=>PJ hw hf e (by rw[Array.toList_map];exact mb.map j _)
 case load t a=>exact jx hw hr λv e=>C5 hw e (j a)
 case store t a x=>cases hs:qh P h t (ρ a) (ρ x)with|none=>rw[hs]at hr;cases hr|some h2=>rw[hs]at hr;simp only[Option.map_some,ab,an]at hr;obtain⟨rfl,rfl⟩:=hr;exact R5 hw (j a) (j x) hs
 case nilCheck x=>
  have hx:=j x
  split at hr
  .rename_i q;simp only[ab,an]at hr;obtain⟨rfl,rfl⟩:=hr;have C:=hx;rw[q]at hx;cases hv:aI x with|pointer p=>rw[hv]at hx C;cases hx;exact bh.same hw rfl C|_=>rw[hv]at hx;cases hx
  .rename_i q;simp only[ab,an]at hr;obtain⟨rfl,rfl⟩:=hr;have C:=hx;rw[q]at hx;cases hv:aI x with|pointer p=>rw[hv]at hx C;cases hx;exact bh.same hw rfl C|_=>rw[hv]at hx;cases hx
  .rename_i f a c q;simp only[ab,an]at hr;obtain⟨rfl,rfl⟩:=hr;rw[q]at hx;obtain⟨a',c',hv,h1,h2⟩:=VR.uI.1 hx;rw[hv];exact bh.same hw rfl (by rw[<-hv];exact hx)
  .rename_i l q;simp only[ab,an]at hr;obtain⟨rfl,rfl⟩:=hr;rw[q]at hx;cases hv:aI x with|func fn a J=>rw[hv]at hx;have C:=hx;cases hx;exact bh.same hw rfl C|_=>rw[hv]at hx;cases hx
  .rename_i f a c q;simp only[ab,an]at hr;obtain⟨rfl,rfl⟩:=hr;rw[q]at hx;have hv:aI x=.func (.func f) a c:=VR.mc hx;rw[hv];exact bh.same hw rfl (.sc _)
  .rename_i t v q;simp only[ab,an]at hr;obtain⟨rfl,rfl⟩:=hr;rw[q]at hx;cases hv:aI x with|iface t' u=>rw[hv]at hx;have C:=hx;cases hx;exact bh.same hw rfl C|_=>rw[hv]at hx;cases hx
  .cases hr
 case binOp op xt x y yt=>exact jx hw hr λv e=>Lo (j x) (j y) e
 case unOp op xt x=>
  split at hr
  .rename_i v hv;rw[pZ hv (j x)];exact jx hw hr λv e=>DG e
  .cases hr
 case convert s d x=>exact tf hr λv h2 e=>Qt hw hf (j x) e
 case makeInterface t x=>
  split at hr
  .cases hr
  .rename_i d hd D
   simp only[ab,an]at hr
   obtain⟨rfl,rfl⟩:=hr
   refine bh.same hw ?_ (.iface (j x))
   have:(Instr.makeInterface t (aI x)).run P w=.ok (.iface t (aI x)) w:=by unfold Instr.makeInterface;simp only[Sem.run_bind,run_underlying D,Result.andThen_ok];cases d<;>first|(exact absurd rfl (hd _))|rfl
   simp[this]
  .cases hr
 case makeFunc fn first captured=>simp only[ab,an]at hr;obtain⟨rfl,rfl⟩:=hr;exact bh.same hw rfl (VR.uI.2 ⟨_,_,rfl,aE.ops j _,aE.ops j _⟩)
 case makeMap t r0=>
  split at hr
  .simp only[ab,an]at hr;obtain⟨rfl,rfl⟩:=hr;exact Hv hw hf (.inl rfl)
  .rename_i x k e D
   have hx:=j x
   split at hr
   .rename_i n i q;simp only[ab,an]at hr;obtain⟨rfl,rfl⟩:=hr;rw[q]at hx;have hv:aI x=.int n i:=VR.mc hx;exact Hv hw hf (.inr ⟨k,e,n,i,D,by simp[hv]⟩)
   .cases hr
  .cases hr
 case makeSlice t l c=>exact tf hr λv h2 e=>PO hw hf (j l) (j c) e
 case slice t x lo hi mx=>exact jx hw hr λv e=>IM (j x) (kb.map j lo) (kb.map j hi) (kb.map j mx) e
 case fieldAddr s x f=>exact jx hw hr λv e=>G1 (j x) e
 case field t x f=>exact jx hw hr λv e=>IG (j x) e
 case indexAddr t x i=>exact jx hw hr λv e=>G2 (j x) (j i) e
 case index t x i=>exact jx hw hr λv e=>II (j x) (j i) e
 case lookup t x i ok=>exact jx hw hr λv e=>HT hw (j x) (j i) e
 case mapUpdate t m k x=>cases hs:uq P h t (ρ m) (ρ k) (ρ x)with|none=>rw[hs]at hr;cases hr|some h2=>rw[hs]at hr;simp only[Option.map_some,ab,an]at hr;obtain⟨rfl,rfl⟩:=hr;exact G3 hw (j m) (j k) (j x) hs
 case insert t m k x=>cases hs:uq P h t (ρ m) (ρ k) (ρ x)with|none=>rw[hs]at hr;cases hr|some h2=>rw[hs]at hr;simp only[Option.map_some,ab,an]at hr;obtain⟨rfl,rfl⟩:=hr;exact G3 hw (j m) (j k) (j x) hs
 case range t x=>
  have hx:=j x
  split at hr
  .rename_i s D q;simp only[ab,an]at hr;obtain⟨rfl,rfl⟩:=hr;rw[q]at hx;have hv:aI x=.string s:=VR.mc hx;rw[hv];exact Pe hw hf D
  .rename_i k e D q;simp only[ab,an]at hr;obtain⟨rfl,rfl⟩:=hr;rw[q]at hx;have hv:aI x=.map none:=VR.mc hx;rw[hv];exact PQ hw hf D
  .rename_i k e m D q
   rw[q]at hx
   cases hv:aI x with
   |map r=>
    rw[hv]at hx
    cases hx with
    |map hB=>
     split at hr
     .rename_i es clock hg;simp only[ab,an]at hr;obtain⟨rfl,rfl⟩:=hr;exact PR hw hf D hB hg
     .cases hr
   |_=>rw[hv]at hx;cases hx
  .cases hr
 case next it str=>
  have hx:=j it
  cases str with
  |true=>
   simp only at hr
   split at hr
   .rename_i o q
    rw[q]at hx
    cases hv:aI it with
    |pointer p=>
     rw[hv]at hx
     cases hx with
     |ref hB=>
      split at hr
      .rename_i s pos hg
       split at hr
       .rename_i E;simp only[ab,an]at hr;obtain⟨rfl,rfl⟩:=hr;exact Pq hw hB hg E
       .rename_i E;simp only[ab,an]at hr;obtain⟨rfl,rfl⟩:=hr;exact PS hw hB hg E
      .cases hr
    |_=>rw[hv]at hx;cases hx
   .cases hr
  |false=>
   simp only at hr
   split at hr
   .rename_i o q
    rw[q]at hx
    cases hv:aI it with
    |pointer p=>
     rw[hv]at hx
     cases hx with
     |ref hB=>
      rename_i b s
      split at hr
      .rename_i since seen last hg;simp only[ab,an]at hr;obtain⟨rfl,rfl⟩:=hr;exact P8 hw hB hg
      .rename_i m since seen last hg
       split at hr
       .rename_i es clock F
        obtain⟨I,q1,b',s',n',q2,rfl⟩:=hw.obj o _ hg b s 0 hB
        split at hr
        .cases hr
        .rename_i aS;exact P9 hw hB hg q2 F (by simpa using aS) hr
       .cases hr
      .cases hr
    |_=>rw[hv]at hx;cases hx
   .cases hr
 case typeAssert x xt a ok=>exact jx hw hr λv e=>HV (j x) e
 case extract t i=>
  have hx:=j t
  split at hr
  .rename_i vs q
   rw[q]at hx
   obtain⟨us,hv,h1⟩:=VR.fZ.1 hx
   rw[hv]
   refine jx hw hr λv e=>?_
   have hi:i<us.size:=by
    have:=h1.length
    have h2:i<vs.length:=by
     rcases Nat.lt_or_ge i vs.length with h'|h'
     .exact h'
     .rw[List.getElem?_eq_none h']at e;cases e
    simp at this;omega
   refine⟨us[i],by simp[Instr.extract,hi],h1.get i v us[i] e (by simp[hi])⟩
  .cases hr
 case call c=>exact Tu hP hw hf j hr
 case defer c=>exact R7 j hr
 case panic x=>
  have hx:=j x
  split at hr
  .rename_i t v q;simp only[ab,an]at hr;obtain⟨rfl,rfl⟩:=hr;rw[q]at hx;cases hv:aI x with|iface t' u=>rw[hv]at hx;exact⟨rfl,_,rfl,hx⟩|_=>rw[hv]at hx;cases hx
  .rename_i t v q;simp only[ab,an]at hr;obtain⟨rfl,rfl⟩:=hr;rw[q]at hx;have hv:aI x=.iface t v:=VR.mc hx;rw[hv];exact⟨rfl,_,rfl,.sc _⟩
  .cases hr
end
end Go.AI
end
