/-
  A part of the proof: AiOp1 AiOp2 AiOp3 AiOp4 AiOp4z AiOp5.
-/
import Derived.Laws.Tables
import Derived.Laws.MakeOwn
import Derived.Laws.AppendOwn
import Derived.IntWalk
import Derived.Test.YtidicphjlgjajaaGreatDoorAa
set_option linter.all false

section
namespace Go.AI
def tI(g:Gh):ep->Deferred->Prop|.fn f cap args,d=>∃e c:List Value,d={target:=.fn f e.toArray,args:=c.toArray}/\aE g cap e/\aE g args c|.dK o,d=>∃b s n,g.B o 0=some (b,s,n)/\d={target:=.collected b,args:=#[]}
theorem tI.mono{g g':Gh}(hl:g.Le g'){d:ep}{d':Deferred}(h:tI g d d'):tI g' d d':=by cases d with|fn f cap args=>obtain⟨a,b,e,h1,h2⟩:=h;exact⟨a,b,e,h1.mono hl,h2.mono hl⟩|dK o=>obtain⟨b,s,n,h1,h2⟩:=h;exact⟨b,s,n,hl.b _ _ _ h1,h2⟩
def bh(P:Program)(h:AHeap)(g:Gh)(w:World)(s:Sem Next)(r:dJ)(h':AHeap):Prop:=match r with|.val v=>∃g' w' x,s.run P w=.ok (.value x) w'/\VR g' v x/\W h' g' w'/\Step h g w h' g' w'|.skip=>∃g' w',s.run P w=.ok .skip w'/\W h' g' w'/\Step h g w h' g' w'|.enter f args=>h'=h/\∃vs:List Value,s.run P w=.ok (.enter f vs.toArray) w/\aE g args vs|.round l args=>h'=h/\∃b k n,∃vs:List Value,g.B l 0=some (b,k,n)/\aE g args vs/\s.run P w=(Instr.yield b vs.toArray).run P w|.defer d=>h'=h/\∃d',s.run P w=.ok (.defer d') w/\tI g d d'|.panic v=>h'=h/\∃x,s.run P w=.halt (.panic x) w/\VR g v x|.vw=>h'=h/\s.run P w=.ok .recover w
section
variable {P:Program}{h h':AHeap}{g:Gh}{w:World}
theorem bh.same{s:Sem Next}{v:AV}{x:Value}(hw:W h g w)(hr:s.run P w=.ok (.value x) w)(hv:VR g v x):bh P h g w s (.val v) h:=⟨g,w,x,hr,hv,hw,.refl h g w⟩
theorem jx{s:Sem Value}{b:Option AV}{r:dJ}(hw:W h g w)(e:val h b=some (r,h'))(hs:∀v,b=some v->∃x,s.run P w=.ok x w/\VR g v x):bh P h g w (do pure (.value (<-s))) r h':=by unfold val at e;cases b with|none=>cases e|some v=>simp only[Option.map_some,ab,an]at e;obtain⟨rfl,rfl⟩:=e;obtain⟨x,h1,h2⟩:=hs v rfl;exact bh.same hw (by simp[h1]) h2
theorem C6{x:AV}{v:Value}(hc:(bm x).all ez=true)(hr:VR g x v):aE g (bm x) v.cells.toList:=by
 by_cases hx:∃a,x=.agg a
 .obtain⟨a,rfl⟩:=hx;obtain⟨cs,rfl,eY⟩:=VR.lq.1 hr;exact eY
 .have e:bm x=[x]:=by cases x<;>first|rfl|exact absurd ⟨_,rfl⟩ hx
  rw[e]at hc⊢
  have h1:=Hr (by simpa using hc) hr
  have:v.cells=#[v]:=by cases v<;>simp_all[Value.cells,Value.oneCell']
  rw[this];exact⟨hr,trivial⟩
theorem oj{z:AV}{v:Value}(h:z=bn v):aE g (bm z) v.cells.toList:=by subst h;cases v with|agg cs=>exact aE.tS _|tuple cs=>exact⟨VR.bn _,trivial⟩|_=>exact⟨.sc _,trivial⟩
theorem Lm{cells:List AV}{vs:Array Value}{t:TypeId}(hw:W h g w)(hf:∀v,g.B h.next v=none)(hv:aE g cells vs.toList):
 ∃g',g'.B h.next 0=some (w.heap.size,cells.length,cells.length)/\W (h.alloc (.cells 0 0 cells 0 t true false)) g' (w.alloc (.cells vs t))/\Step h g w (h.alloc (.cells 0 0 cells 0 t true false)) g' (w.alloc (.cells vs t)):=by
 have c:vs.size=cells.length:=by simpa using hv.length.symm
 refine⟨g.er h.next 0 (w.heap.size,cells.length,cells.length),Gh.iy _ _ _ _,?_⟩
 refine p0 hw hf rfl ⟨λv hv=>?_,?_⟩
 .cases e:(g.er h.next 0 (w.heap.size,cells.length,cells.length)).B h.next v with
  |none=>rfl
  |some y=>
   rcases Gh.ei e with⟨_,f,_⟩|f
   .omega
   .rw[hf v]at f;cases f
 intro v h1 h2 b s n hb
 obtain rfl:v=0:=by omega
 rw[Gh.iy]at hb
 simp only[ab,an]at hb
 obtain⟨rfl,rfl,rfl⟩:=hb
 refine⟨λ_=>rfl,vs,(0,0),⟨lg _ _,c,ak _,ak _,λ_=>rfl,λi _ h3 h4=>by simp at h4,λ_=>.inl rfl,?_⟩⟩
 intro i x hi hx
 have:i<vs.size:=by omega
 refine⟨vs[i],by simp[this],(hv.get i x vs[i] hx (by simp[this])).mono (Gh.l7 (hf 0))⟩
theorem HQ{x:AV}{v:Value}{t:TypeId}(hw:W h g w)(hf:∀v,g.B h.next v=none)(hv:aE g (bm x) v.cells.toList):bh P h g w (do pure (.value (.pointer (some (<-newVar t v))))) (.val (kN h t (bm x)).2) (kN h t (bm x)).1:=by obtain⟨g',h1,h2,h3⟩:=Lm (t:=t) hw hf hv;refine⟨g',_,.pointer (some ⟨w.heap.size,0,none⟩),?_,.ref h1,h2,h3⟩;simp[newVar,newRow]
theorem R4{e:TypeId}{z:AV}(hw:W h g w)(hf:∀v,g.B h.next v=none)(hz:fk P e=some z):bh P h g w (do pure (.value (<-Instr.alloc e true (.tuple #[])))) (.val (kN h e (bm z)).2) (kN h e (bm z)).1:=by obtain⟨v,h1,h2⟩:=xq hz w;obtain⟨g',w',x,h3,h4⟩:=HQ (P:=P) (x:=z) (v:=v) (t:=e) hw hf (oj h2);refine⟨g',w',x,?_,h4⟩;rw[<-h3];simp[Instr.alloc,h1]
theorem U5{e:TypeId}{x:AV}{v:Value}(hw:W h g w)(hf:∀v,g.B h.next v=none)(hx:VR g x v)(hc:(bm x).all ez=true):bh P h g w (do pure (.value (<-Instr.box e v))) (.val (kN h e (bm x)).2) (kN h e (bm x)).1:=by obtain⟨g',w',y,h3,h4⟩:=HQ (P:=P) (x:=x) (v:=v) (t:=e) hw hf (C6 hc hx);refine⟨g',w',y,?_,h4⟩;rw[<-h3];simp[Instr.box]
theorem adg{x:AV}(h:∀a,x≠.agg a):bm x=[x]:=by cases x<;>first|rfl|exact absurd rfl (h _)
theorem R5{t:TypeId}{x y:AV}{a v:Value}(hw:W h g w)(hx:VR g x a)(hy:VR g y v)(hr:qh P h t x y=some h'):
 bh P h g w (do Instr.storeAt t a v;pure .skip) .skip h':=by
 unfold qh at hr
 split at hr
 .rename_i s o ad n off hs
  split at hr
  .rename_i hlen
   cases hx with
   |ref hb=>
    rename_i b sz
    have e:(bm y).all ez=true:=by
     unfold ll at hr
     split at hr
     .split at hr
      .rename_i hc;exact hc.2.2.2.2
      .cases hr
     .cases hr
    have c:=C6 e hy
    obtain⟨w',h1,h2,h3⟩:=CA (P:=P) hw hr hb c
    refine⟨g,w',?_,h2,h3⟩
    have f:v.cells.size=s:=by rw[<-hlen];simpa using c.length.symm
    simp only[Instr.storeAt,Instr.sureAddr,storeVar,Sem.run_bind,Sem.run_pure,Result.andThen_ok,run_sizeOf hs,f,ne_eq,not_true_eq_false,if_false,h1]
  .cases hr
 .cases hr
theorem IF{t:TypeId}{cs:List AV}{vs:Array Value}{off:Nat}{y:AV}(hr:apart P t cs off=some y)(hv:aE g cs vs.toList):
 ∃u,(part t vs off).run P w=.ok u w/\VR g y u:=by
 unfold apart at hr
 split at hr
 .rename_i s ha hs
  simp only[ab]at hr;subst hr
  refine⟨.agg (vs.extract off (off+s)),?_,?_⟩
  .simp only[part,Sem.run_bind,xQ ha,Result.andThen_ok,if_true,run_sizeOf hs,Sem.run_pure]
  .refine VR.lq.2 ⟨_,rfl,?_⟩
   have:(vs.extract off (off+s)).toList=(vs.toList.drop off).take s:=by simp[Array.toList_extract,List.extract_eq_take_drop]
   rw[this];exact(hv.drop off).take s
 .rename_i s ha hs
  have h1:cs[off]?=some y:=by rw[<-List.head?_drop];exact hr
  have b:off<vs.size:=by
   have:=hv.length
   have h2:off<cs.length:=by
    rcases Nat.lt_or_ge off cs.length with h'|h'
    .exact h'
    .rw[List.getElem?_eq_none h']at h1;cases h1
   simp at this;omega
  refine⟨vs[off],?_,hv.get off y vs[off] h1 (by simp[b])⟩;simp[part,xQ ha,b]
 .cases hr
theorem IG{t:TypeId}{x y:AV}{v:Value}{f:Nat}(hx:VR g x v)(hr:sD P t x f=some y):
 ∃u,(Instr.field t v f).run P w=.ok u w/\VR g y u:=by
 unfold sD at hr
 split at hr
 .rename_i b cs e
  obtain⟨vs,rfl,hv⟩:=VR.lq.1 hx
  split at hr
  .rename_i fd c;obtain⟨u,h1,h2⟩:=IF (w:=w) hr hv;refine⟨u,?_,h2⟩;simp[Instr.field,run_underlying e,c,asAgg,h1]
  .cases hr
 .cases hr
theorem jS{x:AV}{v:Value}{n:Nat}(hx:VR g x v)(hr:gb x=some n):∃k i,v=.int k i/\0<=i/\i.toNat=n/\i=n:=by
 unfold gb at hr
 split at hr
 .rename_i k i
  split at hr
  .rename_i hi;cases hx;simp at hr;exact⟨k,i,rfl,hi,hr,by omega⟩
  .cases hr
 .cases hr
theorem II{t:TypeId}{x i y:AV}{v u:Value}(hx:VR g x v)(hi:VR g i u)(hr:qi P t x i=some y):
 ∃z,(Instr.index t v u).run P w=.ok z w/\VR g y z:=by
 unfold qi at hr
 split at hr
 .rename_i len e cs c
  obtain⟨vs,rfl,hv⟩:=VR.lq.1 hx
  split at hr
  .rename_i n s hn hs
   split at hr
   .rename_i f;obtain⟨k,j,rfl,h0,h1,h2⟩:=jS hi hn;obtain⟨z,h3,h4⟩:=IF (w:=w) hr hv;refine⟨z,?_,h4⟩;simp only[Instr.index,asIntOf,Sem.run_bind,Sem.run_pure,Result.andThen_ok,run_underlying c];rw[if_pos ⟨h0,by omega⟩];simp only[Sem.run_bind,run_sizeOf hs,Result.andThen_ok,h1,h3]
   .cases hr
  .cases hr
 .rename_i s c
  cases hx
  split at hr
  .rename_i n hn
   obtain⟨k,j,rfl,h0,h1,h2⟩:=jS hi hn
   split at hr
   .rename_i b hb;simp only[ab]at hr;subst hr;refine⟨_,?_,.sc _⟩;simp only[Instr.index,asIntOf,Sem.run_bind,Sem.run_pure,Result.andThen_ok,run_underlying c];rw[if_pos h0,h1,hb];rfl
   .cases hr
  .cases hr
 .cases hr
theorem G1{t:TypeId}{x y:AV}{v:Value}{f:Nat}(hx:VR g x v)(hr:oi P t x f=some y):
 ∃u,(Instr.fieldAt t v f).run P w=.ok u w/\VR g y u:=by
 unfold oi at hr
 split at hr
 .rename_i j k
  split at hr
  .rename_i fd e
   split at hr
   .rename_i s o ad n off hs;simp only[ab]at hr;subst hr;cases hx with|ref hb=>rename_i b sz;refine⟨.pointer (some ⟨b,off+fd.offset,none⟩),?_,.ref hb⟩;simp[Instr.fieldAt,run_underlying k,e,Instr.sureAddr,fieldPlace,run_sizeOf hs,add_eq]
   .rename_i s cells hs
    simp only[ab]at hr;subst hr
    cases hx with
    |cH fn h1 h2=>
     rename_i b off
     refine⟨.pointer (some ⟨b,off+fd.offset,none⟩),?_,.cH (λi=>fn (fd.offset+i)) ?_ ?_⟩
     .simp[Instr.fieldAt,run_underlying k,e,Instr.sureAddr,fieldPlace,run_sizeOf hs,add_eq]
     .intro i x c;rw[List.getElem?_drop]at c;rw[Nat.add_assoc];exact h1 _ x c
     .intro i x c;rw[List.getElem?_drop]at c;exact h2 _ x c
   .cases hr
  .cases hr
 .cases hr
theorem G2{t:TypeId}{x i y:AV}{v u:Value}(hx:VR g x v)(hi:VR g i u)(hr:oh P t x i=some y):
 ∃z,(Instr.indexAt t v u).run P w=.ok z w/\VR g y z:=by
 unfold oh at hr
 split at hr
 .rename_i e n B hn
  obtain⟨k,j,rfl,h0,h1,h2⟩:=jS hi hn
  split at hr
  .rename_i s o ad m off sz len cap hs
   split at hr
   .rename_i hc
    obtain⟨rfl,q⟩:=hc
    simp only[ab]at hr;subst hr
    cases hx with
    |sl hb p1 p2 p3=>
     rename_i b C c
     refine⟨.pointer (some ⟨b,off+n*s,none⟩),?_,.ref hb⟩
     have l:j<(len:Int):=by omega
     simp[Instr.indexAt,asIntOf,run_underlying B,h0,l,run_sizeOf hs,add_eq,h1]
   .cases hr
  .rename_i s cells sz len cap hs
   split at hr
   .rename_i hc
    obtain⟨rfl,q⟩:=hc
    simp only[ab]at hr;subst hr
    cases hx with
    |b9 fn h3 h4 p1 p2 p3=>
     rename_i b off c
     refine⟨.pointer (some ⟨b,off+n*s,none⟩),?_,.cH (λi=>fn (n*s+i)) ?_ ?_⟩
     .have l:j<(len:Int):=by omega
      simp[Instr.indexAt,asIntOf,run_underlying B,h0,l,run_sizeOf hs,add_eq,h1]
     .intro i x f;rw[List.getElem?_drop]at f;rw[Nat.add_assoc];exact h3 _ x f
     .intro i x f;rw[List.getElem?_drop]at f;exact h4 _ x f
   .cases hr
  .rename_i s rows sz hs
   split at hr
   .rename_i hc
    subst hc
    split at hr
    .rename_i r p
     simp only[ab]at hr;subst hr
     have q:n<rows.length:=by
      rcases Nat.lt_or_ge n rows.length with a|a
      .exact a
      .rw[List.getElem?_eq_none a]at p;cases p
     cases hx with
     |hU=>simp at q
     |h9 _=>simp at q
     |aG hl D hp=>
      rename_i b off c
      cases hp with
      |b9 fn h3 h4 p1 p2 p3=>
       refine⟨.pointer (some ⟨b,off+n*s,none⟩),?_,.cH (λi=>fn (n*s+i)) ?_ ?_⟩
       .have l:j<(rows.length:Int):=by omega
        simp[Instr.indexAt,asIntOf,run_underlying B,h0,l,run_sizeOf hs,add_eq,h1]
       .intro i x f;rw[Nat.add_assoc];exact h3 _ x (GR hl p f)
       .intro i x f;exact h4 _ x (GR hl p f)
    .cases hr
   .cases hr
  .cases hr
 .rename_i len e n B hn
  obtain⟨k,j,rfl,h0,h1,h2⟩:=jS hi hn
  split at hr
  .rename_i s o ad m off hs
   split at hr
   .rename_i q
    simp only[ab]at hr;subst hr
    cases hx with
    |ref hb=>
     rename_i b C
     refine⟨.pointer (some ⟨b,off+n*s,none⟩),?_,.ref hb⟩
     have l:j<(len:Int):=by omega
     simp[Instr.indexAt,asIntOf,run_underlying B,Instr.sureAddr,h0,l,run_sizeOf hs,add_eq,h1]
   .cases hr
  .rename_i s cells hs
   split at hr
   .rename_i q
    simp only[ab]at hr;subst hr
    cases hx with
    |cH fn h3 h4=>
     rename_i b off
     refine⟨.pointer (some ⟨b,off+n*s,none⟩),?_,.cH (λi=>fn (n*s+i)) ?_ ?_⟩
     .have l:j<(len:Int):=by omega
      simp[Instr.indexAt,asIntOf,run_underlying B,Instr.sureAddr,h0,l,run_sizeOf hs,add_eq,h1]
     .intro i x f;rw[List.getElem?_drop]at f;rw[Nat.add_assoc];exact h3 _ x f
     .intro i x f;rw[List.getElem?_drop]at f;exact h4 _ x f
   .cases hr
  .cases hr
 .cases hr
end
end Go.AI
end

section
namespace Go.AI
section
variable {P:Program}{h h':AHeap}{g:Gh}{w:World}
def mb(g:Gh):List (Nat×AV)->List (Nat×Value)->Prop|[],[]=>True|(i,x)::xs,(j,v)::vs=>i=j/\VR g x v/\mb g xs vs|_,_=>False
theorem mb.map{ρ:Operand->AV}{aI:Operand->Value}(h:∀x,VR g (ρ x) (aI x)):∀(l:List (Nat×Operand)),mb g (l.map λ(i,x)=>(i,ρ x)) (l.map λ(i,x)=>(i,aI x))|[]=>trivial|(_,x)::l=>⟨rfl,h x,mb.map h l⟩
theorem HR(off:Nat):∀(l:List Value)(k:Nat)(c:Array Value),off+k+l.length<=c.size->
 ((l.zipIdx k).foldl (λcs(x:Value×Nat)=>cs.setIfInBounds (off+x.2) x.1) c).size=c.size/\
 ∀i:Nat,((l.zipIdx k).foldl (λcs(x:Value×Nat)=>cs.setIfInBounds (off+x.2) x.1) c)[i]?=if off+k<=i/\i<off+k+l.length then l[i-(off+k)]? else c[i]?
 |[],k,c,_=>by simp;intro i h1 h2;omega
 |v::l,k,c,hs=>by
  have b:off+k+(l.length+1)<=c.size:=hs
  simp only[List.zipIdx_cons,List.foldl_cons]
  obtain⟨h1,h2⟩:=HR off l (k+1) (c.setIfInBounds (off+k) v) (by simp;omega)
  refine⟨by simpa using h1,λi=>?_⟩
  rw[h2 i]
  by_cases h3:off+k=i
  .subst h3
   rw[if_neg (by omega),if_pos (by simp)]
   have:off+k<c.size:=by omega
   simp[this]
  .rw[Array.getElem?_setIfInBounds_ne h3]
   by_cases h4:off+(k+1)<=i/\i<off+(k+1)+l.length
   .rw[if_pos h4,if_pos (by simp;omega)]
    have:i-(off+k)=(i-(off+(k+1)))+1:=by omega
    rw[this];simp
   .rw[if_neg h4,if_neg (by simp;omega)]
theorem uJ{place:Nat->Option (Nat×Nat)}:∀{parts:List (Nat×AV)}{b:List (Nat×Value)}{z cells:List AV}{zc:Array Value},
 jz place z parts=some cells->mb g parts b->aE g z zc.toList->∃m:Array Value,Instr.fill place zc b=some m/\aE g cells m.toList
 |[],[],z,cells,zc,hr,_,hz=>by simp[jz]at hr;subst hr;exact⟨zc,rfl,hz⟩
 |(i,x)::xs,(j,v)::vs,z,cells,zc,hr,hp,hz=>by
  obtain⟨rfl,hx,hp⟩:=hp
  simp only[jz]at hr
  cases c:place i with
  |none=>rw[c]at hr;cases hr
  |some p=>
   obtain⟨off,size⟩:=p
   rw[c]at hr
   simp only at hr
   split at hr
   .rename_i hc
    obtain⟨h1,h2,h3⟩:=hc
    have hv:=C6 h3 hx
    have hl:=hv.length
    have l:=hz.length
    simp only[Array.length_toList]at hl l
    obtain⟨hs,hg⟩:=HR off v.cells.toList 0 zc (by simp;omega)
    simp only[Instr.fill,c]
    rw[if_neg (by simp;omega)]
    have e:(v.cells.zipIdx.foldl (λcs(x:Value×Nat)=>cs.setIfInBounds (off+x.2) x.1) zc)=(v.cells.toList.zipIdx.foldl (λcs(x:Value×Nat)=>cs.setIfInBounds (off+x.2) x.1) zc):=by rw[<-Array.foldl_toList];simp
    refine uJ hr hp ?_
    rw[e]
    refine aE.of (by simp only[ub _ _ _ h2,Array.length_toList];omega) ?_
    intro k y u hy f
    rw[Hs _ _ _ h2]at hy
    rw[Array.getElem?_toList,hg k]at f
    simp only[Nat.add_zero,Array.length_toList]at f
    by_cases h4:off<=k/\k<off+(bm x).length
    .rw[if_pos h4]at hy;rw[if_pos (by omega)]at f;exact hv.get _ _ _ hy f
    .rw[if_neg h4]at hy;rw[if_neg (by omega)]at f;exact hz.get _ _ _ hy (by simpa using f)
   .cases hr
 |[],_::_,_,_,_,_,hp,_=>hp.elim|(_,_)::_,[],_,_,_,_,hp,_=>hp.elim
theorem IJ{t:TypeId}{parts:List (Nat×AV)}{b:Array (Nat×Value)}{y:AV}(hr:sE P t parts=some y)(hp:mb g parts b.toList):
 ∃u,(Instr.build t b).run P w=.ok u w/\VR g y u:=by
 unfold sE at hr
 split at hr
 .rename_i it n e hit j
  split at hr
  .rename_i z m hz l;cases hf:jz (λi=>some (i*m.size,m.size)) (bm (bn z)) parts with|none=>rw[hf]at hr;cases hr|some cells=>rw[hf]at hr;simp at hr;subst hr;obtain⟨c,h1,h2⟩:=uJ hf hp (oj rfl);refine⟨.agg c,run_build w t b c ?_,VR.lq.2 ⟨c,rfl,h2⟩⟩;unfold Program.built;simp only[hit,j,hz,l];exact h1
  .cases hr
 .rename_i it f hit j
  split at hr
  .rename_i z places hz k;cases hf:jz (λi=>places[i]?) (bm (bn z)) parts with|none=>rw[hf]at hr;cases hr|some cells=>rw[hf]at hr;simp at hr;subst hr;obtain⟨c,h1,h2⟩:=uJ hf hp (oj rfl);refine⟨.agg c,run_build w t b c ?_,VR.lq.2 ⟨c,rfl,h2⟩⟩;unfold Program.built;simp only[hit,j,hz,k,List.getElem?_toArray];exact h1
  .cases hr
 .cases hr
theorem C7{z:List AV}{zc:Array Value}(hz:aE g z zc.toList)(_hs:0<zc.size):∀n:Nat,aE g (hT z n) ((Array.range (n*zc.size)).map (λi=>zc[i%zc.size]!)).toList:=by
 have key:∀n:Nat,aE g (hT z n) ((List.range (n*zc.size)).map (λi=>zc[i%zc.size]!)):=by
  intro n
  induction n with
  |zero=>simp[hT,aE]
  |succ n ih=>
   have b:(List.range ((n+1)*zc.size)).map (λi=>zc[i%zc.size]!)=zc.toList++(List.range (n*zc.size)).map (λi=>zc[i%zc.size]!):=by
    have e:(n+1)*zc.size=zc.size+n*zc.size:=by rw[Nat.add_mul];omega
    rw[e,List.range_add,List.map_append,List.map_map]
    congr 1
    .apply List.ext_getElem
     .simp
     .intro i h1 h2;simp at h1 h2;simp[Nat.mod_eq_of_lt h1,h1]
    .apply List.map_congr_left;intro i _;simp
   rw[b];exact hz.append ih
 intro n;have:=key n;simpa using this
theorem rr(z:List AV):∀n:Nat,(hT z n).length=n*z.length|0=>by simp[hT]|n+1=>by simp[hT,rr z n,Nat.add_mul];omega
theorem Co{cells:List AV}{vs:Array Value}{e:TypeId}{s len c:Nat}(hw:W h g w)(hf:∀v,g.B h.next v=none)(hv:aE g cells vs.toList)(hl:cells.length=c*s)(hlen:len<=c){t:Sem Value}(hr:t.run P w=.ok (.slice (some ⟨w.heap.size,0,none⟩) len c) (w.alloc (.cells vs e))):bh P h g w (do pure (.value (<-t))) (.val (.sl h.next 0 cells.length 0 s len (some c))) (h.alloc (.cells 0 0 cells 0 e true false)):=by obtain⟨g',h1,h2,h3⟩:=Lm (t:=e) hw hf hv;refine⟨g',_,.slice (some ⟨w.heap.size,0,none⟩) len c,by simp[hr],.sl h1 (by omega) hlen (by simp),h2,h3⟩
theorem PJ{t:TypeId}{len:Nat}{parts:List (Nat×AV)}{f:Array (Nat×Value)}{y:AV}(hw:W h g w)(hf:∀v,g.B h.next v=none)
 (hr:ui P h t len parts=some (y,h'))(hp:mb g parts f.toList):bh P h g w (do pure (.value (<-Instr.buildSlice t len f))) (.val y) h':=by
 unfold ui at hr
 split at hr
 .rename_i e q
  split at hr
  .rename_i s z hs hz
   split at hr
   .rename_i hc
    obtain⟨C,n⟩:=hc
    split at hr
    .rename_i cells b
     split at hr
     .rename_i u
      simp only[ab,an]at hr
      obtain⟨rfl,rfl⟩:=hr
      obtain⟨v,hv,rfl⟩:=xq hz w
      have k:aE g (bm (bn v)) v.cells.toList:=oj rfl
      have l:v.cells.size=s:=by have:=k.length;simp at this;omega
      have hlen:cells.length=len*s:=by
       have:∀{place:Nat->Option (Nat×Nat)}(ps:List (Nat×AV))(z c:List AV),jz place z ps=some c->c.length=z.length:=by
        intro place ps
        induction ps with
        |nil=>intro z c h;simp[jz]at h;rw[h]
        |cons p ps ih=>
         intro z c h
         obtain⟨i,x⟩:=p
         simp only[jz]at h
         split at h
         .cases h
         .split at h
          .rename_i o;rw[ih _ _ h,ub _ _ _ o.2.1]
          .cases h
       rw[this _ _ _ b,rr,n]
      by_cases h0:len*s=0
      .have j:aE g (hT (bm (bn v)) len) ((Array.range (len*s)).map (λi=>(#[]:Array Value)[i%(#[]:Array Value).size]!)).toList:=by have hl:=rr (bm (bn v)) len;rw[n,h0]at hl;rw[List.length_eq_zero_iff.1 hl,h0];simp[aE]
       obtain⟨D,h1,h2⟩:=uJ b hp j;refine Co hw hf h2 hlen (ak _) ?_;simp only[Instr.buildSlice,Sem.run_bind,run_underlying q,Result.andThen_ok,run_sizeOf hs];rw[if_neg (by simp;omega),if_pos h0];simp only[Sem.run_bind,Sem.run_pure,Result.andThen_ok,h1,newRow,run_newObj];rfl
      .have j:aE g (hT (bm (bn v)) len) ((Array.range (len*s)).map (λi=>v.cells[i%v.cells.size]!)).toList:=by
        have m:0<v.cells.size:=by rw[l];exact Nat.pos_of_ne_zero λe=>h0 (by simp[e])
        have:=C7 k m len;rw[l]at this⊢;exact this
       obtain⟨D,h1,h2⟩:=uJ b hp j;refine Co hw hf h2 hlen (ak _) ?_;simp only[Instr.buildSlice,Sem.run_bind,run_underlying q,Result.andThen_ok,run_sizeOf hs];rw[if_neg (by simp;omega),if_neg h0];simp only[Sem.run_bind,hv,Sem.run_pure,Result.andThen_ok,h1,newRow,run_newObj];rfl
     .cases hr
    .cases hr
   .cases hr
  .cases hr
 .cases hr
end
end Go.AI
end

section
namespace Go.AI
section
variable {P:Program}{h h':AHeap}{g:Gh}{w:World}
theorem PO{t:TypeId}{x y z:AV}{u v:Value}(hw:W h g w)(hf:∀v,g.B h.next v=none)(hx:VR g x u)(hy:VR g y v)
 (hr:Cw P h t x y=some (z,h')):bh P h g w (do pure (.value (<-Instr.makeSlice t u v))) (.val z) h':=by
 unfold Cw at hr
 split at hr
 .rename_i e l c K hl hc
  split at hr
  .rename_i s G O hs hz hb
   split at hr
   .rename_i k
    obtain⟨h1,h2,h3,h4⟩:=k
    simp only[ab,an]at hr
    obtain⟨rfl,rfl⟩:=hr
    obtain⟨J,i1,rfl,h0,_,Q⟩:=jS hx hl
    obtain⟨I,i2,rfl,M,_,N⟩:=jS hy hc
    obtain⟨i,hi,rfl⟩:=Hc hb
    have D:i.size=s:=by simpa[bB,hi]using hs
    have q:∃v,i.zero=some v/\G=bn v:=by unfold fk at hz;rw[hi]at hz;cases m:i.zero with|none=>simp[m]at hz|some v=>simp[m]at hz;exact⟨v,rfl,hz.symm⟩
    obtain⟨b,p,rfl⟩:=q
    have n:aE g (bm (bn b)) b.cells.toList:=oj rfl
    have C:b.cells.size=s:=by have:=n.length;simp at this;omega
    have E:(i.bytes:Int)*i2<=281474976710656:=by
     subst N
     have F:((i.bytes*c:Nat):Int)<=281474976710656:=by omega
     rwa[Int.natCast_mul]at F
    have j:=run_make (P:=P) w t e i b K hi p J I i1 i2 h0 (by omega) E (by omega)
    rw[show i1.toNat=l by omega,show i2.toNat=c by omega]at j
    have f:aE g (hT (bm (bn b)) c) (madeCells b.cells (c*i.size)).toList:=by
     rw[D,<-C]
     by_cases F:0<b.cells.size
     .exact C7 n F c
     .have L:b.cells.size=0:=by omega
      have o:=rr (bm (bn b)) c
      have:(bm (bn b)).length=0:=by omega
      rw[this,Nat.mul_zero]at o;rw[List.length_eq_zero_iff.1 o,L];simp[madeCells,aE]
    have hlen:(hT (bm (bn b)) c).length=c*s:=by rw[rr,h4]
    have:=Co (s:=s) (len:=l) (c:=c) hw hf f hlen h1 j;rw[hlen]at this;exact this
   .cases hr
  .cases hr
 .cases hr
theorem Ka{x:AV}{v:Value}{n:Nat}(hx:VR g x v)(hr:ft x=some n)(w:World):(Builtin.lenOf v).run P w=.ok n w:=by
 unfold ft at hr
 split at hr
 .cases hx;simp at hr;subst hr;rfl
 .cases hx;simp at hr;subst hr;rfl
 .cases hx with|hU=>simp at hr;subst hr;rfl|h9 _=>simp at hr;subst hr;rfl|aG _ _ _=>simp at hr;subst hr;rfl
 .cases hx;simp at hr;subst hr;rfl
 .cases hx;simp at hr;subst hr;rfl
 .cases hx;simp at hr;subst hr;rfl
 .cases hr
theorem uy{s n:Nat}{x:AV}{v:Value}{cs:List AV}(hw:W h g w)(hx:VR g x v)(hr:gu h s n x=some cs):
 ∃vs:List Value,aE g cs vs/\vs.length=n*s/\∀d,(Builtin.firstCells s n v).run P {w with drawn:=d}=.ok vs.toArray {w with drawn:=d}:=by
 unfold gu at hr
 split at hr
 .rename_i o ad m off sz len cap
  split at hr
  .rename_i hc;cases hx with|sl hb p1 p2 p3=>rename_i b p c;obtain⟨vs,h1,h2,h3,_⟩:=pR hw hr hb;refine⟨vs,h1,h2,λd=>?_⟩;exact run_firstCells_some (P:=P) {w with drawn:=d} s n ⟨b,off,none⟩ len c vs h2 (λj v hv=>by rw[add_eq _ _ rfl];exact h3 j v hv)
  .cases hr
 .rename_i cells sz len cap
  split at hr
  .rename_i hc
   obtain⟨rfl,h1,h2⟩:=hc
   simp only[ab]at hr;subst hr
   have e:VR g (.cH cells) (match v with|.slice a _ _=>.pointer a|_=>v):=by cases hx with|b9 f q1 q2 p1 p2 p3=>exact .cH f q1 q2
   obtain⟨a,ha,i,vs,h3,h4,k⟩:=sq (s:=n*s) hw (by simp[jc,h2];rfl) e;cases hx with|b9 f q1 q2 p1 p2 p3=>rename_i b off c;simp at ha;subst ha;refine⟨vs,h3,h4,λd=>?_⟩;exact run_firstCells_some (P:=P) {w with drawn:=d} s n ⟨b,off,none⟩ len c vs h4 (λj v hv=>by rw[add_eq _ _ rfl];exact k j v hv)
  .cases hr
 .rename_i rows sz
  split at hr
  .rename_i hc
   obtain⟨rfl,h1⟩:=hc
   simp only[ab]at hr;subst hr
   cases hx with
   |hU=>have:n=0:=by simpa using h1
        subst this;exact⟨[],trivial,by simp,λd=>rfl⟩
   |h9 a=>have:n=0:=by simpa using h1
          subst this;exact⟨[],trivial,by simp,λd=>run_firstCells_some (P:=P) {w with drawn:=d} s 0 a 0 0 [] (by simp) (by simp)⟩
   |aG hl l hp=>
    rename_i b off c
    rw[CI n hl]
    have e:VR g (.cH rows.flatten) (.pointer (some ⟨b,off,none⟩)):=by cases hp with|b9 f q1 q2 p1 p2 p3=>exact .cH f q1 q2
    have h2:n*s<=rows.flatten.length:=by rw[rU hl];exact Nat.mul_le_mul_right _ h1
    obtain⟨a,ha,i,vs,h3,h4,k⟩:=sq (s:=n*s) hw (by simp only[jc];rw[if_pos h2]) e;simp at ha;subst ha;refine⟨vs,h3,h4,λd=>?_⟩;exact run_firstCells_some (P:=P) {w with drawn:=d} s n ⟨b,off,none⟩ rows.length c vs h4 (λj v hv=>by rw[add_eq _ _ rfl];exact k j v hv)
  .cases hr
 .split at hr
  .rename_i h0;subst h0;simp only[ab]at hr;subst hr;cases hx with|cq a c=>refine⟨[],trivial,by simp,λd=>?_⟩;exact run_firstCells_some (P:=P) _ s 0 a 0 c [] (by simp) (by simp)
  .cases hr
 .split at hr
  .rename_i h0;subst h0;simp only[ab]at hr;subst hr;cases hx;exact⟨[],trivial,by simp,λd=>rfl⟩
  .cases hr
 .rename_i b
  split at hr
  .rename_i hc
   obtain⟨rfl,h1⟩:=hc
   simp only[ab]at hr;subst hr
   cases hx
   refine⟨(b.data.toList.take n).map (λb=>.int .u8 b.toNat),aE.map _ _ (λb=>.sc _) _,?_,λd=>?_⟩
   .simp;exact Nat.min_eq_left h1
   .simp only[Builtin.firstCells,Sem.run_pure];congr 1;apply Array.ext';simp[ByteArray.data_extract]
  .cases hr
 .cases hr
theorem GV{f:Array TypeId}{st p ty e:TypeId}{i:TypeDesc}{s n len c:Nat}{a:Addr}{y:Value}{news:List Value}{w':World}(o:f[0]?=some st)(m:f[1]?=some p)(q:P.underlying st=some (.slice e))
 (hx:P.underlying p=some i)(j:∀k,i≠.int k)(hs:bB P e=some s)(hl:∀w,(Builtin.lenOf y).run P w=.ok n w)
 (hn:(Builtin.firstCells s n y).run P w=.ok news.toArray w)(b:len+n<=c)(l:(storeCells (a.add (len*s)) news).run P w=.ok () w'):
 (Builtin.append_ f ty #[.slice (some a) len c,y]).run P w=.ok (.slice (some a) (len+n) c) w':=by
 have hm:(match i with|.int _=>true|_=>false)=false:=by cases i<;>first|rfl|exact absurd rfl (j _)
 simp only[Builtin.append_,o,m,List.getElem?_toArray,List.getElem?_cons_zero,List.getElem?_cons_succ,Sem.run_bind,run_underlying q,Result.andThen_ok,run_sizeOf hs,run_underlying hx,Sem.run_pure,Bool.false_eq_true,if_false,hl,Bool.not_false,if_true,b,hn,l]
theorem GO{j:Array TypeId}{st B ty e:TypeId}{l:TypeDesc}{i:TypeInfo}{z:Value}{n len c:Nat}{base:Option Addr}{y:Value}{fv news:List Value}(v:j[0]?=some st)(u:j[1]?=some B)(E:P.underlying st=some (.slice e))
 (hx:P.underlying B=some l)(m:∀k,l≠.int k)(hi:P.info? e=some i)(hz:i.zero=some z)(hl:∀w,(Builtin.lenOf y).run P w=.ok n w)
 (ho:∀d,(Builtin.firstCells i.size len (.slice base len c)).run P {w with drawn:=d}=.ok fv.toArray {w with drawn:=d})
 (hn:∀d,(Builtin.firstCells i.size n y).run P {w with drawn:=d}=.ok news.toArray {w with drawn:=d})(f:¬len+n<=c)(C:0<i.bytes)
 (b:(len+n)*i.bytes<=140737488355328):
 ∃k,len+n<=k/\(Builtin.append_ j ty #[.slice base len c,y]).run P w=.ok (.slice (some ⟨w.heap.size,0,none⟩) (len+n) k) ({w with drawn:=w.drawn+1}.alloc (.cells ((fv++news).toArray++Builtin.zeroCells z.cells (k-(len+n))) e)):=by
 have D:Builtin.nextslicecap (len+n) c*i.bytes<=281474976710656:=growslice_fits (by omega) b
 refine⟨(Question.appendCap (len+n) c e).cut (w.tape w.drawn (.appendCap (len+n) c e)),by simp[Question.cut],?_⟩
 have p:=ho (w.drawn+1)
 have t:=hn (w.drawn+1)
 have o:(sizeOf e).run P w=.ok i.size w:=run_sizeOf (by simp[bB,hi]) w
 have h2:¬(Builtin.nextslicecap (len+n) c*i.bytes>281474976710656):=by omega
 have q:¬i.bytes=0:=by omega
 have hm:(match l with|.int _=>true|_=>false)=false:=by cases l<;>first|rfl|exact absurd rfl (m _)
 simp only[Builtin.append_,v,u,List.getElem?_toArray,List.getElem?_cons_zero,List.getElem?_cons_succ,Sem.run_bind,run_underlying E,Result.andThen_ok,o,run_underlying hx,Sem.run_pure,Bool.false_eq_true,if_false,hl,Bool.not_false,if_true,f,run_typeInfo hi,q,or_self,and_false,Nat.reducePow,h2,run_choose,Question.forced,run_askRoom,p,t,zeroValue,hz,newRow,run_newObj];simp[World.alloc]
theorem Cp{e:TypeId}{s c:Nat}{z:AV}(hs:bB P e=some s)(hb:nu P e=some c)(hz:fk P e=some z):∃i v,P.info? e=some i/\i.size=s/\i.bytes=c/\i.zero=some v/\z=bn v:=by obtain⟨i,hi,rfl⟩:=Hc hb;refine⟨i,?_⟩;unfold fk at hz;rw[hi]at hz;cases b:i.zero with|none=>simp[b]at hz|some v=>simp[b]at hz;exact⟨v,hi,by simpa[bB,hi]using hs,rfl,rfl,hz.symm⟩
theorem IK{cells:List AV}{vs:List Value}{e:TypeId}{s k c:Nat}{z:Array Value}(hw:W h g w)(hf:∀v,g.B h.next v=none)(hv:aE g cells vs)
 (hl:cells.length=c*s)(hz:z.size=s)(hk:c<=k){t:Sem Value}
 (hr:t.run P w=.ok (.slice (some ⟨w.heap.size,0,none⟩) c k) ({w with drawn:=w.drawn+1}.alloc (.cells (vs.toArray++Builtin.zeroCells z (k-c)) e))):
 bh P h g w (do pure (.value (<-t))) (.val (.sl h.next 0 (c*s) 0 s c none)) (h.alloc (.cells 0 0 cells 0 e false false)):=by
 have l:(vs.toArray++Builtin.zeroCells z (k-c)).size=k*s:=by simp only[Array.size_append,List.size_toArray,size_zeroCells,hz,<-hv.length,hl,<-Nat.add_mul];congr 1;omega
 have f:=p0 (x:=.cells 0 0 cells 0 e false false) (s:=k*s) (n:=c*s) (hw.drew (w.drawn+1)) hf (w':={w with drawn:=w.drawn+1}.alloc (.cells (vs.toArray++Builtin.zeroCells z (k-c)) e)) rfl ?_
 .refine⟨_,_,.slice (some ⟨w.heap.size,0,none⟩) c k,by simp only[Sem.run_bind,hr,Result.andThen_ok,Sem.run_pure],?_,f.1,?_⟩
  .refine .sl (Gh.iy _ _ _ _) ?_ hk (by simp);simp
  .have h2:=f.2;exact{h2 with size:=h2.size,fr:=h2.fr,tape:=h2.tape,os:=h2.os,out:=h2.out,dC:=h2.dC,gz:=h2.gz}
 .refine⟨λv hv=>?_,?_⟩
  .cases e:(g.er h.next 0 (w.heap.size,k*s,c*s)).B h.next v with
   |none=>rfl
   |some y=>
    rcases Gh.ei e with⟨_,o,_⟩|o
    .omega
    .rw[hf v]at o;cases o
  intro v h1 h2 b s' n' hb
  obtain rfl:v=0:=by omega
  rw[Gh.iy]at hb
  simp only[ab,an]at hb
  obtain⟨rfl,rfl,rfl⟩:=hb
  have m:c*s<=k*s:=Nat.mul_le_mul_right _ hk
  refine⟨λ_=>hl.symm,_,(0,0),⟨lg _ _,l,by omega,m,(λh=>by cases h),(λi _ h3 h4=>by simp at h4),λ_=>.inl rfl,?_⟩⟩
  intro i x hi hx
  have j:i<vs.length:=by rw[<-hv.length];omega
  refine⟨vs[i],?_,(hv.get i x vs[i] hx (by simp[j])).mono (Gh.l7 (hf 0))⟩;rw[Array.getElem?_append_left (by simpa using j)];simp[j]
theorem mY{f:Array TypeId}{st n ty e:TypeId}{i:TypeDesc}{s len c:Nat}{base:Option Addr}{y:Value}(m:f[0]?=some st)(l:f[1]?=some n)
 (o:P.underlying st=some (.slice e))(hx:P.underlying n=some i)(j:∀k,i≠.int k)(hs:bB P e=some s)(hl:∀w,(Builtin.lenOf y).run P w=.ok 0 w)
 (hn:(Builtin.firstCells s 0 y).run P w=.ok #[] w)(b:len<=c):
 (Builtin.append_ f ty #[.slice base len c,y]).run P w=.ok (.slice base len c) w:=by
 have hm:(match i with|.int _=>true|_=>false)=false:=by cases i<;>first|rfl|exact absurd rfl (j _)
 cases base<;>simp only[Builtin.append_,m,l,List.getElem?_toArray,List.getElem?_cons_zero,List.getElem?_cons_succ,Sem.run_bind,run_underlying o,Result.andThen_ok,run_sizeOf hs,run_underlying hx,Sem.run_pure,Bool.false_eq_true,if_false,hl,Bool.not_false,if_true,Nat.add_zero,b,hn,storeCells]
theorem IL{o v mv fz el k:Nat}{ex sh:Bool}{c new:List AV}{g':Gh}{w':World}{b' tT:Nat}{ca:Array Value}{f:Nat×Nat}{news:List Value}
 (hx:OR g w o (.cells v mv c fz el ex sh))(hl:g.Le g')(hk:k<=c.length)(_hfz:fz<=k)(t:aE g new news)
 (hB:∀v' y,g'.B o v'=some y->(v'=v+1/\y=(b',tT,k+new.length))\/g.B o v'=some y)
 (I:w'.heap[b']?=some (.cells ca el f))(K:ca.size=tT)(G:k+new.length<=tT)(E:∀i x,i<k->c[i]?=some x->∃u,ca[i]?=some u/\VR g x u)
 (p:∀i:Nat,i<new.length->ca[k+i]?=news[i]?)(D:∀i,i<tT->f.1<=i->i<f.2->i<fz)(l:sh=false->f.1=f.2\/f.2<=fz)
 (m:∀v' b s n,g.B o v'=some (b,s,n)->k=c.length->mv<=v'->v'<=v->∃aP z,w'.heap[b]?=some (.cells aP el z)/\aP.size=s/\(∀i,i<s->z.1<=i->i<z.2->i<fz)/\(sh=false->z.1=z.2\/z.2<=fz)/\∀i x,i<n->c[i]?=some x->∃u,aP[i]?=some u/\VR g x u):
 OR g' w' o (.cells (v+1) (if k=c.length then mv else v+1) (c.take k++new) fz el false sh):=by
 have hlen:(c.take k++new).length=k+new.length:=by simp;omega
 refine⟨λv' Q=>?_,?_⟩
 .cases e:g'.B o v' with
  |none=>rfl
  |some y=>
   rcases hB v' y e with⟨L,_⟩|L
   .omega
   .rw[hx.1 v' (by omega)]at L;cases L
 intro v' h1 h2 b s n hb
 rcases hB v' _ hb with⟨rfl,e⟩|q
 .simp only[an]at e
  obtain⟨rfl,rfl,rfl⟩:=e
  refine⟨λ_=>hlen.symm,ca,f,⟨I,K,by omega,G,(λh=>by cases h),D,l,?_⟩⟩
  intro i x hi j
  by_cases h3:i<k
  .rw[List.getElem?_append_left (by simp;omega),List.getElem?_take,if_pos h3]at j;obtain⟨u,J,hr⟩:=E i x h3 j;exact⟨u,J,hr.mono hl⟩
  .rw[List.getElem?_append_right (by simp;omega)]at j
   have e:(c.take k).length=k:=by simp;omega
   rw[e]at j
   have h4:i-k<new.length:=by omega
   have:=p (i-k) h4
   rw[show k+(i-k)=i by omega]at this
   have M:i-k<news.length:=by rw[<-t.length];exact h4
   refine⟨news[i-k],by rw[this];simp[M],(t.get _ _ _ j (by simp[M])).mono hl⟩
 .by_cases hv:v'=v+1
  .subst hv;rw[hx.1 (v+1) (Nat.lt_succ_self _)]at q;cases q
  .by_cases C:k=c.length
   .rw[if_pos C]at h1
    obtain⟨_,R,S,F⟩:=hx.2 v' h1 (by omega) b s n q
    obtain⟨aP,z,q1,q2,q3,O,N⟩:=m v' b s n q C h1 (by omega)
    refine⟨λe=>absurd e hv,aP,z,⟨q1,q2,?_,F.lQ,(λh=>by cases h),q3,O,?_⟩⟩
    .have:=F.le;omega
    .intro i x hi j;have:=F.le;rw[List.getElem?_append_left (by simp;omega),List.getElem?_take,if_pos (by omega)]at j;obtain⟨u,J,hr⟩:=N i x hi j;exact⟨u,J,hr.mono hl⟩
   .rw[if_neg C]at h1;omega
end
end Go.AI
end

section
namespace Go.AI
section
variable {P:Program}{h h':AHeap}{g:Gh}{w:World}
theorem Cc{l:Array TypeId}{st G ty e:TypeId}{I:TypeDesc}{s j n len c:Nat}{base:Option Addr}{z:AV}{y:Value}{dC new:List AV}{fv news:List Value}
 (hw:W h g w)(hf:∀v,g.B h.next v=none)(F:l[0]?=some st)(E:l[1]?=some G)(K:P.underlying st=some (.slice e))(hx:P.underlying G=some I)(t:∀k,I≠.int k)
 (hs:bB P e=some s)(hb:nu P e=some j)(hz:fk P e=some z)(J:(bm z).length=s)(hl:∀w,(Builtin.lenOf y).run P w=.ok n w)
 (ho:∀d,(Builtin.firstCells s len (.slice base len c)).run P {w with drawn:=d}=.ok fv.toArray {w with drawn:=d})
 (hn:∀d,(Builtin.firstCells s n y).run P {w with drawn:=d}=.ok news.toArray {w with drawn:=d})
 (o:aE g dC fv)(C:fv.length=len*s)(p:aE g new news)(D:news.length=n*s)
 (f:¬len+n<=c)(m:0<j)(b:(len+n)*j<=140737488355328):
 bh P h g w (do pure (.value (<-Builtin.append_ l ty #[.slice base len c,y]))) (.val (.sl h.next 0 ((len+n)*s) 0 s (len+n) none)) (h.alloc (.cells 0 0 (dC++new) 0 e false false)):=by
 obtain⟨i,v,hi,rfl,rfl,q,rfl⟩:=Cp hs hb hz
 obtain⟨k,hk,hr⟩:=GO (ty:=ty) F E K hx t hi q hl ho hn f m b
 have u:v.cells.size=i.size:=by have:=(oj (g:=g) (z:=bn v) rfl).length;simp at this;omega
 refine IK hw hf (o.append p) ?_ u hk hr;rw[List.length_append,o.length,p.length,C,D,Nat.add_mul]
theorem Rb{tU:Array TypeId}{st xt ty:TypeId}{x y r:AV}{u v:Value}(hw:W h g w)(hf:∀v,g.B h.next v=none)(F:tU[0]?=some st)(E:tU[1]?=some xt)
 (hx:VR g x u)(hy:VR g y v)(hr:np P h st xt x y=some (r,h')):
 bh P h g w (do pure (.value (<-Builtin.append_ tU ty #[u,v]))) (.val r) h':=by
 unfold np at hr
 split at hr
 .rename_i e xd n N t hn
  split at hr
  .cases hr
  .rename_i hint
   have C:∀k,xd≠.int k:=by intro k hk;subst hk;exact hint rfl
   split at hr
   .rename_i s Oi z hs hb hz
    split at hr
    .cases hr
    .rename_i hzs
     have Y:(bm z).length=s:=by
      rcases Nat.decEq (bm z).length s with h1|h1
      .exact absurd (.inl h1) hzs
      .exact h1
     split at hr
     .cases hr
     .rename_i new Yf
      split at hr
      .cases hr
      .rename_i T
       have T:new.all ez=true:=by simpa using T
       obtain⟨news,K,G,D⟩:=uy (P:=P) hw hy Yf
       have hlen:=Ka (P:=P) hy hn
       have R:new.length=n*s:=by rw[K.length,G]
       split at hr
       .cases hx
        split at hr
        .rename_i h0;subst h0;simp only[ab,an]at hr;obtain⟨rfl,rfl⟩:=hr;have l:news=[]:=List.eq_nil_of_length_eq_zero (by simpa using G);subst l;exact bh.same hw (by simp[mY F E N t C hs hlen (D w.drawn) (ak 0)]) (.sc _)
        .rename_i h0
         split at hr
         .rename_i hc;simp only[ab,an]at hr;obtain⟨rfl,rfl⟩:=hr;have:=Cc (len:=0) (c:=0) (base:=none) (dC:=[]) (fv:=[]) (ty:=ty) hw hf F E N t C hs hb hz Y hlen (λd=>rfl) D trivial (by simp) K G (by omega) hc.1 (by simpa using hc.2);simpa using this
         .cases hr
       .rename_i o ad m off sz len cap
        split at hr
        .cases hr
        .rename_i O
         have O:sz=s:=by simpa using O
         subst O
         cases hx with
         |sl hB p1 p2 p3=>
          rename_i b sb c
          split at hr
          .rename_i c'
           obtain rfl:c=c':=p3 c' rfl
           split at hr
           .rename_i p
            split at hr
            .rename_i h0;subst h0;simp only[ab,an]at hr;obtain⟨rfl,rfl⟩:=hr;have l:news=[]:=List.eq_nil_of_length_eq_zero (by simpa using G);subst l;exact bh.same hw (by simp[mY F E N t C hs hlen (D w.drawn) p2]) (.sl hB p1 p2 p3)
            .cases Gi:ll h o ad m (off+len*sz) new with|none=>rw[Gi]at hr;cases hr|some h2=>rw[Gi]at hr;simp only[ab,an]at hr;obtain⟨rfl,rfl⟩:=hr;obtain⟨w',q1,q2,q3⟩:=CA (P:=P) hw Gi hB K;refine⟨g,w',_,?_,.sl hB p1 p p3,q2,q3⟩;have:=GV (ty:=ty) (a:=⟨b,off,none⟩) F E N t C hs hlen (D w.drawn) p (by rw[add_eq _ _ rfl];exact q1);simp[this]
           .rename_i p
            split at hr
            .rename_i hc;cases rk:dp h o ad m off (len*sz)with|none=>rw[rk]at hr;cases hr|some dC=>rw[rk]at hr;simp only[ab,an]at hr;obtain⟨rfl,rfl⟩:=hr;obtain⟨fv,q1,q2,q3,_⟩:=pR hw rk hB;exact Cc hw hf F E N t C hs hb hz Y hlen (λd=>run_firstCells_some (P:=P) {w with drawn:=d} sz len ⟨b,off,none⟩ len c fv q2 (λj v hv=>by rw[add_eq _ _ rfl];exact q3 j v hv)) D q1 q2 K G p hc.1 hc.2
            .cases hr
          .split at hr
           .rename_i h0;subst h0;simp only[ab,an]at hr;obtain⟨rfl,rfl⟩:=hr;have l:news=[]:=List.eq_nil_of_length_eq_zero (by simpa using G);subst l;exact bh.same hw (by simp[mY F E N t C hs hlen (D w.drawn) p2]) (.sl hB p1 p2 p3)
           .rename_i h0
            split at hr
            .rename_i v0 mv cc fz el ex sh M
             split at hr
             .rename_i Xd
              obtain⟨rfl,Oj,rfl,hlm,Ok,rfl,ND,V⟩:=Xd
              simp only[ab,an]at hr
              obtain⟨rfl,rfl⟩:=hr
              have I:=hw.obj o _ M
              obtain⟨hm,ca,f,hk⟩:=I.2 ad Oj (ak _) b sb m hB
              have hm:=hm rfl
              have Yg:=Cn T K
              have S:(len+n)*sz=len*sz+n*sz:=Nat.add_mul _ _ _
              by_cases p:len+n<=c
              .have adC:len*sz+n*sz<=sb:=by have:(len+n)*sz<=c*sz:=Nat.mul_le_mul_right _ p;omega
               obtain⟨c',FV,eY,Gj⟩:=GN (P:=P) (off:=len*sz) news 0 ca w hk.here (by have:=hk.size;omega) (λj q1 q2 q3=>by have:=hk.free j (by omega) q3.1 q3.2;omega) Yg
               have Yh:=GV (ty:=ty) (a:=⟨b,0,none⟩) F E N t C hs hlen (D w.drawn) p (by rw[add_eq _ _ rfl];simpa using FV)
               have L:=Qp (nv:=ad+1) (s:=sb) (n:=(len+n)*sz) (x':=.cells (ad+1) (if len*sz=cc.length then mv else ad+1) (cc.take (len*sz)++new) fz el false sh) hw M hB (I.1 _ (Nat.lt_succ_self _)) (w':=cS w b (.cells c' el f)) rfl ?_
               .refine⟨_,_,_,by simp only[Sem.run_bind,Yh,Result.andThen_ok,Sem.run_pure];rfl,?_,L.1,L.2⟩;refine .sl (Gh.iy _ _ _ _) (by omega) p (by simp)
               .refine IL (news:=news) (b':=b) (tT:=sb) (ca:=c') (f:=f) I (Gh.l7 (I.1 _ (Nat.lt_succ_self _))) (by omega) Ok K ?_ (iV (lt_of_heap hk.here)) (by rw[eY];exact hk.size) (by omega) ?_ ?_ hk.free hk.plain ?_
                .intro v' y Z
                 rcases Gh.ei Z with⟨_,U,e2⟩|U
                 .refine .inl ⟨U,?_⟩;rw[e2,S,R]
                 .exact .inr U
                .intro i x hi Q;rw[Gj i,if_neg (by omega)];exact hk.cell i x (by omega) Q
                .intro i hi;rw[Gj,if_pos (by rw[G];omega)];congr 1;omega
                .intro v' b2 s2 n2 X hkc h1 h2
                 obtain⟨_,w8,f2,q⟩:=I.2 v' h1 h2 b2 s2 n2 X
                 by_cases Ol:b2=b
                 .subst Ol;have U:=q.here;rw[hk.here]at U;simp only[ab,Obj.cells.injEq,true_and]at U;obtain⟨rfl,rfl⟩:=U;refine⟨c',f,iV (lt_of_heap hk.here),by rw[eY];exact q.size,q.free,q.plain,?_⟩;intro i x hi Q;have:=q.le;rw[Gj i,if_neg (by omega)];exact q.cell i x hi Q
                 .exact⟨w8,f2,(Cz Ol).trans q.here,q.size,q.free,q.plain,q.cell⟩
              .have holds:∃fv,aE g (cc.take (len*sz)) fv/\fv.length=len*sz/\(∀(j:Nat)(v:Value),fv[j]?=some v->w.cell? ⟨b,0+j,none⟩=some v):=by obtain⟨fv,q1,q2,q3,_⟩:=pR (h:=h) (o:=o) (ad:=ad) (n:=m) (off:=0) (s:=len*sz) (cs:=(cc.drop 0).take (len*sz)) hw (by unfold dp;rw[M];dsimp only;rw[if_pos ⟨Oj,ak _,by omega⟩]) hB;exact⟨fv,by simpa using q1,q2,q3⟩
               obtain⟨fv,q1,q2,q3⟩:=holds
               obtain⟨i,zv,hi,rfl,rfl,hzv,rfl⟩:=Cp hs hb hz
               obtain⟨k,w9,hrr⟩:=GO (ty:=ty) (base:=some ⟨b,0,none⟩) F E N t C hi hzv hlen (λd=>run_firstCells_some (P:=P) {w with drawn:=d} i.size len ⟨b,0,none⟩ len c fv q2 (λj v hv=>by rw[add_eq _ _ rfl];exact q3 j v hv)) D p ND V
               have hvl:zv.cells.size=i.size:=by have:=(oj (g:=g) (z:=bn zv) rfl).length;simp at this;omega
               have Yi:((fv++news).toArray++Builtin.zeroCells zv.cells (k-(len+n))).size=k*i.size:=by simp only[Array.size_append,List.size_toArray,List.length_append,size_zeroCells,hvl,q2,G,<-Nat.add_mul];congr 1;omega
               have L:=QZ (nv:=ad+1) (s:=k*i.size) (n:=(len+n)*i.size) (x':=.cells (ad+1) (if len*i.size=cc.length then mv else ad+1) (cc.take (len*i.size)++new) fz el false sh) (hw.drew (w.drawn+1)) M hB (I.1 _ (Nat.lt_succ_self _)) (w':={w with drawn:=w.drawn+1}.alloc (.cells ((fv++news).toArray++Builtin.zeroCells zv.cells (k-(len+n))) el)) rfl ?_
               .refine⟨_,_,_,by simp only[Sem.run_bind,hrr,Result.andThen_ok,Sem.run_pure];rfl,?_,L.1,?_⟩
                .exact .sl (Gh.iy _ _ _ _) (by simp) w9 (by simp)
                .have h2:=L.2;exact{h2 with size:=h2.size,fr:=h2.fr,tape:=h2.tape,os:=h2.os,out:=h2.out,dC:=h2.dC,gz:=h2.gz}
               .have hmul:(len+n)*i.size<=k*i.size:=Nat.mul_le_mul_right _ w9
                refine IL (w:={w with drawn:=w.drawn+1}) (news:=news) (b':=w.heap.size) (tT:=k*i.size) (f:=(0,0)) ((hw.drew (w.drawn+1)).obj o _ M) (Gh.l7 (I.1 _ (Nat.lt_succ_self _))) (by omega) Ok K ?_ (lg _ _) Yi (by omega) ?_ ?_ (λj _ _ h4=>by simp at h4) (λ_=>.inl rfl) ?_
                .intro v' y Z
                 rcases Gh.ei Z with⟨_,U,e2⟩|U
                 .refine .inl ⟨U,?_⟩;rw[e2,S,R]
                 .exact .inr U
                .intro j x hj Q
                 have Gk:j<fv.length:=by omega
                 refine⟨fv[j],?_,q1.get j x fv[j] (by rw[List.getElem?_take,if_pos hj];exact Q) (by simp[Gk])⟩;rw[Array.getElem?_append_left (by simp;omega)];simp[List.getElem?_append_left Gk,Gk]
                .intro j hj;rw[Array.getElem?_append_left (by simp;omega)];simp only[List.getElem?_toArray];rw[List.getElem?_append_right (by omega)];congr 1;omega
                .intro v' b2 s2 n2 X hkc h1 h2;obtain⟨_,w8,f2,q⟩:=I.2 v' h1 h2 b2 s2 n2 X;exact⟨w8,f2,(CK (w:={w with drawn:=w.drawn+1}) (hw.dG o v' b2 s2 n2 X)).trans q.here,q.size,q.free,q.plain,q.cell⟩
             .cases hr
            .cases hr
       .rename_i cells sz len c'
        split at hr
        .cases hr
        .rename_i O
         have Yj:sz=s:=by
          rcases Nat.decEq sz s with h1|h1
          .exact absurd (.inl h1) O
          .exact h1
         subst Yj
         have hcl:cells.length=len*sz:=by
          rcases Nat.decEq cells.length (len*sz)with h1|h1
          .exact absurd (.inr h1) O
          .exact h1
         have J:=hx
         cases hx with
         |b9 fn q1 q2 p1 p2 p3=>
          rename_i b off c
          obtain rfl:c=c':=p3 c' rfl
          split at hr
          .rename_i h0;subst h0;simp only[ab,an]at hr;obtain⟨rfl,rfl⟩:=hr;have l:news=[]:=List.eq_nil_of_length_eq_zero (by simpa using G);subst l;exact bh.same hw (by simp[mY F E N t C hs hlen (D w.drawn) p2]) J
          .split at hr
           .rename_i hc;simp only[ab,an]at hr;obtain⟨rfl,rfl⟩:=hr;obtain⟨fv,r1,r2,r3⟩:=uy (P:=P) (s:=sz) (n:=len) (cs:=cells) hw J (by unfold gu;dsimp only;rw[if_pos ⟨rfl,ak _,by omega⟩,List.take_of_length_le (by omega)]);exact Cc hw hf F E N t C hs hb hz Y hlen r3 D r1 r2 K G (by omega) hc.2.1 hc.2.2
           .cases hr
       .split at hr
        .rename_i h0;subst h0;simp only[ab,an]at hr;obtain⟨rfl,rfl⟩:=hr;have l:news=[]:=List.eq_nil_of_length_eq_zero (by simpa using G);subst l;have J:=hx;cases hx with|b9 fn q1 q2 p1 p2 p3=>exact bh.same hw (by simp[mY F E N t C hs hlen (D w.drawn) p2]) J
        .cases hr
       .split at hr
        .rename_i h0;subst h0;simp only[ab,an]at hr;obtain⟨rfl,rfl⟩:=hr;have l:news=[]:=List.eq_nil_of_length_eq_zero (by simpa using G);subst l;have J:=hx;cases hx with|hU=>exact bh.same hw (by simp[mY F E N t C hs hlen (D w.drawn) (ak _)]) J|h9 _=>exact bh.same hw (by simp[mY F E N t C hs hlen (D w.drawn) (ak _)]) J|aG hl hpf hp=>cases hp with|b9 fn q1 q2 p1 p2 p3=>exact bh.same hw (by simp[mY F E N t C hs hlen (D w.drawn) p2]) J
        .cases hr
       .split at hr
        .rename_i h0;subst h0;simp only[ab,an]at hr;obtain⟨rfl,rfl⟩:=hr;have l:news=[]:=List.eq_nil_of_length_eq_zero (by simpa using G);subst l;have J:=hx;cases hx with|cq a c=>exact bh.same hw (by simp[mY F E N t C hs hlen (D w.drawn) (Nat.zero_le c)]) J
        .cases hr
       .cases hr
   .cases hr
 .cases hr
end
end Go.AI
end

section
namespace Go.AI
section
variable {P:Program}{h h':AHeap}{g:Gh}{w:World}
theorem O9{c:Array TypeId}{st p ty e:TypeId}{u:IntKind}{i:TypeInfo}{z:Value}{n:Nat}(m:c[0]?=some st)(l:c[1]?=some p)(v:P.underlying st=some (.slice e))
 (hx:P.underlying p=some (.int u))(hi:P.info? e=some i)(hz:i.zero=some z)(hn:0<n)(B:i.size≠0)(D:n<9223372036854775808)(q:0<i.bytes)
 (b:n*i.bytes<=140737488355328):
 ∃k,n<=k/\(Builtin.append_ c ty #[.slice none 0 0,.int .i64 n]).run P w=.ok (.slice (some ⟨w.heap.size,0,none⟩) n k) ({w with drawn:=w.drawn+1}.alloc (.cells (Builtin.zeroCells z.cells n++Builtin.zeroCells z.cells (k-n)) e)):=by
 have t:Builtin.nextslicecap (0+n) 0*i.bytes<=281474976710656:=growslice_fits (by omega) (by rw[Nat.zero_add];exact b)
 refine⟨(Question.appendCap (0+n) 0 e).cut (w.tape w.drawn (.appendCap (0+n) 0 e)),by show n<=(0+n)+_;omega,?_⟩
 have j:(sizeOf e).run P w=.ok i.size w:=run_sizeOf (by simp[bB,hi]) w
 have h2:¬(Builtin.nextslicecap (0+n) 0*i.bytes>281474976710656):=by omega
 have C:¬i.bytes=0:=by omega
 have f:IntKind.i64.wrap (n:Int)=(n:Int):=IntWalk.i64_in _ (by omega)
 have h3:¬((n:Int)<0):=by omega
 have h4:¬((n:Int)*(i.bytes:Int)>2^48):=by
  have o:(2:Int)^48=281474976710656:=by decide
  rw[o];have this:((n*i.bytes:Nat):Int)<=((140737488355328:Nat):Int):=Int.ofNat_le.2 b;rw[Int.natCast_mul]at this;omega
 have G:¬(n*i.size=0):=by intro h;rcases Nat.mul_eq_zero.1 h with h|h<;>omega
 have F:¬(0+n<=0):=by omega
 have E:¬(((0+n:Nat):Int)>IntKind.i64.max):=by
  have:IntKind.i64.max=9223372036854775807:=by decide
  omega
 simp only[Builtin.append_,m,l,List.getElem?_toArray,List.getElem?_cons_zero,List.getElem?_cons_succ,Sem.run_bind,run_underlying v,Result.andThen_ok,j,run_underlying hx,Sem.run_pure,asInt,asIntOf,f,h3,if_false,run_typeInfo hi,Nat.reducePow,h4,Int.toNat_natCast,if_true,F,E,false_and,h2,run_choose,Question.forced,run_askRoom,zeroValue,hz,newRow,run_newObj,Bool.not_true,Bool.false_eq_true,G,Builtin.firstCells];rw[Nat.zero_add,Array.empty_append];rfl
theorem Qq{b:Array TypeId}{st D ty:TypeId}{x y r:AV}{u v:Value}(hw:W h g w)(hf:∀v,g.B h.next v=none)(C:b[0]?=some st)(t:b[1]?=some D)
 (hx:VR g x u)(hy:VR g y v)(hr:C1 P h st D x y=some (r,h')):
 bh P h g w (do pure (.value (<-Builtin.append_ b ty #[u,v]))) (.val r) h':=by
 unfold C1 at hr
 split at hr
 .rename_i e L n F p
  cases hx
  cases hy
  split at hr
  .rename_i s K z hs hb hz
   split at hr
   .rename_i hc
    obtain⟨O,N,J,I,M,G,E⟩:=hc
    simp only[ab,an]at hr
    obtain⟨rfl,rfl⟩:=hr
    obtain⟨i,c,hi,rfl,rfl,l,rfl⟩:=Cp hs hb hz
    obtain⟨m,rfl⟩:∃m:Nat,n=(m:Int):=⟨n.toNat,by omega⟩
    simp only[Int.toNat_natCast]at E⊢
    obtain⟨k,hk,f⟩:=O9 (w:=w) (ty:=ty) (n:=m) C t F p hi l (by omega) J (by omega) G E
    have j:=oj (g:=g) (z:=bn c) rfl
    have q:c.cells.size=i.size:=by have:=j.length;simp at this;omega
    have o:=C7 (g:=g) (z:=bm (bn c)) (zc:=c.cells) (by simpa using j) (by omega) m
    refine IK (z:=c.cells) hw hf o ?_ q hk ?_
    .rw[rr,I]
    .rw[f,Array.toArray_toList];rfl
   .cases hr
  .cases hr
 .cases hr
theorem Qr{b:Array TypeId}{st i ty:TypeId}{x y r:AV}{u v:Value}(hw:W h g w)(hf:∀v,g.B h.next v=none)(f:b[0]?=some st)(c:b[1]?=some i)
 (hx:VR g x u)(hy:VR g y v)(hr:uD P h st i x y=some (r,h')):
 bh P h g w (do pure (.value (<-Builtin.append_ b ty #[u,v]))) (.val r) h':=by
 unfold uD at hr
 split at hr
 .rename_i q e;simp only[ab]at hr;subst hr;exact Rb hw hf f c hx hy e
 .exact Qq hw hf f c hx hy hr
end
end Go.AI
end

section
namespace Go.AI
section
variable {P:Program}{h h':AHeap}{g:Gh}{w:World}
def kb(g:Gh):Option AV->Option Value->Prop|none,none=>True|some x,some v=>VR g x v|_,_=>False
theorem kb.map{ρ:Operand->AV}{aI:Operand->Value}(h:∀x,VR g (ρ x) (aI x))(o:Option Operand):kb g (o.map ρ) (o.map aI):=by cases o with|none=>trivial|some x=>exact h x
theorem fB{x:Option AV}{v:Option Value}{d n:Nat}(hx:kb g x v)(hr:e7 x d=some n):(x=none/\v=none/\n=d)\/∃y k,x=some y/\v=some (.int k (n:Int)):=by
 cases x with
 |none=>cases v with|none=>simp[e7]at hr;exact .inl ⟨rfl,rfl,hr.symm⟩|some _=>exact hx.elim
 |some y=>cases v with|none=>exact hx.elim|some u=>obtain⟨k,i,rfl,_,_,e⟩:=jS hx hr;exact .inr ⟨y,k,rfl,by rw[e]⟩
theorem Ht{c:Bool}{lo hi b:Option Value}{l h m len cap:Nat}(i:(lo=none/\l=0)\/∃k,lo=some (.int k (l:Int)))
 (j:(hi=none/\h=len/\b=none)\/∃k,hi=some (.int k (h:Int)))(f:(b=none/\m=cap)\/∃k,b=some (.int k (m:Int)))
 (h1:l<=h)(h2:h<=m)(h3:m<=cap):(Instr.sliceBounds c len cap lo hi b).run P w=.ok (l,h,m) w:=by
 have p:(0:Int)<=l/\(l:Int)<=h:=by omega
 have o:(0:Int)<=h/\(h:Int)<=m:=by omega
 have n:(0:Int)<=m/\(m:Int)<=cap:=by omega
 rcases f with⟨rfl,rfl⟩|⟨q,rfl⟩<;>rcases j with⟨rfl,rfl,e⟩|⟨t,rfl⟩<;>rcases i with⟨rfl,rfl⟩|⟨u,rfl⟩<;>first|(cases e;done)|simp only[Instr.sliceBounds,Instr.sliceBound,asIntOf,Sem.run_bind,Sem.run_pure,Result.andThen_ok,p,o,n,and_self,if_true,Int.toNat_natCast]
theorem iS{t e:TypeId}{s:Nat}{lo hi b:Option Value}{l h m len cap:Nat}{a:Option Addr}(j:P.underlying t=some (.slice e))(hs:bB P e=some s)(f:(lo=none/\l=0)\/∃k,lo=some (.int k (l:Int)))(i:(hi=none/\h=len/\b=none)\/∃k,hi=some (.int k (h:Int)))(c:(b=none/\m=cap)\/∃k,b=some (.int k (m:Int)))(h1:l<=h)(h2:h<=m)(h3:m<=cap):(Instr.sliceAt t (.slice a len cap) lo hi b).run P w=.ok (.slice (if m=l then a else a.map (·.add (l*s))) (h-l) (m-l)) w:=by simp only[Instr.sliceAt,Instr.slice,Sem.run_bind,run_underlying j,Result.andThen_ok,Ht f i c h1 h2 h3,run_sizeOf hs,Sem.run_pure]
theorem EX{b:Option AV}{c:Option Value}{r:Option Nat}(hm:kb g b c)(e:b.map gb=some r):∃y,b=some y/\gb y=r:=by cases b with|none=>cases e|some y=>exact⟨y,rfl,by simpa using e⟩
theorem IM{t:TypeId}{x y:AV}{v:Value}{lo hi X:Option AV}{z B C:Option Value}(hx:VR g x v)(G:kb g lo z)(E:kb g hi B)(D:kb g X C)
 (hr:i6 P t x lo hi X=some y):∃u,(Instr.sliceAt t v z B C).run P w=.ok u w/\VR g y u:=by
 unfold i6 at hr
 split at hr
 .rename_i e I
  split at hr
  .rename_i s o ad n off sz len cap hs
   cases hx with
   |sl hB p1 p2 p3=>
    rename_i b sb c
    split at hr
    .rename_i l f q1 q2 q3
     have F:C=none:=by
      cases X with
      |none=>cases C with|none=>rfl|some _=>exact D.elim
      |some _=>cases q3
     subst F
     have r1:=fB G q1
     have r2:=fB E q2
     have q:(z=none/\l=0)\/∃k,z=some (.int k (l:Int)):=by
      rcases r1 with⟨_,a,b⟩|⟨_,k,_,b⟩
      .exact .inl ⟨a,b⟩
      .exact .inr ⟨k,b⟩
     have j:(B=none/\f=len/\(none:Option Value)=none)\/∃k,B=some (.int k (f:Int)):=by
      rcases r2 with⟨_,a,b⟩|⟨_,k,_,b⟩
      .exact .inl ⟨a,b,rfl⟩
      .exact .inr ⟨k,b⟩
     split at hr
     .rename_i c'
      obtain rfl:c=c':=p3 c' rfl
      split at hr
      .rename_i hc
       obtain⟨rfl,h1,h2,h3⟩:=hc
       simp only[ab]at hr;subst hr
       refine⟨_,iS (m:=c) I hs q j (.inl ⟨rfl,rfl⟩) h1 h2 (ak _),?_⟩
       by_cases p:c=l
       .rw[if_pos p,if_pos p]
        refine .sl hB ?_ (by omega) (by simp)
        have:(c-l)*s=0:=by simp[p]
        omega
       .rw[if_neg p,if_neg p];simp only[Option.map_some];rw[add_eq _ _ rfl];refine .sl hB ?_ (by omega) (by simp);rw[Nat.add_assoc,<-Nat.add_mul,show l+(c-l)=c by omega];exact p1
      .cases hr
     .split at hr
      .rename_i hc
       obtain⟨rfl,h1,h2⟩:=hc
       have K:=iS (P:=P) (w:=w) (a:=some ⟨b,off,none⟩) (m:=c) (cap:=c) I hs q j (.inl ⟨rfl,rfl⟩) h1 (Nat.le_trans h2 p2) (ak _)
       split at hr
       .rename_i Z;subst Z
        simp only[ab]at hr;subst hr
        refine⟨_,K,?_⟩
        by_cases N:c=0
        .rw[if_pos N];exact .sl hB (by simpa using p1) (by omega) (by simp)
        .rw[if_neg N];simp only[Option.map_some];rw[add_eq _ _ rfl];simp only[Nat.zero_mul,Nat.add_zero,Nat.sub_zero];exact .sl hB p1 (by omega) (by simp)
       .split at hr
        .rename_i hlt;simp only[ab]at hr;subst hr;refine⟨_,K,?_⟩;rw[if_neg (by omega)];simp only[Option.map_some];rw[add_eq _ _ rfl];refine .sl hB ?_ (by omega) (by simp);rw[Nat.add_assoc,<-Nat.add_mul,show l+(c-l)=c by omega];exact p1
        .simp only[ab]at hr;subst hr
         refine⟨_,K,?_⟩
         have:f-l=0:=by omega
         rw[this]
         split
         .exact .cq _ _
         .exact .cq _ _
      .cases hr
    .rename_i l f m q1 q2 q3
     obtain⟨ym,rfl,J⟩:=EX D q3
     cases C with
     |none=>exact D.elim
     |some um=>
      obtain⟨R,im,rfl,_,_,em⟩:=jS D J
      split at hr
      .rename_i hc
       obtain⟨rfl,h1,h2,h3,h4,O⟩:=hc
       simp only[ab]at hr;subst hr
       have r1:=fB G q1
       have r2:=fB E q2
       have q:(z=none/\l=0)\/∃k,z=some (.int k (l:Int)):=by
        rcases r1 with⟨_,a,b⟩|⟨_,k,_,b⟩
        .exact .inl ⟨a,b⟩
        .exact .inr ⟨k,b⟩
       have j:∃k,B=some (.int k (f:Int)):=by
        rcases r2 with⟨a,_,_⟩|⟨_,k,_,b⟩
        .rw[a]at O;cases O
        .exact⟨k,b⟩
       have Y:m<=c:=by cases cap with|none=>simp only[mf]at h3;omega|some c'=>have:=p3 c' rfl;simp only[mf]at h3;omega
       refine⟨_,iS (m:=m) I hs q (.inr j) (.inr ⟨R,by rw[em]⟩) h1 h2 Y,?_⟩
       have hmul:m*s<=c*s:=Nat.mul_le_mul_right _ Y
       by_cases p:m=l
       .rw[if_pos p,if_pos p]
        refine .sl hB ?_ (by omega) (by simp)
        have:(m-l)*s=0:=by simp[p]
        omega
       .rw[if_neg p,if_neg p];simp only[Option.map_some];rw[add_eq _ _ rfl];refine .sl hB ?_ (by omega) (by simp);rw[Nat.add_assoc,<-Nat.add_mul,show l+(m-l)=m by omega];omega
      .cases hr
    .cases hr
  .rename_i s cells sz len cap hs
   cases hx with
   |b9 fn W g2 p1 p2 p3=>
    rename_i b off c
    have sub:∀l k:Nat,∀i x,((cells.drop l).take k)[i]?=some x->cells[l+i]?=some x:=by
     intro l k i x hx
     by_cases hi:i<k
     .rwa[ua _ _ _ _ hi]at hx
     .rw[List.getElem?_take,if_neg hi]at hx;cases hx
    have hlen:∀l f:Nat,l<=f->f<=len->((cells.drop (l*sz)).take ((f-l)*sz)).length=(f-l)*sz:=by
     intro l f a1 a2
     have T:l*sz+(f-l)*sz=f*sz:=by rw[<-Nat.add_mul,show l+(f-l)=f by omega]
     have S:f*sz<=len*sz:=Nat.mul_le_mul_right _ a2;simp;omega
    split at hr
    .rename_i l f q1 q2 q3
     have F:C=none:=by
      cases X with
      |none=>cases C with|none=>rfl|some _=>exact D.elim
      |some _=>cases q3
     subst F
     have q:(z=none/\l=0)\/∃k,z=some (.int k (l:Int)):=by
      rcases fB G q1 with⟨_,a,b⟩|⟨_,k,_,b⟩
      .exact .inl ⟨a,b⟩
      .exact .inr ⟨k,b⟩
     have j:(B=none/\f=len/\(none:Option Value)=none)\/∃k,B=some (.int k (f:Int)):=by
      rcases fB E q2 with⟨_,a,b⟩|⟨_,k,_,b⟩
      .exact .inl ⟨a,b,rfl⟩
      .exact .inr ⟨k,b⟩
     split at hr
     .rename_i c'
      obtain rfl:c=c':=p3 c' rfl
      split at hr
      .rename_i hc
       obtain⟨rfl,h1,h2,h3⟩:=hc
       simp only[ab]at hr;subst hr
       refine⟨_,iS (m:=c) I hs q j (.inl ⟨rfl,rfl⟩) h1 (by omega) (ak _),?_⟩
       by_cases p:c=l
       .rw[if_pos p,if_pos p]
        refine .b9 fn (by simp) (by simp) ?_ (by omega) (by simp)
        have:f-l=0:=by omega
        simp[this]
       .rw[if_neg p,if_neg p];simp only[Option.map_some];rw[add_eq _ _ rfl];refine .b9 (λi=>fn (l*s+i)) (λi x hx=>?_) (λi x hx=>g2 _ x (sub _ _ i x hx)) (hlen l f h1 h2) (by omega) (by simp);rw[Nat.add_assoc];exact W _ x (sub _ _ i x hx)
      .cases hr
     .split at hr
      .rename_i hc
       obtain⟨rfl,h1,h2⟩:=hc
       have K:=iS (P:=P) (w:=w) (a:=some ⟨b,off,none⟩) (m:=c) (cap:=c) I hs q j (.inl ⟨rfl,rfl⟩) h1 (Nat.le_trans h2 p2) (ak _)
       split at hr
       .rename_i Z
        simp only[ab]at hr;subst hr
        refine⟨_,K,?_⟩
        by_cases N:c=l
        .have Q:l=0:=by omega
         subst Q
         rw[if_pos N]
         have:f=0:=by omega
         subst this;refine .b9 fn (by simp) (by simp) (by simp) (by omega) (by simp)
        .rw[if_neg N];simp only[Option.map_some];rw[add_eq _ _ rfl];refine .b9 (λi=>fn (l*s+i)) (λi x hx=>?_) (λi x hx=>g2 _ x (sub _ _ i x hx)) (hlen l f h1 h2) (by omega) (by simp);rw[Nat.add_assoc];exact W _ x (sub _ _ i x hx)
       .simp only[ab]at hr;subst hr
        refine⟨_,K,?_⟩
        have:f-l=0:=by omega
        rw[this]
        split
        .exact .cq _ _
        .exact .cq _ _
      .cases hr
    .rename_i l f m q1 q2 q3
     obtain⟨ym,rfl,J⟩:=EX D q3
     cases C with
     |none=>exact D.elim
     |some um=>
      obtain⟨R,im,rfl,_,_,em⟩:=jS D J
      split at hr
      .rename_i hc
       obtain⟨rfl,h1,h2,h3,O⟩:=hc
       simp only[ab]at hr;subst hr
       have q:(z=none/\l=0)\/∃k,z=some (.int k (l:Int)):=by
        rcases fB G q1 with⟨_,a,b⟩|⟨_,k,_,b⟩
        .exact .inl ⟨a,b⟩
        .exact .inr ⟨k,b⟩
       have j:∃k,B=some (.int k (f:Int)):=by
        rcases fB E q2 with⟨a,_,_⟩|⟨_,k,_,b⟩
        .rw[a]at O;cases O
        .exact⟨k,b⟩
       refine⟨_,iS (m:=m) I hs q (.inr j) (.inr ⟨R,by rw[em]⟩) h1 h2 (by omega),?_⟩
       by_cases p:m=l
       .rw[if_pos p,if_pos p]
        refine .b9 fn (by simp) (by simp) ?_ (by omega) (by simp)
        have:f-l=0:=by omega
        simp[this]
       .rw[if_neg p,if_neg p];simp only[Option.map_some];rw[add_eq _ _ rfl];refine .b9 (λi=>fn (l*s+i)) (λi x hx=>?_) (λi x hx=>g2 _ x (sub _ _ i x hx)) (hlen l f h1 (by omega)) (by omega) (by simp);rw[Nat.add_assoc];exact W _ x (sub _ _ i x hx)
      .cases hr
    .cases hr
  .rename_i s rows sz hs
   split at hr
   .rename_i l f q1 q2
    have F:C=none:=by cases C with|none=>rfl|some _=>exact D.elim
    subst F
    have q:(z=none/\l=0)\/∃k,z=some (.int k (l:Int)):=by
     rcases fB G q1 with⟨_,a,b⟩|⟨_,k,_,b⟩
     .exact .inl ⟨a,b⟩
     .exact .inr ⟨k,b⟩
    split at hr
    .rename_i hc
     obtain⟨rfl,h1,h2⟩:=hc
     simp only[ab]at hr;subst hr
     cases hx with
     |hU=>
      have j:(B=none/\f=0/\(none:Option Value)=none)\/∃k,B=some (.int k (f:Int)):=by
       rcases fB E q2 with⟨_,a,b⟩|⟨_,k,_,b⟩
       .exact .inl ⟨a,by simpa using b,rfl⟩
       .exact .inr ⟨k,b⟩
      have T:f=0:=by simpa using h2
      have S:l=0:=by omega
      subst T;subst S;refine⟨_,iS (a:=none) (m:=0) I hs q j (.inl ⟨rfl,rfl⟩) (ak _) (ak _) (ak _),?_⟩;simp;exact .hU
     |h9 a=>
      have j:(B=none/\f=0/\(none:Option Value)=none)\/∃k,B=some (.int k (f:Int)):=by
       rcases fB E q2 with⟨_,a1,b⟩|⟨_,k,_,b⟩
       .exact .inl ⟨a1,by simpa using b,rfl⟩
       .exact .inr ⟨k,b⟩
      have T:f=0:=by simpa using h2
      have S:l=0:=by omega
      subst T;subst S;refine⟨_,iS (a:=some a) (m:=0) I hs q j (.inl ⟨rfl,rfl⟩) (ak _) (ak _) (ak _),?_⟩;simp;exact .h9 a
     |aG hl U hp=>
      rename_i b off c
      cases hp with
      |b9 fn W g2 p1 p2 p3=>
      have j:(B=none/\f=rows.length/\(none:Option Value)=none)\/∃k,B=some (.int k (f:Int)):=by
       rcases fB E q2 with⟨_,a,b⟩|⟨_,k,_,b⟩
       .exact .inl ⟨a,b,rfl⟩
       .exact .inr ⟨k,b⟩
      have V:((rows.drop l).take (f-l)).length=f-l:=by simp;omega
      have L:∀r,r∈(rows.drop l).take (f-l)->r.length=s:=λr hr=>hl r (List.mem_of_mem_drop (List.mem_of_mem_take hr))
      have M:=C4 l (f-l) hl
      have sub:∀i x,((rows.drop l).take (f-l)).flatten[i]?=some x->rows.flatten[l*s+i]?=some x:=by
       intro i x hx
       rw[M]at hx
       by_cases hi:i<(f-l)*s
       .rwa[ua _ _ _ _ hi]at hx
       .rw[List.getElem?_take,if_neg hi]at hx;cases hx
      refine⟨_,iS (m:=c) I hs q j (.inl ⟨rfl,rfl⟩) h1 (Nat.le_trans h2 p2) (ak _),?_⟩
      by_cases p:c=l
      .rw[if_pos p]
       have Q:f-l=0:=by omega
       have en:(rows.drop l).take (f-l)=[]:=by rw[Q];simp
       rw[en];rw[show f-l=([]:List (List AV)).length by rw[Q];rfl];refine .aG (by simp) rfl (.b9 fn (by simp) (by simp) (by simp) (by simp) (by simp))
      .rw[if_neg p]
       simp only[Option.map_some]
       rw[add_eq _ _ rfl]
       have key:VR g (.aG ((rows.drop l).take (f-l)) s) (.slice (some ⟨b,off+l*s,none⟩) ((rows.drop l).take (f-l)).length (c-l)):=by refine .aG L (GU U λy hy=>by rw[M]at hy;exact List.mem_of_mem_drop (List.mem_of_mem_take hy)) (.b9 (λi=>fn (l*s+i)) (λi x hx=>?_) (λi x hx=>g2 _ x (sub i x hx)) (rU L) (by omega) (by simp));rw[Nat.add_assoc];exact W _ x (sub i x hx)
       rw[V]at key;exact key
    .cases hr
   .rename_i l f y0 q1 q2
    split at hr
    .rename_i m J
     cases C with
     |none=>exact D.elim
     |some um=>
      obtain⟨R,im,rfl,_,_,em⟩:=jS D J
      split at hr
      .rename_i hc
       obtain⟨rfl,h1,h2,h3,O⟩:=hc
       simp only[ab]at hr;subst hr
       have q:(z=none/\l=0)\/∃k,z=some (.int k (l:Int)):=by
        rcases fB G q1 with⟨_,a,b⟩|⟨_,k,_,b⟩
        .exact .inl ⟨a,b⟩
        .exact .inr ⟨k,b⟩
       have j:∃k,B=some (.int k (f:Int)):=by
        rcases fB E q2 with⟨a,_,_⟩|⟨_,k,_,b⟩
        .rw[a]at O;cases O
        .exact⟨k,b⟩
       cases hx with
       |hU=>
        have Q:m=0:=by simpa using h3
        have T:f=0:=by omega
        have S:l=0:=by omega
        subst Q;subst T;subst S;refine⟨_,iS (a:=none) (m:=0) I hs q (.inr j) (.inr ⟨R,by rw[em]⟩) (ak _) (ak _) (ak _),?_⟩;simp;exact .hU
       |h9 a=>
        have Q:m=0:=by simpa using h3
        have T:f=0:=by omega
        have S:l=0:=by omega
        subst Q;subst T;subst S;refine⟨_,iS (a:=some a) (m:=0) I hs q (.inr j) (.inr ⟨R,by rw[em]⟩) (ak _) (ak _) (ak _),?_⟩;simp;exact .h9 a
       |aG hl U hp=>
        rename_i b off c
        cases hp with
        |b9 fn W g2 p1 p2 p3=>
        have V:((rows.drop l).take (f-l)).length=f-l:=by simp;omega
        have L:∀r,r∈(rows.drop l).take (f-l)->r.length=s:=λr hr=>hl r (List.mem_of_mem_drop (List.mem_of_mem_take hr))
        have M:=C4 l (f-l) hl
        have sub:∀i x,((rows.drop l).take (f-l)).flatten[i]?=some x->rows.flatten[l*s+i]?=some x:=by
         intro i x hx
         rw[M]at hx
         by_cases hi:i<(f-l)*s
         .rwa[ua _ _ _ _ hi]at hx
         .rw[List.getElem?_take,if_neg hi]at hx;cases hx
        refine⟨_,iS (m:=m) I hs q (.inr j) (.inr ⟨R,by rw[em]⟩) h1 h2 (Nat.le_trans h3 p2),?_⟩
        by_cases p:m=l
        .rw[if_pos p]
         have Q:f-l=0:=by omega
         have en:(rows.drop l).take (f-l)=[]:=by rw[Q];simp
         rw[en];rw[show f-l=([]:List (List AV)).length by rw[Q];rfl];refine .aG (by simp) rfl (.b9 fn (by simp) (by simp) (by simp) (by simp) (by simp))
        .rw[if_neg p]
         simp only[Option.map_some]
         rw[add_eq _ _ rfl]
         have key:VR g (.aG ((rows.drop l).take (f-l)) s) (.slice (some ⟨b,off+l*s,none⟩) ((rows.drop l).take (f-l)).length (m-l)):=by refine .aG L (GU U λy hy=>by rw[M]at hy;exact List.mem_of_mem_drop (List.mem_of_mem_take hy)) (.b9 (λi=>fn (l*s+i)) (λi x hx=>?_) (λi x hx=>g2 _ x (sub i x hx)) (rU L) (by omega) (by simp));rw[Nat.add_assoc];exact W _ x (sub i x hx)
         rw[V]at key;exact key
      .cases hr
    .cases hr
   .cases hr
  .rename_i s hs
   cases hx with
   |cq a c=>
    split at hr
    .rename_i q1 q2
     have F:C=none:=by cases C with|none=>rfl|some _=>exact D.elim
     subst F
     simp only[ab]at hr;subst hr
     have q:(z=none/\0=0)\/∃k,z=some (.int k ((0:Nat):Int)):=by
      rcases fB G q1 with⟨_,a,b⟩|⟨_,k,_,b⟩
      .exact .inl ⟨a,b⟩
      .exact .inr ⟨k,b⟩
     have j:(B=none/\0=0/\(none:Option Value)=none)\/∃k,B=some (.int k ((0:Nat):Int)):=by
      rcases fB E q2 with⟨_,a,b⟩|⟨_,k,_,b⟩
      .exact .inl ⟨a,b,rfl⟩
      .exact .inr ⟨k,b⟩
     refine⟨_,iS (m:=c) I hs q j (.inl ⟨rfl,rfl⟩) (ak _) (Nat.zero_le _) (ak _),?_⟩
     split
     .exact .cq _ _
     .exact .cq _ _
    .cases hr
  .rename_i s hs
   cases hx
   split at hr
   .rename_i q1 q2 q3
    have F:C=none:=by
     cases X with
     |none=>cases C with|none=>rfl|some _=>exact D.elim
     |some _=>cases q3
    subst F
    simp only[ab]at hr;subst hr
    have q:(z=none/\0=0)\/∃k,z=some (.int k ((0:Nat):Int)):=by
     rcases fB G q1 with⟨_,a,b⟩|⟨_,k,_,b⟩
     .exact .inl ⟨a,b⟩
     .exact .inr ⟨k,b⟩
    have j:(B=none/\0=0/\(none:Option Value)=none)\/∃k,B=some (.int k ((0:Nat):Int)):=by
     rcases fB E q2 with⟨_,a,b⟩|⟨_,k,_,b⟩
     .exact .inl ⟨a,b,rfl⟩
     .exact .inr ⟨k,b⟩
    refine⟨_,iS (m:=0) I hs q j (.inl ⟨rfl,rfl⟩) (ak _) (ak _) (ak _),?_⟩;simp;exact .sc _
   .rename_i q1 q2 q3
    obtain⟨ym,rfl,J⟩:=EX D q3
    cases C with
    |none=>exact D.elim
    |some um=>
     obtain⟨R,im,rfl,_,_,em⟩:=jS D J
     split at hr
     .rename_i O
      simp only[ab]at hr;subst hr
      have q:(z=none/\0=0)\/∃k,z=some (.int k ((0:Nat):Int)):=by
       rcases fB G q1 with⟨_,a,b⟩|⟨_,k,_,b⟩
       .exact .inl ⟨a,b⟩
       .exact .inr ⟨k,b⟩
      have j:∃k,B=some (.int k ((0:Nat):Int)):=by
       rcases fB E q2 with⟨a,_,_⟩|⟨_,k,_,b⟩
       .rw[a]at O;cases O
       .exact⟨k,b⟩
      refine⟨_,iS (m:=0) I hs q (.inr j) (.inr ⟨R,by rw[em]⟩) (ak _) (ak _) (ak _),?_⟩;simp;exact .sc _
     .cases hr
   .cases hr
  .cases hr
 .rename_i I
  split at hr
  .rename_i s l q1
   cases hx
   have F:C=none:=by cases C with|none=>rfl|some _=>exact D.elim
   subst F
   split at hr
   .rename_i f q2
    split at hr
    .rename_i hc
     rw[CH]at hr
     simp only[ab]at hr;subst hr
     have q:(z=none/\l=0)\/∃k,z=some (.int k (l:Int)):=by
      rcases fB G q1 with⟨_,a,b⟩|⟨_,k,_,b⟩
      .exact .inl ⟨a,b⟩
      .exact .inr ⟨k,b⟩
     have j:(B=none/\f=s.size/\(none:Option Value)=none)\/∃k,B=some (.int k (f:Int)):=by
      rcases fB E q2 with⟨_,a,b⟩|⟨_,k,_,b⟩
      .exact .inl ⟨a,b,rfl⟩
      .exact .inr ⟨k,b⟩
     refine⟨.string (s.extract l f),?_,?_⟩
     .simp only[Instr.sliceAt,Instr.slice,Sem.run_bind,run_underlying I,Result.andThen_ok,Option.isSome_none,Bool.false_eq_true,if_false];rw[Ht q j (.inl ⟨rfl,rfl⟩) hc.1 hc.2 (ak _)];rfl
     .have e:(⟨⟨(s.data.toList.drop l).take (f-l)⟩⟩:ByteArray)=s.extract l f:=by apply ByteArray.ext;apply Array.ext';simp[List.take_drop,<-List.drop_take]
      rw[e];exact .sc _
    .cases hr
   .cases hr
  .cases hr
 .cases hr
theorem adi{x:AV}{u:Value}{n:Nat}(hx:VR g x u)(hr:ft x=some n)(hs:∀b,x≠.sc (.string b)):∃base c,u=.slice base n c:=by
 unfold ft at hr
 split at hr
 .cases hx;simp at hr;subst hr;exact⟨_,_,rfl⟩
 .cases hx;simp at hr;subst hr;exact⟨_,_,rfl⟩
 .cases hx with|hU=>simp at hr;subst hr;exact⟨_,_,rfl⟩|h9 _=>simp at hr;subst hr;exact⟨_,_,rfl⟩|aG _ _ _=>simp at hr;subst hr;exact⟨_,_,rfl⟩
 .cases hx;simp at hr;subst hr;exact⟨_,_,rfl⟩
 .cases hx;simp at hr;subst hr;exact⟨_,_,rfl⟩
 .exact absurd rfl (hs _)
 .cases hr
theorem Ts{k:Array TypeId}{q ty:TypeId}{x y r:AV}{u v:Value}(hw:W h g w)(p:k[0]?=some q)(hx:VR g x u)(hy:VR g y v)
 (hr:EL P h q x y=some (r,h')):bh P h g w (do pure (.value (<-Builtin.copy_ k ty #[u,v]))) (.val r) h':=by
 unfold EL at hr
 split at hr
 .rename_i e dl n0 C n l
  split at hr
  .rename_i s hs
   have hlen:=Ka (P:=P) hy l
   cases hf:gu h s (Nat.min n0 dl) y with
   |none=>rw[hf]at hr;cases hr
   |some new=>
    rw[hf]at hr
    obtain⟨news,q1,q2,q3⟩:=uy (P:=P) hw hy hf
    have q3:=q3 w.drawn
    split at hr
    .rename_i Bl o ad m off sz len cap f
     simp only[ab]at f;subst f
     split at hr
     .rename_i hc
      obtain⟨rfl,D⟩:=hc
      cases i:ll h o ad m off new with
      |none=>rw[i]at hr;cases hr
      |some h2=>
       rw[i]at hr
       simp only[Option.map_some,ab,an]at hr
       obtain⟨rfl,rfl⟩:=hr
       cases hx with
       |sl hB p1 p2 p3=>
        rename_i b E c
        have j:len=dl:=by simpa[ft]using n
        subst j;obtain⟨w',B,z,t⟩:=CA (P:=P) hw i hB q1;refine⟨g,w',_,?_,.sc _,z,t⟩;simp only[Builtin.copy_,p,List.getElem?_toArray,List.getElem?_cons_zero,List.getElem?_cons_succ,Sem.run_bind,run_underlying C,Result.andThen_ok,hlen,run_sizeOf hs,q3,B,Sem.run_pure]
     .cases hr
    .cases hr
  .cases hr
 .cases hr
end
end Go.AI
end
