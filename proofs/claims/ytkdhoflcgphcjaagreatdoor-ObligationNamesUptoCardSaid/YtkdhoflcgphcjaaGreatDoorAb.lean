/- A part of the proof. -/
import Derived.Laws.Tables
import Derived.Laws.MakeOwn
import Derived.Laws.AppendOwn
import Derived.IntWalk
import Derived.Test.YtkdhoflcgphcjaaGreatDoorAa
set_option linter.all false

section
namespace Go.AI
def tL(g:Gh):dK->Deferred->Prop|.fn f cap args,d=>∃i c:List Value,d={target:=.fn f i.toArray,args:=c.toArray}/\ay g cap i/\ay g args c|.da o,d=>∃b s n,g.B o 0=some (b,s,n)/\d={target:=.collected b,args:=#[]}
theorem tL.mono{g g':Gh}(hl:g.Le g'){d:dK}{c:Deferred}(h:tL g d c):tL g' d c:=by cases d with|fn f cap args=>obtain⟨a,b,e,h1,h2⟩:=h;exact⟨a,b,e,h1.mono hl,h2.mono hl⟩|da o=>obtain⟨b,s,n,h1,h2⟩:=h;exact⟨b,s,n,hl.b _ _ _ h1,h2⟩
def bf(P:Program)(h:AHeap)(g:Gh)(w:World)(s:Sem Next)(r:dv)(h':AHeap):Prop:=match r with|.val v=>∃g' w' x,s.run P w=.ok (.value x) w'/\VR g' v x/\W h' g' w'/\Step h g w h' g' w'|.skip=>∃g' w',s.run P w=.ok .skip w'/\W h' g' w'/\Step h g w h' g' w'|.enter f args=>h'=h/\∃vs:List Value,s.run P w=.ok (.enter f vs.toArray) w/\ay g args vs|.round l args=>h'=h/\∃b k n,∃vs:List Value,g.B l 0=some (b,k,n)/\ay g args vs/\s.run P w=(Instr.yield b vs.toArray).run P w|.defer d=>h'=h/\∃c,s.run P w=.ok (.defer c) w/\tL g d c|.panic v=>h'=h/\∃x,s.run P w=.halt (.panic x) w/\VR g v x|.zI=>h'=h/\s.run P w=.ok .recover w
section
variable {P:Program}{h h':AHeap}{g:Gh}{w:World}
theorem bf.same{s:Sem Next}{v:AV}{x:Value}(hw:W h g w)(hr:s.run P w=.ok (.value x) w)(hv:VR g v x):bf P h g w s (.val v) h:=⟨g,w,x,hr,hv,hw,.refl h g w⟩
theorem iG{s:Sem Value}{c:Option AV}{r:dv}(hw:W h g w)(e:val h c=some (r,h'))(hs:∀v,c=some v->∃x,s.run P w=.ok x w/\VR g v x):bf P h g w (do pure (.value (<-s))) r h':=by unfold val at e;cases c with|none=>cases e|some v=>simp only[Option.map_some,an,aV]at e;obtain⟨rfl,rfl⟩:=e;obtain⟨x,h1,h2⟩:=hs v rfl;exact bf.same hw (by simp[h1]) h2
theorem C6{x:AV}{v:Value}(hc:(aO x).all dt=true)(hr:VR g x v):ay g (aO x) v.cells.toList:=by
 by_cases hx:∃a,x=.agg a
 .obtain⟨a,rfl⟩:=hx;obtain⟨cs,rfl,dL⟩:=VR.hW.1 hr;exact dL
 .have e:aO x=[x]:=by cases x<;>first|rfl|grind
  rw[e]at hc⊢
  have h1:=H6 (by grind) hr
  have:v.cells=#[v]:=by cases v<;>simp_all[Value.cells,Value.oneCell']
  rw[this];exact⟨hr,trivial⟩
theorem nZ{z:AV}{v:Value}(h:z=bh v):ay g (aO z) v.cells.toList:=by subst h;cases v with|agg cs=>exact ay.ua _|tuple cs=>exact⟨VR.bh _,trivial⟩|_=>exact⟨.sc _,trivial⟩
theorem LP{cells:List AV}{vs:Array Value}{t:TypeId}(hw:W h g w)(hf:∀v,g.B h.next v=none)(hv:ay g cells vs.toList):
 ∃g',g'.B h.next 0=some (w.heap.size,cells.length,cells.length)/\W (h.alloc (.cells 0 0 cells 0 t true false)) g' (w.alloc (.cells vs t))/\Step h g w (h.alloc (.cells 0 0 cells 0 t true false)) g' (w.alloc (.cells vs t)):=by
 have c:vs.size=cells.length:=by simpa using hv.length.symm
 refine⟨g.dc h.next 0 (w.heap.size,cells.length,cells.length),Gh.fT _ _ _ _,?_⟩
 refine qC hw hf rfl ⟨λv hv=>?_,?_⟩
 .cases e:(g.dc h.next 0 (w.heap.size,cells.length,cells.length)).B h.next v with
  |none=>rfl
  |some y=>
   rcases Gh.cO e with⟨_,j,_⟩|j
   .omega
   grind
 intro v h1 h2 b s n hb
 obtain rfl:v=0:=by omega
 rw[Gh.fT]at hb
 cases hb
 refine⟨λ_=>rfl,vs,(0,0),⟨kq _ _,c,ao _,ao _,λ_=>rfl,λi _ h3 h4=>by simp at h4,λ_=>.inl rfl,?_⟩⟩
 intro i x hi hx
 have:i<vs.size:=by omega
 refine⟨vs[i],by simp[this],(hv.get i x vs[i] hx (by simp[this])).mono (Gh.kA (hf 0))⟩
theorem IF{x:AV}{v:Value}{t:TypeId}(hw:W h g w)(hf:∀v,g.B h.next v=none)(hv:ay g (aO x) v.cells.toList):bf P h g w (do pure (.value (.pointer (some (<-newVar t v))))) (.val (jT h t (aO x)).2) (jT h t (aO x)).1:=by obtain⟨g',h1,h2,h3⟩:=LP (t:=t) hw hf hv;refine⟨g',_,.pointer (some ⟨w.heap.size,0,none⟩),?_,.ref h1,h2,h3⟩;simp[newVar,newRow]
theorem S2{e:TypeId}{z:AV}(hw:W h g w)(hf:∀v,g.B h.next v=none)(hz:dN P e=some z):bf P h g w (do pure (.value (<-Instr.alloc e true (.tuple #[])))) (.val (jT h e (aO z)).2) (jT h e (aO z)).1:=by obtain⟨v,h1,h2⟩:=xn hz w;obtain⟨g',w',x,h3,h4⟩:=IF (P:=P) (x:=z) (v:=v) (t:=e) hw hf (nZ h2);refine⟨g',w',x,?_,h4⟩;rw[<-h3];simp[Instr.alloc,h1]
theorem WW{e:TypeId}{x:AV}{v:Value}(hw:W h g w)(hf:∀v,g.B h.next v=none)(hx:VR g x v)(hc:(aO x).all dt=true):bf P h g w (do pure (.value (<-Instr.box e v))) (.val (jT h e (aO x)).2) (jT h e (aO x)).1:=by obtain⟨g',w',y,h3,h4⟩:=IF (P:=P) (x:=x) (v:=v) (t:=e) hw hf (C6 hc hx);refine⟨g',w',y,?_,h4⟩;rw[<-h3];simp[Instr.box]
theorem S3{t:TypeId}{x y:AV}{a v:Value}(hw:W h g w)(hx:VR g x a)(hy:VR g y v)(hr:oG P h t x y=some h'):
 bf P h g w (do Instr.storeAt t a v;pure .skip) .skip h':=by
 unfold oG at hr
 split at hr
 .rename_i s o ver n off hs
  split at hr
  .rename_i hlen
   cases hx with
   |ref hb=>
    rename_i b sz
    have i:(aO y).all dt=true:=by grind[hT]
    have c:=C6 i hy
    obtain⟨w',h1,h2,h3⟩:=Cy (P:=P) hw hr hb c
    refine⟨g,w',?_,h2,h3⟩
    have j:v.cells.size=s:=by rw[<-hlen];simpa using c.length.symm
    simp only[Instr.storeAt,Instr.sureAddr,storeVar,Sem.run_bind,Sem.run_pure,Result.andThen_ok,run_sizeOf hs,j,ne_eq,not_true_eq_false,if_false,h1]
  .cases hr
 .cases hr
theorem Jw{t:TypeId}{cs:List AV}{vs:Array Value}{off:Nat}{y:AV}(hr:apart P t cs off=some y)(hv:ay g cs vs.toList):
 ∃u,(part t vs off).run P w=.ok u w/\VR g y u:=by
 unfold apart at hr
 split at hr
 .rename_i s ha hs
  cases hr
  refine⟨.agg (vs.extract off (off+s)),?_,?_⟩
  .simp only[part,Sem.run_bind,xC ha,Result.andThen_ok,if_true,run_sizeOf hs,Sem.run_pure]
  .refine VR.hW.2 ⟨_,rfl,?_⟩
   have:(vs.extract off (off+s)).toList=(vs.toList.drop off).take s:=by simp_all
   rw[this];exact(hv.drop off).take s
 .rename_i s ha hs
  have h1:cs[off]?=some y:=by simp_all
  have c:off<vs.size:=by
   have:=hv.length
   have h2:off<cs.length:=by grind
   simp at this;omega
  refine⟨vs[off],?_,hv.get off y vs[off] h1 (by simp[c])⟩;simp[part,xC ha,c]
 .cases hr
theorem Jx{t:TypeId}{x y:AV}{v:Value}{f:Nat}(hx:VR g x v)(hr:s6 P t x f=some y):
 ∃u,(Instr.field t v f).run P w=.ok u w/\VR g y u:=by
 unfold s6 at hr
 split at hr
 .rename_i c cs hu
  obtain⟨vs,rfl,hv⟩:=VR.hW.1 hx
  split at hr
  .rename_i fd i;obtain⟨u,h1,h2⟩:=Jw (w:=w) hr hv;simp_all[run_underlying,Instr.field,asAgg]
  .cases hr
 .cases hr
theorem iB{x:AV}{v:Value}{n:Nat}(hx:VR g x v)(hr:ff x=some n):∃k i,v=.int k i/\0<=i/\i.toNat=n/\i=n:=by
 unfold ff at hr
 split at hr
 .rename_i k i
  split at hr
  .rename_i hi;cases hx;grind
  .cases hr
 .cases hr
theorem Jy{t:TypeId}{x i y:AV}{v u:Value}(hx:VR g x v)(hi:VR g i u)(hr:qX P t x i=some y):
 ∃z,(Instr.index t v u).run P w=.ok z w/\VR g y z:=by
 unfold qX at hr
 split at hr
 .rename_i len e cs hu
  obtain⟨vs,rfl,hv⟩:=VR.hW.1 hx
  split at hr
  .rename_i n s hn hs
   split at hr
   .rename_i c;obtain⟨k,j,rfl,h0,h1,h2⟩:=iB hi hn;obtain⟨z,h3,h4⟩:=Jw (w:=w) hr hv;simp_all[Sem.run_bind,Sem.run_pure,Result.andThen_ok,run_underlying,if_pos,run_sizeOf,Instr.index,asIntOf,h0]
   .cases hr
  .cases hr
 .rename_i s hu
  cases hx
  split at hr
  .rename_i n hn
   obtain⟨k,j,rfl,h0,h1,h2⟩:=iB hi hn
   split at hr
   .rename_i b hb;cases hr;refine⟨_,?_,.sc _⟩;simp_all[Sem.run_bind,Sem.run_pure,Result.andThen_ok,run_underlying,if_pos,Instr.index,asIntOf,h0]
   .cases hr
  .cases hr
 .cases hr
theorem HG{t:TypeId}{x y:AV}{v:Value}{f:Nat}(hx:VR g x v)(hr:mz P t x f=some y):
 ∃u,(Instr.fieldAt t v f).run P w=.ok u w/\VR g y u:=by
 unfold mz at hr
 split at hr
 .rename_i j hu
  split at hr
  .rename_i fd c
   split at hr
   .rename_i s o ver n off hs;cases hr;cases hx with|ref hb=>rename_i b sz;refine⟨.pointer (some ⟨b,off+fd.offset,none⟩),?_,.ref hb⟩;simp[Instr.fieldAt,run_underlying hu,c,Instr.sureAddr,fieldPlace,run_sizeOf hs,add_eq]
   .rename_i s cells hs
    cases hr
    cases hx with
    |cr fn h1 h2=>
     rename_i b off
     refine⟨.pointer (some ⟨b,off+fd.offset,none⟩),?_,.cr (λi=>fn (fd.offset+i)) ?_ ?_⟩
     .simp[Instr.fieldAt,run_underlying hu,c,Instr.sureAddr,fieldPlace,run_sizeOf hs,add_eq]
     .grind
     grind
   .cases hr
  .cases hr
 .cases hr
theorem HH{t:TypeId}{x i y:AV}{v u:Value}(hx:VR g x v)(hi:VR g i u)(hr:nY P t x i=some y):
 ∃z,(Instr.indexAt t v u).run P w=.ok z w/\VR g y z:=by
 unfold nY at hr
 split at hr
 .rename_i e n hu hn
  obtain⟨k,j,rfl,h0,h1,h2⟩:=iB hi hn
  split at hr
  .rename_i s o ver m off sz len cap hs
   split at hr
   .rename_i hc
    obtain⟨rfl,q⟩:=hc
    cases hr
    cases hx with
    |sl hb p1 p2 p3=>
     rename_i b E c
     refine⟨.pointer (some ⟨b,off+n*s,none⟩),?_,.ref hb⟩
     have p:j<(len:Int):=by omega
     simp[Instr.indexAt,asIntOf,run_underlying hu,h0,p,run_sizeOf hs,add_eq,h1]
   .cases hr
  .rename_i s cells sz len cap hs
   split at hr
   .rename_i hc
    obtain⟨rfl,q⟩:=hc
    cases hr
    cases hx with
    |aN fn h3 h4 p1 p2 p3=>
     rename_i b off c
     refine⟨.pointer (some ⟨b,off+n*s,none⟩),?_,.cr (λi=>fn (n*s+i)) ?_ ?_⟩
     .have p:j<(len:Int):=by omega
      simp[Instr.indexAt,asIntOf,run_underlying hu,h0,p,run_sizeOf hs,add_eq,h1]
     .grind
     grind|iQ a e1 e2 e3 e4 e5=>omega
   .cases hr
  .rename_i s rows sz hs
   split at hr
   .rename_i hc
    subst hc
    split at hr
    .rename_i r C
     cases hr
     have q:n<rows.length:=by grind
     cases hx with
     |gG=>simp at q
     |gL _=>simp at q
     |aI hl F hp=>
      rename_i b off c
      obtain⟨fn,h3,h4,p1,p2,p3⟩:=hp.rK
      .refine⟨.pointer (some ⟨b,off+n*s,none⟩),?_,.cr (λi=>fn (n*s+i)) ?_ ?_⟩
       .have p:j<(rows.length:Int):=by omega
        simp[Instr.indexAt,asIntOf,run_underlying hu,h0,p,run_sizeOf hs,add_eq,h1]
       .intro i x D;rw[Nat.add_assoc];exact h3 _ x (Hu hl C D)
       grind[Hu]
    .cases hr
   .cases hr
  .cases hr
 .rename_i len e n hu hn
  obtain⟨k,j,rfl,h0,h1,h2⟩:=iB hi hn
  split at hr
  .rename_i s o ver m off hs
   split at hr
   .rename_i q
    cases hr
    cases hx with
    |ref hb=>
     rename_i b E
     refine⟨.pointer (some ⟨b,off+n*s,none⟩),?_,.ref hb⟩
     have p:j<(len:Int):=by omega
     simp[Instr.indexAt,asIntOf,run_underlying hu,Instr.sureAddr,h0,p,run_sizeOf hs,add_eq,h1]
   .cases hr
  .rename_i s cells hs
   split at hr
   .rename_i q
    cases hr
    cases hx with
    |cr fn h3 h4=>
     rename_i b off
     refine⟨.pointer (some ⟨b,off+n*s,none⟩),?_,.cr (λi=>fn (n*s+i)) ?_ ?_⟩
     .have p:j<(len:Int):=by omega
      simp[Instr.indexAt,asIntOf,run_underlying hu,Instr.sureAddr,h0,p,run_sizeOf hs,add_eq,h1]
     .grind
     grind
   .cases hr
  .cases hr
 .cases hr
end
end Go.AI
end

section
namespace Go.AI
section
variable {P:Program}{h h':AHeap}{g:Gh}{w:World}
def lT(g:Gh):List (Nat×AV)->List (Nat×Value)->Prop|[],[]=>True|(i,x)::xs,(j,v)::vs=>i=j/\VR g x v/\lT g xs vs|_,_=>False
theorem lT.map{ρ:Operand->AV}{ρ':Operand->Value}(h:∀x,VR g (ρ x) (ρ' x)):∀(l:List (Nat×Operand)),lT g (l.map λ(i,x)=>(i,ρ x)) (l.map λ(i,x)=>(i,ρ' x))|[]=>trivial|(_,x)::l=>⟨rfl,h x,lT.map h l⟩
theorem IG(off:Nat):∀(l:List Value)(k:Nat)(c:Array Value),off+k+l.length<=c.size->((l.zipIdx k).foldl (λcs(x:Value×Nat)=>cs.setIfInBounds (off+x.2) x.1) c).size=c.size/\∀i:Nat,((l.zipIdx k).foldl (λcs(x:Value×Nat)=>cs.setIfInBounds (off+x.2) x.1) c)[i]?=if off+k<=i/\i<off+k+l.length then l[i-(off+k)]? else c[i]?|[],k,c,_=>by simp;grind|v::l,k,c,hs=>by have j:off+k+(l.length+1)<=c.size:=hs;simp only[List.zipIdx_cons,List.foldl_cons];obtain⟨h1,h2⟩:=IG off l (k+1) (c.setIfInBounds (off+k) v) (by simp;omega);grind
theorem uI{place:Nat->Option (Nat×Nat)}:∀{parts:List (Nat×AV)}{c:List (Nat×Value)}{z cells:List AV}{zc:Array Value},
 iI place z parts=some cells->lT g parts c->ay g z zc.toList->∃C:Array Value,Instr.fill place zc c=some C/\ay g cells C.toList
 |[],[],z,cells,zc,hr,_,hz=>by simp[iI]at hr;subst hr;exact⟨zc,rfl,hz⟩
 |(i,x)::xs,(j,v)::vs,z,cells,zc,hr,hp,hz=>by
  obtain⟨rfl,hx,hp⟩:=hp
  simp only[iI]at hr
  cases o:place i with
  |none=>grind
  |some p=>
   obtain⟨off,size⟩:=p
   rw[o]at hr
   simp only at hr
   split at hr
   .rename_i hc
    obtain⟨h1,h2,h3⟩:=hc
    have hv:=C6 h3 hx
    have hl:=hv.length
    have q:=hz.length
    simp only[Array.length_toList]at hl q
    obtain⟨hs,hg⟩:=IG off v.cells.toList 0 zc (by simp;omega)
    simp only[Instr.fill,o]
    rw[if_neg (by simp;omega)]
    have m:(v.cells.zipIdx.foldl (λcs(x:Value×Nat)=>cs.setIfInBounds (off+x.2) x.1) zc)=(v.cells.toList.zipIdx.foldl (λcs(x:Value×Nat)=>cs.setIfInBounds (off+x.2) x.1) zc):=by rw[<-Array.foldl_toList];simp
    refine uI hr hp ?_
    rw[m]
    refine ay.of (by simp_all[ux,Array.length_toList]) ?_
    intro k y u hy hu
    rw[H7 _ _ _ h2]at hy
    rw[Array.getElem?_toList,hg k]at hu
    simp only[Nat.add_zero,Array.length_toList]at hu
    by_cases h4:off<=k/\k<off+(aO x).length
    .rw[if_pos h4]at hy;rw[if_pos (by omega)]at hu;exact hv.get _ _ _ hy hu
    .rw[if_neg h4]at hy;rw[if_neg (by omega)]at hu;exact hz.get _ _ _ hy (by grind)
   .cases hr
 |[],_::_,_,_,_,_,hp,_=>hp.elim|(_,_)::_,[],_,_,_,_,hp,_=>hp.elim
theorem Jz{t:TypeId}{parts:List (Nat×AV)}{c:Array (Nat×Value)}{y:AV}(hr:s7 P t parts=some y)(hp:lT g parts c.toList):
 ∃u,(Instr.build t c).run P w=.ok u w/\VR g y u:=by
 unfold s7 at hr
 split at hr
 .rename_i it n e hit hu
  split at hr
  .rename_i z o hz q;cases hf:iI (λi=>some (i*o.size,o.size)) (aO (bh z)) parts with|none=>grind|some cells=>rw[hf]at hr;cases hr;obtain⟨j,h1,h2⟩:=uI hf hp (nZ rfl);refine⟨.agg j,run_build w t c j ?_,VR.hW.2 ⟨j,rfl,h2⟩⟩;simp_all[Program.built]
  .cases hr
 .rename_i it m hit hu
  split at hr
  .rename_i z places hz p;cases hf:iI (λi=>places[i]?) (aO (bh z)) parts with|none=>grind|some cells=>rw[hf]at hr;cases hr;obtain⟨j,h1,h2⟩:=uI hf hp (nZ rfl);refine⟨.agg j,run_build w t c j ?_,VR.hW.2 ⟨j,rfl,h2⟩⟩;simp_all[List.getElem?_toArray,Program.built]
  .cases hr
 .cases hr
theorem C7{z:List AV}{zc:Array Value}(hz:ay g z zc.toList)(_hs:0<zc.size):∀n:Nat,ay g (gF z n) ((Array.range (n*zc.size)).map (λi=>zc[i%zc.size]!)).toList:=by
 have key:∀n:Nat,ay g (gF z n) ((List.range (n*zc.size)).map (λi=>zc[i%zc.size]!)):=by
  intro n
  induction n with
  |zero=>simp[gF,ay]
  |succ n ih=>
   have c:(List.range ((n+1)*zc.size)).map (λi=>zc[i%zc.size]!)=zc.toList++(List.range (n*zc.size)).map (λi=>zc[i%zc.size]!):=by
    have e:(n+1)*zc.size=zc.size+n*zc.size:=by grind
    rw[e,List.range_add,List.map_append,List.map_map]
    congr 1
    .apply List.ext_getElem
     .simp
     simp_all[Nat.mod_eq_of_lt]
    .simp_all
   rw[c];exact hz.append ih
 simp_all
theorem sx(z:List AV):∀n:Nat,(gF z n).length=n*z.length|0=>by simp[gF]|n+1=>by simp[gF,sx z n,Nat.add_mul];omega
theorem Cm{cells:List AV}{vs:Array Value}{e:TypeId}{s len c:Nat}(hw:W h g w)(hf:∀v,g.B h.next v=none)(hv:ay g cells vs.toList)(hl:cells.length=c*s)(hlen:len<=c){t:Sem Value}(hr:t.run P w=.ok (.slice (some ⟨w.heap.size,0,none⟩) len c) (w.alloc (.cells vs e))):bf P h g w (do pure (.value (<-t))) (.val (.sl h.next 0 cells.length 0 s len (some c))) (h.alloc (.cells 0 0 cells 0 e true false)):=by obtain⟨g',h1,h2,h3⟩:=LP (t:=e) hw hf hv;refine⟨g',_,.slice (some ⟨w.heap.size,0,none⟩) len c,by simp[hr],.sl h1 (by omega) hlen (by simp),h2,h3⟩
theorem Q1{t:TypeId}{len:Nat}{parts:List (Nat×AV)}{m:Array (Nat×Value)}{y:AV}(hw:W h g w)(hf:∀v,g.B h.next v=none)
 (hr:uy P h t len parts=some (y,h'))(hp:lT g parts m.toList):bf P h g w (do pure (.value (<-Instr.buildSlice t len m))) (.val y) h':=by
 unfold uy at hr
 split at hr
 .rename_i e hu
  split at hr
  .rename_i s z hs hz
   split at hr
   .rename_i hc
    obtain⟨E,u⟩:=hc
    split at hr
    .rename_i cells j
     split at hr
     .rename_i C
      cases hr
      obtain⟨v,hv,rfl⟩:=xn hz w
      have q:ay g (aO (bh v)) v.cells.toList:=nZ rfl
      have D:v.cells.size=s:=by have:=q.length;simp at this;omega
      have hlen:cells.length=len*s:=by
       have:∀{place:Nat->Option (Nat×Nat)}(ps:List (Nat×AV))(z c:List AV),iI place z ps=some c->c.length=z.length:=by intro place ps;induction ps with|nil=>intro z c h;simp[iI]at h;rw[h]|cons p ps ih=>grind[ux,iI]
       rw[this _ _ _ j,sx,u]
      by_cases h0:len*s=0
      .have o:ay g (gF (aO (bh v)) len) ((Array.range (len*s)).map (λi=>(#[]:Array Value)[i%(#[]:Array Value).size]!)).toList:=by grind[sx,aO,bh,h0,ay]
       obtain⟨F,h1,h2⟩:=uI j hp o;refine Cm hw hf h2 hlen (ao _) ?_;simp only[Instr.buildSlice,Sem.run_bind,run_underlying hu,Result.andThen_ok,run_sizeOf hs];simp_all[if_neg,if_pos,Sem.run_bind,Sem.run_pure,Result.andThen_ok,run_newObj,h0,newRow]
      .have o:ay g (gF (aO (bh v)) len) ((Array.range (len*s)).map (λi=>v.cells[i%v.cells.size]!)).toList:=by grind[Nat.pos_of_ne_zero,C7,h0]
       obtain⟨F,h1,h2⟩:=uI j hp o;refine Cm hw hf h2 hlen (ao _) ?_;simp only[Instr.buildSlice,Sem.run_bind,run_underlying hu,Result.andThen_ok,run_sizeOf hs];simp_all[if_neg,Sem.run_bind,Sem.run_pure,Result.andThen_ok,run_newObj,h0,newRow]
     .cases hr
    .cases hr
   .cases hr
  .cases hr
 .cases hr
end
end Go.AI
end

section
namespace Go.AI
section
variable {P:Program}{h h':AHeap}{g:Gh}{w:World}
theorem Q6{t:TypeId}{x y z:AV}{u v:Value}(hw:W h g w)(hf:∀v,g.B h.next v=none)(hx:VR g x u)(hy:VR g y v)
 (hr:Cu P h t x y=some (z,h')):bf P h g w (do pure (.value (<-Instr.makeSlice t u v))) (.val z) h':=by
 unfold Cu at hr
 split at hr
 .rename_i e l c hu hl hc
  split at hr
  .rename_i s L R hs hz hb
   split at hr
   .rename_i m
    obtain⟨h1,h2,h3,h4⟩:=m
    cases hr
    obtain⟨N,K,rfl,h0,_,e1⟩:=iB hx hl
    obtain⟨M,D,rfl,Q,_,e2⟩:=iB hy hc
    obtain⟨i,hi,rfl⟩:=HO hb
    have I:i.size=s:=by simpa[bj,hi]using hs
    have F:∃v,i.zero=some v/\L=bh v:=by unfold dN at hz;rw[hi]at hz;cases O:i.zero with|none=>grind|some v=>grind
    obtain⟨j,E,rfl⟩:=F
    have o:ay g (aO (bh j)) j.cells.toList:=nZ rfl
    have G:j.cells.size=s:=by have:=o.length;simp at this;omega
    have J:(i.bytes:Int)*D<=281474976710656:=by grind
    have p:=run_make (P:=P) w t e i j hu hi E N M K D h0 (by omega) J (by omega)
    rw[show K.toNat=l by omega,show D.toNat=c by omega]at p
    have C:ay g (gF (aO (bh j)) c) (madeCells j.cells (c*i.size)).toList:=by
     rw[I,<-G]
     by_cases h5:0<j.cells.size
     .exact C7 o h5 c
     .have h6:j.cells.size=0:=by omega
      have q:=sx (aO (bh j)) c
      have:(aO (bh j)).length=0:=by omega
      rw[this,Nat.mul_zero]at q;rw[List.length_eq_zero_iff.1 q,h6];simp[madeCells,ay]
    grind[sx,Cm,gF,aO,bh]
   .cases hr
  .cases hr
 .cases hr
theorem KE{x:AV}{v:Value}{n:Nat}(hx:VR g x v)(hr:eK x=some n)(w:World):(Builtin.lenOf v).run P w=.ok n w:=by
 unfold eK at hr
 split at hr
 .cases hx<;>simp at hr<;>subst_vars<;>rfl
 .cases hx<;>simp at hr<;>subst_vars<;>rfl
 .cases hx with|gG=>cases hr;rfl|gL _=>cases hr;rfl|aI _ _ _=>cases hr;rfl
 .cases hx<;>simp at hr<;>subst_vars<;>rfl
 .cases hx<;>simp at hr<;>subst_vars<;>rfl
 .cases hx<;>simp at hr<;>subst_vars<;>rfl
 .cases hr
theorem sE{s n:Nat}{x:AV}{v:Value}{cs:List AV}(hw:W h g w)(hx:VR g x v)(hr:fh h s n x=some cs):
 ∃vs:List Value,ay g cs vs/\vs.length=n*s/\∀d,(Builtin.firstCells s n v).run P {w with drawn:=d}=.ok vs.toArray {w with drawn:=d}:=by
 unfold fh at hr
 split at hr
 .rename_i o ver m off sz len cap
  split at hr
  .rename_i hc;cases hx with|sl hb p1 p2 p3=>rename_i b u c;obtain⟨vs,h1,h2,h3,_⟩:=lM hw hr hb;refine⟨vs,h1,h2,λd=>?_⟩;exact run_firstCells_some (P:=P) {w with drawn:=d} s n ⟨b,off,none⟩ len c vs h2 (λj v hv=>by rw[add_eq _ _ rfl];exact h3 j v hv)
  .cases hr
 .rename_i cells sz len cap
  split at hr
  .rename_i hc
   obtain⟨rfl,h1,h2⟩:=hc
   cases hr
   cases hx with
   |iQ a e1 e2 e3 e4 e5=>
    subst e1;subst e2;subst e3;subst e4
    have:n=0:=by omega
    subst this;refine⟨[],by simp[ay],by simp,λd=>?_⟩;cases a with|none=>rfl|some a=>simp_all[run_firstCells_some]
   |aN f q1 q2 p1 p2 p3=>rename_i b off c;obtain⟨a,ha,p,vs,h3,h4,h5⟩:=sQ (cs:=cells.take (n*s)) (s:=n*s) hw (by simp[gK,h2]) (VR.cr (g:=g) (b:=b) (off:=off) f q1 q2);cases ha;refine⟨vs,h3,h4,λd=>?_⟩;exact run_firstCells_some (P:=P) {w with drawn:=d} s n ⟨b,off,none⟩ len c vs h4 (λj v hv=>by rw[add_eq _ _ rfl];exact h5 j v hv)
  .cases hr
 .rename_i rows sz
  split at hr
  .rename_i hc
   obtain⟨rfl,h1⟩:=hc
   cases hr
   cases hx with
   |gG=>have:n=0:=by grind
        subst this;exact⟨[],trivial,by simp,λd=>rfl⟩
   |gL a=>have:n=0:=by grind
          subst this;exact⟨[],trivial,by simp,λd=>run_firstCells_some (P:=P) {w with drawn:=d} s 0 a 0 0 [] (by simp) (by simp)⟩
   |aI hl q hp=>
    rename_i b off c
    rw[CH n hl]
    have i:VR g (.cr rows.flatten) (.pointer (some ⟨b,off,none⟩)):=by obtain⟨f,q1,q2,_⟩:=hp.rK;exact .cr f q1 q2
    have h2:n*s<=rows.flatten.length:=by rw[mF hl];exact Nat.mul_le_mul_right _ h1
    obtain⟨a,ha,p,vs,h3,h4,h5⟩:=sQ (s:=n*s) hw (by simp only[gK];rw[if_pos h2]) i;cases ha;refine⟨vs,h3,h4,λd=>?_⟩;exact run_firstCells_some (P:=P) {w with drawn:=d} s n ⟨b,off,none⟩ rows.length c vs h4 (λj v hv=>by rw[add_eq _ _ rfl];exact h5 j v hv)
  .cases hr
 .split at hr
  .rename_i h0;subst h0;cases hr;cases hx with|bC a c=>refine⟨[],trivial,by simp,λd=>?_⟩;simp_all[run_firstCells_some]
  .cases hr
 .split at hr
  .rename_i h0;subst h0;cases hr;cases hx;exact⟨[],trivial,by simp,λd=>rfl⟩
  .cases hr
 .rename_i b
  split at hr
  .rename_i hc
   obtain⟨rfl,h1⟩:=hc
   cases hr
   cases hx
   refine⟨(b.data.toList.take n).map (λb=>.int .u8 b.toNat),ay.map _ _ (λb=>.sc _) _,?_,λd=>?_⟩
   .simp_all
   .simp only[Builtin.firstCells,Sem.run_pure];congr 1;apply Array.ext';simp_all
  .cases hr
 .cases hr
theorem Hw{j:Array TypeId}{st u ty e:TypeId}{m:TypeDesc}{s n len c:Nat}{a:Addr}{y:Value}{news:List Value}{w':World}(q:j[0]?=some st)(p:j[1]?=some u)(hu:P.underlying st=some (.slice e))
 (hx:P.underlying u=some m)(z:∀k,m≠.int k)(hs:bj P e=some s)(hl:∀w,(Builtin.lenOf y).run P w=.ok n w)
 (hn:(Builtin.firstCells s n y).run P w=.ok news.toArray w)(i:len+n<=c)(o:(storeCells (a.add (len*s)) news).run P w=.ok () w'):
 (Builtin.append_ j ty #[.slice (some a) len c,y]).run P w=.ok (.slice (some a) (len+n) c) w':=by
 have hm:(match m with|.int _=>true|_=>false)=false:=by simp_all
 simp only[Builtin.append_,q,p,List.getElem?_toArray,List.getElem?_cons_zero,List.getElem?_cons_succ,Sem.run_bind,run_underlying hu,Result.andThen_ok,run_sizeOf hs,run_underlying hx,Sem.run_pure,Bool.false_eq_true,if_false,hl,Bool.not_false,if_true,i,hn,o]
theorem Ht{o:Array TypeId}{st G ty e:TypeId}{p:TypeDesc}{i:TypeInfo}{z:Value}{n len c:Nat}{base:Option Addr}{y:Value}{olds news:List Value}(F:o[0]?=some st)(E:o[1]?=some G)(hu:P.underlying st=some (.slice e))
 (hx:P.underlying G=some p)(K:∀k,p≠.int k)(hi:P.info? e=some i)(hz:i.zero=some z)(hl:∀w,(Builtin.lenOf y).run P w=.ok n w)
 (ho:∀d,(Builtin.firstCells i.size len (.slice base len c)).run P {w with drawn:=d}=.ok olds.toArray {w with drawn:=d})
 (hn:∀d,(Builtin.firstCells i.size n y).run P {w with drawn:=d}=.ok news.toArray {w with drawn:=d})(m:¬len+n<=c)(I:0<i.bytes)
 (j:(len+n)*i.bytes<=140737488355328):
 ∃k,len+n<=k/\(Builtin.append_ o ty #[.slice base len c,y]).run P w=.ok (.slice (some ⟨w.heap.size,0,none⟩) (len+n) k) ({w with drawn:=w.drawn+1}.alloc (.cells ((olds++news).toArray++Builtin.zeroCells z.cells (k-(len+n))) e)):=by
 have J:Builtin.nextslicecap (len+n) c*i.bytes<=281474976710656:=growslice_fits (by omega) j
 refine⟨(Question.appendCap (len+n) c e).cut (w.tape w.drawn (.appendCap (len+n) c e)),by simp[Question.cut],?_⟩
 have u:=ho (w.drawn+1)
 have D:=hn (w.drawn+1)
 have q:(sizeOf e).run P w=.ok i.size w:=run_sizeOf (by simp[bj,hi]) w
 have h2:¬(Builtin.nextslicecap (len+n) c*i.bytes>281474976710656):=by omega
 have C:¬i.bytes=0:=by omega
 have hm:(match p with|.int _=>true|_=>false)=false:=by simp_all
 simp only[Builtin.append_,F,E,List.getElem?_toArray,List.getElem?_cons_zero,List.getElem?_cons_succ,Sem.run_bind,run_underlying hu,Result.andThen_ok,q,run_underlying hx,Sem.run_pure,Bool.false_eq_true,if_false,hl,Bool.not_false,if_true,m,run_typeInfo hi,C,or_self,and_false,Nat.reducePow,h2,run_choose,Question.forced,run_askRoom,u,D,zeroValue,hz,newRow,run_newObj];simp[World.alloc]
theorem Co{e:TypeId}{s c:Nat}{z:AV}(hs:bj P e=some s)(hb:mS P e=some c)(hz:dN P e=some z):∃i v,P.info? e=some i/\i.size=s/\i.bytes=c/\i.zero=some v/\z=bh v:=by obtain⟨i,hi,rfl⟩:=HO hb;refine⟨i,?_⟩;unfold dN at hz;rw[hi]at hz;cases j:i.zero with|none=>grind|some v=>simp_all[bj]
theorem JA{cells:List AV}{vs:List Value}{e:TypeId}{s k c:Nat}{z:Array Value}(hw:W h g w)(hf:∀v,g.B h.next v=none)(hv:ay g cells vs)
 (hl:cells.length=c*s)(hz:z.size=s)(hk:c<=k){t:Sem Value}
 (hr:t.run P w=.ok (.slice (some ⟨w.heap.size,0,none⟩) c k) ({w with drawn:=w.drawn+1}.alloc (.cells (vs.toArray++Builtin.zeroCells z (k-c)) e))):
 bf P h g w (do pure (.value (<-t))) (.val (.sl h.next 0 (c*s) 0 s c none)) (h.alloc (.cells 0 0 cells 0 e false false)):=by
 have m:(vs.toArray++Builtin.zeroCells z (k-c)).size=k*s:=by simp only[Array.size_append,List.size_toArray,size_zeroCells,hz,<-hv.length,hl,<-Nat.add_mul];congr 1;omega
 have j:=qC (x:=.cells 0 0 cells 0 e false false) (s:=k*s) (n:=c*s) (hw.drew (w.drawn+1)) hf (w':={w with drawn:=w.drawn+1}.alloc (.cells (vs.toArray++Builtin.zeroCells z (k-c)) e)) rfl ?_
 .refine⟨_,_,.slice (some ⟨w.heap.size,0,none⟩) c k,by simp_all,?_,j.1,?_⟩
  .refine .sl (Gh.fT _ _ _ _) ?_ hk (by simp);simp
  .have h2:=j.2;exact{h2 with size:=h2.size,fr:=h2.fr,tape:=h2.tape,os:=h2.os,out:=h2.out,old:=h2.old,fI:=h2.fI}
 .refine⟨λv hv=>?_,?_⟩
  .cases e:(g.dc h.next 0 (w.heap.size,k*s,c*s)).B h.next v with
   |none=>rfl
   |some y=>
    rcases Gh.cO e with⟨_,q,_⟩|q
    .omega
    grind
  intro v h1 h2 b s' n' hb
  obtain rfl:v=0:=by omega
  rw[Gh.fT]at hb
  cases hb
  have p:c*s<=k*s:=Nat.mul_le_mul_right _ hk
  refine⟨λ_=>hl.symm,_,(0,0),⟨kq _ _,m,by omega,p,(λh=>by cases h),(λi _ h3 h4=>by simp at h4),λ_=>.inl rfl,?_⟩⟩
  intro i x hi hx
  have o:i<vs.length:=by rw[<-hv.length];omega
  refine⟨vs[i],?_,(hv.get i x vs[i] hx (by simp[o])).mono (Gh.kA (hf 0))⟩;grind
theorem kl{j:Array TypeId}{st q ty e:TypeId}{m:TypeDesc}{s len c:Nat}{base:Option Addr}{y:Value}(p:j[0]?=some st)(o:j[1]?=some q)
 (hu:P.underlying st=some (.slice e))(hx:P.underlying q=some m)(u:∀k,m≠.int k)(hs:bj P e=some s)(hl:∀w,(Builtin.lenOf y).run P w=.ok 0 w)
 (hn:(Builtin.firstCells s 0 y).run P w=.ok #[] w)(i:len<=c):
 (Builtin.append_ j ty #[.slice base len c,y]).run P w=.ok (.slice base len c) w:=by
 have hm:(match m with|.int _=>true|_=>false)=false:=by simp_all
 cases base<;>simp only[Builtin.append_,p,o,List.getElem?_toArray,List.getElem?_cons_zero,List.getElem?_cons_succ,Sem.run_bind,run_underlying hu,Result.andThen_ok,run_sizeOf hs,run_underlying hx,Sem.run_pure,Bool.false_eq_true,if_false,hl,Bool.not_false,if_true,Nat.add_zero,i,hn,storeCells]
theorem JB{o v mv fz el k:Nat}{ex sh:Bool}{c new:List AV}{g':Gh}{w':World}{b' sb':Nat}{ca:Array Value}{f:Nat×Nat}{news:List Value}
 (hx:OR g w o (.cells v mv c fz el ex sh))(hl:g.Le g')(hk:k<=c.length)(_hfz:fz<=k)(G:ay g new news)
 (hB:∀v' y,g'.B o v'=some y->(v'=v+1/\y=(b',sb',k+new.length))\/g.B o v'=some y)
 (K:w'.heap[b']?=some (.cells ca el f))(L:ca.size=sb')(J:k+new.length<=sb')(E:∀i x,i<k->c[i]?=some x->∃u,ca[i]?=some u/\VR g x u)
 (q:∀i:Nat,i<new.length->ca[k+i]?=news[i]?)(D:∀i,i<sb'->f.1<=i->i<f.2->i<fz)(m:sh=false->f.1=f.2\/f.2<=fz)
 (p:∀v' b s n,g.B o v'=some (b,s,n)->k=c.length->mv<=v'->v'<=v->∃aH C,w'.heap[b]?=some (.cells aH el C)/\aH.size=s/\(∀i,i<s->C.1<=i->i<C.2->i<fz)/\(sh=false->C.1=C.2\/C.2<=fz)/\∀i x,i<n->c[i]?=some x->∃u,aH[i]?=some u/\VR g x u):
 OR g' w' o (.cells (v+1) (if k=c.length then mv else v+1) (c.take k++new) fz el false sh):=by
 have hlen:(c.take k++new).length=k+new.length:=by grind
 refine⟨λv' Q=>?_,?_⟩
 .cases e:g'.B o v' with
  |none=>rfl
  |some y=>
   rcases hB v' y e with⟨M,_⟩|M
   .omega
   .rw[hx.1 v' (by omega)]at M;cases M
 intro v' h1 h2 b s n hb
 rcases hB v' _ hb with⟨rfl,e⟩|z
 .simp only[aV]at e
  obtain⟨rfl,rfl,rfl⟩:=e
  refine⟨λ_=>hlen.symm,ca,f,⟨K,L,by omega,J,(λh=>by cases h),D,m,?_⟩⟩
  intro i x hi j
  by_cases h3:i<k
  .rw[List.getElem?_append_left (by simp;omega),List.getElem?_take,if_pos h3]at j;obtain⟨u,hu,hr⟩:=E i x h3 j;exact⟨u,hu,hr.mono hl⟩
  .rw[List.getElem?_append_right (by simp;omega)]at j
   have e:(c.take k).length=k:=by grind
   rw[e]at j
   have h4:i-k<new.length:=by omega
   have:=q (i-k) h4
   rw[show k+(i-k)=i by omega]at this
   have h5:i-k<news.length:=by grind
   refine⟨news[i-k],by grind,(G.get _ _ _ j (by simp[h5])).mono hl⟩
 .by_cases hv:v'=v+1
  .subst hv;rw[hx.1 (v+1) (Nat.lt_succ_self _)]at z;cases z
  .by_cases I:k=c.length
   .rw[if_pos I]at h1
    obtain⟨_,R,S,F⟩:=hx.2 v' h1 (by omega) b s n z
    obtain⟨aH,C,q1,q2,q3,O,N⟩:=p v' b s n z I h1 (by omega)
    refine⟨λe=>absurd e hv,aH,C,⟨q1,q2,?_,F.lG,(λh=>by cases h),q3,O,?_⟩⟩
    .have:=F.le;omega
    .intro i x hi j;have:=F.le;rw[List.getElem?_append_left (by simp;omega),List.getElem?_take,if_pos (by omega)]at j;obtain⟨u,hu,hr⟩:=N i x hi j;exact⟨u,hu,hr.mono hl⟩
   grind
end
end Go.AI
end

section
namespace Go.AI
section
variable {P:Program}{h h':AHeap}{g:Gh}{w:World}
theorem xp{p:Array TypeId}{st L ty e:TypeId}{M:TypeDesc}{s o n len c:Nat}{base:Option Addr}{z:AV}{y:Value}{old new:List AV}{olds news:List Value}
 (hw:W h g w)(hf:∀v,g.B h.next v=none)(K:p[0]?=some st)(J:p[1]?=some L)(hu:P.underlying st=some (.slice e))(hx:P.underlying L=some M)(E:∀k,M≠.int k)
 (hs:bj P e=some s)(hb:mS P e=some o)(hz:dN P e=some z)(N:(aO z).length=s)(hl:∀w,(Builtin.lenOf y).run P w=.ok n w)
 (ho:∀d,(Builtin.firstCells s len (.slice base len c)).run P {w with drawn:=d}=.ok olds.toArray {w with drawn:=d})
 (hn:∀d,(Builtin.firstCells s n y).run P {w with drawn:=d}=.ok news.toArray {w with drawn:=d})
 (u:ay g old olds)(G:olds.length=len*s)(C:ay g new news)(I:news.length=n*s)
 (m:¬len+n<=c)(q:0<o)(j:(len+n)*o<=140737488355328):
 bf P h g w (do pure (.value (<-Builtin.append_ p ty #[.slice base len c,y]))) (.val (.sl h.next 0 ((len+n)*s) 0 s (len+n) none)) (h.alloc (.cells 0 0 (old++new) 0 e false false)):=by
 obtain⟨i,v,hi,rfl,rfl,D,rfl⟩:=Co hs hb hz
 obtain⟨k,hk,hr⟩:=Ht (ty:=ty) K J hu hx E hi D hl ho hn m q j
 have F:v.cells.size=i.size:=by have:=(nZ (g:=g) (z:=bh v) rfl).length;simp at this;omega
 refine JA hw hf (u.append C) ?_ F hk hr;rw[List.length_append,u.length,C.length,G,I,Nat.add_mul]
theorem Sd{Z:Array TypeId}{st xt ty:TypeId}{x y r:AV}{u v:Value}(hw:W h g w)(hf:∀v,g.B h.next v=none)(N:Z[0]?=some st)(M:Z[1]?=some xt)
 (hx:VR g x u)(hy:VR g y v)(hr:ky P h st xt x y=some (r,h')):
 bf P h g w (do pure (.value (<-Builtin.append_ Z ty #[u,v]))) (.val r) h':=by
 unfold ky at hr
 split at hr
 .rename_i e xd n hu I hn
  split at hr
  .cases hr
  .rename_i hint
   have J:∀k,xd≠.int k:=by intro k hk;subst hk;exact hint rfl
   split at hr
   .rename_i s Pb z hs hb hz
    split at hr
    .cases hr
    .rename_i hzs
     have Q:(aO z).length=s:=by grind
     split at hr
     .cases hr
     .rename_i new aa5
      split at hr
      .cases hr
      .rename_i U
       have U:new.all dt=true:=by grind
       obtain⟨news,E,L,K⟩:=sE (P:=P) hw hy aa5
       have hlen:=KE (P:=P) hy hn
       have ad0:new.length=n*s:=by rw[E.length,L]
       split at hr
       .cases hx
        split at hr
        .rename_i h0;subst h0;cases hr;have q:news=[]:=List.eq_nil_of_length_eq_zero (by grind);subst q;exact bf.same hw (by simp_all[kl,ao]) (.sc _)
        .rename_i h0
         split at hr
         .rename_i hc;cases hr;have:=xp (len:=0) (c:=0) (base:=none) (old:=[]) (olds:=[]) (ty:=ty) hw hf N M hu I J hs hb hz Q hlen (λd=>rfl) K trivial (by simp) E L (by omega) hc.1 (by grind);grind
         .cases hr
       .rename_i o ver m off sz len cap
        split at hr
        .cases hr
        .rename_i V
         have V:sz=s:=by grind
         subst V
         cases hx with
         |sl hB p1 p2 p3=>
          rename_i b sb c
          split at hr
          .rename_i c'
           obtain rfl:c=c':=p3 c' rfl
           split at hr
           .rename_i p
            split at hr
            .rename_i h0;subst h0;cases hr;have q:news=[]:=List.eq_nil_of_length_eq_zero (by grind);subst q;exact bf.same hw (by simp_all[kl]) (.sl hB p1 p2 p3)
            .cases Pc:hT h o ver m (off+len*sz) new with|none=>grind|some h2=>rw[Pc]at hr;cases hr;obtain⟨w',q1,q2,q3⟩:=Cy (P:=P) hw Pc hB E;refine⟨g,w',_,?_,.sl hB p1 p p3,q2,q3⟩;simp_all[Hw,add_eq]
           .rename_i p
            split at hr
            .rename_i hc;cases Pd:cz h o ver m off (len*sz)with|none=>grind|some old=>rw[Pd]at hr;cases hr;obtain⟨olds,q1,q2,q3,_⟩:=lM hw Pd hB;exact xp hw hf N M hu I J hs hb hz Q hlen (λd=>run_firstCells_some (P:=P) {w with drawn:=d} sz len ⟨b,off,none⟩ len c olds q2 (λj v hv=>by rw[add_eq _ _ rfl];exact q3 j v hv)) K q1 q2 E L p hc.1 hc.2
            .cases hr
          .split at hr
           .rename_i h0;subst h0;cases hr;have q:news=[]:=List.eq_nil_of_length_eq_zero (by grind);subst q;exact bf.same hw (by simp_all[kl]) (.sl hB p1 p2 p3)
           .rename_i h0
            split at hr
            .rename_i v0 mv cc fz el ex sh G
             split at hr
             .rename_i X
              obtain⟨rfl,GV,rfl,hlm,Pe,rfl,NX,S⟩:=X
              cases hr
              have D:=hw.obj o _ G
              obtain⟨hm,ca,f,hk⟩:=D.2 ver GV (ao _) b sb m hB
              have hm:=hm rfl
              have aa6:=Cl U E
              have ad1:(len+n)*sz=len*sz+n*sz:=Nat.add_mul _ _ _
              by_cases p:len+n<=c
              .have ad3:len*sz+n*sz<=sb:=by have:(len+n)*sz<=c*sz:=Nat.mul_le_mul_right _ p;omega
               obtain⟨c',AM,dL,Pf⟩:=Hs (P:=P) (off:=len*sz) news 0 ca w hk.here (by have:=hk.size;omega) (λj q1 q2 q3=>by have:=hk.free j (by omega) q3.1 q3.2;omega) aa6
               have aa7:=Hw (ty:=ty) (a:=⟨b,0,none⟩) N M hu I J hs hlen (K w.drawn) p (by rw[add_eq _ _ rfl];simpa using AM)
               have F:=RE (nv:=ver+1) (s:=sb) (n:=(len+n)*sz) (x':=.cells (ver+1) (if len*sz=cc.length then mv else ver+1) (cc.take (len*sz)++new) fz el false sh) hw G hB (D.1 _ (Nat.lt_succ_self _)) (w':=cJ w b (.cells c' el f)) rfl ?_
               .refine⟨_,_,_,by simp only[Sem.run_bind,aa7,Result.andThen_ok,Sem.run_pure];rfl,?_,F.1,F.2⟩;refine .sl (Gh.fT _ _ _ _) (by omega) p (by simp)
               .refine JB (news:=news) (b':=b) (sb':=sb) (ca:=c') (f:=f) D (Gh.kA (D.1 _ (Nat.lt_succ_self _))) (by omega) Pe E ?_ (hQ (hO hk.here)) (by rw[dL];exact hk.size) (by omega) ?_ ?_ hk.free hk.plain ?_
                .grind[Gh.cO]
                .intro i x hi R;rw[Pf i,if_neg (by omega)];exact hk.cell i x (by omega) R
                .simp_all
                .intro v' b2 s2 n2 T hkc h1 h2
                 obtain⟨_,Y,f2,C⟩:=D.2 v' h1 h2 b2 s2 n2 T
                 by_cases Pg:b2=b
                 .subst Pg;have e1:=C.here;rw[hk.here]at e1;simp only[an,Obj.cells.injEq,true_and]at e1;obtain⟨rfl,rfl⟩:=e1;refine⟨c',f,hQ (hO hk.here),by rw[dL];exact C.size,C.free,C.plain,?_⟩;intro i x hi R;have:=C.le;rw[Pf i,if_neg (by omega)];exact C.cell i x hi R
                 .exact⟨Y,f2,(Cx Pg).trans C.here,C.size,C.free,C.plain,C.cell⟩
              .have holds:∃olds,ay g (cc.take (len*sz)) olds/\olds.length=len*sz/\(∀(j:Nat)(v:Value),olds[j]?=some v->w.cell? ⟨b,0+j,none⟩=some v):=by obtain⟨olds,q1,q2,q3,_⟩:=lM (h:=h) (o:=o) (ver:=ver) (n:=m) (off:=0) (s:=len*sz) (cs:=(cc.drop 0).take (len*sz)) hw (by simp_all[if_pos,ao,cz]) hB;exact⟨olds,by grind,q2,q3⟩
               obtain⟨olds,q1,q2,q3⟩:=holds
               obtain⟨i,zv,hi,rfl,rfl,hzv,rfl⟩:=Co hs hb hz
               obtain⟨k,ub,hrr⟩:=Ht (ty:=ty) (base:=some ⟨b,0,none⟩) N M hu I J hi hzv hlen (λd=>run_firstCells_some (P:=P) {w with drawn:=d} i.size len ⟨b,0,none⟩ len c olds q2 (λj v hv=>by rw[add_eq _ _ rfl];exact q3 j v hv)) K p NX S
               have hvl:zv.cells.size=i.size:=by have:=(nZ (g:=g) (z:=bh zv) rfl).length;simp at this;omega
               have aa8:((olds++news).toArray++Builtin.zeroCells zv.cells (k-(len+n))).size=k*i.size:=by simp only[Array.size_append,List.size_toArray,List.length_append,size_zeroCells,hvl,q2,L,<-Nat.add_mul];congr 1;omega
               have F:=R9 (nv:=ver+1) (s:=k*i.size) (n:=(len+n)*i.size) (x':=.cells (ver+1) (if len*i.size=cc.length then mv else ver+1) (cc.take (len*i.size)++new) fz el false sh) (hw.drew (w.drawn+1)) G hB (D.1 _ (Nat.lt_succ_self _)) (w':={w with drawn:=w.drawn+1}.alloc (.cells ((olds++news).toArray++Builtin.zeroCells zv.cells (k-(len+n))) el)) rfl ?_
               .refine⟨_,_,_,by simp only[Sem.run_bind,hrr,Result.andThen_ok,Sem.run_pure];rfl,?_,F.1,?_⟩
                .exact .sl (Gh.fT _ _ _ _) (by simp) ub (by simp)
                .have h2:=F.2;exact{h2 with size:=h2.size,fr:=h2.fr,tape:=h2.tape,os:=h2.os,out:=h2.out,old:=h2.old,fI:=h2.fI}
               .have hmul:(len+n)*i.size<=k*i.size:=Nat.mul_le_mul_right _ ub
                refine JB (w:={w with drawn:=w.drawn+1}) (news:=news) (b':=w.heap.size) (sb':=k*i.size) (f:=(0,0)) ((hw.drew (w.drawn+1)).obj o _ G) (Gh.kA (D.1 _ (Nat.lt_succ_self _))) (by omega) Pe E ?_ (kq _ _) aa8 (by omega) ?_ ?_ (λj _ _ h4=>by simp at h4) (λ_=>.inl rfl) ?_
                .grind[Gh.cO]
                .intro j x hj R
                 have hjl:j<olds.length:=by omega
                 refine⟨olds[j],?_,q1.get j x olds[j] (by grind) (by simp[hjl])⟩;grind
                .intro j hj;rw[Array.getElem?_append_left (by simp;omega)];simp_all
                .intro v' b2 s2 n2 T hkc h1 h2;obtain⟨_,Y,f2,C⟩:=D.2 v' h1 h2 b2 s2 n2 T;exact⟨Y,f2,(CJ (w:={w with drawn:=w.drawn+1}) (hw.cR o v' b2 s2 n2 T)).trans C.here,C.size,C.free,C.plain,C.cell⟩
             .cases hr
            .cases hr
       .rename_i cells sz len c'
        split at hr
        .cases hr
        .rename_i V
         have aa9:sz=s:=by grind
         subst aa9
         have hcl:cells.length=len*sz:=by grind
         have O:=hx
         cases hx with
         |aN fn q1 q2 p1 p2 p3=>
          rename_i b off c
          obtain rfl:c=c':=p3 c' rfl
          split at hr
          .simp_all[an,aV,List.eq_nil_of_length_eq_zero,bf.same,kl,h0]
          .split at hr
           .rename_i hc;cases hr;obtain⟨olds,r1,r2,r3⟩:=sE (P:=P) (s:=sz) (n:=len) (cs:=cells) hw O (by simp_all[if_pos,ao,List.take_of_length_le,fh]);exact xp hw hf N M hu I J hs hb hz Q hlen r3 K r1 r2 E L (by omega) hc.2.1 hc.2.2
           .cases hr
         |iQ a e1 e2 e3 e4 e5=>
          subst e1;subst e2;subst e3;subst e4
          obtain rfl:=e5 c' rfl
          split at hr
          .rename_i h0;subst h0;simp_all[an,aV,List.eq_nil_of_length_eq_zero,bf.same,kl,ao]
          .split at hr
           .rename_i hc;cases hr;obtain⟨olds,r1,r2,r3⟩:=sE (P:=P) (s:=sz) (n:=0) (cs:=[]) hw O (by simp[fh]);exact xp hw hf N M hu I J hs hb hz Q hlen r3 K r1 r2 E L (by omega) hc.2.1 hc.2.2
           .cases hr
       .split at hr
        .rename_i h0;subst h0;cases hr;have q:news=[]:=List.eq_nil_of_length_eq_zero (by grind);subst q;have O:=hx;cases hx with|aN fn q1 q2 p1 p2 p3=>simp_all[bf.same,kl]|iQ a e1 e2 e3 e4 e5=>simp_all[bf.same,kl,ao]
        .cases hr
       .split at hr
        .rename_i h0;subst h0;cases hr;have q:news=[]:=List.eq_nil_of_length_eq_zero (by grind);subst q;have O:=hx;cases hx with|gG=>simp_all[bf.same,kl,ao]|gL _=>simp_all[bf.same,kl,ao]|aI hl hpf hp=>obtain⟨fn,q1,q2,p1,p2,p3⟩:=hp.rK;simp_all[bf.same,kl]
        .cases hr
       .split at hr
        .rename_i h0;subst h0;cases hr;have q:news=[]:=List.eq_nil_of_length_eq_zero (by grind);subst q;have O:=hx;cases hx with|bC a c=>simp_all[bf.same,kl,Nat.zero_le]
        .cases hr
       .cases hr
   .cases hr
 .cases hr
end
end Go.AI
end

section
namespace Go.AI
section
variable {P:Program}{h h':AHeap}{g:Gh}{w:World}
theorem QM{c:Array TypeId}{st u ty e:TypeId}{E:IntKind}{i:TypeInfo}{z:Value}{n:Nat}(q:c[0]?=some st)(p:c[1]?=some u)(hu:P.underlying st=some (.slice e))
 (hx:P.underlying u=some (.int E))(hi:P.info? e=some i)(hz:i.zero=some z)(hn:0<n)(F:i.size≠0)(I:n<9223372036854775808)(C:0<i.bytes)
 (o:n*i.bytes<=140737488355328):
 ∃k,n<=k/\(Builtin.append_ c ty #[.slice none 0 0,.int .i64 n]).run P w=.ok (.slice (some ⟨w.heap.size,0,none⟩) n k) ({w with drawn:=w.drawn+1}.alloc (.cells (Builtin.zeroCells z.cells n++Builtin.zeroCells z.cells (k-n)) e)):=by
 have D:Builtin.nextslicecap (0+n) 0*i.bytes<=281474976710656:=growslice_fits (by omega) (by grind)
 refine⟨(Question.appendCap (0+n) 0 e).cut (w.tape w.drawn (.appendCap (0+n) 0 e)),by show n<=(0+n)+_;omega,?_⟩
 have m:(sizeOf e).run P w=.ok i.size w:=run_sizeOf (by simp[bj,hi]) w
 have h2:¬(Builtin.nextslicecap (0+n) 0*i.bytes>281474976710656):=by omega
 have G:¬i.bytes=0:=by omega
 have j:IntKind.i64.wrap (n:Int)=(n:Int):=IntWalk.i64_in _ (by omega)
 have h3:¬((n:Int)<0):=by omega
 have h4:¬((n:Int)*(i.bytes:Int)>2^48):=by grind
 have h5:¬(n*i.size=0):=by intro h;rcases Nat.mul_eq_zero.1 h with h|h<;>omega
 have h6:¬(0+n<=0):=by omega
 have J:¬(((0+n:Nat):Int)>IntKind.i64.max):=by
  have:IntKind.i64.max=9223372036854775807:=by decide
  omega
 simp only[Builtin.append_,q,p,List.getElem?_toArray,List.getElem?_cons_zero,List.getElem?_cons_succ,Sem.run_bind,run_underlying hu,Result.andThen_ok,m,run_underlying hx,Sem.run_pure,asInt,asIntOf,j,h3,if_false,run_typeInfo hi,Nat.reducePow,h4,Int.toNat_natCast,if_true,h6,J,false_and,h2,run_choose,Question.forced,run_askRoom,zeroValue,hz,newRow,run_newObj,Bool.not_true,Bool.false_eq_true,h5,Builtin.firstCells];rw[Nat.zero_add,Array.empty_append];rfl
theorem RF{c:Array TypeId}{st I ty:TypeId}{x y r:AV}{u v:Value}(hw:W h g w)(hf:∀v,g.B h.next v=none)(G:c[0]?=some st)(F:c[1]?=some I)
 (hx:VR g x u)(hy:VR g y v)(hr:xR P h st I x y=some (r,h')):
 bf P h g w (do pure (.value (<-Builtin.append_ c ty #[u,v]))) (.val r) h':=by
 unfold xR at hr
 split at hr
 .rename_i e M n hu C
  cases hx
  cases hy
  split at hr
  .rename_i s L z hs hb hz
   split at hr
   .rename_i hc
    obtain⟨c1,c2,c3,c4,N,K,J⟩:=hc
    cases hr
    obtain⟨i,j,hi,rfl,rfl,p,rfl⟩:=Co hs hb hz
    obtain⟨m,rfl⟩:∃m:Nat,n=(m:Int):=⟨n.toNat,by omega⟩
    simp only[Int.toNat_natCast]at J⊢
    obtain⟨k,hk,o⟩:=QM (w:=w) (ty:=ty) (n:=m) G F hu C hi p (by omega) c3 (by omega) K J
    have E:=nZ (g:=g) (z:=bh j) rfl
    have D:j.cells.size=i.size:=by have:=E.length;simp at this;omega
    have q:=C7 (g:=g) (z:=aO (bh j)) (zc:=j.cells) (by grind) (by omega) m
    refine JA (z:=j.cells) hw hf q ?_ D hk ?_
    .rw[sx,c4]
    .rw[o,Array.toArray_toList];rfl
   .cases hr
  .cases hr
 .cases hr
theorem RG{c:Array TypeId}{st i ty:TypeId}{x y r:AV}{u v:Value}(hw:W h g w)(hf:∀v,g.B h.next v=none)(m:c[0]?=some st)(j:c[1]?=some i)(hx:VR g x u)(hy:VR g y v)(hr:oe P h st i x y=some (r,h')):bf P h g w (do pure (.value (<-Builtin.append_ c ty #[u,v]))) (.val r) h':=by grind[an,Sd,RF,oe]
end
end Go.AI
end

section
namespace Go.AI
section
variable {P:Program}{h h':AHeap}{g:Gh}{w:World}
def jn(g:Gh):Option AV->Option Value->Prop|none,none=>True|some x,some v=>VR g x v|_,_=>False
theorem jn.map{ρ:Operand->AV}{ρ':Operand->Value}(h:∀x,VR g (ρ x) (ρ' x))(o:Option Operand):jn g (o.map ρ) (o.map ρ'):=by cases o with|none=>trivial|some x=>exact h x
theorem dX{x:Option AV}{v:Option Value}{d n:Nat}(hx:jn g x v)(hr:ep x d=some n):(x=none/\v=none/\n=d)\/∃y k,x=some y/\v=some (.int k (n:Int)):=by
 cases x with
 |none=>cases v with|none=>simp_all[ep]|some _=>exact hx.elim
 |some y=>cases v with|none=>exact hx.elim|some u=>obtain⟨k,i,rfl,_,_,e⟩:=iB hx hr;grind
theorem H8{lH:Bool}{i hi c:Option Value}{l h m len cap:Nat}(o:(i=none/\l=0)\/∃k,i=some (.int k (l:Int)))
 (p:(hi=none/\h=len/\c=none)\/∃k,hi=some (.int k (h:Int)))(j:(c=none/\m=cap)\/∃k,c=some (.int k (m:Int)))
 (h1:l<=h)(h2:h<=m)(h3:m<=cap):(Instr.sliceBounds lH len cap i hi c).run P w=.ok (l,h,m) w:=by
 have e1:(0:Int)<=l/\(l:Int)<=h:=by omega
 have e2:(0:Int)<=h/\(h:Int)<=m:=by omega
 have e3:(0:Int)<=m/\(m:Int)<=cap:=by omega
 rcases j with⟨rfl,rfl⟩|⟨q,rfl⟩<;>rcases p with⟨rfl,rfl,e⟩|⟨u,rfl⟩<;>rcases o with⟨rfl,rfl⟩|⟨z,rfl⟩<;>simp_all[Sem.run_bind,Sem.run_pure,Result.andThen_ok,and_self,if_true,Int.toNat_natCast,Instr.sliceBounds,Instr.sliceBound,asIntOf]
theorem gy{t e:TypeId}{s:Nat}{i hi c:Option Value}{l h m len cap:Nat}{a:Option Addr}(hu:P.underlying t=some (.slice e))(hs:bj P e=some s)(o:(i=none/\l=0)\/∃k,i=some (.int k (l:Int)))(p:(hi=none/\h=len/\c=none)\/∃k,hi=some (.int k (h:Int)))(j:(c=none/\m=cap)\/∃k,c=some (.int k (m:Int)))(h1:l<=h)(h2:h<=m)(h3:m<=cap):(Instr.sliceAt t (.slice a len cap) i hi c).run P w=.ok (.slice (if m=l then a else a.map (·.add (l*s))) (h-l) (m-l)) w:=by simp only[Instr.sliceAt,Instr.slice,Sem.run_bind,run_underlying hu,Result.andThen_ok,H8 o p j h1 h2 h3,run_sizeOf hs,Sem.run_pure]
theorem zO{i:Option AV}{c:Option Value}{r:Option Nat}(hm:jn g i c)(e:i.map ff=some r):∃y,i=some y/\ff y=r:=by simp_all
theorem JC{t:TypeId}{x y:AV}{v:Value}{lo hi U:Option AV}{C D E:Option Value}(hx:VR g x v)(J:jn g lo C)(G:jn g hi D)(F:jn g U E)
 (hr:fV P t x lo hi U=some y):∃u,(Instr.sliceAt t v C D E).run P w=.ok u w/\VR g y u:=by
 unfold fV at hr
 split at hr
 .rename_i e hu
  split at hr
  .rename_i s o ver n off sz len cap hs
   cases hx with
   |sl hB p1 p2 p3=>
    rename_i b sb c
    split at hr
    .rename_i l j q1 q2 q3
     have I:E=none:=by
      cases U with
      |none=>cases E with|none=>rfl|some _=>exact F.elim
      |some _=>cases q3
     subst I
     have r1:=dX J q1
     have r2:=dX G q2
     have z:(C=none/\l=0)\/∃k,C=some (.int k (l:Int)):=by
      rcases r1 with⟨_,a,b⟩|⟨_,k,_,b⟩
      .exact .inl ⟨a,b⟩
      .exact .inr ⟨k,b⟩
     have p:(D=none/\j=len/\(none:Option Value)=none)\/∃k,D=some (.int k (j:Int)):=by
      rcases r2 with⟨_,a,b⟩|⟨_,k,_,b⟩
      .exact .inl ⟨a,b,rfl⟩
      .exact .inr ⟨k,b⟩
     split at hr
     .rename_i c'
      obtain rfl:c=c':=p3 c' rfl
      split at hr
      .rename_i hc
       obtain⟨rfl,h1,h2,h3⟩:=hc
       simp only[an]at hr;subst hr
       refine⟨_,gy (m:=c) hu hs z p (.inl ⟨rfl,rfl⟩) h1 h2 (ao _),?_⟩
       by_cases q:c=l
       .rw[if_pos q,if_pos q]
        refine .sl hB ?_ (by omega) (by simp)
        have:(c-l)*s=0:=by simp[q]
        omega
       .rw[if_neg q,if_neg q];simp only[Option.map_some];rw[add_eq _ _ rfl];refine .sl hB ?_ (by omega) (by simp);rw[Nat.add_assoc,<-Nat.add_mul,show l+(c-l)=c by omega];exact p1
      .cases hr
     .split at hr
      .rename_i hc
       obtain⟨rfl,h1,h2⟩:=hc
       have L:=gy (P:=P) (w:=w) (a:=some ⟨b,off,none⟩) (m:=c) (cap:=c) hu hs z p (.inl ⟨rfl,rfl⟩) h1 (Nat.le_trans h2 p2) (ao _)
       split at hr
       .rename_i Y;subst Y
        simp only[an]at hr;subst hr
        refine⟨_,L,?_⟩
        by_cases R:c=0
        .rw[if_pos R];exact .sl hB (by simpa using p1) (by omega) (by simp)
        .rw[if_neg R];simp only[Option.map_some];rw[add_eq _ _ rfl];simp only[Nat.zero_mul,Nat.add_zero,Nat.sub_zero];exact .sl hB p1 (by omega) (by simp)
       .split at hr
        .rename_i hlt;simp only[an]at hr;subst hr;refine⟨_,L,?_⟩;rw[if_neg (by omega)];simp only[Option.map_some];rw[add_eq _ _ rfl];refine .sl hB ?_ (by omega) (by simp);rw[Nat.add_assoc,<-Nat.add_mul,show l+(c-l)=c by omega];exact p1
        .simp only[an]at hr;subst hr
         refine⟨_,L,?_⟩
         have:j-l=0:=by omega
         rw[this]
         split
         .exact .bC _ _
         .exact .bC _ _
      .cases hr
    .rename_i l j m q1 q2 q3
     obtain⟨ym,rfl,K⟩:=zO F q3
     cases E with
     |none=>exact F.elim
     |some Z=>
      obtain⟨N,im,rfl,_,_,em⟩:=iB F K
      split at hr
      .rename_i hc
       obtain⟨rfl,h1,h2,h3,h4,h5⟩:=hc
       simp only[an]at hr;subst hr
       have r1:=dX J q1
       have r2:=dX G q2
       have z:(C=none/\l=0)\/∃k,C=some (.int k (l:Int)):=by
        rcases r1 with⟨_,a,b⟩|⟨_,k,_,b⟩
        .exact .inl ⟨a,b⟩
        .exact .inr ⟨k,b⟩
       have p:∃k,D=some (.int k (j:Int)):=by
        rcases r2 with⟨a,_,_⟩|⟨_,k,_,b⟩
        .rw[a]at h5;cases h5
        .exact⟨k,b⟩
       have V:m<=c:=by cases cap with|none=>simp only[lZ]at h3;omega|some c'=>have:=p3 c' rfl;simp only[lZ]at h3;omega
       refine⟨_,gy (m:=m) hu hs z (.inr p) (.inr ⟨N,by rw[em]⟩) h1 h2 V,?_⟩
       have hmul:m*s<=c*s:=Nat.mul_le_mul_right _ V
       by_cases q:m=l
       .rw[if_pos q,if_pos q]
        refine .sl hB ?_ (by omega) (by simp)
        have:(m-l)*s=0:=by simp[q]
        omega
       .rw[if_neg q,if_neg q];simp only[Option.map_some];rw[add_eq _ _ rfl];refine .sl hB ?_ (by omega) (by simp);rw[Nat.add_assoc,<-Nat.add_mul,show l+(m-l)=m by omega];omega
      .cases hr
    .cases hr
  .rename_i s cells sz len cap hs
   cases hx with
   |iQ a e1 e2 e3 e4 e5=>
    subst e1;subst e2;subst e3;subst e4
    have mk:VR g (.aN [] sz 0 (some 0)) (.slice a 0 0):=.iQ a rfl rfl rfl rfl (by simp)
    have am:a.map (·.add (0*s))=a:=by cases a with|none=>rfl|some a=>simp[Addr.add]
    split at hr
    .rename_i l j q1 q2 q3
     have I:E=none:=by
      cases U with
      |none=>cases E with|none=>rfl|some _=>exact F.elim
      |some _=>cases q3
     subst I
     have z:(C=none/\l=0)\/∃k,C=some (.int k (l:Int)):=by
      rcases dX J q1 with⟨_,a,b⟩|⟨_,k,_,b⟩
      .exact .inl ⟨a,b⟩
      .exact .inr ⟨k,b⟩
     have p:(D=none/\j=0/\(none:Option Value)=none)\/∃k,D=some (.int k (j:Int)):=by
      rcases dX G q2 with⟨_,a,b⟩|⟨_,k,_,b⟩
      .exact .inl ⟨a,b,rfl⟩
      .exact .inr ⟨k,b⟩
     have fin:l<=j->j<=0->s=sz->∃u,(Instr.sliceAt t (.slice a 0 0) C D none).run P w=.ok u w/\u=.slice a 0 0/\l=0/\j=0:=by
      intro h1 h2 h3
      have e1:j=0:=by omega
      have e2:l=0:=by omega
      subst e1;subst e2;exact⟨_,gy (a:=a) (m:=0) hu hs z p (.inl ⟨rfl,rfl⟩) (ao _) (ao _) (ao _),by simp,rfl,rfl⟩
     split at hr
     .rename_i c'
      obtain rfl:=e5 c' rfl
      split at hr
      .rename_i hc;obtain⟨u,f1,rfl,rfl,rfl⟩:=fin hc.2.1 hc.2.2.1 hc.1;simp at hr;subst hr;exact⟨_,f1,mk⟩
      .cases hr
     .split at hr
      .rename_i hc;obtain⟨u,f1,rfl,rfl,rfl⟩:=fin hc.2.1 hc.2.2 hc.1;simp at hr;subst hr;exact⟨_,f1,.iQ a rfl rfl rfl rfl (by simp)⟩
      .cases hr
    .rename_i l j m q1 q2 q3
     obtain⟨ym,rfl,K⟩:=zO F q3
     cases E with
     |none=>exact F.elim
     |some Z=>
      obtain⟨N,im,rfl,_,_,em⟩:=iB F K
      split at hr
      .rename_i hc
       obtain⟨rfl,h1,h2,h3,h5⟩:=hc
       have z:(C=none/\l=0)\/∃k,C=some (.int k (l:Int)):=by
        rcases dX J q1 with⟨_,a,b⟩|⟨_,k,_,b⟩
        .exact .inl ⟨a,b⟩
        .exact .inr ⟨k,b⟩
       have p:∃k,D=some (.int k (j:Int)):=by
        rcases dX G q2 with⟨a,_,_⟩|⟨_,k,_,b⟩
        .rw[a]at h5;cases h5
        .exact⟨k,b⟩
       have M:m=0:=by omega
       have e1:j=0:=by omega
       have e2:l=0:=by omega
       subst M;subst e1;subst e2;simp at hr;subst hr;refine⟨_,gy (a:=a) (m:=0) hu hs z (.inr p) (.inr ⟨N,by rw[em]⟩) (ao _) (ao _) (ao _),?_⟩;simp;exact mk
      .cases hr
    .cases hr
   |aN fn g1 g2 p1 p2 p3=>
    rename_i b off c
    have sub:∀l k:Nat,∀i x,((cells.drop l).take k)[i]?=some x->cells[l+i]?=some x:=by
     intro l k i x hx
     by_cases hi:i<k
     .rwa[uw _ _ _ _ hi]at hx
     .rw[List.getElem?_take,if_neg hi]at hx;cases hx
    have hlen:∀l j:Nat,l<=j->j<=len->((cells.drop (l*sz)).take ((j-l)*sz)).length=(j-l)*sz:=by
     intro l j a1 a2
     have e1:l*sz+(j-l)*sz=j*sz:=by rw[<-Nat.add_mul,show l+(j-l)=j by omega]
     have e2:j*sz<=len*sz:=Nat.mul_le_mul_right _ a2;simp;omega
    split at hr
    .rename_i l j q1 q2 q3
     have I:E=none:=by
      cases U with
      |none=>cases E with|none=>rfl|some _=>exact F.elim
      |some _=>cases q3
     subst I
     have z:(C=none/\l=0)\/∃k,C=some (.int k (l:Int)):=by
      rcases dX J q1 with⟨_,a,b⟩|⟨_,k,_,b⟩
      .exact .inl ⟨a,b⟩
      .exact .inr ⟨k,b⟩
     have p:(D=none/\j=len/\(none:Option Value)=none)\/∃k,D=some (.int k (j:Int)):=by
      rcases dX G q2 with⟨_,a,b⟩|⟨_,k,_,b⟩
      .exact .inl ⟨a,b,rfl⟩
      .exact .inr ⟨k,b⟩
     split at hr
     .rename_i c'
      obtain rfl:c=c':=p3 c' rfl
      split at hr
      .rename_i hc
       obtain⟨rfl,h1,h2,h3⟩:=hc
       simp only[an]at hr;subst hr
       refine⟨_,gy (m:=c) hu hs z p (.inl ⟨rfl,rfl⟩) h1 (by omega) (ao _),?_⟩
       by_cases q:c=l
       .rw[if_pos q,if_pos q]
        refine .aN fn (by simp) (by simp) ?_ (by omega) (by simp)
        have:j-l=0:=by omega
        simp[this]
       .rw[if_neg q,if_neg q];simp only[Option.map_some];rw[add_eq _ _ rfl];refine .aN (λi=>fn (l*s+i)) (λi x hx=>?_) (λi x hx=>g2 _ x (sub _ _ i x hx)) (hlen l j h1 h2) (by omega) (by simp);rw[Nat.add_assoc];exact g1 _ x (sub _ _ i x hx)
      .cases hr
     .split at hr
      .rename_i hc
       obtain⟨rfl,h1,h2⟩:=hc
       have L:=gy (P:=P) (w:=w) (a:=some ⟨b,off,none⟩) (m:=c) (cap:=c) hu hs z p (.inl ⟨rfl,rfl⟩) h1 (Nat.le_trans h2 p2) (ao _)
       split at hr
       .rename_i Y
        simp only[an]at hr;subst hr
        refine⟨_,L,?_⟩
        by_cases R:c=l
        .have M:l=0:=by omega
         subst M
         rw[if_pos R]
         have:j=0:=by omega
         subst this;refine .aN fn (by simp) (by simp) (by simp) (by omega) (by simp)
        .rw[if_neg R];simp only[Option.map_some];rw[add_eq _ _ rfl];refine .aN (λi=>fn (l*s+i)) (λi x hx=>?_) (λi x hx=>g2 _ x (sub _ _ i x hx)) (hlen l j h1 h2) (by omega) (by simp);rw[Nat.add_assoc];exact g1 _ x (sub _ _ i x hx)
       .simp only[an]at hr;subst hr
        refine⟨_,L,?_⟩
        have:j-l=0:=by omega
        rw[this]
        split
        .exact .bC _ _
        .exact .bC _ _
      .cases hr
    .rename_i l j m q1 q2 q3
     obtain⟨ym,rfl,K⟩:=zO F q3
     cases E with
     |none=>exact F.elim
     |some Z=>
      obtain⟨N,im,rfl,_,_,em⟩:=iB F K
      split at hr
      .rename_i hc
       obtain⟨rfl,h1,h2,h3,h5⟩:=hc
       simp only[an]at hr;subst hr
       have z:(C=none/\l=0)\/∃k,C=some (.int k (l:Int)):=by
        rcases dX J q1 with⟨_,a,b⟩|⟨_,k,_,b⟩
        .exact .inl ⟨a,b⟩
        .exact .inr ⟨k,b⟩
       have p:∃k,D=some (.int k (j:Int)):=by
        rcases dX G q2 with⟨a,_,_⟩|⟨_,k,_,b⟩
        .rw[a]at h5;cases h5
        .exact⟨k,b⟩
       refine⟨_,gy (m:=m) hu hs z (.inr p) (.inr ⟨N,by rw[em]⟩) h1 h2 (by omega),?_⟩
       by_cases q:m=l
       .rw[if_pos q,if_pos q]
        refine .aN fn (by simp) (by simp) ?_ (by omega) (by simp)
        have:j-l=0:=by omega
        simp[this]
       .rw[if_neg q,if_neg q];simp only[Option.map_some];rw[add_eq _ _ rfl];refine .aN (λi=>fn (l*s+i)) (λi x hx=>?_) (λi x hx=>g2 _ x (sub _ _ i x hx)) (hlen l j h1 (by omega)) (by omega) (by simp);rw[Nat.add_assoc];exact g1 _ x (sub _ _ i x hx)
      .cases hr
    .cases hr
  .rename_i s rows sz hs
   split at hr
   .rename_i l j q1 q2
    have I:E=none:=by cases E with|none=>rfl|some _=>exact F.elim
    subst I
    have z:(C=none/\l=0)\/∃k,C=some (.int k (l:Int)):=by
     rcases dX J q1 with⟨_,a,b⟩|⟨_,k,_,b⟩
     .exact .inl ⟨a,b⟩
     .exact .inr ⟨k,b⟩
    split at hr
    .rename_i hc
     obtain⟨rfl,h1,h2⟩:=hc
     simp only[an]at hr;subst hr
     cases hx with
     |gG=>
      have p:(D=none/\j=0/\(none:Option Value)=none)\/∃k,D=some (.int k (j:Int)):=by
       rcases dX G q2 with⟨_,a,b⟩|⟨_,k,_,b⟩
       .exact .inl ⟨a,by simpa using b,rfl⟩
       .exact .inr ⟨k,b⟩
      have e1:j=0:=by simpa using h2
      have e2:l=0:=by omega
      subst e1;subst e2;refine⟨_,gy (a:=none) (m:=0) hu hs z p (.inl ⟨rfl,rfl⟩) (ao _) (ao _) (ao _),?_⟩;simp;exact .gG
     |gL a=>
      have p:(D=none/\j=0/\(none:Option Value)=none)\/∃k,D=some (.int k (j:Int)):=by
       rcases dX G q2 with⟨_,a1,b⟩|⟨_,k,_,b⟩
       .exact .inl ⟨a1,by simpa using b,rfl⟩
       .exact .inr ⟨k,b⟩
      have e1:j=0:=by simpa using h2
      have e2:l=0:=by omega
      subst e1;subst e2;refine⟨_,gy (a:=some a) (m:=0) hu hs z p (.inl ⟨rfl,rfl⟩) (ao _) (ao _) (ao _),?_⟩;simp;exact .gL a
     |aI hl S hp=>
      rename_i b off c
      obtain⟨fn,g1,g2,p1,p2,p3⟩:=hp.rK
      have p:(D=none/\j=rows.length/\(none:Option Value)=none)\/∃k,D=some (.int k (j:Int)):=by
       rcases dX G q2 with⟨_,a,b⟩|⟨_,k,_,b⟩
       .exact .inl ⟨a,b,rfl⟩
       .exact .inr ⟨k,b⟩
      have T:((rows.drop l).take (j-l)).length=j-l:=by simp;omega
      have O:∀r,r∈(rows.drop l).take (j-l)->r.length=s:=λr hr=>hl r (List.mem_of_mem_drop (List.mem_of_mem_take hr))
      have Q:=C3 l (j-l) hl
      have sub:∀i x,((rows.drop l).take (j-l)).flatten[i]?=some x->rows.flatten[l*s+i]?=some x:=by
       intro i x hx
       rw[Q]at hx
       by_cases hi:i<(j-l)*s
       .rwa[uw _ _ _ _ hi]at hx
       .rw[List.getElem?_take,if_neg hi]at hx;cases hx
      refine⟨_,gy (m:=c) hu hs z p (.inl ⟨rfl,rfl⟩) h1 (Nat.le_trans h2 p2) (ao _),?_⟩
      by_cases X:l=j/\0<rows.length
      .rw[if_pos X,show j-l=0 by omega]
       by_cases q:c=l
       .rw[if_pos q];exact .bC _ _
       .rw[if_neg q];exact .bC _ _
      rw[if_neg X]
      by_cases q:c=l
      .rw[if_pos q]
       have M:j-l=0:=by omega
       have en:(rows.drop l).take (j-l)=[]:=by rw[M];simp
       rw[en];rw[show j-l=([]:List (List AV)).length by rw[M];rfl];refine .aI (by simp) rfl (.aN fn (by simp) (by simp) (by simp) (by simp) (by simp))
      .rw[if_neg q]
       simp only[Option.map_some]
       rw[add_eq _ _ rfl]
       have key:VR g (.aI ((rows.drop l).take (j-l)) s) (.slice (some ⟨b,off+l*s,none⟩) ((rows.drop l).take (j-l)).length (c-l)):=by refine .aI O (Hv S λy hy=>by rw[Q]at hy;exact List.mem_of_mem_drop (List.mem_of_mem_take hy)) (.aN (λi=>fn (l*s+i)) (λi x hx=>?_) (λi x hx=>g2 _ x (sub i x hx)) (mF O) (by omega) (by simp));rw[Nat.add_assoc];exact g1 _ x (sub i x hx)
       rw[T]at key;exact key
    .cases hr
   .rename_i l j y0 q1 q2
    split at hr
    .rename_i m K
     cases E with
     |none=>exact F.elim
     |some Z=>
      obtain⟨N,im,rfl,_,_,em⟩:=iB F K
      split at hr
      .rename_i hc
       obtain⟨rfl,h1,h2,h3,h5⟩:=hc
       simp only[an]at hr;subst hr
       have z:(C=none/\l=0)\/∃k,C=some (.int k (l:Int)):=by
        rcases dX J q1 with⟨_,a,b⟩|⟨_,k,_,b⟩
        .exact .inl ⟨a,b⟩
        .exact .inr ⟨k,b⟩
       have p:∃k,D=some (.int k (j:Int)):=by
        rcases dX G q2 with⟨a,_,_⟩|⟨_,k,_,b⟩
        .rw[a]at h5;cases h5
        .exact⟨k,b⟩
       cases hx with
       |gG=>
        have M:m=0:=by simpa using h3
        have e1:j=0:=by omega
        have e2:l=0:=by omega
        subst M;subst e1;subst e2;refine⟨_,gy (a:=none) (m:=0) hu hs z (.inr p) (.inr ⟨N,by rw[em]⟩) (ao _) (ao _) (ao _),?_⟩;simp;exact .gG
       |gL a=>
        have M:m=0:=by simpa using h3
        have e1:j=0:=by omega
        have e2:l=0:=by omega
        subst M;subst e1;subst e2;refine⟨_,gy (a:=some a) (m:=0) hu hs z (.inr p) (.inr ⟨N,by rw[em]⟩) (ao _) (ao _) (ao _),?_⟩;simp;exact .gL a
       |aI hl S hp=>
        rename_i b off c
        obtain⟨fn,g1,g2,p1,p2,p3⟩:=hp.rK
        have T:((rows.drop l).take (j-l)).length=j-l:=by simp;omega
        have O:∀r,r∈(rows.drop l).take (j-l)->r.length=s:=λr hr=>hl r (List.mem_of_mem_drop (List.mem_of_mem_take hr))
        have Q:=C3 l (j-l) hl
        have sub:∀i x,((rows.drop l).take (j-l)).flatten[i]?=some x->rows.flatten[l*s+i]?=some x:=by
         intro i x hx
         rw[Q]at hx
         by_cases hi:i<(j-l)*s
         .rwa[uw _ _ _ _ hi]at hx
         .rw[List.getElem?_take,if_neg hi]at hx;cases hx
        refine⟨_,gy (m:=m) hu hs z (.inr p) (.inr ⟨N,by rw[em]⟩) h1 h2 (Nat.le_trans h3 p2),?_⟩
        by_cases q:m=l
        .rw[if_pos q]
         have M:j-l=0:=by omega
         have en:(rows.drop l).take (j-l)=[]:=by rw[M];simp
         rw[en];rw[show j-l=([]:List (List AV)).length by rw[M];rfl];refine .aI (by simp) rfl (.aN fn (by simp) (by simp) (by simp) (by simp) (by simp))
        .rw[if_neg q]
         simp only[Option.map_some]
         rw[add_eq _ _ rfl]
         have key:VR g (.aI ((rows.drop l).take (j-l)) s) (.slice (some ⟨b,off+l*s,none⟩) ((rows.drop l).take (j-l)).length (m-l)):=by refine .aI O (Hv S λy hy=>by rw[Q]at hy;exact List.mem_of_mem_drop (List.mem_of_mem_take hy)) (.aN (λi=>fn (l*s+i)) (λi x hx=>?_) (λi x hx=>g2 _ x (sub i x hx)) (mF O) (by omega) (by simp));rw[Nat.add_assoc];exact g1 _ x (sub i x hx)
         rw[T]at key;exact key
      .cases hr
    .cases hr
   .cases hr
  .rename_i s hs
   cases hx with
   |bC a c=>
    split at hr
    .rename_i q1 q2
     have I:E=none:=by cases E with|none=>rfl|some _=>exact F.elim
     subst I
     simp only[an]at hr;subst hr
     have z:(C=none/\0=0)\/∃k,C=some (.int k ((0:Nat):Int)):=by
      rcases dX J q1 with⟨_,a,b⟩|⟨_,k,_,b⟩
      .exact .inl ⟨a,b⟩
      .exact .inr ⟨k,b⟩
     have p:(D=none/\0=0/\(none:Option Value)=none)\/∃k,D=some (.int k ((0:Nat):Int)):=by
      rcases dX G q2 with⟨_,a,b⟩|⟨_,k,_,b⟩
      .exact .inl ⟨a,b,rfl⟩
      .exact .inr ⟨k,b⟩
     refine⟨_,gy (m:=c) hu hs z p (.inl ⟨rfl,rfl⟩) (ao _) (Nat.zero_le _) (ao _),?_⟩
     split
     .exact .bC _ _
     .exact .bC _ _
    .cases hr
  .rename_i s hs
   cases hx
   split at hr
   .rename_i q1 q2 q3
    have I:E=none:=by
     cases U with
     |none=>cases E with|none=>rfl|some _=>exact F.elim
     |some _=>cases q3
    subst I
    simp only[an]at hr;subst hr
    have z:(C=none/\0=0)\/∃k,C=some (.int k ((0:Nat):Int)):=by
     rcases dX J q1 with⟨_,a,b⟩|⟨_,k,_,b⟩
     .exact .inl ⟨a,b⟩
     .exact .inr ⟨k,b⟩
    have p:(D=none/\0=0/\(none:Option Value)=none)\/∃k,D=some (.int k ((0:Nat):Int)):=by
     rcases dX G q2 with⟨_,a,b⟩|⟨_,k,_,b⟩
     .exact .inl ⟨a,b,rfl⟩
     .exact .inr ⟨k,b⟩
    refine⟨_,gy (m:=0) hu hs z p (.inl ⟨rfl,rfl⟩) (ao _) (ao _) (ao _),?_⟩;simp;exact .sc _
   .rename_i q1 q2 q3
    obtain⟨ym,rfl,K⟩:=zO F q3
    cases E with
    |none=>exact F.elim
    |some Z=>
     obtain⟨N,im,rfl,_,_,em⟩:=iB F K
     split at hr
     .rename_i h5
      simp only[an]at hr;subst hr
      have z:(C=none/\0=0)\/∃k,C=some (.int k ((0:Nat):Int)):=by
       rcases dX J q1 with⟨_,a,b⟩|⟨_,k,_,b⟩
       .exact .inl ⟨a,b⟩
       .exact .inr ⟨k,b⟩
      have p:∃k,D=some (.int k ((0:Nat):Int)):=by
       rcases dX G q2 with⟨a,_,_⟩|⟨_,k,_,b⟩
       .rw[a]at h5;cases h5
       .exact⟨k,b⟩
      refine⟨_,gy (m:=0) hu hs z (.inr p) (.inr ⟨N,by rw[em]⟩) (ao _) (ao _) (ao _),?_⟩;simp;exact .sc _
     .cases hr
   .cases hr
  .cases hr
 .rename_i hu
  split at hr
  .rename_i s l q1
   cases hx
   have I:E=none:=by cases E with|none=>rfl|some _=>exact F.elim
   subst I
   split at hr
   .rename_i j q2
    split at hr
    .rename_i hc
     rw[CG]at hr
     simp only[an]at hr;subst hr
     have z:(C=none/\l=0)\/∃k,C=some (.int k (l:Int)):=by
      rcases dX J q1 with⟨_,a,b⟩|⟨_,k,_,b⟩
      .exact .inl ⟨a,b⟩
      .exact .inr ⟨k,b⟩
     have p:(D=none/\j=s.size/\(none:Option Value)=none)\/∃k,D=some (.int k (j:Int)):=by
      rcases dX G q2 with⟨_,a,b⟩|⟨_,k,_,b⟩
      .exact .inl ⟨a,b,rfl⟩
      .exact .inr ⟨k,b⟩
     refine⟨.string (s.extract l j),?_,?_⟩
     .simp only[Instr.sliceAt,Instr.slice,Sem.run_bind,run_underlying hu,Result.andThen_ok,Option.isSome_none,Bool.false_eq_true,if_false];rw[H8 z p (.inl ⟨rfl,rfl⟩) hc.1 hc.2 (ao _)];rfl
     .have e:(⟨⟨(s.data.toList.drop l).take (j-l)⟩⟩:ByteArray)=s.extract l j:=by apply ByteArray.ext;apply Array.ext';simp[List.take_drop,<-List.drop_take]
      rw[e];exact .sc _
    .cases hr
   .cases hr
  .cases hr
 .cases hr
theorem UP{q:Array TypeId}{D ty:TypeId}{x y r:AV}{u v:Value}(hw:W h g w)(J:q[0]?=some D)(hx:VR g x u)(hy:VR g y v)
 (hr:EG P h D x y=some (r,h')):bf P h g w (do pure (.value (<-Builtin.copy_ q ty #[u,v]))) (.val r) h':=by
 unfold EG at hr
 split at hr
 .rename_i e dl G hu C z
  split at hr
  .rename_i s hs
   have hlen:=KE (P:=P) hy z
   cases hf:fh h s (Nat.min G dl) y with
   |none=>grind
   |some new=>
    rw[hf]at hr
    obtain⟨news,q1,q2,q3⟩:=sE (P:=P) hw hy hf
    have q3:=q3 w.drawn
    split at hr
    .rename_i new' o ver m off sz len cap j
     cases j
     split at hr
     .rename_i hc
      obtain⟨rfl,I⟩:=hc
      cases i:hT h o ver m off new with
      |none=>grind
      |some h2=>
       rw[i]at hr
       simp only[Option.map_some,an,aV]at hr
       obtain⟨rfl,rfl⟩:=hr
       cases hx with
       |sl hB p1 p2 p3=>
        rename_i b K c
        have p:len=dl:=by simpa[eK]using C
        subst p;obtain⟨w',L,F,E⟩:=Cy (P:=P) hw i hB q1;refine⟨g,w',_,?_,.sc _,F,E⟩;simp_all[List.getElem?_toArray,List.getElem?_cons_zero,List.getElem?_cons_succ,Sem.run_bind,run_underlying,Result.andThen_ok,run_sizeOf,Sem.run_pure,Builtin.copy_]
     .cases hr
    .cases hr
  .cases hr
 .cases hr
end
end Go.AI
end
