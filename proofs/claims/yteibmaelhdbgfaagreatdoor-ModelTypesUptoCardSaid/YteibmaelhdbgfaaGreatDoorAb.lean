/- A part of the proof. -/
import Derived.Laws.Tables
import Derived.Laws.MakeOwn
import Derived.Laws.AppendOwn
import Derived.IntWalk
import Derived.Test.YteibmaelhdbgfaaGreatDoorAa
set_option linter.all false

section
namespace Go.AI
def sH(g:Gh):ey->Deferred->Prop|.fn f cap args,d=>∃z c:List Value,d={target:=.fn f z.toArray,args:=c.toArray}/\aG g cap z/\aG g args c|.dD o,d=>∃b s n,g.B o 0=some (b,s,n)/\d={target:=.collected b,args:=#[]}
theorem sH.mono{g g':Gh}(hl:g.Le g'){d:ey}{c:Deferred}(h:sH g d c):sH g' d c:=by cases d with|fn f cap args=>obtain⟨a,b,e,h1,h2⟩:=h;exact⟨a,b,e,h1.mono hl,h2.mono hl⟩|dD o=>obtain⟨b,s,n,h1,h2⟩:=h;exact⟨b,s,n,hl.b _ _ _ h1,h2⟩
def bn(P:Program)(h:AHeap)(g:Gh)(w:World)(s:Sem Next)(r:dU)(h':AHeap):Prop:=match r with|.val v=>∃g' w' x,s.run P w=.ok (.value x) w'/\VR g' v x/\W h' g' w'/\Step h g w h' g' w'|.skip=>∃g' w',s.run P w=.ok .skip w'/\W h' g' w'/\Step h g w h' g' w'|.enter f args=>h'=h/\∃vs:List Value,s.run P w=.ok (.enter f vs.toArray) w/\aG g args vs|.round l args=>h'=h/\∃b k n,∃vs:List Value,g.B l 0=some (b,k,n)/\aG g args vs/\s.run P w=(Instr.yield b vs.toArray).run P w|.defer d=>h'=h/\∃c,s.run P w=.ok (.defer c) w/\sH g d c|.panic v=>h'=h/\∃x,s.run P w=.halt (.panic x) w/\VR g v x|.u9=>h'=h/\s.run P w=.ok .recover w
section
variable {P:Program}{h h':AHeap}{g:Gh}{w:World}
theorem bn.same{s:Sem Next}{v:AV}{x:Value}(hw:W h g w)(hr:s.run P w=.ok (.value x) w)(hv:VR g v x):bn P h g w s (.val v) h:=⟨g,w,x,hr,hv,hw,.refl h g w⟩
theorem iS{s:Sem Value}{c:Option AV}{r:dU}(hw:W h g w)(e:val h c=some (r,h'))(hs:∀v,c=some v->∃x,s.run P w=.ok x w/\VR g v x):bn P h g w (do pure (.value (<-s))) r h':=by unfold val at e;cases c with|none=>cases e|some v=>simp only[Option.map_some,ad,av]at e;obtain⟨rfl,rfl⟩:=e;obtain⟨x,h1,h2⟩:=hs v rfl;exact bn.same hw (by simp[h1]) h2
theorem Dy{x:AV}{v:Value}(hc:(a6 x).all dN=true)(hr:VR g x v):aG g (a6 x) v.cells.toList:=by
 by_cases hx:∃a,x=.agg a
 .obtain⟨a,rfl⟩:=hx;obtain⟨cs,rfl,fk⟩:=VR.agg_iff.1 hr;exact fk
 .have e:a6 x=[x]:=by cases x<;>first|rfl|grind
  rw[e]at hc⊢
  have h1:=Jz (by grind) hr
  have:v.cells=#[v]:=by cases v<;>simp_all[Value.cells,Value.oneCell']
  rw[this];exact⟨hr,trivial⟩
theorem nB{z:AV}{v:Value}(h:z=bz v):aG g (a6 z) v.cells.toList:=by subst h;cases v with|agg cs=>exact aG.sX _|tuple cs=>exact⟨VR.bz _,trivial⟩|_=>exact⟨.sc _,trivial⟩
theorem Oa{cells:List AV}{vs:Array Value}{t:TypeId}(hw:W h g w)(hf:∀v,g.B h.next v=none)(hv:aG g cells vs.toList):
 ∃g',g'.B h.next 0=some (w.heap.size,cells.length,cells.length)/\W (h.alloc (.cells 0 0 cells 0 t true false)) g' (w.alloc (.cells vs t))/\Step h g w (h.alloc (.cells 0 0 cells 0 t true false)) g' (w.alloc (.cells vs t)):=by
 have c:vs.size=cells.length:=by simpa using hv.length.symm
 refine⟨g.eA h.next 0 (w.heap.size,cells.length,cells.length),Gh.hI _ _ _ _,?_⟩
 refine pT hw hf rfl ⟨λv hv=>?_,?_⟩
 .cases e:(g.eA h.next 0 (w.heap.size,cells.length,cells.length)).B h.next v with
  |none=>rfl
  |some y=>
   rcases Gh.ek e with⟨_,e',_⟩|e'
   .omega
   grind
 intro v h1 h2 b s n hb
 obtain rfl:v=0:=by omega
 rw[Gh.hI]at hb
 simp only[ad,av]at hb
 obtain⟨rfl,rfl,rfl⟩:=hb
 refine⟨λ_=>rfl,vs,(0,0),⟨ku _ _,c,aC _,aC _,λ_=>rfl,λi _ h3 h4=>by simp at h4,λ_=>.inl rfl,?_⟩⟩
 intro i x hi hx
 have:i<vs.size:=by omega
 refine⟨vs[i],by simp[this],(hv.get i x vs[i] hx (by simp[this])).mono (Gh.lD (hf 0))⟩
theorem J6{x:AV}{v:Value}{t:TypeId}(hw:W h g w)(hf:∀v,g.B h.next v=none)(hv:aG g (a6 x) v.cells.toList):bn P h g w (do pure (.value (.pointer (some (<-newVar t v))))) (.val (j3 h t (a6 x)).2) (j3 h t (a6 x)).1:=by obtain⟨g',h1,h2,h3⟩:=Oa (t:=t) hw hf hv;refine⟨g',_,.pointer (some ⟨w.heap.size,0,none⟩),?_,.ref h1,h2,h3⟩;simp[newVar,newRow]
theorem Xh{e:TypeId}{z:AV}(hw:W h g w)(hf:∀v,g.B h.next v=none)(hz:eE P e=some z):bn P h g w (do pure (.value (<-Instr.alloc e true (.tuple #[])))) (.val (j3 h e (a6 z)).2) (j3 h e (a6 z)).1:=by obtain⟨v,h1,h2⟩:=yh hz w;obtain⟨g',w',x,h3,h4⟩:=J6 (P:=P) (x:=z) (v:=v) (t:=e) hw hf (nB h2);refine⟨g',w',x,?_,h4⟩;rw[<-h3];simp[Instr.alloc,h1]
theorem abp{e:TypeId}{x:AV}{v:Value}(hw:W h g w)(hf:∀v,g.B h.next v=none)(hx:VR g x v)(hc:(a6 x).all dN=true):bn P h g w (do pure (.value (<-Instr.box e v))) (.val (j3 h e (a6 x)).2) (j3 h e (a6 x)).1:=by obtain⟨g',w',y,h3,h4⟩:=J6 (P:=P) (x:=x) (v:=v) (t:=e) hw hf (Dy hc hx);refine⟨g',w',y,?_,h4⟩;rw[<-h3];simp[Instr.box]
theorem Xi{t:TypeId}{x y:AV}{a v:Value}(hw:W h g w)(hx:VR g x a)(hy:VR g y v)(hr:nV P h t x y=some h'):
 bn P h g w (do Instr.storeAt t a v;pure .skip) .skip h':=by
 unfold nV at hr
 split at hr
 .rename_i s o ver n off hs
  split at hr
  .rename_i hlen
   cases hx with
   |ref hb=>
    rename_i b sz
    have hall:(a6 y).all dN=true:=by
     unfold iq at hr
     split at hr
     .grind
     .cases hr
    have c:=Dy hall hy
    obtain⟨w',h1,h2,h3⟩:=C0 (P:=P) hw hr hb c
    refine⟨g,w',?_,h2,h3⟩
    have z:v.cells.size=s:=by rw[<-hlen];simpa using c.length.symm
    simp only[Instr.storeAt,Instr.sureAddr,storeVar,Sem.run_bind,Sem.run_pure,Result.andThen_ok,run_sizeOf hs,z,ne_eq,not_true_eq_false,if_false,h1]
  .cases hr
 .cases hr
theorem Lr{t:TypeId}{cs:List AV}{vs:Array Value}{off:Nat}{y:AV}(hr:apart P t cs off=some y)(hv:aG g cs vs.toList):
 ∃u,(part t vs off).run P w=.ok u w/\VR g y u:=by
 unfold apart at hr
 split at hr
 .rename_i s ha hs
  simp only[ad]at hr;subst hr
  refine⟨.agg (vs.extract off (off+s)),?_,?_⟩
  .simp only[part,Sem.run_bind,yz ha,Result.andThen_ok,if_true,run_sizeOf hs,Sem.run_pure]
  .refine VR.agg_iff.2 ⟨_,rfl,?_⟩
   have:(vs.extract off (off+s)).toList=(vs.toList.drop off).take s:=by simp_all
   rw[this];exact(hv.drop off).take s
 .rename_i s ha hs
  have h1:cs[off]?=some y:=by simp_all
  have hlt:off<vs.size:=by
   have:=hv.length
   have h2:off<cs.length:=by grind
   simp at this;omega
  refine⟨vs[off],?_,hv.get off y vs[off] h1 (by simp[hlt])⟩;simp[part,yz ha,hlt]
 .cases hr
theorem Ls{t:TypeId}{x y:AV}{v:Value}{f:Nat}(hx:VR g x v)(hr:rS P t x f=some y):
 ∃u,(Instr.field t v f).run P w=.ok u w/\VR g y u:=by
 unfold rS at hr
 split at hr
 .rename_i c cs hu
  obtain⟨vs,rfl,hv⟩:=VR.agg_iff.1 hx
  split at hr
  .rename_i fd o;obtain⟨u,h1,h2⟩:=Lr (w:=w) hr hv;refine⟨u,?_,h2⟩;simp[Instr.field,run_underlying hu,o,asAgg,h1]
  .cases hr
 .cases hr
theorem jl{x:AV}{v:Value}{n:Nat}(hx:VR g x v)(hr:fK x=some n):∃k i,v=.int k i/\0<=i/\i.toNat=n/\i=n:=by
 unfold fK at hr
 split at hr
 .rename_i k i
  split at hr
  .rename_i hi;cases hx;grind
  .cases hr
 .cases hr
theorem Lt{t:TypeId}{x i y:AV}{v u:Value}(hx:VR g x v)(hi:VR g i u)(hr:qd P t x i=some y):
 ∃z,(Instr.index t v u).run P w=.ok z w/\VR g y z:=by
 unfold qd at hr
 split at hr
 .rename_i len e cs hu
  obtain⟨vs,rfl,hv⟩:=VR.agg_iff.1 hx
  split at hr
  .rename_i n s hn hs
   split at hr
   .rename_i hlt;obtain⟨k,j,rfl,h0,h1,h2⟩:=jl hi hn;obtain⟨z,h3,h4⟩:=Lr (w:=w) hr hv;refine⟨z,?_,h4⟩;simp only[Instr.index,asIntOf,Sem.run_bind,Sem.run_pure,Result.andThen_ok,run_underlying hu];rw[if_pos ⟨h0,by omega⟩];simp only[Sem.run_bind,run_sizeOf hs,Result.andThen_ok,h1,h3]
   .cases hr
  .cases hr
 .rename_i s hu
  cases hx
  split at hr
  .rename_i n hn
   obtain⟨k,j,rfl,h0,h1,h2⟩:=jl hi hn
   split at hr
   .rename_i b hb;simp only[ad]at hr;subst hr;refine⟨_,?_,.sc _⟩;simp only[Instr.index,asIntOf,Sem.run_bind,Sem.run_pure,Result.andThen_ok,run_underlying hu];simp_all
   .cases hr
  .cases hr
 .cases hr
theorem Jb{t:TypeId}{x y:AV}{v:Value}{f:Nat}(hx:VR g x v)(hr:mc P t x f=some y):
 ∃u,(Instr.fieldAt t v f).run P w=.ok u w/\VR g y u:=by
 unfold mc at hr
 split at hr
 .rename_i z hu
  split at hr
  .rename_i fd c
   split at hr
   .rename_i s o ver n off hs;simp only[ad]at hr;subst hr;cases hx with|ref hb=>rename_i b sz;refine⟨.pointer (some ⟨b,off+fd.offset,none⟩),?_,.ref hb⟩;simp[Instr.fieldAt,run_underlying hu,c,Instr.sureAddr,fieldPlace,run_sizeOf hs,add_eq]
   .rename_i s cells hs
    simp only[ad]at hr;subst hr
    cases hx with
    |cI fn h1 h2=>
     rename_i b off
     refine⟨.pointer (some ⟨b,off+fd.offset,none⟩),?_,.cI (λi=>fn (fd.offset+i)) ?_ ?_⟩
     .simp[Instr.fieldAt,run_underlying hu,c,Instr.sureAddr,fieldPlace,run_sizeOf hs,add_eq]
     .grind
     grind
   .cases hr
  .cases hr
 .cases hr
theorem Jc{t:TypeId}{x i y:AV}{v u:Value}(hx:VR g x v)(hi:VR g i u)(hr:nz P t x i=some y):
 ∃z,(Instr.indexAt t v u).run P w=.ok z w/\VR g y z:=by
 unfold nz at hr
 split at hr
 .rename_i e n hu hn
  obtain⟨k,j,rfl,h0,h1,h2⟩:=jl hi hn
  split at hr
  .rename_i s o ver m off sz len cap hs
   split at hr
   .rename_i hc
    obtain⟨rfl,hlt⟩:=hc
    simp only[ad]at hr;subst hr
    cases hx with
    |sl hb p1 p2 p3=>
     rename_i b I c
     refine⟨.pointer (some ⟨b,off+n*s,none⟩),?_,.ref hb⟩
     have D:j<(len:Int):=by omega
     simp[Instr.indexAt,asIntOf,run_underlying hu,h0,D,run_sizeOf hs,add_eq,h1]
   .cases hr
  .rename_i s cells sz len cap hs
   split at hr
   .rename_i hc
    obtain⟨rfl,hlt⟩:=hc
    simp only[ad]at hr;subst hr
    cases hx with
    |aZ fn h3 h4 p1 p2 p3=>
     rename_i b off c
     refine⟨.pointer (some ⟨b,off+n*s,none⟩),?_,.cI (λi=>fn (n*s+i)) ?_ ?_⟩
     .have D:j<(len:Int):=by omega
      simp[Instr.indexAt,asIntOf,run_underlying hu,h0,D,run_sizeOf hs,add_eq,h1]
     .grind
     grind
   .cases hr
  .rename_i s rows sz hs
   split at hr
   .rename_i hc
    subst hc
    split at hr
    .rename_i r E
     simp only[ad]at hr;subst hr
     have hlt:n<rows.length:=by grind
     cases hx with
     |hU=>simp at hlt
     |ia _=>simp at hlt
     |aQ hl J hp=>
      rename_i b off c
      cases hp with
      |aZ fn h3 h4 p1 p2 p3=>
       refine⟨.pointer (some ⟨b,off+n*s,none⟩),?_,.cI (λi=>fn (n*s+i)) ?_ ?_⟩
       .have D:j<(rows.length:Int):=by omega
        simp[Instr.indexAt,asIntOf,run_underlying hu,h0,D,run_sizeOf hs,add_eq,h1]
       .intro i x F;rw[Nat.add_assoc];exact h3 _ x (I0 hl E F)
       .intro i x F;exact h4 _ x (I0 hl E F)
    .cases hr
   .cases hr
  .cases hr
 .rename_i len e n hu hn
  obtain⟨k,j,rfl,h0,h1,h2⟩:=jl hi hn
  split at hr
  .rename_i s o ver m off hs
   split at hr
   .rename_i hlt
    simp only[ad]at hr;subst hr
    cases hx with
    |ref hb=>
     rename_i b I
     refine⟨.pointer (some ⟨b,off+n*s,none⟩),?_,.ref hb⟩
     have D:j<(len:Int):=by omega
     simp[Instr.indexAt,asIntOf,run_underlying hu,Instr.sureAddr,h0,D,run_sizeOf hs,add_eq,h1]
   .cases hr
  .rename_i s cells hs
   split at hr
   .rename_i hlt
    simp only[ad]at hr;subst hr
    cases hx with
    |cI fn h3 h4=>
     rename_i b off
     refine⟨.pointer (some ⟨b,off+n*s,none⟩),?_,.cI (λi=>fn (n*s+i)) ?_ ?_⟩
     .have D:j<(len:Int):=by omega
      simp[Instr.indexAt,asIntOf,run_underlying hu,Instr.sureAddr,h0,D,run_sizeOf hs,add_eq,h1]
     .grind
     grind
   .cases hr
  .cases hr
 .cases hr
end
end Go.AI
end

section
namespace Go.AI
section
variable {P:Program}{h h':AHeap}{g:Gh}{w:World}
def lG(g:Gh):List (Nat×AV)->List (Nat×Value)->Prop|[],[]=>True|(i,x)::xs,(j,v)::vs=>i=j/\VR g x v/\lG g xs vs|_,_=>False
theorem lG.map{ρ:Operand->AV}{ρ':Operand->Value}(h:∀x,VR g (ρ x) (ρ' x)):∀(l:List (Nat×Operand)),lG g (l.map λ(i,x)=>(i,ρ x)) (l.map λ(i,x)=>(i,ρ' x))|[]=>trivial|(_,x)::l=>⟨rfl,h x,lG.map h l⟩
theorem J7(off:Nat):∀(l:List Value)(k:Nat)(c:Array Value),off+k+l.length<=c.size->((l.zipIdx k).foldl (λcs(x:Value×Nat)=>cs.setIfInBounds (off+x.2) x.1) c).size=c.size/\∀i:Nat,((l.zipIdx k).foldl (λcs(x:Value×Nat)=>cs.setIfInBounds (off+x.2) x.1) c)[i]?=if off+k<=i/\i<off+k+l.length then l[i-(off+k)]? else c[i]?|[],k,c,_=>by simp;grind|v::l,k,c,hs=>by have o:off+k+(l.length+1)<=c.size:=hs;simp only[List.zipIdx_cons,List.foldl_cons];obtain⟨h1,h2⟩:=J7 off l (k+1) (c.setIfInBounds (off+k) v) (by simp;omega);grind
theorem tx{place:Nat->Option (Nat×Nat)}:∀{parts:List (Nat×AV)}{c:List (Nat×Value)}{z cells:List AV}{zc:Array Value},
 iT place z parts=some cells->lG g parts c->aG g z zc.toList->∃F:Array Value,Instr.fill place zc c=some F/\aG g cells F.toList
 |[],[],z,cells,zc,hr,_,hz=>by simp[iT]at hr;subst hr;exact⟨zc,rfl,hz⟩
 |(i,x)::xs,(j,v)::vs,z,cells,zc,hr,hp,hz=>by
  obtain⟨rfl,hx,hp⟩:=hp
  simp only[iT]at hr
  cases D:place i with
  |none=>grind
  |some p=>
   obtain⟨off,size⟩:=p
   rw[D]at hr
   simp only at hr
   split at hr
   .rename_i hc
    obtain⟨h1,h2,h3⟩:=hc
    have hv:=Dy h3 hx
    have hl:=hv.length
    have E:=hz.length
    simp only[Array.length_toList]at hl E
    obtain⟨hs,hg⟩:=J7 off v.cells.toList 0 zc (by simp;omega)
    simp only[Instr.fill,D]
    rw[if_neg (by simp;omega)]
    have o:(v.cells.zipIdx.foldl (λcs(x:Value×Nat)=>cs.setIfInBounds (off+x.2) x.1) zc)=(v.cells.toList.zipIdx.foldl (λcs(x:Value×Nat)=>cs.setIfInBounds (off+x.2) x.1) zc):=by rw[<-Array.foldl_toList];simp
    refine tx hr hp ?_
    rw[o]
    refine aG.of (by simp only[tb _ _ _ h2,Array.length_toList];omega) ?_
    intro k y u hy hu
    rw[JA _ _ _ h2]at hy
    rw[Array.getElem?_toList,hg k]at hu
    simp only[Nat.add_zero,Array.length_toList]at hu
    by_cases h4:off<=k/\k<off+(a6 x).length
    .rw[if_pos h4]at hy;rw[if_pos (by omega)]at hu;exact hv.get _ _ _ hy hu
    .rw[if_neg h4]at hy;rw[if_neg (by omega)]at hu;exact hz.get _ _ _ hy (by grind)
   .cases hr
 |[],_::_,_,_,_,_,hp,_=>hp.elim|(_,_)::_,[],_,_,_,_,hp,_=>hp.elim
theorem Lu{t:TypeId}{parts:List (Nat×AV)}{c:Array (Nat×Value)}{y:AV}(hr:rT P t parts=some y)(hp:lG g parts c.toList):
 ∃u,(Instr.build t c).run P w=.ok u w/\VR g y u:=by
 unfold rT at hr
 split at hr
 .rename_i it n e hit hu
  split at hr
  .rename_i z E hz I;cases hf:iT (λi=>some (i*E.size,E.size)) (a6 (bz z)) parts with|none=>grind|some cells=>rw[hf]at hr;simp at hr;subst hr;obtain⟨o,h1,h2⟩:=tx hf hp (nB rfl);refine⟨.agg o,run_build w t c o ?_,VR.agg_iff.2 ⟨o,rfl,h2⟩⟩;unfold Program.built;grind
  .cases hr
 .rename_i it D hit hu
  split at hr
  .rename_i z places hz F;cases hf:iT (λi=>places[i]?) (a6 (bz z)) parts with|none=>grind|some cells=>rw[hf]at hr;simp at hr;subst hr;obtain⟨o,h1,h2⟩:=tx hf hp (nB rfl);refine⟨.agg o,run_build w t c o ?_,VR.agg_iff.2 ⟨o,rfl,h2⟩⟩;unfold Program.built;simp_all
  .cases hr
 .cases hr
theorem Dz{z:List AV}{zc:Array Value}(hz:aG g z zc.toList)(_hs:0<zc.size):∀n:Nat,aG g (gP z n) ((Array.range (n*zc.size)).map (λi=>zc[i%zc.size]!)).toList:=by
 have key:∀n:Nat,aG g (gP z n) ((List.range (n*zc.size)).map (λi=>zc[i%zc.size]!)):=by
  intro n
  induction n with
  |zero=>simp[gP,aG]
  |succ n o=>
   have c:(List.range ((n+1)*zc.size)).map (λi=>zc[i%zc.size]!)=zc.toList++(List.range (n*zc.size)).map (λi=>zc[i%zc.size]!):=by
    have e:(n+1)*zc.size=zc.size+n*zc.size:=by grind
    rw[e,List.range_add,List.map_append,List.map_map]
    congr 1
    .apply List.ext_getElem
     .simp
     .intro i h1 h2;simp at h1 h2;simp[Nat.mod_eq_of_lt h1,h1]
    .simp_all
   rw[c];exact hz.append o
 simp_all
theorem rm(z:List AV):∀n:Nat,(gP z n).length=n*z.length|0=>by simp[gP]|n+1=>by simp[gP,rm z n,Nat.add_mul];omega
theorem CP{cells:List AV}{vs:Array Value}{e:TypeId}{s len c:Nat}(hw:W h g w)(hf:∀v,g.B h.next v=none)(hv:aG g cells vs.toList)(hl:cells.length=c*s)(hlen:len<=c){t:Sem Value}(hr:t.run P w=.ok (.slice (some ⟨w.heap.size,0,none⟩) len c) (w.alloc (.cells vs e))):bn P h g w (do pure (.value (<-t))) (.val (.sl h.next 0 cells.length 0 s len (some c))) (h.alloc (.cells 0 0 cells 0 e true false)):=by obtain⟨g',h1,h2,h3⟩:=Oa (t:=e) hw hf hv;refine⟨g',_,.slice (some ⟨w.heap.size,0,none⟩) len c,by simp[hr],.sl h1 (by omega) hlen (by simp),h2,h3⟩
theorem UU{t:TypeId}{len:Nat}{parts:List (Nat×AV)}{D:Array (Nat×Value)}{y:AV}(hw:W h g w)(hf:∀v,g.B h.next v=none)
 (hr:tc P h t len parts=some (y,h'))(hp:lG g parts D.toList):bn P h g w (do pure (.value (<-Instr.buildSlice t len D))) (.val y) h':=by
 unfold tc at hr
 split at hr
 .rename_i e hu
  split at hr
  .rename_i s z hs hz
   split at hr
   .rename_i hc
    obtain⟨N,J⟩:=hc
    split at hr
    .rename_i cells o
     split at hr
     .rename_i hall
      simp only[ad,av]at hr
      obtain⟨rfl,rfl⟩:=hr
      obtain⟨v,hv,rfl⟩:=yh hz w
      have F:aG g (a6 (bz v)) v.cells.toList:=nB rfl
      have K:v.cells.size=s:=by have:=F.length;simp at this;omega
      have hlen:cells.length=len*s:=by
       have:∀{place:Nat->Option (Nat×Nat)}(ps:List (Nat×AV))(z c:List AV),iT place z ps=some c->c.length=z.length:=by
        intro place ps
        induction ps with
        |nil=>intro z c h;simp[iT]at h;rw[h]
        |cons p ps M=>
         intro z c h
         obtain⟨i,x⟩:=p
         simp only[iT]at h
         split at h
         .cases h
         .split at h
          .rename_i L;rw[M _ _ h,tb _ _ _ L.2.1]
          .cases h
       rw[this _ _ _ o,rm,J]
      by_cases h0:len*s=0
      .have E:aG g (gP (a6 (bz v)) len) ((Array.range (len*s)).map (λi=>(#[]:Array Value)[i%(#[]:Array Value).size]!)).toList:=by have hl:=rm (a6 (bz v)) len;rw[J,h0]at hl;rw[List.length_eq_zero_iff.1 hl,h0];simp[aG]
       obtain⟨O,h1,h2⟩:=tx o hp E;refine CP hw hf h2 hlen (aC _) ?_;simp only[Instr.buildSlice,Sem.run_bind,run_underlying hu,Result.andThen_ok,run_sizeOf hs];rw[if_neg (by simp;omega),if_pos h0];simp only[Sem.run_bind,Sem.run_pure,Result.andThen_ok,h1,newRow,run_newObj];rfl
      .have E:aG g (gP (a6 (bz v)) len) ((Array.range (len*s)).map (λi=>v.cells[i%v.cells.size]!)).toList:=by
        have I:0<v.cells.size:=by grind
        have:=Dz F I len;rw[K]at this⊢;exact this
       obtain⟨O,h1,h2⟩:=tx o hp E;refine CP hw hf h2 hlen (aC _) ?_;simp only[Instr.buildSlice,Sem.run_bind,run_underlying hu,Result.andThen_ok,run_sizeOf hs];rw[if_neg (by simp;omega),if_neg h0];simp only[Sem.run_bind,hv,Sem.run_pure,Result.andThen_ok,h1,newRow,run_newObj];rfl
     .cases hr
    .cases hr
   .cases hr
  .cases hr
 .cases hr
end
end Go.AI
end

section
namespace Go.AI
section
variable {P:Program}{h h':AHeap}{g:Gh}{w:World}
theorem U0{t:TypeId}{x y z:AV}{u v:Value}(hw:W h g w)(hf:∀v,g.B h.next v=none)(hx:VR g x u)(hy:VR g y v)
 (hr:CW P h t x y=some (z,h')):bn P h g w (do pure (.value (<-Instr.makeSlice t u v))) (.val z) h':=by
 unfold CW at hr
 split at hr
 .rename_i e l c hu hl hc
  split at hr
  .rename_i s R X hs hz hb
   split at hr
   .rename_i hcond
    obtain⟨h1,h2,h3,h4⟩:=hcond
    simp only[ad,av]at hr
    obtain⟨rfl,rfl⟩:=hr
    obtain⟨T,Q,rfl,h0,_,e1⟩:=jl hx hl
    obtain⟨S,J,rfl,V,_,e2⟩:=jl hy hc
    obtain⟨i,hi,rfl⟩:=Jj hb
    have N:i.size=s:=by simpa[bt,hi]using hs
    have L:∃v,i.zero=some v/\R=bz v:=by unfold eE at hz;rw[hi]at hz;cases U:i.zero with|none=>grind|some v=>grind
    obtain⟨o,K,rfl⟩:=L
    have F:aG g (a6 (bz o)) o.cells.toList:=nB rfl
    have M:o.cells.size=s:=by have:=F.length;simp at this;omega
    have O:(i.bytes:Int)*J<=281474976710656:=by grind
    have E:=run_make (P:=P) w t e i o hu hi K T S Q J h0 (by omega) O (by omega)
    rw[show Q.toNat=l by omega,show J.toNat=c by omega]at E
    have D:aG g (gP (a6 (bz o)) c) (madeCells o.cells (c*i.size)).toList:=by
     rw[N,<-M]
     by_cases h5:0<o.cells.size
     .exact Dz F h5 c
     .have h6:o.cells.size=0:=by omega
      have I:=rm (a6 (bz o)) c
      have:(a6 (bz o)).length=0:=by omega
      rw[this,Nat.mul_zero]at I;rw[List.length_eq_zero_iff.1 I,h6];simp[madeCells,aG]
    have hlen:(gP (a6 (bz o)) c).length=c*s:=by rw[rm,h4]
    have:=CP (s:=s) (len:=l) (c:=c) hw hf D hlen h1 E;grind
   .cases hr
  .cases hr
 .cases hr
theorem MF{x:AV}{v:Value}{n:Nat}(hx:VR g x v)(hr:ft x=some n)(w:World):(Builtin.lenOf v).run P w=.ok n w:=by
 unfold ft at hr
 split at hr
 .cases hx;simp at hr;subst hr;rfl
 .cases hx;simp at hr;subst hr;rfl
 .cases hx with|hU=>simp at hr;subst hr;rfl|ia _=>simp at hr;subst hr;rfl|aQ _ _ _=>simp at hr;subst hr;rfl
 .cases hx;simp at hr;subst hr;rfl
 .cases hx;simp at hr;subst hr;rfl
 .cases hx;simp at hr;subst hr;rfl
 .cases hr
theorem tk{s n:Nat}{x:AV}{v:Value}{cs:List AV}(hw:W h g w)(hx:VR g x v)(hr:fT h s n x=some cs):
 ∃vs:List Value,aG g cs vs/\vs.length=n*s/\∀d,(Builtin.firstCells s n v).run P {w with drawn:=d}=.ok vs.toArray {w with drawn:=d}:=by
 unfold fT at hr
 split at hr
 .rename_i o ver m off sz len cap
  split at hr
  .rename_i hc;cases hx with|sl hb p1 p2 p3=>rename_i b F c;obtain⟨vs,h1,h2,h3,_⟩:=nA hw hr hb;refine⟨vs,h1,h2,λd=>?_⟩;exact run_firstCells_some (P:=P) {w with drawn:=d} s n ⟨b,off,none⟩ len c vs h2 (λj v hv=>by rw[add_eq _ _ rfl];exact h3 j v hv)
  .cases hr
 .rename_i cells sz len cap
  split at hr
  .rename_i hc
   obtain⟨rfl,h1,h2⟩:=hc
   simp only[ad]at hr;subst hr
   have z:VR g (.cI cells) (match v with|.slice a _ _=>.pointer a|_=>v):=by cases hx with|aZ f q1 q2 p1 p2 p3=>exact .cI f q1 q2
   obtain⟨a,ha,D,vs,h3,h4,h5⟩:=rL (s:=n*s) hw (by simp[gW,h2];rfl) z;cases hx with|aZ f q1 q2 p1 p2 p3=>rename_i b off c;simp at ha;subst ha;refine⟨vs,h3,h4,λd=>?_⟩;exact run_firstCells_some (P:=P) {w with drawn:=d} s n ⟨b,off,none⟩ len c vs h4 (λj v hv=>by rw[add_eq _ _ rfl];exact h5 j v hv)
  .cases hr
 .rename_i rows sz
  split at hr
  .rename_i hc
   obtain⟨rfl,h1⟩:=hc
   simp only[ad]at hr;subst hr
   cases hx with
   |hU=>have:n=0:=by grind
        subst this;exact⟨[],trivial,by simp,λd=>rfl⟩
   |ia a=>have:n=0:=by grind
          subst this;exact⟨[],trivial,by simp,λd=>run_firstCells_some (P:=P) {w with drawn:=d} s 0 a 0 0 [] (by simp) (by simp)⟩
   |aQ hl E hp=>
    rename_i b off c
    rw[C7 n hl]
    have z:VR g (.cI rows.flatten) (.pointer (some ⟨b,off,none⟩)):=by cases hp with|aZ f q1 q2 p1 p2 p3=>exact .cI f q1 q2
    have h2:n*s<=rows.flatten.length:=by rw[nH hl];exact Nat.mul_le_mul_right _ h1
    obtain⟨a,ha,D,vs,h3,h4,h5⟩:=rL (s:=n*s) hw (by simp only[gW];rw[if_pos h2]) z;simp at ha;subst ha;refine⟨vs,h3,h4,λd=>?_⟩;exact run_firstCells_some (P:=P) {w with drawn:=d} s n ⟨b,off,none⟩ rows.length c vs h4 (λj v hv=>by rw[add_eq _ _ rfl];exact h5 j v hv)
  .cases hr
 .split at hr
  .rename_i h0;subst h0;simp only[ad]at hr;subst hr;cases hx with|bT a c=>refine⟨[],trivial,by simp,λd=>?_⟩;exact run_firstCells_some (P:=P) _ s 0 a 0 c [] (by simp) (by simp)
  .cases hr
 .split at hr
  .rename_i h0;subst h0;simp only[ad]at hr;subst hr;cases hx;exact⟨[],trivial,by simp,λd=>rfl⟩
  .cases hr
 .rename_i b
  split at hr
  .rename_i hc
   obtain⟨rfl,h1⟩:=hc
   simp only[ad]at hr;subst hr
   cases hx
   refine⟨(b.data.toList.take n).map (λb=>.int .u8 b.toNat),aG.map _ _ (λb=>.sc _) _,?_,λd=>?_⟩
   .simp_all
   .simp only[Builtin.firstCells,Sem.run_pure];congr 1;apply Array.ext';simp_all
  .cases hr
 .cases hr
theorem I2{z:Array TypeId}{st J ty e:TypeId}{D:TypeDesc}{s n len c:Nat}{a:Addr}{y:Value}{news:List Value}{w':World}(I:z[0]?=some st)(F:z[1]?=some J)(hu:P.underlying st=some (.slice e))
 (hx:P.underlying J=some D)(K:∀k,D≠.int k)(hs:bt P e=some s)(hl:∀w,(Builtin.lenOf y).run P w=.ok n w)
 (hn:(Builtin.firstCells s n y).run P w=.ok news.toArray w)(o:len+n<=c)(E:(storeCells (a.add (len*s)) news).run P w=.ok () w'):
 (Builtin.append_ z ty #[.slice (some a) len c,y]).run P w=.ok (.slice (some a) (len+n) c) w':=by
 have hm:(match D with|.int _=>true|_=>false)=false:=by simp_all
 simp only[Builtin.append_,I,F,List.getElem?_toArray,List.getElem?_cons_zero,List.getElem?_cons_succ,Sem.run_bind,run_underlying hu,Result.andThen_ok,run_sizeOf hs,run_underlying hx,Sem.run_pure,Bool.false_eq_true,if_false,hl,Bool.not_false,if_true,o,hn,E]
theorem IZ{E:Array TypeId}{st O ty e:TypeId}{F:TypeDesc}{i:TypeInfo}{z:Value}{n len c:Nat}{base:Option Addr}{y:Value}{olds news:List Value}(N:E[0]?=some st)(M:E[1]?=some O)(hu:P.underlying st=some (.slice e))
 (hx:P.underlying O=some F)(S:∀k,F≠.int k)(hi:P.info? e=some i)(hz:i.zero=some z)(hl:∀w,(Builtin.lenOf y).run P w=.ok n w)
 (ho:∀d,(Builtin.firstCells i.size len (.slice base len c)).run P {w with drawn:=d}=.ok olds.toArray {w with drawn:=d})
 (hn:∀d,(Builtin.firstCells i.size n y).run P {w with drawn:=d}=.ok news.toArray {w with drawn:=d})(D:¬len+n<=c)(Q:0<i.bytes)
 (o:(len+n)*i.bytes<=140737488355328):
 ∃k,len+n<=k/\(Builtin.append_ E ty #[.slice base len c,y]).run P w=.ok (.slice (some ⟨w.heap.size,0,none⟩) (len+n) k) ({w with drawn:=w.drawn+1}.alloc (.cells ((olds++news).toArray++Builtin.zeroCells z.cells (k-(len+n))) e)):=by
 have R:Builtin.nextslicecap (len+n) c*i.bytes<=281474976710656:=growslice_fits (by omega) o
 refine⟨(Question.appendCap (len+n) c e).cut (w.tape w.drawn (.appendCap (len+n) c e)),by simp[Question.cut],?_⟩
 have J:=ho (w.drawn+1)
 have L:=hn (w.drawn+1)
 have I:(sizeOf e).run P w=.ok i.size w:=run_sizeOf (by simp[bt,hi]) w
 have h2:¬(Builtin.nextslicecap (len+n) c*i.bytes>281474976710656):=by omega
 have K:¬i.bytes=0:=by omega
 have hm:(match F with|.int _=>true|_=>false)=false:=by simp_all
 simp only[Builtin.append_,N,M,List.getElem?_toArray,List.getElem?_cons_zero,List.getElem?_cons_succ,Sem.run_bind,run_underlying hu,Result.andThen_ok,I,run_underlying hx,Sem.run_pure,Bool.false_eq_true,if_false,hl,Bool.not_false,if_true,D,run_typeInfo hi,K,or_self,and_false,Nat.reducePow,h2,run_choose,Question.forced,run_askRoom,J,L,zeroValue,hz,newRow,run_newObj];simp[World.alloc]
theorem CQ{e:TypeId}{s c:Nat}{z:AV}(hs:bt P e=some s)(hb:mw P e=some c)(hz:eE P e=some z):∃i v,P.info? e=some i/\i.size=s/\i.bytes=c/\i.zero=some v/\z=bz v:=by obtain⟨i,hi,rfl⟩:=Jj hb;refine⟨i,?_⟩;unfold eE at hz;rw[hi]at hz;cases o:i.zero with|none=>grind|some v=>simp[o]at hz;exact⟨v,hi,by simpa[bt,hi]using hs,rfl,rfl,hz.symm⟩
theorem Lv{cells:List AV}{vs:List Value}{e:TypeId}{s k c:Nat}{z:Array Value}(hw:W h g w)(hf:∀v,g.B h.next v=none)(hv:aG g cells vs)
 (hl:cells.length=c*s)(hz:z.size=s)(hk:c<=k){t:Sem Value}
 (hr:t.run P w=.ok (.slice (some ⟨w.heap.size,0,none⟩) c k) ({w with drawn:=w.drawn+1}.alloc (.cells (vs.toArray++Builtin.zeroCells z (k-c)) e))):
 bn P h g w (do pure (.value (<-t))) (.val (.sl h.next 0 (c*s) 0 s c none)) (h.alloc (.cells 0 0 cells 0 e false false)):=by
 have D:(vs.toArray++Builtin.zeroCells z (k-c)).size=k*s:=by simp only[Array.size_append,List.size_toArray,size_zeroCells,hz,<-hv.length,hl,<-Nat.add_mul];congr 1;omega
 have o:=pT (x:=.cells 0 0 cells 0 e false false) (s:=k*s) (n:=c*s) (hw.drew (w.drawn+1)) hf (w':={w with drawn:=w.drawn+1}.alloc (.cells (vs.toArray++Builtin.zeroCells z (k-c)) e)) rfl ?_
 .refine⟨_,_,.slice (some ⟨w.heap.size,0,none⟩) c k,by simp_all,?_,o.1,?_⟩
  .refine .sl (Gh.hI _ _ _ _) ?_ hk (by simp);simp
  .have h2:=o.2;exact{h2 with size:=h2.size,fr:=h2.fr,tape:=h2.tape,os:=h2.os,out:=h2.out,old:=h2.old,fX:=h2.fX}
 .refine⟨λv hv=>?_,?_⟩
  .cases e:(g.eA h.next 0 (w.heap.size,k*s,c*s)).B h.next v with
   |none=>rfl
   |some y=>
    rcases Gh.ek e with⟨_,e',_⟩|e'
    .omega
    grind
  intro v h1 h2 b s' n' hb
  obtain rfl:v=0:=by omega
  rw[Gh.hI]at hb
  simp only[ad,av]at hb
  obtain⟨rfl,rfl,rfl⟩:=hb
  have E:c*s<=k*s:=Nat.mul_le_mul_right _ hk
  refine⟨λ_=>hl.symm,_,(0,0),⟨ku _ _,D,by omega,E,(λh=>by cases h),(λi _ h3 h4=>by simp at h4),λ_=>.inl rfl,?_⟩⟩
  intro i x hi hx
  have hlt:i<vs.length:=by rw[<-hv.length];omega
  refine⟨vs[i],?_,(hv.get i x vs[i] hx (by simp[hlt])).mono (Gh.lD (hf 0))⟩;grind
theorem l9{z:Array TypeId}{st I ty e:TypeId}{D:TypeDesc}{s len c:Nat}{base:Option Addr}{y:Value}(F:z[0]?=some st)(E:z[1]?=some I)
 (hu:P.underlying st=some (.slice e))(hx:P.underlying I=some D)(J:∀k,D≠.int k)(hs:bt P e=some s)(hl:∀w,(Builtin.lenOf y).run P w=.ok 0 w)
 (hn:(Builtin.firstCells s 0 y).run P w=.ok #[] w)(o:len<=c):
 (Builtin.append_ z ty #[.slice base len c,y]).run P w=.ok (.slice base len c) w:=by
 have hm:(match D with|.int _=>true|_=>false)=false:=by simp_all
 cases base<;>simp only[Builtin.append_,F,E,List.getElem?_toArray,List.getElem?_cons_zero,List.getElem?_cons_succ,Sem.run_bind,run_underlying hu,Result.andThen_ok,run_sizeOf hs,run_underlying hx,Sem.run_pure,Bool.false_eq_true,if_false,hl,Bool.not_false,if_true,Nat.add_zero,o,hn,storeCells]
theorem Lw{o v mv fz el k:Nat}{ex sh:Bool}{c new:List AV}{g':Gh}{w':World}{b' sb':Nat}{ca:Array Value}{f:Nat×Nat}{news:List Value}
 (hx:OR g w o (.cells v mv c fz el ex sh))(hl:g.Le g')(hk:k<=c.length)(_hfz:fz<=k)(N:aG g new news)
 (hB:∀v' y,g'.B o v'=some y->(v'=v+1/\y=(b',sb',k+new.length))\/g.B o v'=some y)
 (R:w'.heap[b']?=some (.cells ca el f))(S:ca.size=sb')(Q:k+new.length<=sb')(L:∀i x,i<k->c[i]?=some x->∃u,ca[i]?=some u/\VR g x u)
 (F:∀i:Nat,i<new.length->ca[k+i]?=news[i]?)(K:∀i,i<sb'->f.1<=i->i<f.2->i<fz)(D:sh=false->f.1=f.2\/f.2<=fz)
 (E:∀v' b s n,g.B o v'=some (b,s,n)->k=c.length->mv<=v'->v'<=v->∃aS J,w'.heap[b]?=some (.cells aS el J)/\aS.size=s/\(∀i,i<s->J.1<=i->i<J.2->i<fz)/\(sh=false->J.1=J.2\/J.2<=fz)/\∀i x,i<n->c[i]?=some x->∃u,aS[i]?=some u/\VR g x u):
 OR g' w' o (.cells (v+1) (if k=c.length then mv else v+1) (c.take k++new) fz el false sh):=by
 have hlen:(c.take k++new).length=k+new.length:=by grind
 refine⟨λv' T=>?_,?_⟩
 .cases e:g'.B o v' with
  |none=>rfl
  |some y=>
   rcases hB v' y e with⟨e',_⟩|e'
   .omega
   .rw[hx.1 v' (by omega)]at e';cases e'
 intro v' h1 h2 b s n hb
 rcases hB v' _ hb with⟨rfl,e⟩|I
 .simp only[av]at e
  obtain⟨rfl,rfl,rfl⟩:=e
  refine⟨λ_=>hlen.symm,ca,f,⟨R,S,by omega,Q,(λh=>by cases h),K,D,?_⟩⟩
  intro i x hi z
  by_cases h3:i<k
  .rw[List.getElem?_append_left (by simp;omega),List.getElem?_take,if_pos h3]at z;obtain⟨u,hu,hr⟩:=L i x h3 z;exact⟨u,hu,hr.mono hl⟩
  .rw[List.getElem?_append_right (by simp;omega)]at z
   have e:(c.take k).length=k:=by grind
   rw[e]at z
   have h4:i-k<new.length:=by omega
   have:=F (i-k) h4
   rw[show k+(i-k)=i by omega]at this
   have h5:i-k<news.length:=by grind
   refine⟨news[i-k],by grind,(N.get _ _ _ z (by simp[h5])).mono hl⟩
 .by_cases hv:v'=v+1
  .subst hv;rw[hx.1 (v+1) (Nat.lt_succ_self _)]at I;cases I
  .by_cases O:k=c.length
   .rw[if_pos O]at h1
    obtain⟨_,U,V,M⟩:=hx.2 v' h1 (by omega) b s n I
    obtain⟨aS,J,q1,q2,q3,q4,q5⟩:=E v' b s n I O h1 (by omega)
    refine⟨λe=>absurd e hv,aS,J,⟨q1,q2,?_,M.lh,(λh=>by cases h),q3,q4,?_⟩⟩
    .have:=M.le;omega
    .intro i x hi z;have:=M.le;rw[List.getElem?_append_left (by simp;omega),List.getElem?_take,if_pos (by omega)]at z;obtain⟨u,hu,hr⟩:=q5 i x hi z;exact⟨u,hu,hr.mono hl⟩
   grind
end
end Go.AI
end

section
namespace Go.AI
section
variable {P:Program}{h h':AHeap}{g:Gh}{w:World}
theorem CJ{F:Array TypeId}{st T ty e:TypeId}{U:TypeDesc}{s E n len c:Nat}{base:Option Addr}{z:AV}{y:Value}{old new:List AV}{olds news:List Value}
 (hw:W h g w)(hf:∀v,g.B h.next v=none)(S:F[0]?=some st)(R:F[1]?=some T)(hu:P.underlying st=some (.slice e))(hx:P.underlying T=some U)(M:∀k,U≠.int k)
 (hs:bt P e=some s)(hb:mw P e=some E)(hz:eE P e=some z)(V:(a6 z).length=s)(hl:∀w,(Builtin.lenOf y).run P w=.ok n w)
 (ho:∀d,(Builtin.firstCells s len (.slice base len c)).run P {w with drawn:=d}=.ok olds.toArray {w with drawn:=d})
 (hn:∀d,(Builtin.firstCells s n y).run P {w with drawn:=d}=.ok news.toArray {w with drawn:=d})
 (J:aG g old olds)(O:olds.length=len*s)(K:aG g new news)(Q:news.length=n*s)
 (D:¬len+n<=c)(I:0<E)(o:(len+n)*E<=140737488355328):
 bn P h g w (do pure (.value (<-Builtin.append_ F ty #[.slice base len c,y]))) (.val (.sl h.next 0 ((len+n)*s) 0 s (len+n) none)) (h.alloc (.cells 0 0 (old++new) 0 e false false)):=by
 obtain⟨i,v,hi,rfl,rfl,L,rfl⟩:=CQ hs hb hz
 obtain⟨k,hk,hr⟩:=IZ (ty:=ty) S R hu hx M hi L hl ho hn D I o
 have N:v.cells.size=i.size:=by have:=(nB (g:=g) (z:=bz v) rfl).length;simp at this;omega
 refine Lv hw hf (J.append K) ?_ N hk hr;rw[List.length_append,J.length,K.length,O,Q,Nat.add_mul]
theorem Wn{Ci:Array TypeId}{st xt ty:TypeId}{x y r:AV}{u v:Value}(hw:W h g w)(hf:∀v,g.B h.next v=none)(M:Ci[0]?=some st)(L:Ci[1]?=some xt)
 (hx:VR g x u)(hy:VR g y v)(hr:mm P h st xt x y=some (r,h')):
 bn P h g w (do pure (.value (<-Builtin.append_ Ci ty #[u,v]))) (.val r) h':=by
 unfold mm at hr
 split at hr
 .rename_i e xd n hu I hn
  split at hr
  .cases hr
  .rename_i hint
   have J:∀k,xd≠.int k:=by intro k hk;subst hk;exact hint rfl
   split at hr
   .rename_i s TJ z hs hb hz
    split at hr
    .cases hr
    .rename_i hzs
     have Y:(a6 z).length=s:=by grind
     split at hr
     .cases hr
     .rename_i new FV
      split at hr
      .cases hr
      .rename_i hall
       have hall:new.all dN=true:=by grind
       obtain⟨news,Q,T,K⟩:=tk (P:=P) hw hy FV
       have hlen:=MF (P:=P) hy hn
       have akw:new.length=n*s:=by rw[Q.length,T]
       split at hr
       .cases hx
        split at hr
        .rename_i h0;subst h0;simp only[ad,av]at hr;obtain⟨rfl,rfl⟩:=hr;have D:news=[]:=List.eq_nil_of_length_eq_zero (by grind);subst D;exact bn.same hw (by simp[l9 M L hu I J hs hlen (K w.drawn) (aC 0)]) (.sc _)
        .rename_i h0
         split at hr
         .rename_i hc;simp only[ad,av]at hr;obtain⟨rfl,rfl⟩:=hr;have:=CJ (len:=0) (c:=0) (base:=none) (old:=[]) (olds:=[]) (ty:=ty) hw hf M L hu I J hs hb hz Y hlen (λd=>rfl) K trivial (by simp) Q T (by omega) hc.1 (by grind);grind
         .cases hr
       .rename_i o ver m off sz len cap
        split at hr
        .cases hr
        .rename_i HG
         have HG:sz=s:=by grind
         subst HG
         cases hx with
         |sl hB p1 p2 p3=>
          rename_i b sb c
          split at hr
          .rename_i c'
           obtain rfl:c=c':=p3 c' rfl
           split at hr
           .rename_i E
            split at hr
            .rename_i h0;subst h0;simp only[ad,av]at hr;obtain⟨rfl,rfl⟩:=hr;have D:news=[]:=List.eq_nil_of_length_eq_zero (by grind);subst D;exact bn.same hw (by simp[l9 M L hu I J hs hlen (K w.drawn) p2]) (.sl hB p1 p2 p3)
            .cases TK:iq h o ver m (off+len*sz) new with|none=>grind|some h2=>rw[TK]at hr;simp only[ad,av]at hr;obtain⟨rfl,rfl⟩:=hr;obtain⟨w',q1,q2,q3⟩:=C0 (P:=P) hw TK hB Q;refine⟨g,w',_,?_,.sl hB p1 E p3,q2,q3⟩;have:=I2 (ty:=ty) (a:=⟨b,off,none⟩) M L hu I J hs hlen (K w.drawn) E (by rw[add_eq _ _ rfl];exact q1);simp[this]
           .rename_i E
            split at hr
            .rename_i hc;cases wb:c9 h o ver m off (len*sz)with|none=>grind|some old=>rw[wb]at hr;simp only[ad,av]at hr;obtain⟨rfl,rfl⟩:=hr;obtain⟨olds,q1,q2,q3,_⟩:=nA hw wb hB;exact CJ hw hf M L hu I J hs hb hz Y hlen (λd=>run_firstCells_some (P:=P) {w with drawn:=d} sz len ⟨b,off,none⟩ len c olds q2 (λj v hv=>by rw[add_eq _ _ rfl];exact q3 j v hv)) K q1 q2 Q T E hc.1 hc.2
            .cases hr
          .split at hr
           .rename_i h0;subst h0;simp only[ad,av]at hr;obtain⟨rfl,rfl⟩:=hr;have D:news=[]:=List.eq_nil_of_length_eq_zero (by grind);subst D;exact bn.same hw (by simp[l9 M L hu I J hs hlen (K w.drawn) p2]) (.sl hB p1 p2 p3)
           .rename_i h0
            split at hr
            .rename_i v0 mv cc fz el ex sh S
             split at hr
             .rename_i hcond
              obtain⟨rfl,HH,rfl,TL,TM,rfl,R6,V⟩:=hcond
              simp only[ad,av]at hr
              obtain⟨rfl,rfl⟩:=hr
              have N:=hw.obj o _ S
              obtain⟨hm,ca,f,hk⟩:=N.2 ver HH (aC _) b sb m hB
              have hm:=hm rfl
              have ag7:=CO hall Q
              have akx:(len+n)*sz=len*sz+n*sz:=Nat.add_mul _ _ _
              by_cases E:len+n<=c
              .have akz:len*sz+n*sz<=sb:=by have:(len+n)*sz<=c*sz:=Nat.mul_le_mul_right _ E;omega
               obtain⟨c',FW,fk,TN⟩:=IY (P:=P) (off:=len*sz) news 0 ca w hk.here (by have:=hk.size;omega) (λj q1 q2 q3=>by have:=hk.free j (by omega) q3.1 q3.2;omega) ag7
               have ag8:=I2 (ty:=ty) (a:=⟨b,0,none⟩) M L hu I J hs hlen (K w.drawn) E (by rw[add_eq _ _ rfl];simpa using FW)
               have R:=VD (nv:=ver+1) (s:=sb) (n:=(len+n)*sz) (x':=.cells (ver+1) (if len*sz=cc.length then mv else ver+1) (cc.take (len*sz)++new) fz el false sh) hw S hB (N.1 _ (Nat.lt_succ_self _)) (w':=dk w b (.cells c' el f)) rfl ?_
               .refine⟨_,_,_,by simp only[Sem.run_bind,ag8,Result.andThen_ok,Sem.run_pure];rfl,?_,R.1,R.2⟩;refine .sl (Gh.hI _ _ _ _) (by omega) E (by simp)
               .refine Lw (news:=news) (b':=b) (sb':=sb) (ca:=c') (f:=f) N (Gh.lD (N.1 _ (Nat.lt_succ_self _))) (by omega) TM Q ?_ (il (ik hk.here)) (by rw[fk];exact hk.size) (by omega) ?_ ?_ hk.free hk.plain ?_
                .intro v' y Z
                 rcases Gh.ek Z with⟨_,e1,e2⟩|e1
                 .grind
                 grind
                .intro i x hi U;rw[TN i,if_neg (by omega)];exact hk.cell i x (by omega) U
                .simp_all
                .intro v' b2 s2 n2 X hkc h1 h2
                 obtain⟨_,we,f2,F⟩:=N.2 v' h1 h2 b2 s2 n2 X
                 by_cases TO:b2=b
                 .subst TO;have e1:=F.here;rw[hk.here]at e1;simp only[ad,Obj.cells.injEq,true_and]at e1;obtain⟨rfl,rfl⟩:=e1;refine⟨c',f,il (ik hk.here),by rw[fk];exact F.size,F.free,F.plain,?_⟩;intro i x hi U;have:=F.le;rw[TN i,if_neg (by omega)];exact F.cell i x hi U
                 .exact⟨we,f2,(CZ TO).trans F.here,F.size,F.free,F.plain,F.cell⟩
              .have holds:∃olds,aG g (cc.take (len*sz)) olds/\olds.length=len*sz/\(∀(j:Nat)(v:Value),olds[j]?=some v->w.cell? ⟨b,0+j,none⟩=some v):=by obtain⟨olds,q1,q2,q3,_⟩:=nA (h:=h) (o:=o) (ver:=ver) (n:=m) (off:=0) (s:=len*sz) (cs:=(cc.drop 0).take (len*sz)) hw (by unfold c9;grind) hB;exact⟨olds,by grind,q2,q3⟩
               obtain⟨olds,q1,q2,q3⟩:=holds
               obtain⟨i,zv,hi,rfl,rfl,hzv,rfl⟩:=CQ hs hb hz
               obtain⟨k,sY,hrr⟩:=IZ (ty:=ty) (base:=some ⟨b,0,none⟩) M L hu I J hi hzv hlen (λd=>run_firstCells_some (P:=P) {w with drawn:=d} i.size len ⟨b,0,none⟩ len c olds q2 (λj v hv=>by rw[add_eq _ _ rfl];exact q3 j v hv)) K E R6 V
               have hvl:zv.cells.size=i.size:=by have:=(nB (g:=g) (z:=bz zv) rfl).length;simp at this;omega
               have ag9:((olds++news).toArray++Builtin.zeroCells zv.cells (k-(len+n))).size=k*i.size:=by simp only[Array.size_append,List.size_toArray,List.length_append,size_zeroCells,hvl,q2,T,<-Nat.add_mul];congr 1;omega
               have R:=Wk (nv:=ver+1) (s:=k*i.size) (n:=(len+n)*i.size) (x':=.cells (ver+1) (if len*i.size=cc.length then mv else ver+1) (cc.take (len*i.size)++new) fz el false sh) (hw.drew (w.drawn+1)) S hB (N.1 _ (Nat.lt_succ_self _)) (w':={w with drawn:=w.drawn+1}.alloc (.cells ((olds++news).toArray++Builtin.zeroCells zv.cells (k-(len+n))) el)) rfl ?_
               .refine⟨_,_,_,by simp only[Sem.run_bind,hrr,Result.andThen_ok,Sem.run_pure];rfl,?_,R.1,?_⟩
                .exact .sl (Gh.hI _ _ _ _) (by simp) sY (by simp)
                .have h2:=R.2;exact{h2 with size:=h2.size,fr:=h2.fr,tape:=h2.tape,os:=h2.os,out:=h2.out,old:=h2.old,fX:=h2.fX}
               .have hmul:(len+n)*i.size<=k*i.size:=Nat.mul_le_mul_right _ sY
                refine Lw (w:={w with drawn:=w.drawn+1}) (news:=news) (b':=w.heap.size) (sb':=k*i.size) (f:=(0,0)) ((hw.drew (w.drawn+1)).obj o _ S) (Gh.lD (N.1 _ (Nat.lt_succ_self _))) (by omega) TM Q ?_ (ku _ _) ag9 (by omega) ?_ ?_ (λj _ _ h4=>by simp at h4) (λ_=>.inl rfl) ?_
                .intro v' y Z
                 rcases Gh.ek Z with⟨_,e1,e2⟩|e1
                 .grind
                 grind
                .intro j x hj U
                 have hjl:j<olds.length:=by omega
                 refine⟨olds[j],?_,q1.get j x olds[j] (by grind) (by simp[hjl])⟩;grind
                .intro j hj;rw[Array.getElem?_append_left (by simp;omega)];simp_all
                .intro v' b2 s2 n2 X hkc h1 h2;obtain⟨_,we,f2,F⟩:=N.2 v' h1 h2 b2 s2 n2 X;exact⟨we,f2,(C9 (w:={w with drawn:=w.drawn+1}) (hw.ei o v' b2 s2 n2 X)).trans F.here,F.size,F.free,F.plain,F.cell⟩
             .cases hr
            .cases hr
       .rename_i cells sz len c'
        split at hr
        .cases hr
        .rename_i HG
         have aha:sz=s:=by grind
         subst aha
         have hcl:cells.length=len*sz:=by grind
         have O:=hx
         cases hx with
         |aZ fn q1 q2 p1 p2 p3=>
          rename_i b off c
          obtain rfl:c=c':=p3 c' rfl
          split at hr
          .rename_i h0;subst h0;simp only[ad,av]at hr;obtain⟨rfl,rfl⟩:=hr;have D:news=[]:=List.eq_nil_of_length_eq_zero (by grind);subst D;exact bn.same hw (by simp[l9 M L hu I J hs hlen (K w.drawn) p2]) O
          .split at hr
           .rename_i hc;simp only[ad,av]at hr;obtain⟨rfl,rfl⟩:=hr;obtain⟨olds,r1,r2,r3⟩:=tk (P:=P) (s:=sz) (n:=len) (cs:=cells) hw O (by unfold fT;grind);exact CJ hw hf M L hu I J hs hb hz Y hlen r3 K r1 r2 Q T (by omega) hc.2.1 hc.2.2
           .cases hr
       .split at hr
        .rename_i h0;subst h0;simp only[ad,av]at hr;obtain⟨rfl,rfl⟩:=hr;have D:news=[]:=List.eq_nil_of_length_eq_zero (by grind);subst D;have O:=hx;cases hx with|aZ fn q1 q2 p1 p2 p3=>exact bn.same hw (by simp[l9 M L hu I J hs hlen (K w.drawn) p2]) O
        .cases hr
       .split at hr
        .rename_i h0;subst h0;simp only[ad,av]at hr;obtain⟨rfl,rfl⟩:=hr;have D:news=[]:=List.eq_nil_of_length_eq_zero (by grind);subst D;have O:=hx;cases hx with|hU=>exact bn.same hw (by simp[l9 M L hu I J hs hlen (K w.drawn) (aC _)]) O|ia _=>exact bn.same hw (by simp[l9 M L hu I J hs hlen (K w.drawn) (aC _)]) O|aQ hl hpf hp=>cases hp with|aZ fn q1 q2 p1 p2 p3=>exact bn.same hw (by simp[l9 M L hu I J hs hlen (K w.drawn) p2]) O
        .cases hr
       .split at hr
        .rename_i h0;subst h0;simp only[ad,av]at hr;obtain⟨rfl,rfl⟩:=hr;have D:news=[]:=List.eq_nil_of_length_eq_zero (by grind);subst D;have O:=hx;cases hx with|bT a c=>exact bn.same hw (by simp[l9 M L hu I J hs hlen (K w.drawn) (Nat.zero_le c)]) O
        .cases hr
       .cases hr
   .cases hr
 .cases hr
end
end Go.AI
end

section
namespace Go.AI
section
variable {P:Program}{h h':AHeap}{g:Gh}{w:World}
theorem UF{c:Array TypeId}{st J ty e:TypeId}{M:IntKind}{i:TypeInfo}{z:Value}{n:Nat}(I:c[0]?=some st)(F:c[1]?=some J)(hu:P.underlying st=some (.slice e))
 (hx:P.underlying J=some (.int M))(hi:P.info? e=some i)(hz:i.zero=some z)(hn:0<n)(N:i.size≠0)(Q:n<9223372036854775808)(K:0<i.bytes)
 (E:n*i.bytes<=140737488355328):
 ∃k,n<=k/\(Builtin.append_ c ty #[.slice none 0 0,.int .i64 n]).run P w=.ok (.slice (some ⟨w.heap.size,0,none⟩) n k) ({w with drawn:=w.drawn+1}.alloc (.cells (Builtin.zeroCells z.cells n++Builtin.zeroCells z.cells (k-n)) e)):=by
 have L:Builtin.nextslicecap (0+n) 0*i.bytes<=281474976710656:=growslice_fits (by omega) (by grind)
 refine⟨(Question.appendCap (0+n) 0 e).cut (w.tape w.drawn (.appendCap (0+n) 0 e)),by show n<=(0+n)+_;omega,?_⟩
 have D:(sizeOf e).run P w=.ok i.size w:=run_sizeOf (by simp[bt,hi]) w
 have h2:¬(Builtin.nextslicecap (0+n) 0*i.bytes>281474976710656):=by omega
 have O:¬i.bytes=0:=by omega
 have o:IntKind.i64.wrap (n:Int)=(n:Int):=IntWalk.i64_in _ (by omega)
 have h3:¬((n:Int)<0):=by omega
 have h4:¬((n:Int)*(i.bytes:Int)>2^48):=by grind
 have h5:¬(n*i.size=0):=by intro h;rcases Nat.mul_eq_zero.1 h with h|h<;>omega
 have h6:¬(0+n<=0):=by omega
 have R:¬(((0+n:Nat):Int)>IntKind.i64.max):=by
  have:IntKind.i64.max=9223372036854775807:=by decide
  omega
 simp only[Builtin.append_,I,F,List.getElem?_toArray,List.getElem?_cons_zero,List.getElem?_cons_succ,Sem.run_bind,run_underlying hu,Result.andThen_ok,D,run_underlying hx,Sem.run_pure,asInt,asIntOf,o,h3,if_false,run_typeInfo hi,Nat.reducePow,h4,Int.toNat_natCast,if_true,h6,R,false_and,h2,run_choose,Question.forced,run_askRoom,zeroValue,hz,newRow,run_newObj,Bool.not_true,Bool.false_eq_true,h5,Builtin.firstCells];rw[Nat.zero_add,Array.empty_append];rfl
theorem VE{c:Array TypeId}{st N ty:TypeId}{x y r:AV}{u v:Value}(hw:W h g w)(hf:∀v,g.B h.next v=none)(M:c[0]?=some st)(L:c[1]?=some N)
 (hx:VR g x u)(hy:VR g y v)(hr:Dt P h st N x y=some (r,h')):
 bn P h g w (do pure (.value (<-Builtin.append_ c ty #[u,v]))) (.val r) h':=by
 unfold Dt at hr
 split at hr
 .rename_i e U n hu I
  cases hx
  cases hy
  split at hr
  .rename_i s T z hs hb hz
   split at hr
   .rename_i hc
    obtain⟨Y,X,S,R,V,Q,O⟩:=hc
    simp only[ad,av]at hr
    obtain⟨rfl,rfl⟩:=hr
    obtain⟨i,o,hi,rfl,rfl,E,rfl⟩:=CQ hs hb hz
    obtain⟨m,rfl⟩:∃m:Nat,n=(m:Int):=⟨n.toNat,by omega⟩
    simp only[Int.toNat_natCast]at O⊢
    obtain⟨k,hk,D⟩:=UF (w:=w) (ty:=ty) (n:=m) M L hu I hi E (by omega) S (by omega) Q O
    have K:=nB (g:=g) (z:=bz o) rfl
    have J:o.cells.size=i.size:=by have:=K.length;simp at this;omega
    have F:=Dz (g:=g) (z:=a6 (bz o)) (zc:=o.cells) (by grind) (by omega) m
    refine Lv (z:=o.cells) hw hf F ?_ J hk ?_
    .rw[rm,R]
    .rw[D,Array.toArray_toList];rfl
   .cases hr
  .cases hr
 .cases hr
theorem VF{c:Array TypeId}{st D ty:TypeId}{x y r:AV}{u v:Value}(hw:W h g w)(hf:∀v,g.B h.next v=none)(z:c[0]?=some st)(o:c[1]?=some D)
 (hx:VR g x u)(hy:VR g y v)(hr:tu P h st D x y=some (r,h')):
 bn P h g w (do pure (.value (<-Builtin.append_ c ty #[u,v]))) (.val r) h':=by
 unfold tu at hr
 split at hr
 .rename_i q e;simp only[ad]at hr;subst hr;exact Wn hw hf z o hx hy e
 .exact VE hw hf z o hx hy hr
end
end Go.AI
end

section
namespace Go.AI
section
variable {P:Program}{h h':AHeap}{g:Gh}{w:World}
def jF(g:Gh):Option AV->Option Value->Prop|none,none=>True|some x,some v=>VR g x v|_,_=>False
theorem jF.map{ρ:Operand->AV}{ρ':Operand->Value}(h:∀x,VR g (ρ x) (ρ' x))(o:Option Operand):jF g (o.map ρ) (o.map ρ'):=by cases o with|none=>trivial|some x=>exact h x
theorem fp{x:Option AV}{v:Option Value}{d n:Nat}(hx:jF g x v)(hr:eT x d=some n):(x=none/\v=none/\n=d)\/∃y k,x=some y/\v=some (.int k (n:Int)):=by
 cases x with
 |none=>cases v with|none=>simp[eT]at hr;grind|some _=>exact hx.elim
 |some y=>cases v with|none=>exact hx.elim|some u=>obtain⟨k,i,rfl,_,_,e⟩:=jl hx hr;grind
theorem JB{z:Bool}{o hi c:Option Value}{l h m len cap:Nat}(E:(o=none/\l=0)\/∃k,o=some (.int k (l:Int)))
 (F:(hi=none/\h=len/\c=none)\/∃k,hi=some (.int k (h:Int)))(D:(c=none/\m=cap)\/∃k,c=some (.int k (m:Int)))
 (h1:l<=h)(h2:h<=m)(h3:m<=cap):(Instr.sliceBounds z len cap o hi c).run P w=.ok (l,h,m) w:=by
 have e1:(0:Int)<=l/\(l:Int)<=h:=by omega
 have e2:(0:Int)<=h/\(h:Int)<=m:=by omega
 have e3:(0:Int)<=m/\(m:Int)<=cap:=by omega
 rcases D with⟨rfl,rfl⟩|⟨I,rfl⟩<;>rcases F with⟨rfl,rfl,e⟩|⟨J,rfl⟩<;>rcases E with⟨rfl,rfl⟩|⟨K,rfl⟩<;>first|(cases e;done)|simp only[Instr.sliceBounds,Instr.sliceBound,asIntOf,Sem.run_bind,Sem.run_pure,Result.andThen_ok,e1,e2,e3,and_self,if_true,Int.toNat_natCast]
theorem ij{t e:TypeId}{s:Nat}{o hi c:Option Value}{l h m len cap:Nat}{a:Option Addr}(hu:P.underlying t=some (.slice e))(hs:bt P e=some s)(D:(o=none/\l=0)\/∃k,o=some (.int k (l:Int)))(E:(hi=none/\h=len/\c=none)\/∃k,hi=some (.int k (h:Int)))(z:(c=none/\m=cap)\/∃k,c=some (.int k (m:Int)))(h1:l<=h)(h2:h<=m)(h3:m<=cap):(Instr.sliceAt t (.slice a len cap) o hi c).run P w=.ok (.slice (if m=l then a else a.map (·.add (l*s))) (h-l) (m-l)) w:=by simp only[Instr.sliceAt,Instr.slice,Sem.run_bind,run_underlying hu,Result.andThen_ok,JB D E z h1 h2 h3,run_sizeOf hs,Sem.run_pure]
theorem Fb{o:Option AV}{c:Option Value}{r:Option Nat}(hm:jF g o c)(e:o.map fK=some r):∃y,o=some y/\fK y=r:=by simp_all
theorem Lx{t:TypeId}{x y:AV}{v:Value}{lo hi V:Option AV}{F I J:Option Value}(hx:VR g x v)(N:jF g lo F)(L:jF g hi I)(K:jF g V J)
 (hr:gk P t x lo hi V=some y):∃u,(Instr.sliceAt t v F I J).run P w=.ok u w/\VR g y u:=by
 unfold gk at hr
 split at hr
 .rename_i e hu
  split at hr
  .rename_i s o ver n off sz len cap hs
   cases hx with
   |sl hB p1 p2 p3=>
    rename_i b sb c
    split at hr
    .rename_i l hh q1 q2 q3
     have M:J=none:=by
      cases V with
      |none=>cases J with|none=>rfl|some _=>exact K.elim
      |some _=>cases q3
     subst M
     have r1:=fp N q1
     have r2:=fp L q2
     have E:(F=none/\l=0)\/∃k,F=some (.int k (l:Int)):=by grind
     have D:(I=none/\hh=len/\(none:Option Value)=none)\/∃k,I=some (.int k (hh:Int)):=by grind
     split at hr
     .rename_i c'
      obtain rfl:c=c':=p3 c' rfl
      split at hr
      .rename_i hc
       obtain⟨rfl,h1,h2,h3⟩:=hc
       simp only[ad]at hr;subst hr
       refine⟨_,ij (m:=c) hu hs E D (.inl ⟨rfl,rfl⟩) h1 h2 (aC _),?_⟩
       by_cases z:c=l
       .rw[if_pos z,if_pos z];refine .sl hB ?_ (by omega) (by simp);grind
       .rw[if_neg z,if_neg z];simp only[Option.map_some];rw[add_eq _ _ rfl];refine .sl hB ?_ (by omega) (by simp);rw[Nat.add_assoc,<-Nat.add_mul,show l+(c-l)=c by omega];exact p1
      .cases hr
     .split at hr
      .rename_i hc
       obtain⟨rfl,h1,h2⟩:=hc
       have Q:=ij (P:=P) (w:=w) (a:=some ⟨b,off,none⟩) (m:=c) (cap:=c) hu hs E D (.inl ⟨rfl,rfl⟩) h1 (Nat.le_trans h2 p2) (aC _)
       split at hr
       .rename_i Z;subst Z
        simp only[ad]at hr;subst hr
        refine⟨_,Q,?_⟩
        by_cases S:c=0
        .rw[if_pos S];exact .sl hB (by grind) (by omega) (by simp)
        .rw[if_neg S];simp only[Option.map_some];rw[add_eq _ _ rfl];simp only[Nat.zero_mul,Nat.add_zero,Nat.sub_zero];exact .sl hB p1 (by omega) (by simp)
       .split at hr
        .rename_i hlt;simp only[ad]at hr;subst hr;refine⟨_,Q,?_⟩;rw[if_neg (by omega)];simp only[Option.map_some];rw[add_eq _ _ rfl];refine .sl hB ?_ (by omega) (by simp);rw[Nat.add_assoc,<-Nat.add_mul,show l+(c-l)=c by omega];exact p1
        .simp only[ad]at hr;subst hr
         refine⟨_,Q,?_⟩
         have:hh-l=0:=by omega
         rw[this]
         split
         .exact .bT _ _
         .exact .bT _ _
      .cases hr
    .rename_i l hh m q1 q2 q3
     obtain⟨ym,rfl,O⟩:=Fb K q3
     cases J with
     |none=>exact K.elim
     |some um=>
      obtain⟨km,im,rfl,_,_,em⟩:=jl K O
      split at hr
      .rename_i hc
       obtain⟨rfl,h1,h2,h3,h4,h5⟩:=hc
       simp only[ad]at hr;subst hr
       have r1:=fp N q1
       have r2:=fp L q2
       have E:(F=none/\l=0)\/∃k,F=some (.int k (l:Int)):=by grind
       have D:∃k,I=some (.int k (hh:Int)):=by grind
       have X:m<=c:=by cases cap with|none=>simp only[lK]at h3;omega|some c'=>have:=p3 c' rfl;simp only[lK]at h3;omega
       refine⟨_,ij (m:=m) hu hs E (.inr D) (.inr ⟨km,by rw[em]⟩) h1 h2 X,?_⟩
       have hmul:m*s<=c*s:=Nat.mul_le_mul_right _ X
       by_cases z:m=l
       .rw[if_pos z,if_pos z];refine .sl hB ?_ (by omega) (by simp);grind
       .rw[if_neg z,if_neg z];simp only[Option.map_some];rw[add_eq _ _ rfl];refine .sl hB ?_ (by omega) (by simp);rw[Nat.add_assoc,<-Nat.add_mul,show l+(m-l)=m by omega];omega
      .cases hr
    .cases hr
  .rename_i s cells sz len cap hs
   cases hx with
   |aZ fn g1 g2 p1 p2 p3=>
    rename_i b off c
    have sub:∀l k:Nat,∀i x,((cells.drop l).take k)[i]?=some x->cells[l+i]?=some x:=by grind
    have hlen:∀l hh:Nat,l<=hh->hh<=len->((cells.drop (l*sz)).take ((hh-l)*sz)).length=(hh-l)*sz:=by
     intro l hh a1 a2
     have e1:l*sz+(hh-l)*sz=hh*sz:=by rw[<-Nat.add_mul,show l+(hh-l)=hh by omega]
     have e2:hh*sz<=len*sz:=Nat.mul_le_mul_right _ a2;simp;omega
    split at hr
    .rename_i l hh q1 q2 q3
     have M:J=none:=by
      cases V with
      |none=>cases J with|none=>rfl|some _=>exact K.elim
      |some _=>cases q3
     subst M
     have E:(F=none/\l=0)\/∃k,F=some (.int k (l:Int)):=by
      rcases fp N q1 with⟨_,a,b⟩|⟨_,k,_,b⟩
      .grind
      .grind
     have D:(I=none/\hh=len/\(none:Option Value)=none)\/∃k,I=some (.int k (hh:Int)):=by
      rcases fp L q2 with⟨_,a,b⟩|⟨_,k,_,b⟩
      .grind
      .grind
     split at hr
     .rename_i c'
      obtain rfl:c=c':=p3 c' rfl
      split at hr
      .rename_i hc
       obtain⟨rfl,h1,h2,h3⟩:=hc
       simp only[ad]at hr;subst hr
       refine⟨_,ij (m:=c) hu hs E D (.inl ⟨rfl,rfl⟩) h1 (by omega) (aC _),?_⟩
       by_cases z:c=l
       .rw[if_pos z,if_pos z];refine .aZ fn (by simp) (by simp) ?_ (by omega) (by simp);grind
       .rw[if_neg z,if_neg z];simp only[Option.map_some];rw[add_eq _ _ rfl];refine .aZ (λi=>fn (l*s+i)) (λi x hx=>?_) (λi x hx=>g2 _ x (sub _ _ i x hx)) (hlen l hh h1 h2) (by omega) (by simp);grind
      .cases hr
     .split at hr
      .rename_i hc
       obtain⟨rfl,h1,h2⟩:=hc
       have Q:=ij (P:=P) (w:=w) (a:=some ⟨b,off,none⟩) (m:=c) (cap:=c) hu hs E D (.inl ⟨rfl,rfl⟩) h1 (Nat.le_trans h2 p2) (aC _)
       split at hr
       .rename_i Z
        simp only[ad]at hr;subst hr
        refine⟨_,Q,?_⟩
        by_cases S:c=l
        .have T:l=0:=by omega
         subst T
         rw[if_pos S]
         have:hh=0:=by omega
         subst this;refine .aZ fn (by simp) (by simp) (by simp) (by omega) (by simp)
        .rw[if_neg S];simp only[Option.map_some];rw[add_eq _ _ rfl];refine .aZ (λi=>fn (l*s+i)) (λi x hx=>?_) (λi x hx=>g2 _ x (sub _ _ i x hx)) (hlen l hh h1 h2) (by omega) (by simp);grind
       .simp only[ad]at hr;subst hr
        refine⟨_,Q,?_⟩
        have:hh-l=0:=by omega
        rw[this]
        split
        .exact .bT _ _
        .exact .bT _ _
      .cases hr
    .rename_i l hh m q1 q2 q3
     obtain⟨ym,rfl,O⟩:=Fb K q3
     cases J with
     |none=>exact K.elim
     |some um=>
      obtain⟨km,im,rfl,_,_,em⟩:=jl K O
      split at hr
      .rename_i hc
       obtain⟨rfl,h1,h2,h3,h5⟩:=hc
       simp only[ad]at hr;subst hr
       have E:(F=none/\l=0)\/∃k,F=some (.int k (l:Int)):=by
        rcases fp N q1 with⟨_,a,b⟩|⟨_,k,_,b⟩
        .grind
        .grind
       have D:∃k,I=some (.int k (hh:Int)):=by
        rcases fp L q2 with⟨a,_,_⟩|⟨_,k,_,b⟩
        .grind
        .grind
       refine⟨_,ij (m:=m) hu hs E (.inr D) (.inr ⟨km,by rw[em]⟩) h1 h2 (by omega),?_⟩
       by_cases z:m=l
       .rw[if_pos z,if_pos z];refine .aZ fn (by simp) (by simp) ?_ (by omega) (by simp);grind
       .rw[if_neg z,if_neg z];simp only[Option.map_some];rw[add_eq _ _ rfl];refine .aZ (λi=>fn (l*s+i)) (λi x hx=>?_) (λi x hx=>g2 _ x (sub _ _ i x hx)) (hlen l hh h1 (by omega)) (by omega) (by simp);grind
      .cases hr
    .cases hr
  .rename_i s rows sz hs
   split at hr
   .rename_i l hh q1 q2
    have M:J=none:=by cases J with|none=>rfl|some _=>exact K.elim
    subst M
    have E:(F=none/\l=0)\/∃k,F=some (.int k (l:Int)):=by
     rcases fp N q1 with⟨_,a,b⟩|⟨_,k,_,b⟩
     .grind
     .grind
    split at hr
    .rename_i hc
     obtain⟨rfl,h1,h2⟩:=hc
     simp only[ad]at hr;subst hr
     cases hx with
     |hU=>
      have D:(I=none/\hh=0/\(none:Option Value)=none)\/∃k,I=some (.int k (hh:Int)):=by
       rcases fp L q2 with⟨_,a,b⟩|⟨_,k,_,b⟩
       .grind
       .grind
      have e1:hh=0:=by grind
      have e2:l=0:=by omega
      subst e1;subst e2;refine⟨_,ij (a:=none) (m:=0) hu hs E D (.inl ⟨rfl,rfl⟩) (aC _) (aC _) (aC _),?_⟩;simp;exact .hU
     |ia a=>
      have D:(I=none/\hh=0/\(none:Option Value)=none)\/∃k,I=some (.int k (hh:Int)):=by
       rcases fp L q2 with⟨_,a1,b⟩|⟨_,k,_,b⟩
       .grind
       .grind
      have e1:hh=0:=by grind
      have e2:l=0:=by omega
      subst e1;subst e2;refine⟨_,ij (a:=some a) (m:=0) hu hs E D (.inl ⟨rfl,rfl⟩) (aC _) (aC _) (aC _),?_⟩;simp;exact .ia a
     |aQ hl U hp=>
      rename_i b off c
      cases hp with
      |aZ fn g1 g2 p1 p2 p3=>
      have D:(I=none/\hh=rows.length/\(none:Option Value)=none)\/∃k,I=some (.int k (hh:Int)):=by
       rcases fp L q2 with⟨_,a,b⟩|⟨_,k,_,b⟩
       .grind
       .grind
      have hln:((rows.drop l).take (hh-l)).length=hh-l:=by grind
      have R:∀r,r∈(rows.drop l).take (hh-l)->r.length=s:=λr hr=>hl r (List.mem_of_mem_drop (List.mem_of_mem_take hr))
      have HI:=Dv l (hh-l) hl
      have sub:∀i x,((rows.drop l).take (hh-l)).flatten[i]?=some x->rows.flatten[l*s+i]?=some x:=by grind
      refine⟨_,ij (m:=c) hu hs E D (.inl ⟨rfl,rfl⟩) h1 (Nat.le_trans h2 p2) (aC _),?_⟩
      by_cases Y:l=hh/\0<rows.length
      .rw[if_pos Y,show hh-l=0 by omega]
       by_cases z:c=l
       .rw[if_pos z];exact .bT _ _
       .rw[if_neg z];exact .bT _ _
      rw[if_neg Y]
      by_cases z:c=l
      .rw[if_pos z]
       have T:hh-l=0:=by omega
       have en:(rows.drop l).take (hh-l)=[]:=by grind
       rw[en];rw[show hh-l=([]:List (List AV)).length by rw[T];rfl];refine .aQ (by simp) rfl (.aZ fn (by simp) (by simp) (by simp) (by simp) (by simp))
      .rw[if_neg z]
       simp only[Option.map_some]
       rw[add_eq _ _ rfl]
       have key:VR g (.aQ ((rows.drop l).take (hh-l)) s) (.slice (some ⟨b,off+l*s,none⟩) ((rows.drop l).take (hh-l)).length (c-l)):=by refine .aQ R (I1 U λy hy=>by grind) (.aZ (λi=>fn (l*s+i)) (λi x hx=>?_) (λi x hx=>g2 _ x (sub i x hx)) (nH R) (by omega) (by simp));rw[Nat.add_assoc];exact g1 _ x (sub i x hx)
       grind
    .cases hr
   .rename_i l hh y0 q1 q2
    split at hr
    .rename_i m O
     cases J with
     |none=>exact K.elim
     |some um=>
      obtain⟨km,im,rfl,_,_,em⟩:=jl K O
      split at hr
      .rename_i hc
       obtain⟨rfl,h1,h2,h3,h5⟩:=hc
       simp only[ad]at hr;subst hr
       have E:(F=none/\l=0)\/∃k,F=some (.int k (l:Int)):=by
        rcases fp N q1 with⟨_,a,b⟩|⟨_,k,_,b⟩
        .grind
        .grind
       have D:∃k,I=some (.int k (hh:Int)):=by
        rcases fp L q2 with⟨a,_,_⟩|⟨_,k,_,b⟩
        .grind
        .grind
       cases hx with
       |hU=>
        have T:m=0:=by grind
        have e1:hh=0:=by omega
        have e2:l=0:=by omega
        subst T;subst e1;subst e2;refine⟨_,ij (a:=none) (m:=0) hu hs E (.inr D) (.inr ⟨km,by rw[em]⟩) (aC _) (aC _) (aC _),?_⟩;simp;exact .hU
       |ia a=>
        have T:m=0:=by grind
        have e1:hh=0:=by omega
        have e2:l=0:=by omega
        subst T;subst e1;subst e2;refine⟨_,ij (a:=some a) (m:=0) hu hs E (.inr D) (.inr ⟨km,by rw[em]⟩) (aC _) (aC _) (aC _),?_⟩;simp;exact .ia a
       |aQ hl U hp=>
        rename_i b off c
        cases hp with
        |aZ fn g1 g2 p1 p2 p3=>
        have hln:((rows.drop l).take (hh-l)).length=hh-l:=by grind
        have R:∀r,r∈(rows.drop l).take (hh-l)->r.length=s:=λr hr=>hl r (List.mem_of_mem_drop (List.mem_of_mem_take hr))
        have HI:=Dv l (hh-l) hl
        have sub:∀i x,((rows.drop l).take (hh-l)).flatten[i]?=some x->rows.flatten[l*s+i]?=some x:=by grind
        refine⟨_,ij (m:=m) hu hs E (.inr D) (.inr ⟨km,by rw[em]⟩) h1 h2 (Nat.le_trans h3 p2),?_⟩
        by_cases z:m=l
        .rw[if_pos z]
         have T:hh-l=0:=by omega
         have en:(rows.drop l).take (hh-l)=[]:=by grind
         rw[en];rw[show hh-l=([]:List (List AV)).length by rw[T];rfl];refine .aQ (by simp) rfl (.aZ fn (by simp) (by simp) (by simp) (by simp) (by simp))
        .rw[if_neg z]
         simp only[Option.map_some]
         rw[add_eq _ _ rfl]
         have key:VR g (.aQ ((rows.drop l).take (hh-l)) s) (.slice (some ⟨b,off+l*s,none⟩) ((rows.drop l).take (hh-l)).length (m-l)):=by refine .aQ R (I1 U λy hy=>by grind) (.aZ (λi=>fn (l*s+i)) (λi x hx=>?_) (λi x hx=>g2 _ x (sub i x hx)) (nH R) (by omega) (by simp));rw[Nat.add_assoc];exact g1 _ x (sub i x hx)
         grind
      .cases hr
    .cases hr
   .cases hr
  .rename_i s hs
   cases hx with
   |bT a c=>
    split at hr
    .rename_i q1 q2
     have M:J=none:=by cases J with|none=>rfl|some _=>exact K.elim
     subst M
     simp only[ad]at hr;subst hr
     have E:(F=none/\0=0)\/∃k,F=some (.int k ((0:Nat):Int)):=by
      rcases fp N q1 with⟨_,a,b⟩|⟨_,k,_,b⟩
      .grind
      .grind
     have D:(I=none/\0=0/\(none:Option Value)=none)\/∃k,I=some (.int k ((0:Nat):Int)):=by
      rcases fp L q2 with⟨_,a,b⟩|⟨_,k,_,b⟩
      .grind
      .grind
     refine⟨_,ij (m:=c) hu hs E D (.inl ⟨rfl,rfl⟩) (aC _) (Nat.zero_le _) (aC _),?_⟩
     split
     .exact .bT _ _
     .exact .bT _ _
    .cases hr
  .rename_i s hs
   cases hx
   split at hr
   .rename_i q1 q2 q3
    have M:J=none:=by
     cases V with
     |none=>cases J with|none=>rfl|some _=>exact K.elim
     |some _=>cases q3
    subst M
    simp only[ad]at hr;subst hr
    have E:(F=none/\0=0)\/∃k,F=some (.int k ((0:Nat):Int)):=by
     rcases fp N q1 with⟨_,a,b⟩|⟨_,k,_,b⟩
     .grind
     .grind
    have D:(I=none/\0=0/\(none:Option Value)=none)\/∃k,I=some (.int k ((0:Nat):Int)):=by
     rcases fp L q2 with⟨_,a,b⟩|⟨_,k,_,b⟩
     .grind
     .grind
    refine⟨_,ij (m:=0) hu hs E D (.inl ⟨rfl,rfl⟩) (aC _) (aC _) (aC _),?_⟩;simp;exact .sc _
   .rename_i q1 q2 q3
    obtain⟨ym,rfl,O⟩:=Fb K q3
    cases J with
    |none=>exact K.elim
    |some um=>
     obtain⟨km,im,rfl,_,_,em⟩:=jl K O
     split at hr
     .rename_i h5
      simp only[ad]at hr;subst hr
      have E:(F=none/\0=0)\/∃k,F=some (.int k ((0:Nat):Int)):=by
       rcases fp N q1 with⟨_,a,b⟩|⟨_,k,_,b⟩
       .grind
       .grind
      have D:∃k,I=some (.int k ((0:Nat):Int)):=by
       rcases fp L q2 with⟨a,_,_⟩|⟨_,k,_,b⟩
       .grind
       .grind
      refine⟨_,ij (m:=0) hu hs E (.inr D) (.inr ⟨km,by rw[em]⟩) (aC _) (aC _) (aC _),?_⟩;simp;exact .sc _
     .cases hr
   .cases hr
  .cases hr
 .rename_i hu
  split at hr
  .rename_i s l q1
   cases hx
   have M:J=none:=by cases J with|none=>rfl|some _=>exact K.elim
   subst M
   split at hr
   .rename_i hh q2
    split at hr
    .rename_i hc
     rw[C6]at hr
     simp only[ad]at hr;subst hr
     have E:(F=none/\l=0)\/∃k,F=some (.int k (l:Int)):=by
      rcases fp N q1 with⟨_,a,b⟩|⟨_,k,_,b⟩
      .grind
      .grind
     have D:(I=none/\hh=s.size/\(none:Option Value)=none)\/∃k,I=some (.int k (hh:Int)):=by
      rcases fp L q2 with⟨_,a,b⟩|⟨_,k,_,b⟩
      .grind
      .grind
     refine⟨.string (s.extract l hh),?_,?_⟩
     .simp only[Instr.sliceAt,Instr.slice,Sem.run_bind,run_underlying hu,Result.andThen_ok,Option.isSome_none,Bool.false_eq_true,if_false];rw[JB E D (.inl ⟨rfl,rfl⟩) hc.1 hc.2 (aC _)];rfl
     .have e:(⟨⟨(s.data.toList.drop l).take (hh-l)⟩⟩:ByteArray)=s.extract l hh:=by apply ByteArray.ext;apply Array.ext';simp[List.take_drop,<-List.drop_take]
      rw[e];exact .sc _
    .cases hr
   .cases hr
  .cases hr
 .cases hr
theorem Yz{F:Array TypeId}{L ty:TypeId}{x y r:AV}{u v:Value}(hw:W h g w)(K:F[0]?=some L)(hx:VR g x u)(hy:VR g y v)
 (hr:E4 P h L x y=some (r,h')):bn P h g w (do pure (.value (<-Builtin.copy_ F ty #[u,v]))) (.val r) h':=by
 unfold E4 at hr
 split at hr
 .rename_i e dl M hu J I
  split at hr
  .rename_i s hs
   have hlen:=MF (P:=P) hy I
   cases hf:fT h s (Nat.min M dl) y with
   |none=>grind
   |some new=>
    rw[hf]at hr
    obtain⟨news,q1,q2,q3⟩:=tk (P:=P) hw hy hf
    have q3:=q3 w.drawn
    split at hr
    .rename_i new' o ver m off sz len cap z
     simp only[ad]at z;subst z
     split at hr
     .rename_i hc
      obtain⟨rfl,N⟩:=hc
      cases D:iq h o ver m off new with
      |none=>grind
      |some h2=>
       rw[D]at hr
       simp only[Option.map_some,ad,av]at hr
       obtain⟨rfl,rfl⟩:=hr
       cases hx with
       |sl hB p1 p2 p3=>
        rename_i b O c
        have E:len=dl:=by simpa[ft]using J
        subst E;obtain⟨w',r1,r2,r3⟩:=C0 (P:=P) hw D hB q1;refine⟨g,w',_,?_,.sc _,r2,r3⟩;simp only[Builtin.copy_,K,List.getElem?_toArray,List.getElem?_cons_zero,List.getElem?_cons_succ,Sem.run_bind,run_underlying hu,Result.andThen_ok,hlen,run_sizeOf hs,q3,r1,Sem.run_pure]
     .cases hr
    .cases hr
  .cases hr
 .cases hr
end
end Go.AI
end
