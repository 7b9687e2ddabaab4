/- A part of the proof. -/
import Derived.Test.YteibmaelhdbgfaaGreatDoorSe
import Derived.Test.YteibmaelhdbgfaaGreatDoorGd
set_option linter.all false

section
namespace Go.AI
def kP:List AV->Option (List ByteArray)
 |[]=>some []
 |.sc (.string s)::r=>match kP r with|some l=>some (s::l)|none=>none
 |_=>none
def zA(h:AHeap):AV->Option (List ByteArray)|.sc (.slice none 0 0)=>some []|.bT=>some []|.aQ rows sz=>if sz=1 then kP rows.flatten else none|.sl o ver n off sz len _=>if sz=1 then(match c9 h o ver n off len with|some cs=>kP cs|none=>none)else none|_=>none
theorem DU:∀{cs:List AV}{l:List ByteArray},kP cs=some l->cs=l.map λs=>.sc (.string s)
 |[],l,e=>by simp[kP]at e;subst e;rfl
 |c::cs,l,e=>by
  unfold kP at e
  split at e
  .grind
  .rename_i s r he
   cases he
   split at e
   .rename_i l' hl;cases e;rw[DU hl];rfl
   .cases e
  .cases e
theorem Dr:∀(l:List ByteArray),kP (l.map λs=>.sc (.string s))=some l|[]=>rfl|s::l=>by simp only[List.map_cons,kP,Dr l]
section
variable {P:Program}{g:Gh}{w:World}{h:AHeap}
theorem Wg(hw:W h g w){x:AV}{l:List ByteArray}{v:Value}(hr:zA h x=some l)(hv:VR g x v):
 ∃a c,v=.slice a l.length c/\l.length<=c/\(l=[]\/∃bk o,a=some ⟨bk,o,none⟩/\bk<w.heap.size/\∀(j:Nat)s,l[j]?=some s->w.cell? ⟨bk,o+j,none⟩=some (.string s)):=by
 unfold zA at hr
 split at hr
 .cases hr;cases hv;simp_all
 .cases hr;cases hv;simp_all
 .rename_i rows sz
  split at hr
  .rename_i hz;subst hz
   have fk:=DU hr
   cases hv with
   |hU=>simp_all
   |ia a=>simp_all
   |aQ h1 h2 h3=>
    rename_i b off c
    have hlen:rows.flatten.length=rows.length*1:=nH h1
    have hl:l.length=rows.length:=by grind
    cases h3 with
    |aZ f p1 p2 p3 I F=>
     refine⟨some ⟨b,off,none⟩,c,by rw[hl],by omega,?_⟩
     cases E:l with
     |nil=>grind
     |cons D J=>
      refine .inr ⟨b,off,rfl,?_,λj s e=>?_⟩
      .have:=p1 0 (.sc (.string D)) (by grind);exact(hw.ro b _ _ this).2
      .have hx:rows.flatten[j]?=some (.sc (.string s)):=by grind
       have h4:=p2 j _ hx;have h5:=(hw.ro b _ _ (p1 j _ hx)).1;generalize f j=u at h4 h5;cases h4;exact h5
  .cases hr
 .rename_i o ver n off sz len cap
  split at hr
  .rename_i hz;subst hz
   split at hr
   .rename_i cs z
    have fk:=DU hr
    cases hv with
    |sl hB p1 p2 p3=>
     rename_i b s c
     obtain⟨vs,q1,q2,q3,_⟩:=nA hw z hB
     have hl:l.length=len:=by rw[<-q2,<-q1.length,fk,List.length_map]
     refine⟨some ⟨b,off,none⟩,c,by rw[hl],by omega,.inr ⟨b,off,rfl,hw.ei _ _ _ _ _ hB,λj s e=>?_⟩⟩
     have hx:cs[j]?=some (.sc (.string s)):=by grind
     have hj:j<vs.length:=by grind
     have h4:=q1.get j _ vs[j] hx (List.getElem?_eq_getElem hj);have h5:=q3 j vs[j] (List.getElem?_eq_getElem hj);generalize vs[j]=u at h4 h5;cases h4;exact h5
   .cases hr
  .cases hr
 .cases hr
theorem Li{f:FuncId}{args:List AV}{y:AV}(hc:∀(g:Gh)(w:World)(vs:List Value),W h g w->aG g args vs->
 Calls P f vs.toArray w λe w'=>(∃x,e=.returned x/\∀g2:Gh,g.Le g2->(∀b i v,w.heap.size<=b->w'.cell? ⟨b,i,none⟩=some v->g2.M b i=some v)->VR g2 y x)/\w.heap.size<=w'.heap.size/\(∀b,b<w.heap.size->w'.heap[b]?=w.heap[b]?)/\w'.tape=w.tape/\w'.os=w.os/\w'.output=w.output):
 fc P f args h (.ret y) h:=by
 intro g w vs hw hf hv
 refine(hc g w vs hw hv).mono ?_
 rintro e w'⟨⟨x,rfl,hx⟩,E,hold,h3,h4,h5⟩
 let g2:Gh:=⟨g.B,λb i=>if w.heap.size<=b then w'.cell? ⟨b,i,none⟩else g.M b i⟩
 have z:∀b i v,g.M b i=some v->g2.M b i=some v:=by intro b i v hm;have:=(hw.ro b i v hm).2;show(if w.heap.size<=b then _ else _)=_;rw[if_neg (by omega)];exact hm
 have D:g.Le g2:=⟨λ_ _ _ e=>e,z⟩
 have c:=hw.same E hold
 refine⟨g2,⟨D,aC _,rfl,λ_ h=>h,λ_ _ _ _=>rfl,λ_ _ _=>rfl,λ_ _ h=>h,λ_ _ _ h=>.inl h,E,λo v b s n e _=>⟨v,s,n,e⟩,λb hb _=>hold b hb,h3,h4,h5,?_⟩,?_,?_⟩
 .grind
 .refine⟨λo x hx=>(c.obj o x hx).move D (λ_ _ e=>e) (λ_ _ _ _ _=>rfl),c.ei,c.inj,?_,?_,c.nY (λ_ _ _=>rfl) z⟩
  .intro b i v hm
   have hm':(if w.heap.size<=b then w'.cell? ⟨b,i,none⟩else g.M b i)=some v:=hm
   by_cases hb:w.heap.size<=b
   .rw[if_pos hb]at hm'
    refine⟨hm',?_⟩
    rcases Nat.lt_or_ge b w'.heap.size with a|a
    .exact a
    .exfalso;have hn:w'.heap[b]?=none:=Array.getElem?_eq_none a;unfold World.cell? at hm';grind
   .rw[if_neg hb]at hm';exact c.ro b i v hm'
  .intro b i u hm o v s n e;have hm':(if w.heap.size<=b then w'.cell? ⟨b,i,none⟩else g.M b i)=some u:=hm;have:=hw.ei o v b s n e;rw[if_neg (by omega)]at hm';exact hw.fZ b i u hm' o v s n e
 .refine hx g2 D λb i v hb hc=>?_;grind
theorem Yq{f:FuncId}{args:List AV}{y:AV}(hc:∀(g:Gh)(w:World)(vs:List Value),W h g w->aG g args vs->Calls P f vs.toArray w λe w'=>(∃x,e=.returned x/\∀g2:Gh,VR g2 y x)/\w.heap.size<=w'.heap.size/\(∀b,b<w.heap.size->w'.heap[b]?=w.heap[b]?)/\w'.tape=w.tape/\w'.os=w.os/\w'.output=w.output):fc P f args h (.ret y) h:=Li λg w vs hw hv=>(hc g w vs hw hv).mono λ_ _⟨⟨x,e1,e2⟩,r⟩=>⟨⟨x,e1,λg2 _ _=>e2 g2⟩,r⟩
theorem W9{w:Wd}{r r':List AV}(h:cf P w [.str] r r'):∃s,r=[.sc (.string s)]/\r'=[.sc (.string s)]:=by cases h with|cons h1 h2=>cases h2;cases h1;grind
theorem C5{w:Wd}:∀{rs cZ:List (List AV)},bW P w [.str] rs cZ->cZ=rs/\rs.flatten=(rs.map (gS . 0)).map λs=>.sc (.string s)|_,_,.nil _=>⟨rfl,rfl⟩|_,_,.cons h1 h2=>by obtain⟨s,rfl,rfl⟩:=W9 h1;obtain⟨rfl,e⟩:=C5 h2;refine⟨rfl,?_⟩;simp only[List.flatten_cons,List.map_cons,e];rfl
theorem Lj{w:Wd}:∀(l:List ByteArray),bW P w [.str] (l.map λs=>[.sc (.string s)]) (l.map λs=>[.sc (.string s)])|[]=>.nil _|s::l=>.cons (.cons (.str s) .nil) (Lj l)
theorem Wh{w:Wd}{t:TypeId}{rows:List (List AV)}{x:AV}(hl:lay P t=[.str])(hg:∀o,w.g o=h.get o)(hd:Rd P w t rows x):zA h x=some (rows.map (gS . 0)):=by
 cases hd with
 |nil=>rfl
 |bT=>rfl
 |@aQ _ _ rows' h1 h2 h0 h3=>rw[hl]at h3;obtain⟨rfl,e⟩:=C5 h3;rw[hl];show(if 1=1 then kP rows'.flatten else none)=_;rw[if_pos rfl,e,Dr]
 |sl h1 h2 h3 h4 h5 h6 I F J D=>
  rename_i o ver n off v mv fz c el ex sh cap
  rw[hl]at I F D
  obtain⟨e1,e⟩:=C5 D
  rw[hl]
  have I:off+rows.length*1<=n:=I
  have F:off+rows.length*1<=c.length:=F
  show(if 1=1 then(match c9 h o ver n off rows.length with|some cs=>kP cs|none=>none)else none)=_
  rw[if_pos rfl]
  have E:c9 h o ver n off rows.length=some ((c.drop off).take rows.length):=by have z:=h4;rw[hg]at z;simp only[c9,z];grind
  rw[E]
  have e1:chunks 1 rows.length (c.drop off)=rows:=e1
  have e2:(c.drop off).take rows.length=rows.flatten:=by have hf:=chunks_flatten 1 rows.length ((c.drop off).take rows.length) (by grind);rw[<-hf];congr 1;have:=rq (sz:=1) rows.length ((c.drop off).take rows.length) ((c.drop off).drop rows.length) (by grind);rw[List.take_append_drop,e1]at this;exact this.symm
  show kP _=_;rw[e2,e,Dr]
end
end Go.AI
end

namespace Go.AI
open Go
def yes(b:Bool)(y:AV):Option AV:=if b=true then some y else none
theorem Pw{b:Bool}{y:AV}(h:b=true):yes b y=some y:=if_pos h
theorem Px{b:Bool}{y v:AV}(h:yes b y=some v):b=true/\v=y:=by unfold yes at h;grind
def vt(l:List ByteArray)(s:ByteArray):Int:=match l.reverse.findIdx? (λx=>ay x s)with|some i=>(l.length:Int)-1-i|none=>-1
def vu(h:AHeap):List AV->Option AV
 |[x,.sc (.string s)]=>match zA h x with|some l=>yes (Nat.ble (l.length*16) 140737488351232) (.sc (.int .i64 (vt l s)))|none=>none
 |_=>none
def Iy:List (List UInt8)->AV|[]=>.sc (.slice none 0 0)|k::ks=>.aQ ((j1 (k::ks)).map λl=>[.sc (.string (bs l))]) 1
def CH(ks:List (List UInt8))(cl:Nat)(es:List (AV×AV×Nat)):Bool:=qh ks&&sw cl es&&ks.all (λk=>Nat.ble k.length 9223372036854775807)&&Nat.ble (ks.length*16) 140737488355328
def HC(h:AHeap):AV->Option AV
 |.map m=>match h.get m with
  |some (.map es cl)=>match qx es with|some ks=>yes (CH ks cl es) (Iy ks)|none=>none
  |_=>none
 |_=>none
def B8(h:AHeap):AV->Option AV
 |.ref o ver n 0=>match c9 h o ver n 0 1 with|some [x]=>HC h x|_=>none
 |_=>none
def uo(kf:Nat)(h:AHeap):List AV->Option AV
 |[.func (.func g) [] [x]]=>match Nat.beq g kf with|true=>B8 h x|false=>none
 |_=>none
def Py:List AV->Option AV|[]=>some (.sc (.bool true))|_=>none
theorem Yr(rows:Rows)(s:ByteArray):vt (rows.map (gS . 0)) s=ou rows s:=by unfold vt ou;rw[<-List.map_reverse,List.findIdx?_map,List.length_map];rfl
section
variable {P:Program}{w:Wd}{h:AHeap}
theorem HD{v:SV}{xs:List AV}(h:au P w [v] xs):∃x,xs=[x]/\RV P w v x:=by cases h with|cons a b=>cases b;grind
theorem Tb{v u:SV}{xs:List AV}(h:au P w [v,u] xs):∃x y,xs=[x,y]/\RV P w v x/\RV P w u y:=by cases h with|cons a b=>cases b with|cons c d=>cases d;grind
theorem FC{v:Value}{x:AV}(h:RV P w (.sc v) x):x=.sc v:=by cases h;rfl
theorem Mx{e:TypeId}:∀{rows:Rows}{es:List (AV×AV×Nat)},jK P w e rows es->qx es=some (hZ rows)/\es.length=rows.length|_,_,.nil=>⟨rfl,rfl⟩|_,_,.cons _ _ h=>by obtain⟨h1,h2⟩:=Mx h;refine⟨?_,by simp[h2]⟩;unfold qx;rw[h1];rfl
theorem My{cl:Nat}:∀{es:List (AV×AV×Nat)},(∀x,x∈es.map (·.2.2)->x<cl)->(es.map (·.2.2)).Nodup->sw cl es=true
 |[],_,_=>rfl
 |(k,v,b)::es,h1,h2=>by
  rw[List.map_cons,List.nodup_cons]at h2
  unfold sw
  rw[show Nat.blt b cl=true by simp_all]
  have h3:(es.all λe=>!Nat.beq e.2.2 b)=true:=List.all_eq_true.2 λx hx=>by cases e:Nat.beq x.2.2 b with|false=>rfl|true=>exact absurd (Nat.eq_of_beq_eq_true e▸List.mem_map_of_mem (f:=(·.2.2)) hx) h2.1
  rw[h3];exact My (λx hx=>h1 x (List.mem_cons_of_mem _ hx)) h2.2
theorem abe{st mt M:TypeId}{rows:Rows}{x:AV}(hl:lay P st=[.str])(hz:bt P st=some 1)(hg:∀o,w.g o=h.get o)(hx:RV P w (.pb M [.md mt rows] 0) x)(hok:sa rows=true):∃y,B8 h x=some y/\RV P w (.dl st (mL rows)) y:=by
 cases hx with
 |pb hF hc E hn K _ _ hv=>
  rename_i o n v mv fz c el ex sh Q O
  obtain⟨y,e1,hy⟩:=HD hv
  have D:c9 h o 0 n 0 1=some [y]:=by rw[hg]at hc;subst E;simp only[lC,List.length_nil]at hn e1;simp only[c9,hc];grind
  cases hy with
  |md hm=>
   cases hm with
   |mk _ L z hd=>
    rename_i e m cl es N
    obtain⟨I,R⟩:=Mx hd.en
    rw[hg]at z
    unfold sa at hok
    simp only[bB]at hok
    have hlen:(hZ rows).length=rows.length:=by unfold hZ;simp
    have hk:CH (hZ rows) cl es=true:=by unfold CH;simp only[bB];exact⟨⟨⟨hok.1.1,My hd.lt hd.nd⟩,hok.1.2⟩,by grind⟩
    refine⟨Iy (hZ rows),?_,.dl ?_⟩
    .show(match c9 h o 0 n 0 1 with|some [x]=>HC h x|_=>none)=_;rw[D];show(match h.get m with|some (.map es cl)=>_|_=>none)=_;rw[z];simp only[I];exact Pw hk
    .unfold mL
     cases J:hZ rows with
     |nil=>exact .nil _
     |cons k ks=>
      have e:(1:Nat)=(lay P st).length:=by grind
      unfold Iy
      rw[e]
      have F:0<(j1 (k::ks)).length:=by rw[(ru _).length_eq];simp
      refine .aQ (by grind) (by grind) (by grind) ?_;rw[hl];have:=Lj (P:=P) (w:=w) ((j1 (k::ks)).map bs);rw[List.map_map]at this;exact this
end
theorem B9{g:Gh}{x:AV}{vs:List Value}(h:aG g [x] vs):∃v,vs=[v]/\VR g x v:=by cases vs with|nil=>exact h.elim|cons v vs=>cases vs with|nil=>exact⟨v,rfl,h.1⟩|cons _ _=>exact h.2.elim
theorem aiD{g:Gh}{x y:AV}{vs:List Value}(h:aG g [x,y] vs):∃v u,vs=[v,u]/\VR g x v/\VR g y u:=by cases vs with|nil=>exact h.elim|cons v vs=>obtain⟨u,rfl,hu⟩:=B9 h.2;exact⟨v,u,rfl,h.1,hu⟩
theorem Xa{g2:Gh}{l:List ByteArray}{b c:Nat}(hc:l.length<=c)(hm:∀(i:Nat)s,l[i]?=some s->g2.M b i=some (.string s)):VR g2 (.aQ (l.map λs=>[.sc (.string s)]) 1) (.slice (some ⟨b,0,none⟩) l.length c):=by
 have e:(l.map λs=>([.sc (.string s)]:List AV)).flatten=l.map λs=>.sc (.string s):=by clear hm hc;induction l with|nil=>rfl|cons a l o=>grind
 have hl:(l.map λs=>([.sc (.string s)]:List AV)).length=l.length:=by simp
 rw[<-hl]
 refine .aQ (λr hr=>?_) ?_ (.aZ (λi=>((l.map Value.string)[i]?).getD .nilIface) (λi x hx=>?_) (λi x hx=>?_) ?_ (by omega) (λk hk=>by grind))
 .grind
 .rw[e,pG];intro x hx;obtain⟨s,_,rfl⟩:=List.mem_map.1 hx;rfl
 .grind
 .rw[e,List.getElem?_map]at hx;cases hs:l[i]? with|none=>grind|some s=>rw[hs]at hx;cases hx;simp only[List.getElem?_map,hs,Option.map_some,Option.getD_some];exact .sc _
 grind
end Go.AI

section
namespace Go.AI
open Go Go.Proofs
set_option maxRecDepth 100000
def sV(f:FuncId)(xs:List AV)(h:AHeap):Option AV:=match f with|8=>Py xs|180=>uo 281 h xs|432=>vu h xs|_=>none
instance knP:Kn:=⟨⟨sV⟩⟩
theorem Te:lay Tryz.prog 9=[.str]:=by kernel_rfl
theorem agJ:bt Tryz.prog 9=some 1:=by kernel_rfl
theorem Ti:oI Tryz.prog wv where
 none:=λf hf xs h=>by have hf:wo f=none:=hf;show sV f xs h=none;unfold sV;unfold wo at hf;grind
 some:=λf g hf w h xs bu v hg hx hv=>by
  have hf:wo f=some g:=hf
  show∃y,sV f xs h=some y/\_
  unfold wo at hf
  split at hf<;>cases hf
  .unfold MP at hv
   split at hv
   .cases hv;cases hx;exact⟨_,rfl,.sc rfl⟩
   .cases hv
  .unfold LK at hv
   split at hv
   .rename_i g E mt rows
    split at hv
    .rename_i D;simp only[ad,av]at hv;obtain⟨hok,rfl⟩:=hv;obtain⟨x,rfl,c⟩:=HD hx;cases c with|fn hc=>obtain⟨y,rfl,hy⟩:=HD hc;obtain⟨z,h1,h2⟩:=abe Te agJ hg hy hok;refine⟨z,?_,h2⟩;show uo 281 h [.func (.func g) [] [y]]=some z;rw[show uo 281 h [.func (.func g) [] [y]]=(match Nat.beq g 281 with|true=>B8 h y|false=>none)from rfl,D];exact h1
    .cases hv
   .cases hv
  .unfold Oh at hv
   split at hv
   .rename_i t rows s
    split at hv
    .rename_i ht
     obtain rfl:t=9:=Nat.eq_of_beq_eq_true ht
     simp only[ad,av]at hv
     obtain⟨hok,rfl⟩:=hv
     obtain⟨x,y,rfl,c,o⟩:=Tb hx
     obtain rfl:=FC o
     have hd:Rd Tryz.prog w 9 rows x:=by cases c;assumption
     have hr:=Wh Te hg hd
     refine⟨.sc (.int .i64 (ou rows s)),?_,.sc rfl⟩
     show vu h [x,.sc (.string s)]=some (.sc (.int .i64 (ou rows s)))
     unfold vu
     simp only[hr]
     refine(Pw ?_).trans ?_
     .rw[List.length_map];exact hok
     .rw[Yr]
    .cases hv
   .rename_i s;simp only[ad,av]at hv;obtain⟨_,rfl⟩:=hv;obtain⟨x,y,rfl,c,o⟩:=Tb hx;obtain rfl:=FC c;obtain rfl:=FC o;exact⟨.sc (.int .i64 (-1)),rfl,.sc rfl⟩
   .cases hv
end Go.AI
end
