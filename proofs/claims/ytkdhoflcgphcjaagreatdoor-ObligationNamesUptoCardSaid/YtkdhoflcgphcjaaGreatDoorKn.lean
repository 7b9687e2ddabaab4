/- A part of the proof. -/
import Derived.Test.YtkdhoflcgphcjaaGreatDoorSe
import Derived.Test.YtkdhoflcgphcjaaGreatDoorGd
set_option linter.all false

section
namespace Go.AI
def ld:List AV->Option (List ByteArray)
 |[]=>some []
 |.sc (.string s)::r=>match ld r with|some l=>some (s::l)|none=>none
 |_=>none
def yE(h:AHeap):AV->Option (List ByteArray)|.sc (.slice none 0 0)=>some []|.bC=>some []|.aI rows sz=>if sz=1 then ld rows.flatten else none|.sl o ver n off sz len _=>if sz=1 then(match cz h o ver n off len with|some cs=>ld cs|none=>none)else none|_=>none
theorem Dr:∀{cs:List AV}{l:List ByteArray},ld cs=some l->cs=l.map λs=>.sc (.string s)
 |[],l,e=>by simp[ld]at e;subst e;rfl
 |c::cs,l,e=>by
  unfold ld at e
  split at e
  .rename_i he;cases he
  .rename_i s r he
   cases he
   split at e
   .rename_i l' hl;cases e;rw[Dr hl];rfl
   .cases e
  .cases e
theorem CZ:∀(l:List ByteArray),ld (l.map λs=>.sc (.string s))=some l|[]=>rfl|s::l=>by simp only[List.map_cons,ld,CZ l]
section
variable {P:Program}{g:Gh}{w:World}{h:AHeap}
theorem R4(hw:W h g w){x:AV}{l:List ByteArray}{v:Value}(hr:yE h x=some l)(hv:VR g x v):
 ∃a c,v=.slice a l.length c/\l.length<=c/\(l=[]\/∃bk o,a=some ⟨bk,o,none⟩/\bk<w.heap.size/\∀(j:Nat)s,l[j]?=some s->w.cell? ⟨bk,o+j,none⟩=some (.string s)):=by
 unfold yE at hr
 split at hr
 .cases hr;cases hv;simp_all
 .cases hr;cases hv;simp_all
 .rename_i rows sz
  split at hr
  .rename_i hz;subst hz
   have dL:=Dr hr
   cases hv with
   |gG=>simp_all
   |gL a=>simp_all
   |aI h1 h2 h3=>
    rename_i b off c
    have hlen:rows.flatten.length=rows.length*1:=mF h1
    have hl:l.length=rows.length:=by rw[dL,List.length_map]at hlen;omega
    obtain⟨f,p1,p2,p3,z,q⟩:=h3.rK
    refine⟨some ⟨b,off,none⟩,c,by rw[hl],by omega,?_⟩
    cases m:l with
    |nil=>grind
    |cons p C=>
     refine .inr ⟨b,off,rfl,?_,λj s e=>?_⟩
     .have:=p1 0 (.sc (.string p)) (by grind);exact(hw.ro b _ _ this).2
     .have hx:rows.flatten[j]?=some (.sc (.string s)):=by rw[dL,m,List.getElem?_map,e];rfl
      have h4:=p2 j _ hx;have h5:=(hw.ro b _ _ (p1 j _ hx)).1;generalize f j=u at h4 h5;cases h4;exact h5
  .cases hr
 .rename_i o ver n off sz len cap
  split at hr
  .rename_i hz;subst hz
   split at hr
   .rename_i cs i
    have dL:=Dr hr
    cases hv with
    |sl hB p1 p2 p3=>
     rename_i b s c
     obtain⟨vs,q1,q2,q3,_⟩:=lM hw i hB
     have hl:l.length=len:=by rw[<-q2,<-q1.length,dL,List.length_map]
     refine⟨some ⟨b,off,none⟩,c,by rw[hl],by omega,.inr ⟨b,off,rfl,hw.cR _ _ _ _ _ hB,λj s e=>?_⟩⟩
     have hx:cs[j]?=some (.sc (.string s)):=by rw[dL,List.getElem?_map,e];rfl
     have hj:j<vs.length:=by
      have:=q1.length
      rcases Nat.lt_or_ge j vs.length with a|a
      .exact a
      .grind
     have h4:=q1.get j _ vs[j] hx (List.getElem?_eq_getElem hj);have h5:=q3 j vs[j] (List.getElem?_eq_getElem hj);generalize vs[j]=u at h4 h5;cases h4;exact h5
   .cases hr
  .cases hr
 .cases hr
theorem C0{f:FuncId}{args:List AV}{y:AV}(hc:∀(g:Gh)(w:World)(vs:List Value),W h g w->ay g args vs->
 Calls P f vs.toArray w λe w'=>(∃x,e=.returned x/\∀g2:Gh,g.Le g2->(∀b i v,w.heap.size<=b->w'.cell? ⟨b,i,none⟩=some v->g2.M b i=some v)->VR g2 y x)/\w.heap.size<=w'.heap.size/\(∀b,b<w.heap.size->w'.heap[b]?=w.heap[b]?)/\w'.tape=w.tape/\w'.os=w.os/\w'.output=w.output):
 dI P f args h (.ret y) h:=by
 intro g w vs hw hf hv
 refine(hc g w vs hw hv).mono ?_
 rintro e w'⟨⟨x,rfl,hx⟩,q,hold,h3,h4,h5⟩
 let g2:Gh:=⟨g.B,λb i=>if w.heap.size<=b then w'.cell? ⟨b,i,none⟩else g.M b i⟩
 have m:∀b i v,g.M b i=some v->g2.M b i=some v:=by intro b i v hm;have:=(hw.ro b i v hm).2;show(if w.heap.size<=b then _ else _)=_;rw[if_neg (by omega)];exact hm
 have p:g.Le g2:=⟨λ_ _ _ e=>e,m⟩
 have j:=hw.same q hold
 refine⟨g2,⟨p,ao _,rfl,λ_ h=>h,λ_ _ _ _=>rfl,λ_ _ _=>rfl,λ_ _ h=>h,λ_ _ _ h=>.inl h,q,λo v b s n e _=>⟨v,s,n,e⟩,λb hb _=>hold b hb,h3,h4,h5,?_⟩,?_,?_⟩
 .grind
 .refine⟨λo x hx=>(j.obj o x hx).move p (λ_ _ e=>e) (λ_ _ _ _ _=>rfl),j.cR,j.inj,?_,?_,j.kC (λ_ _ _=>rfl) m⟩
  .intro b i v hm
   have c:(if w.heap.size<=b then w'.cell? ⟨b,i,none⟩else g.M b i)=some v:=hm
   by_cases hb:w.heap.size<=b
   .rw[if_pos hb]at c;grind[Nat.lt_or_ge,Array.getElem?_eq_none,refine,World.cell?]
   .rw[if_neg hb]at c;exact j.ro b i v c
  .intro b i u hm o v s n e;have c:(if w.heap.size<=b then w'.cell? ⟨b,i,none⟩else g.M b i)=some u:=hm;have:=hw.cR o v b s n e;rw[if_neg (by omega)]at c;exact hw.eU b i u c o v s n e
 .refine hx g2 p λb i v hb hc=>?_;grind
theorem T3{f:FuncId}{args:List AV}{y:AV}(hc:∀(g:Gh)(w:World)(vs:List Value),W h g w->ay g args vs->Calls P f vs.toArray w λe w'=>(∃x,e=.returned x/\∀g2:Gh,VR g2 y x)/\w.heap.size<=w'.heap.size/\(∀b,b<w.heap.size->w'.heap[b]?=w.heap[b]?)/\w'.tape=w.tape/\w'.os=w.os/\w'.output=w.output):dI P f args h (.ret y) h:=C0 λg w vs hw hv=>(hc g w vs hw hv).mono λ_ _⟨⟨x,e1,e2⟩,r⟩=>⟨⟨x,e1,λg2 _ _=>e2 g2⟩,r⟩
theorem SB{w:Wd}{r r':List AV}(h:bR P w [.str] r r'):∃s,r=[.sc (.string s)]/\r'=[.sc (.string s)]:=by cases h with|cons h1 h2=>cases h2;cases h1;grind
theorem CF{w:Wd}:∀{rs cC:List (List AV)},bG P w [.str] rs cC->cC=rs/\rs.flatten=(rs.map (gS . 0)).map λs=>.sc (.string s)|_,_,.nil _=>⟨rfl,rfl⟩|_,_,.cons h1 h2=>by obtain⟨s,rfl,rfl⟩:=SB h1;obtain⟨rfl,e⟩:=CF h2;refine⟨rfl,?_⟩;simp only[List.flatten_cons,List.map_cons,e];rfl
theorem Jg{w:Wd}:∀(l:List ByteArray),bG P w [.str] (l.map λs=>[.sc (.string s)]) (l.map λs=>[.sc (.string s)])|[]=>.nil _|s::l=>.cons (.cons (.str s) .nil) (Jg l)
theorem R5{w:Wd}{t:TypeId}{rows:List (List AV)}{x:AV}(hl:lay P t=[.str])(hg:∀o,w.g o=h.get o)(hd:Rd P w t rows x):yE h x=some (rows.map (gS . 0)):=by
 cases hd with
 |nil=>rfl
 |bC=>rfl
 |@aI _ _ rows' h1 h2 h0 h3=>rw[hl]at h3;obtain⟨rfl,e⟩:=CF h3;rw[hl];show(if 1=1 then ld rows'.flatten else none)=_;rw[if_pos rfl,e,CZ]
 |sl h1 h2 h3 h4 h5 h6 q p u j=>
  rename_i o ver n off v mv fz c el ex sh cap
  rw[hl]at q p j
  obtain⟨e1,e⟩:=CF j
  rw[hl]
  have q:off+rows.length*1<=n:=q
  have p:off+rows.length*1<=c.length:=p
  show(if 1=1 then(match cz h o ver n off rows.length with|some cs=>ld cs|none=>none)else none)=_
  rw[if_pos rfl]
  have m:cz h o ver n off rows.length=some ((c.drop off).take rows.length):=by have i:=h4;rw[hg]at i;simp only[cz,i];grind
  rw[m]
  have e1:chunks 1 rows.length (c.drop off)=rows:=e1
  have e2:(c.drop off).take rows.length=rows.flatten:=by have hf:=chunks_flatten 1 rows.length ((c.drop off).take rows.length) (by grind);rw[<-hf];congr 1;have:=sA (sz:=1) rows.length ((c.drop off).take rows.length) ((c.drop off).drop rows.length) (by grind);rw[List.take_append_drop,e1]at this;exact this.symm
  show ld _=_;rw[e2,e,CZ]
end
end Go.AI
end

namespace Go.AI
open Go
def yes(b:Bool)(y:AV):Option AV:=if b=true then some y else none
theorem L8{b:Bool}{y:AV}(h:b=true):yes b y=some y:=if_pos h
theorem L9{b:Bool}{y v:AV}(h:yes b y=some v):b=true/\v=y:=by simp_all[yes]
def vS(l:List ByteArray)(s:ByteArray):Int:=match l.reverse.findIdx? (λx=>ax x s)with|some i=>(l.length:Int)-1-i|none=>-1
def vT(h:AHeap):List AV->Option AV
 |[x,.sc (.string s)]=>match yE h x with|some l=>yes (Nat.ble (l.length*16) 140737488351232) (.sc (.int .i64 (vS l s)))|none=>none
 |_=>none
def G3:List (List UInt8)->AV|[]=>.sc (.slice none 0 0)|k::ks=>.aI ((ia (k::ks)).map λl=>[.sc (.string (bs l))]) 1
def BQ(ks:List (List UInt8))(cl:Nat)(es:List (AV×AV×Nat)):Bool:=oM ks&&rr cl es&&ks.all (λk=>Nat.ble k.length 9223372036854775807)&&Nat.ble (ks.length*16) 140737488355328
def FI(h:AHeap):AV->Option AV
 |.map m=>match h.get m with
  |some (.map es cl)=>match oY es with|some ks=>yes (BQ ks cl es) (G3 ks)|none=>none
  |_=>none
 |_=>none
def AU(h:AHeap):AV->Option AV
 |.ref o ver n 0=>match cz h o ver n 0 1 with|some [x]=>FI h x|_=>none
 |_=>none
def u2(kf:Nat)(h:AHeap):List AV->Option AV
 |[.func (.func g) [] [x]]=>match Nat.beq g kf with|true=>AU h x|false=>none
 |_=>none
def zV(z:Nat):List AV->Option AV|[.sc (.slice none 0 0)]=>some (.aN [] z 0 (some 0))|[.bC]=>some (.aN [] z 0 (some 0))|[.aI rows sz]=>some (.aN rows.flatten sz rows.length (some rows.length))|[.sl _ _ _ _ sz 0 _]=>some (.aN [] sz 0 (some 0))|[.sl o ver n off sz (len+1) _]=>some (.sl o ver n off sz (len+1) (some (len+1)))|_=>none
def Ma:List AV->Option AV|[]=>some (.sc (.bool true))|_=>none
theorem T6(rows:Rows)(s:ByteArray):vS (rows.map (gS . 0)) s=eg rows s:=by unfold vS eg;rw[<-List.map_reverse,List.findIdx?_map,List.length_map];rfl
section
variable {P:Program}{w:Wd}{h:AHeap}
theorem wB{v:SV}{xs:List AV}(h:ak P w [v] xs):∃x,xs=[x]/\RV P w v x:=by cases h with|cons a b=>cases b;grind
theorem N5{v u:SV}{xs:List AV}(h:ak P w [v,u] xs):∃x y,xs=[x,y]/\RV P w v x/\RV P w u y:=by cases h with|cons a b=>cases b with|cons c d=>cases d;grind
theorem zW{v:Value}{x:AV}(h:RV P w (.sc v) x):x=.sc v:=by cases h;rfl
theorem Kd{e:TypeId}:∀{rows:Rows}{es:List (AV×AV×Nat)},jq P w e rows es->oY es=some (gV rows)/\es.length=rows.length|_,_,.nil=>⟨rfl,rfl⟩|_,_,.cons _ _ h=>by obtain⟨h1,h2⟩:=Kd h;refine⟨?_,by simp[h2]⟩;unfold oY;rw[h1];rfl
theorem Ke{cl:Nat}:∀{es:List (AV×AV×Nat)},(∀x,x∈es.map (·.2.2)->x<cl)->(es.map (·.2.2)).Nodup->rr cl es=true
 |[],_,_=>rfl
 |(k,v,b)::es,h1,h2=>by
  rw[List.map_cons,List.nodup_cons]at h2
  unfold rr
  rw[show Nat.blt b cl=true by rw[Nat.blt_eq];exact h1 b (by simp)]
  have h3:(es.all λe=>!Nat.beq e.2.2 b)=true:=List.all_eq_true.2 λx hx=>by cases e:Nat.beq x.2.2 b with|false=>rfl|true=>exact absurd (Nat.eq_of_beq_eq_true e▸List.mem_map_of_mem (f:=(·.2.2)) hx) h2.1
  rw[h3];exact Ke (λx hx=>h1 x (List.mem_cons_of_mem _ hx)) h2.2
theorem Vz{st mt E:TypeId}{rows:Rows}{x:AV}(hl:lay P st=[.str])(hz:bj P st=some 1)(hg:∀o,w.g o=h.get o)(hx:RV P w (.pb E [.md mt rows] 0) x)(i:te rows=true):∃y,AU h x=some y/\RV P w (.dl st (kW rows)) y:=by
 cases hx with
 |pb hF hc p hn C _ _ hv=>
  rename_i o n v mv fz c el ex sh I G
  obtain⟨y,e1,hy⟩:=wB hv
  have j:cz h o 0 n 0 1=some [y]:=by rw[hg]at hc;subst p;simp only[kx,List.length_nil]at hn e1;simp only[cz,hc];grind
  cases hy with
  |md hm=>
   cases hm with
   |mk _ D q hd=>
    rename_i e m cl es F
    obtain⟨K,J⟩:=Kd hd.en
    rw[hg]at q
    unfold te at i
    simp only[aZ]at i
    have hlen:(gV rows).length=rows.length:=by unfold gV;simp
    have hk:BQ (gV rows) cl es=true:=by unfold BQ;simp only[aZ];exact⟨⟨⟨i.1.1,Ke hd.lt hd.nd⟩,i.1.2⟩,by grind⟩
    refine⟨G3 (gV rows),?_,.dl ?_⟩
    .show(match cz h o 0 n 0 1 with|some [x]=>FI h x|_=>none)=_;rw[j];show(match h.get m with|some (.map es cl)=>_|_=>none)=_;simp_all[L8]
    .unfold kW
     cases z:gV rows with
     |nil=>exact .nil _
     |cons k ks=>
      have e:(1:Nat)=(lay P st).length:=by rw[hl];rfl
      unfold G3
      rw[e]
      have u:0<(ia (k::ks)).length:=by rw[(mB _).length_eq];simp
      refine .aI (by grind) (by grind) (by grind) ?_;rw[hl];have:=Jg (P:=P) (w:=w) ((ia (k::ks)).map bs);rw[List.map_map]at this;exact this
theorem Kf{c:TypeId}{z:Nat}{rows:Rows}{x:AV}(hz:(lay P c).length=z)(hx:Rd P w c rows x):∃y,zV z [x]=some y/\RV P w (.cl c rows) y:=by
 have nil:RV P w (.cl c []) (.aN [] z 0 (some 0)):=by have:=RV.jx (P:=P) (w:=w) (t:=c) (rows:=[]) (rows':=[]) (.nil _);rw[hz]at this;exact this
 cases hx with|nil=>exact⟨_,rfl,nil⟩|bC=>exact⟨_,rfl,nil⟩|aI h1 h2 h3 h4=>rename_i rows';refine⟨_,rfl,?_⟩;have:=RV.jx (t:=c) h4;rw[h4.length]at this;exact this|sl h1 h2 h3 h4 h5 h6 m j o i=>cases rows with|nil=>rw[hz];exact⟨_,rfl,nil⟩|cons r rows=>exact⟨_,rfl,.cl (Nat.succ_pos _) (.sl h1 h2 h3 h4 h5 h6 m j (λk e=>by grind) i)⟩
end
theorem nL{g:Gh}{x:AV}{vs:List Value}(h:ay g [x] vs):∃v,vs=[v]/\VR g x v:=by cases vs with|nil=>exact h.elim|cons v vs=>cases vs with|nil=>exact⟨v,rfl,h.1⟩|cons _ _=>exact h.2.elim
theorem abq{g:Gh}{x y:AV}{vs:List Value}(h:ay g [x,y] vs):∃v u,vs=[v,u]/\VR g x v/\VR g y u:=by cases vs with|nil=>exact h.elim|cons v vs=>obtain⟨u,rfl,hu⟩:=nL h.2;exact⟨v,u,rfl,h.1,hu⟩
theorem SC{g2:Gh}{l:List ByteArray}{b c:Nat}(hc:l.length<=c)(hm:∀(i:Nat)s,l[i]?=some s->g2.M b i=some (.string s)):VR g2 (.aI (l.map λs=>[.sc (.string s)]) 1) (.slice (some ⟨b,0,none⟩) l.length c):=by
 have e:(l.map λs=>([.sc (.string s)]:List AV)).flatten=l.map λs=>.sc (.string s):=by clear hm hc;induction l with|nil=>rfl|cons a l ih=>grind
 have hl:(l.map λs=>([.sc (.string s)]:List AV)).length=l.length:=by simp
 rw[<-hl]
 refine .aI (λr hr=>?_) ?_ (.aN (λi=>((l.map Value.string)[i]?).getD .nilIface) (λi x hx=>?_) (λi x hx=>?_) ?_ (by omega) (λk hk=>by grind))
 .grind
 .rw[e,qm];intro x hx;obtain⟨s,_,rfl⟩:=List.mem_map.1 hx;rfl
 .grind
 .rw[e,List.getElem?_map]at hx;cases hs:l[i]? with|none=>grind|some s=>rw[hs]at hx;cases hx;simp only[List.getElem?_map,hs,Option.map_some,Option.getD_some];exact .sc _
 grind
end Go.AI

section
namespace Go.AI
open Go Go.Proofs
set_option maxRecDepth 100000
def tT(f:FuncId)(xs:List AV)(h:AHeap):Option AV:=match f with|4=>Ma xs|426=>u2 499 h xs|201=>vT h xs|93=>zV 7 xs|_=>none
instance knP:Kn:=⟨⟨tT⟩⟩
theorem OH:lay Tryz.prog 9=[.str]:=by kernel_rfl
theorem Ni:(lay Tryz.prog 48).length=7:=by kernel_rfl
theorem Yv:bj Tryz.prog 9=some 1:=by kernel_rfl
theorem abt:o9 Tryz.prog B0 where
 none:=λf hf xs h=>by have hf:xe f=none:=hf;show tT f xs h=none;unfold tT;grind[xe]
 some:=λf g hf w h xs aY v hg hx hv=>by
  have hf:xe f=some g:=hf
  show∃y,tT f xs h=some y/\_
  unfold xe at hf
  split at hf<;>cases hf
  .unfold KP at hv
   split at hv
   .cases hv;cases hx;exact⟨_,rfl,.sc rfl⟩
   .cases hv
  .unfold JN at hv
   split at hv
   .rename_i g o mt rows
    split at hv
    .rename_i m;simp only[an,aV]at hv;obtain⟨j,rfl⟩:=hv;obtain⟨x,rfl,c⟩:=wB hx;cases c with|fn hc=>obtain⟨y,rfl,hy⟩:=wB hc;obtain⟨z,h1,h2⟩:=Vz OH Yv hg hy j;refine⟨z,?_,h2⟩;show u2 499 h [.func (.func g) [] [y]]=some z;simp_all[u2,AU]
    .cases hv
   .cases hv
  .unfold LW at hv
   split at hv
   .rename_i t rows s
    split at hv
    .rename_i ht
     obtain rfl:t=9:=Nat.eq_of_beq_eq_true ht
     simp only[an,aV]at hv
     obtain⟨j,rfl⟩:=hv
     obtain⟨x,y,rfl,c,i⟩:=N5 hx
     obtain rfl:=zW i
     have hd:Rd Tryz.prog w 9 rows x:=by cases c;assumption
     have hr:=R5 OH hg hd
     refine⟨.sc (.int .i64 (eg rows s)),?_,.sc rfl⟩
     show vT h [x,.sc (.string s)]=some (.sc (.int .i64 (eg rows s)))
     unfold vT
     simp only[hr]
     refine(L8 ?_).trans ?_
     .rw[List.length_map];exact j
     .rw[T6]
    .cases hv
   .rename_i s;simp only[an,aV]at hv;obtain⟨_,rfl⟩:=hv;obtain⟨x,y,rfl,c,i⟩:=N5 hx;obtain rfl:=zW c;obtain rfl:=zW i;exact⟨.sc (.int .i64 (-1)),rfl,.sc rfl⟩
   .cases hv
  .unfold LX at hv
   split at hv
   .rename_i t rows
    split at hv
    .rename_i ht;obtain rfl:t=48:=Nat.eq_of_beq_eq_true ht;simp only[an,aV]at hv;obtain⟨_,rfl⟩:=hv;obtain⟨x,rfl,c⟩:=wB hx;cases c with|dl hd=>exact Kf Ni hd
    .cases hv
   .simp only[an,aV]at hv;obtain⟨_,rfl⟩:=hv;obtain⟨x,rfl,c⟩:=wB hx;obtain rfl:=zW c;exact Kf Ni (.nil _)
   .cases hv
end Go.AI
end
