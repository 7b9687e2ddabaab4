/- A part. -/
import Derived.ProofKit
import Derived.Test.YteibmaelhdbgfaaGreatDoorKt
import Derived.Test.YteibmaelhdbgfaaGreatDoorQd
set_option linter.all false

section
namespace Go.AI
open Go Go.Proofs
mutual
theorem acB{N:Nat}:∀{c:AV},wtA c<=N->eW N c
 |.aQ rows _,h=>by rw[wtA]at h;rw[eW];exact⟨u7 (by omega),uq (by omega)⟩
 |.sc (.string s),h=>by rw[wtA]at h;rw[eW];omega
 |x,h=>by
  unfold eW
  split
  .rw[wtA]at h;omega
  .rw[wtA]at h;exact⟨u7 (by omega),uq (by omega)⟩
  .trivial
theorem PA{N:Nat}:∀{r:List AV},wtR r<=N->eS N r|[],_=>trivial|c::r,h=>by rw[wtR]at h;rw[eS];exact⟨acB (by omega),PA (by omega)⟩
theorem uq{N:Nat}:∀{rs:List (List AV)},wtRs rs<=N->cb N rs|[],_=>trivial|r::rs,h=>by rw[wtRs]at h;rw[cb];exact⟨PA (by omega),uq (by omega)⟩
theorem u7{N:Nat}:∀{rs:List (List AV)},wtRs rs<=N->rs.length<=N|[],_=>Nat.zero_le _|r::rs,h=>by rw[wtRs]at h;have:=@u7 (N-1) rs (by omega);rw[lC];omega
end
def gw(w:World):Gh:=⟨λ_ _=>none,λb i=>w.cell? ⟨b,i,none⟩⟩
theorem abm{w:World}{b i:Nat}{u:Value}(hm:w.cell? ⟨b,i,none⟩=some u):b<w.heap.size:=by
 rcases Nat.lt_or_ge b w.heap.size with a|a
 .exact a
 .exfalso;have hn:w.heap[b]?=none:=Array.getElem?_eq_none a;unfold World.cell? at hm;simp[hn]at hm
theorem TE{w:World}(hg:PH w):W h0 (gw w) w:=⟨λo x e=>(by simp[h0,AHeap.get,Tr.get]at e),λ_ _ _ _ _ e=>(by cases e),λ_ _ _ _ _ _ _ _ _ e=>(by cases e),λ_ _ _ hm=>⟨hm,abm hm⟩,λ_ _ _ _ _ _ _ _ e=>(by cases e),λb p e=>by obtain⟨cs,x,y,h1,h2,h3⟩:=hg b p e;refine⟨⟨cs,x,y,h1,h2,h3⟩,cs[0],?_⟩;show w.cell? ⟨b,0,none⟩=_;unfold World.cell?;simp only[h1];simp[h2]⟩
theorem Mz(w:World):PH w:=λb p e=>by cases e
end Go.AI
end

namespace Go.AI
open Go
theorem JY:∀(a b:List AV),wtR (a++b)=wtR a+wtR b|[],b=>by simp[wtR]|c::a,b=>by rw[List.cons_append,wtR,JY a b,wtR];omega
theorem Lm:∀(a:List (List AV))(r:List AV),wtRs (a++[r])=wtRs a+(wtR r+1)|[],r=>by simp[wtRs]|q::a,r=>by rw[List.cons_append,wtRs,Lm a r,wtRs];omega
theorem Xe{w:World}{a:Addr}{v:Value}(h:w.cell? a=some v):a.spot=none:=by
 unfold World.cell? at h
 split at h
 .split at h
  .cases h
  .rename_i hs;simpa using hs
 .cases h
theorem MA{a:Addr}(h:a.spot=none)(n:Nat):a.add n=⟨a.block,a.off+n,none⟩:=by
 obtain⟨b,o,s⟩:=a
 simp only at h;subst h
 unfold Addr.add
 split
 .rename_i e;subst e;rfl
 .rfl
theorem MB{a:Addr}{n:Nat}{w:World}{v:Value}(h:w.cell? ((a.add n).add 0)=some v)(hn:n=0):a.spot=none:=by subst hn;have:=Xe h;simpa[Addr.add]using this
structure Blk(H:Type)where
 blk:DataW H->Nat
 all:List (DataW H)->Nat
 str:∀b,blk (.lit (.string b))=b.length+1
 lit:∀l,1<=blk (.lit l)
 nil:1<=blk .nil
 sl:∀es sp,all es+1<=blk (.slice es sp)
 agg:∀ps,blk (.agg ps)=all ps+1
 none:all []=0
 cons:∀d r,all (d::r)=blk d+all r
section
variable (P:Program)(S:List TypeId)
def layAll(fs:List Field):List Lf:=(fs.map λf=>lay P f.type).flatten
def Bh:Nat->List Field->Prop|_,[]=>True|o,f::fs=>f.offset=o/\f.type∈S/\P.cellsOf f.type=(lay P f.type).length/\Bh (o+(lay P f.type).length) fs
def HE:Nat->List Field->Bool|_,[]=>true|o,f::fs=>Nat.beq f.offset o&&(S.contains f.type&&(Nat.beq (P.cellsOf f.type) (lay P f.type).length&&HE (o+(lay P f.type).length) fs))
theorem jW:∀{o:Nat}{fs:List Field},HE P S o fs=true->Bh P S o fs|_,[],_=>trivial|o,f::fs,h=>by unfold HE at h;rw[bB,bB,bB]at h;exact⟨Nat.eq_of_beq_eq_true h.1,by simpa using h.2.1,Nat.eq_of_beq_eq_true h.2.2.1,jW h.2.2.2⟩
def ej(t:TypeId):Prop:=(∃k,P.underlying t=some (.int k)/\lay P t=[.int k])\/(P.underlying t=some .bool/\lay P t=[.bool])\/(P.underlying t=some .string/\lay P t=[.str])\/(∃e,P.underlying t=some (.slice e)/\lay P t=[.sl e]/\e∈S/\bt P e=some (lay P e).length/\0<(lay P e).length/\P.cellsOf e=(lay P e).length)\/(∃fs:Array Field,P.underlying t=some (.struct fs)/\lay P t=layAll P fs.toList/\P.cellsOf t=(lay P t).length/\Bh P S 0 fs.toList)
end
section
variable {H:Type}{enc:TypeId×Value->H}{P:Program}{S:List TypeId}{w:World}{B:Blk H}
theorem Lo{wd:Wd}:∀{z o:List Lf}{a a' b b':List AV},cf P wd z a a'->cf P wd o b b'->cf P wd (z++o) (a++b) (a'++b')|_,_,_,_,_,_,.nil,h=>h|_,_,_,_,_,_,.cons h k,h'=>.cons h (Lo k h')
theorem Jy{wd:Wd}{l:List Lf}{r r':List AV}(h:cf P wd l r r'):∀{a a':List (List AV)},bW P wd l a a'->bW P wd l (a++[r]) (a'++[r'])|_,_,.nil _=>.cons h (.nil _)|_,_,.cons h1 k=>.cons h1 (Jy h k)
theorem ak3{wd:Wd}:∀{l:List Lf}{a a':List AV},cf P wd l a a'->a'.length=l.length|_,_,_,.nil=>rfl|_,_,_,.cons _ k=>by rw[lC,lC,ak3 k]
theorem Xf{a b:List AV}(h1:eo a=true)(h2:eo b=true):eo (a++b)=true:=by
 rw[pG]at*
 intro x hx
 rcases List.mem_append.1 hx with h|h
 .exact h1 x h
 .exact h2 x h
theorem Blk.snoc(B:Blk H):∀(l:List (DataW H))(d:DataW H),B.all (l++[d])=B.all l+B.blk d|[],d=>by rw[List.nil_append,B.cons,B.none];omega|x::l,d=>by rw[List.cons_append,B.cons,B.snoc l d,B.cons];omega
inductive aje(P:Program):List Lf->List AV->Prop|nil:aje P [] []|int{k:IntKind}{n:Int}{ls:List Lf}{r:List AV}:aje P ls r->aje P (.int k::ls) (.sc (.int k n)::r)|bool{b:Bool}{ls:List Lf}{r:List AV}:aje P ls r->aje P (.bool::ls) (.sc (.bool b)::r)|str{s:ByteArray}{ls:List Lf}{r:List AV}:aje P ls r->aje P (.str::ls) (.sc (.string s)::r)|sl{t:TypeId}{rows:List (List AV)}{ls:List Lf}{r:List AV}:(∀q,q∈rows->aje P (lay P t) q)->aje P ls r->aje P (.sl t::ls) (.aQ rows (lay P t).length::r)
theorem ajT:∀{z o:List Lf}{a b:List AV},aje P z a->aje P o b->aje P (z++o) (a++b)|_,_,_,_,.nil,h=>h|_,_,_,_,.int h,h'=>.int (ajT h h')|_,_,_,_,.bool h,h'=>.bool (ajT h h')|_,_,_,_,.str h,h'=>.str (ajT h h')|_,_,_,_,.sl g h,h'=>.sl g (ajT h h')
abbrev UC(P:Program)(B:Blk H)(w:World)(t:TypeId)(ai4:List Value)(d:DataW H):Prop:=∃r r',(cf P w00S (lay P t) r r'/\aje P (lay P t) r)/\eo r'=true/\aG (gw w) r' ai4/\wtR r+1<=2*B.blk d
theorem Lq{m:Nat}{ai4:List Value}(o:∀t ai4(x:DataW H×List MemPlace),t∈S->DataW.trod enc P w 0 (λ_=>true) true m t ai4=some x->UC P B w t ai4 x.1):∀(fs:List Field)(A:Nat)(ys:List (DataW H×List MemPlace)),Bh P S A fs->ys.length=fs.length->(∀(i:Nat)(f:Field),fs[i]?=some f->DataW.trod enc P w 0 (λ_=>true) true m f.type ((ai4.drop f.offset).take (P.cellsOf f.type))=ys[i]?)->∃r r',(cf P w00S (layAll P fs) r r'/\aje P (layAll P fs) r)/\eo r'=true/\aG (gw w) r' ((ai4.drop A).take (layAll P fs).length)/\wtR r<=2*B.all (ys.map (·.1))
 |[],A,ys,_,hl,_=>⟨[],[],⟨.nil,.nil⟩,rfl,by simp[layAll];trivial,Nat.zero_le _⟩
 |f::fs,A,[],_,hl,_=>by simp at hl
 |f::fs,A,y::ys,⟨h1,h2,h3,h4⟩,hl,hf=>by
  have hy:=hf 0 f rfl
  simp only[List.getElem?_cons_zero]at hy
  obtain⟨r,s,q1,q2,q3,q4⟩:=o _ _ _ h2 hy
  obtain⟨r',s',p1,p2,p3,z⟩:=Lq o fs (A+(lay P f.type).length) ys h4 (by simpa using hl) λi g hg=>by simpa using hf (i+1) g (by simpa using hg)
  refine⟨r++r',s++s',?_,Xf q2 p2,?_,?_⟩
  .exact⟨Lo q1.1 p1.1,ajT q1.2 p1.2⟩
  .have e:(layAll P (f::fs)).length=(lay P f.type).length+(layAll P fs).length:=by simp[layAll]
   rw[e,List.take_add,List.drop_drop];rw[h3,h1]at q3;exact aG.append q3 p3
  .rw[JY,List.map_cons,B.cons];omega
theorem br(hS:∀t,t∈S->ej P S t):∀(n:Nat)(t:TypeId)(ai4:List Value)(x:DataW H×List MemPlace),t∈S->DataW.trod enc P w 0 (λ_=>true) true n t ai4=some x->UC P B w t ai4 x.1:=by
 intro n
 induction n using Nat.strongRecOn with
 |_ n ih=>
 intro t ai4 x ht h
 rcases hS t ht with⟨k,hu,hl⟩|⟨hu,hl⟩|⟨hu,hl⟩|⟨e,hu,hl,he,hsz,I,hc⟩|⟨fs,hu,hl,hc,hfs⟩
 .obtain⟨m,rfl,rfl,_⟩:=DataW.trod_int hu h;have:=B.lit (.int k m);exact⟨[.sc (.int k m)],[.sc (.int k m)],by rw[hl];exact⟨.cons (.int k m) .nil,.int .nil⟩,rfl,⟨.sc _,trivial⟩,by simp only[wtR,wtA];omega⟩
 .obtain⟨b,rfl,rfl⟩:=DataW.trod_bool hu h;have:=B.lit (.bool b);exact⟨[.sc (.bool b)],[.sc (.bool b)],by rw[hl];exact⟨.cons (.bool b) .nil,.bool .nil⟩,rfl,⟨.sc _,trivial⟩,by simp only[wtR,wtA];omega⟩
 .obtain⟨s,rfl,rfl,_⟩:=DataW.trod_string hu h
  have:=B.str s.data.toList
  have e:s.data.toList.length=s.size:=by simp
  exact⟨[.sc (.string s)],[.sc (.string s)],by rw[hl];exact⟨.cons (.str s) .nil,.str .nil⟩,rfl,⟨.sc _,trivial⟩,by simp only[wtR,wtA];omega⟩
 .have cell:∀{rows:List (List AV)}{y:AV},Rd P w00S e rows y->(∀q,q∈rows->aje P (lay P e) q)->cf P w00S (lay P t) [.aQ rows (lay P e).length] [y]/\aje P (lay P t) [.aQ rows (lay P e).length]:=λhr hc=>by rw[hl];exact⟨.cons (.sl hr) .nil,.sl hc .nil⟩
  rcases DataW.trod_slice hu h with⟨rfl,rfl⟩|⟨a,len,cap,o,rest,n',rfl,rfl,rfl,hb,hlc,hcm,hlen,X,U,_⟩
  .have:=B.nil;exact⟨[.aQ [] _],_,cell (.nil e) (by simp),rfl,⟨.sc _,trivial⟩,by simp only[wtR,wtA,wtRs];omega⟩
  .have hbs:=B.sl (o.map (·.1)) (rest.map (·.1))
   rw[hc]at X U
   generalize D:(lay P e).length=sz at*
   obtain⟨hr1,hr2⟩:=U rfl
   have one:∀i,i<len->∃r s z,(cf P w00S (lay P e) r s/\aje P (lay P e) r)/\eo s=true/\aG (gw w) s z/\z.length=sz/\(∀j,j<sz->w.cell? ((a.add (i*sz)).add j)=z[j]?)/\∃d,o[i]?=some d/\wtR r+1<=2*B.blk d.1:=by intro i hi;have h1:=X i hi;rw[List.getElem?_eq_getElem (by omega)]at h1;simp only[Option.bind_eq_some_iff]at h1;obtain⟨z,h1,h2⟩:=h1;obtain⟨r,s,q1,q3,q4,q5⟩:=ih n' (Nat.lt_succ_self _) e z _ he h2;unfold World.cells? at h1;rw[if_pos (Nat.zero_le _)]at h1;exact⟨r,s,z,q1,q3,q4,by simpa using mapM_some_length h1,λj hj=>mapM_some_get h1 j j (by simp[hj]),_,List.getElem?_eq_getElem (by omega),q5⟩
   have L:0<cap->a.spot=none:=by
    intro h0
    rcases Nat.eq_zero_or_pos len with Z|O
    .have h1:=hr2 0 (by omega)
     rw[List.getElem?_eq_getElem (by omega)]at h1
     simp only[Option.bind_eq_some_iff]at h1
     obtain⟨z,h1,_⟩:=h1
     unfold World.cells? at h1
     rw[if_pos (Nat.zero_le _)]at h1
     have hl':z.length=sz:=by simpa using mapM_some_length h1
     have:=mapM_some_get h1 0 0 (by simp[I]);rw[List.getElem?_eq_getElem (by omega)]at this;exact MB this (by simp[Z])
    .obtain⟨r,s,z,_,_,_,q5,q6,_⟩:=one 0 O;have:=q6 0 I;rw[List.getElem?_eq_getElem (by omega)]at this;exact MB this (by simp)
   rcases Nat.eq_zero_or_pos len with J|J
   .subst J;exact⟨[.aQ [] _],_,cell (.bT e) (by simp),rfl,⟨.bT a _,trivial⟩,by simp only[wtR,wtA,wtRs];omega⟩
   .have N:=L (by omega)
    have build:∀k,k<=len->∃rows rows':List (List AV),rows.length=k/\rows'.length=k/\(bW P w00S (lay P e) rows rows'/\∀q,q∈rows->aje P (lay P e) q)/\(∀r,r∈rows'->r.length=sz/\eo r=true)/\(∀i x,rows'.flatten[i]?=some x->∃v,w.cell? ⟨a.block,a.off+i,none⟩=some v/\VR (gw w) x v)/\wtRs rows<=2*B.all ((o.take k).map (·.1)):=by
     intro k
     induction k with
     |zero=>intro _;exact⟨[],[],rfl,rfl,⟨.nil _,by simp⟩,by simp,by simp,Nat.zero_le _⟩
     |succ k Y=>
      intro hk
      obtain⟨rows,rows',Q,p1,p0,p2,p3,p4⟩:=Y (by omega)
      obtain⟨r,s,z,q1,q3,q4,q5,q6,d,q7,q8⟩:=one k (by omega)
      have q2:s.length=sz:=by rw[ak3 q1.1,D]
      refine⟨rows++[r],rows'++[s],by simp[Q],by simp[p1],⟨Jy q1.1 p0.1,λq hq=>(List.mem_append.1 hq).elim (p0.2 q) λh=>by rw[List.mem_singleton.1 h];exact q1.2⟩,?_,?_,?_⟩
      .intro r' A
       rcases List.mem_append.1 A with A|A
       .exact p2 r' A
       .simp at A;subst A;exact⟨q2,q3⟩
      .intro i x hx
       have hfl:rows'.flatten.length=k*sz:=by rw[nH (sz:=sz) λr hr=>(p2 r hr).1,p1]
       rw[List.flatten_append,List.flatten_singleton]at hx
       rcases Nat.lt_or_ge i (k*sz)with hi|hi
       .rw[List.getElem?_append_left (by omega)]at hx;exact p3 i x hx
       .rw[List.getElem?_append_right (by omega),hfl]at hx
        have hj:i-k*sz<sz:=by
         rcases Nat.lt_or_ge (i-k*sz) s.length with hj|hj
         .omega
         .rw[List.getElem?_eq_none hj]at hx;cases hx
        have E:=q6 (i-k*sz) hj
        rw[List.getElem?_eq_getElem (by omega)]at E
        refine⟨_,?_,q4.get _ x _ hx (List.getElem?_eq_getElem (by omega))⟩
        have e1:(⟨a.block,a.off+i,none⟩:Addr)=⟨a.block,a.off+k*sz+(i-k*sz),none⟩:=by congr 1;omega
        rw[<-E,MA N,MA rfl,e1]
      .have e1:o.take (k+1)=o.take k++[d]:=by rw[List.take_succ,q7];rfl
       rw[Lm,e1,List.map_append,List.map_cons,List.map_nil,B.snoc];omega
    obtain⟨rows,rows',Q,p1,p0,p2,p3,p4⟩:=build len (aC _)
    rw[List.take_of_length_le (by omega)]at p4
    have V:∀r,r∈rows'->r.length=sz:=λr hr=>(p2 r hr).1
    obtain⟨b,off,spt⟩:=a
    simp only at N;subst N
    refine⟨[.aQ rows sz],[.aQ rows' sz],cell (by rw[<-D]at*;exact .aQ (by rw[hsz]) (by omega) (by omega) p0.1) (by rw[<-D]at*;exact p0.2),rfl,⟨?_,trivial⟩,by simp only[wtR,wtA];omega⟩
    rw[<-p1]
    refine .aQ V ?_ (.aZ (λi=>(w.cell? ⟨b,off+i,none⟩).getD .nilIface) ?_ ?_ (nH V) (by omega) (by simp))
    .rw[pG];intro x hx;obtain⟨r,hr,hxr⟩:=List.mem_flatten.1 hx;exact pG.1 (p2 r hr).2 x hxr
    .intro i x hx;obtain⟨v,hv,_⟩:=p3 i x hx;show w.cell? ⟨b,off+i,none⟩=some _;rw[hv];rfl
    .intro i x hx;obtain⟨v,hv,hr⟩:=p3 i x hx;simp only[hv,Option.getD_some];exact hr
 .obtain⟨xs,m,rfl,rfl,hlen,hxs,hf⟩:=DataW.trod_struct hu h;obtain⟨r,s,q1,q2,q3,q4⟩:=Lq (B:=B) (ai4:=ai4) (λt ai4 x=>ih m (Nat.lt_succ_self _) t ai4 x) fs.toList 0 xs hfs (by simpa using hxs) λi f hi=>hf i f (by simpa using hi);rw[<-hl]at q1 q3;rw[List.drop_zero,List.take_of_length_le (by omega)]at q3;have:=B.agg (xs.map (·.1));exact⟨r,s,q1,q2,q3,by show wtR r+1<=2*B.blk (.agg (xs.map (·.1)));omega⟩
end
end Go.AI

section
namespace Go.AI
open Go Go.Proofs
set_option maxRecDepth 100000
def S6:List TypeId:=[3,4,9,22,24,34,35,36,37,38,39,40,41,43,46,48,50,59,61,65,67,70,91,94,253]
theorem ag3:ej Tryz.prog S6 3:=.inl ⟨.i64,Tryz.underlying3,by kernel_rfl⟩
theorem ag4:ej Tryz.prog S6 4:=.inr (.inl ⟨Tryz.underlying4,by kernel_rfl⟩)
theorem ag5:ej Tryz.prog S6 9:=.inr (.inr (.inl ⟨Tryz.underlying9,by kernel_rfl⟩))
theorem acF:ej Tryz.prog S6 22:=.inr (.inr (.inr (.inl ⟨43,Tryz.underlying22,by kernel_rfl,by decide,by kernel_rfl,iR (by kernel_rfl),by kernel_rfl⟩)))
theorem acG:ej Tryz.prog S6 24:=.inr (.inr (.inr (.inr ⟨_,Tryz.underlying24,by kernel_rfl,by kernel_rfl,jW _ _ (by kernel_rfl)⟩)))
theorem acH:ej Tryz.prog S6 34:=.inr (.inr (.inr (.inl ⟨9,Tryz.underlying34,by kernel_rfl,by decide,by kernel_rfl,iR (by kernel_rfl),by kernel_rfl⟩)))
theorem acI:ej Tryz.prog S6 35:=.inr (.inr (.inr (.inl ⟨70,Tryz.underlying35,by kernel_rfl,by decide,by kernel_rfl,iR (by kernel_rfl),by kernel_rfl⟩)))
theorem acJ:ej Tryz.prog S6 36:=.inr (.inr (.inr (.inl ⟨50,Tryz.underlying36,by kernel_rfl,by decide,by kernel_rfl,iR (by kernel_rfl),by kernel_rfl⟩)))
theorem acK:ej Tryz.prog S6 37:=.inr (.inr (.inr (.inl ⟨61,Tryz.underlying37,by kernel_rfl,by decide,by kernel_rfl,iR (by kernel_rfl),by kernel_rfl⟩)))
theorem acL:ej Tryz.prog S6 38:=.inr (.inr (.inr (.inl ⟨59,Tryz.underlying38,by kernel_rfl,by decide,by kernel_rfl,iR (by kernel_rfl),by kernel_rfl⟩)))
theorem acM:ej Tryz.prog S6 39:=.inr (.inr (.inr (.inl ⟨253,Tryz.underlying39,by kernel_rfl,by decide,by kernel_rfl,iR (by kernel_rfl),by kernel_rfl⟩)))
theorem acN:ej Tryz.prog S6 40:=.inr (.inr (.inr (.inl ⟨94,Tryz.underlying40,by kernel_rfl,by decide,by kernel_rfl,iR (by kernel_rfl),by kernel_rfl⟩)))
theorem acO:ej Tryz.prog S6 41:=.inr (.inr (.inr (.inl ⟨67,Tryz.underlying41,by kernel_rfl,by decide,by kernel_rfl,iR (by kernel_rfl),by kernel_rfl⟩)))
theorem acP:ej Tryz.prog S6 43:=.inr (.inr (.inr (.inr ⟨_,Tryz.underlying43,by kernel_rfl,by kernel_rfl,jW _ _ (by kernel_rfl)⟩)))
theorem acQ:ej Tryz.prog S6 46:=.inr (.inr (.inr (.inl ⟨48,Tryz.underlying46,by kernel_rfl,by decide,by kernel_rfl,iR (by kernel_rfl),by kernel_rfl⟩)))
theorem acR:ej Tryz.prog S6 48:=.inr (.inr (.inr (.inr ⟨_,Tryz.underlying48,by kernel_rfl,by kernel_rfl,jW _ _ (by kernel_rfl)⟩)))
theorem acS:ej Tryz.prog S6 50:=.inr (.inr (.inr (.inr ⟨_,Tryz.underlying50,by kernel_rfl,by kernel_rfl,jW _ _ (by kernel_rfl)⟩)))
theorem acT:ej Tryz.prog S6 59:=.inr (.inr (.inr (.inr ⟨_,Tryz.underlying59,by kernel_rfl,by kernel_rfl,jW _ _ (by kernel_rfl)⟩)))
theorem acU:ej Tryz.prog S6 61:=.inr (.inr (.inr (.inr ⟨_,Tryz.underlying61,by kernel_rfl,by kernel_rfl,jW _ _ (by kernel_rfl)⟩)))
theorem acV:ej Tryz.prog S6 65:=.inr (.inr (.inr (.inl ⟨91,Tryz.underlying65,by kernel_rfl,by decide,by kernel_rfl,iR (by kernel_rfl),by kernel_rfl⟩)))
theorem acW:ej Tryz.prog S6 67:=.inr (.inr (.inr (.inr ⟨_,Tryz.underlying67,by kernel_rfl,by kernel_rfl,jW _ _ (by kernel_rfl)⟩)))
theorem acX:ej Tryz.prog S6 70:=.inr (.inr (.inr (.inr ⟨_,Tryz.underlying70,by kernel_rfl,by kernel_rfl,jW _ _ (by kernel_rfl)⟩)))
theorem acY:ej Tryz.prog S6 91:=.inr (.inr (.inr (.inr ⟨_,Tryz.underlying91,by kernel_rfl,by kernel_rfl,jW _ _ (by kernel_rfl)⟩)))
theorem acZ:ej Tryz.prog S6 94:=.inr (.inr (.inr (.inr ⟨_,Tryz.underlying94,by kernel_rfl,by kernel_rfl,jW _ _ (by kernel_rfl)⟩)))
theorem abn:ej Tryz.prog S6 253:=.inr (.inr (.inr (.inr ⟨_,Tryz.underlying253,by kernel_rfl,by kernel_rfl,jW _ _ (by kernel_rfl)⟩)))
theorem okS:∀t,t∈S6->ej Tryz.prog S6 t:=by
 intro t ht
 simp only[S6,List.mem_cons,List.not_mem_nil,or_false]at ht
 rcases ht with rfl|rfl|rfl|rfl|rfl|rfl|rfl|rfl|rfl|rfl|rfl|rfl|rfl|rfl|rfl|rfl|rfl|rfl|rfl|rfl|rfl|rfl|rfl|rfl|rfl
 .exact ag3
 .exact ag4
 .exact ag5
 .exact acF
 .exact acG
 .exact acH
 .exact acI
 .exact acJ
 .exact acK
 .exact acL
 .exact acM
 .exact acN
 .exact acO
 .exact acP
 .exact acQ
 .exact acR
 .exact acS
 .exact acT
 .exact acU
 .exact acV
 .exact acW
 .exact acX
 .exact acY
 .exact acZ
 .exact abn
end Go.AI
end

section
namespace Go.AI
open Go Go.Proofs
theorem aje.get{P:Program}{t:TypeId}:∀{ls:List Lf}{r:List AV}{j:Nat},aje P ls r->ls[j]?=some (.sl t)->∀q,q∈gD r j->aje P (lay P t) q|_,_,0,.sl (rows:=rows) g _,h,q,hq=>by cases h;exact g q hq|_,_,j+1,.sl _ h,e,q,hq=>h.get (j:=j) e q hq|_,_,j+1,.int h,e,q,hq=>h.get (j:=j) e q hq|_,_,j+1,.bool h,e,q,hq=>h.get (j:=j) e q hq|_,_,j+1,.str h,e,q,hq=>h.get (j:=j) e q hq
theorem ako:lay Tryz.prog 48=[.int .i64,.str,.sl 48]:=by kernel_rfl
theorem alu:lay Tryz.prog 50=[.str,.int .i64,.str,.sl 48]:=by kernel_rfl
theorem alv:lay Tryz.prog 70=[.str,.sl 9]:=by kernel_rfl
theorem alw:(lay Tryz.prog 43)[4]?=some (.sl 70)/\(lay Tryz.prog 43)[5]?=some (.sl 50)/\(lay Tryz.prog 43)[7]?=some (.sl 50):=⟨by kernel_rfl,by kernel_rfl,by kernel_rfl⟩
theorem akp:∀(W:Nat)(l:Rows),wtRs l<W->(∀q,q∈l->aje Tryz.prog (lay Tryz.prog 48) q)->ajf l
 |0,_,h,_=>absurd h (Nat.not_lt_zero _)
 |_+1,[],_,_=>.nil
 |W+1,q::l,h,hq=>by
  have h1:=hq q (by simp)
  rw[ako]at h1
  cases h1 with|int h1=>
  cases h1 with|str h1=>
  cases h1 with|sl g h1=>
  cases h1
  have e:(lay Tryz.prog 48).length=3:=by rw[ako];rfl
  rw[e];exact .cons (akp W _ (by simp only[wtRs,wtR,wtA]at h;omega) g) (akp W l (by simp only[wtRs]at h;omega) λx hx=>hq x (by simp[hx]))
theorem ak4{l:Rows}(h:∀q,q∈l->aje Tryz.prog (lay Tryz.prog 50) q):ajz l:=λd hd=>by
 have h1:=h d hd
 rw[alu]at h1
 cases h1 with|str h1=>
 cases h1 with|int h1=>
 cases h1 with|str h1=>
 cases h1 with|sl g h1=>
 cases h1
 have e:(lay Tryz.prog 48).length=3:=by rw[ako];rfl
 rw[e];exact⟨rfl,akp _ _ (Nat.lt_succ_self _) g⟩
theorem alx{r:List AV}(h:aje Tryz.prog (lay Tryz.prog 43) r):ajn r:=by obtain⟨h4,h5,o⟩:=alw;refine⟨λx hx=>?_,ak4 (h.get h5),ak4 (h.get o)⟩;have h1:=h.get h4 x hx;rw[alv]at h1;cases h1 with|str h1=>cases h1 with|sl g h1=>cases h1;rw[Te];rfl
theorem law_callsV(hP:ProgOK Tryz.prog){W:World}{v:Value}{rows:Rows}{x:AV}(hd:Rd Tryz.prog w00S 43 rows x)(hw:wtRs rows<=2097152)(hc:∀r,r∈rows->aje Tryz.prog (lay Tryz.prog 43) r)(r0:VR (gw W) (.agg [x]) v):Calls Tryz.prog 6 #[v] W λe w'=>e=.returned (.bool true)/\w'.os=W.os/\w'.output=W.output/\∀b,b<W.heap.size->w'.heap[b]?=W.heap[b]?:=by obtain⟨n0,hn⟩:=lawTypes rows ⟨u7 (by omega),uq (by omega)⟩ λr hr=>alx (hc r hr);have hr:(dE Tryz.prog wv n0).call 6 [.agg [.dl 43 rows]] [] [.bool] []=some true:=hn n0 (aC _);obtain⟨h',hc⟩:=Lh hP (Pz hP) Ti hr rfl (.cons (.agg (.cons (.dl hd) .nil)) .nil) (t:=4) (λfn hf=>by rw[Tryz.func6]at hf;cases hf;kernel_rfl) (by kernel_rfl);refine(hc (gw W) W [v] (TE (Mz W)) (λ_ _ _=>rfl) ⟨r0,trivial⟩).mono ?_;rintro e w'⟨o,st,_,ho⟩;refine⟨?_,st.os,st.out,λb hb=>st.fr b hb λz v s n e=>by cases e⟩;cases e with|returned x=>cases ho;rfl|panicked _=>exact ho.elim|outgrown=>exact ho.elim
end Go.AI
end
