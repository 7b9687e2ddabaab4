/- A part of the proof. -/
import Derived.ProofKit
import Derived.Test.YtkdhoflcgphcjaaGreatDoorKt
import Derived.Test.YtkdhoflcgphcjaaGreatDoorQd
set_option linter.all false

section
namespace Go.AI
open Go Go.Proofs
mutual
theorem Xn{N:Nat}:∀{c:AV},wtA c<=N->iu N c
 |.aI rows _,h=>by rw[wtA]at h;rw[iu];exact⟨vD (by omega),va (by omega)⟩
 |.sc (.string s),h=>by rw[wtA]at h;rw[iu];omega
 |x,h=>by
  unfold iu
  split
  .rw[wtA]at h;omega
  .rw[wtA]at h;exact⟨vD (by omega),va (by omega)⟩
  .trivial
theorem Mm{N:Nat}:∀{r:List AV},wtR r<=N->gQ N r|[],_=>trivial|c::r,h=>by rw[wtR]at h;rw[gQ];exact⟨Xn (by omega),Mm (by omega)⟩
theorem va{N:Nat}:∀{rs:List (List AV)},wtRs rs<=N->eF N rs|[],_=>trivial|r::rs,h=>by rw[wtRs]at h;rw[eF];exact⟨Mm (by omega),va (by omega)⟩
theorem vD{N:Nat}:∀{rs:List (List AV)},wtRs rs<=N->rs.length<=N|[],_=>Nat.zero_le _|r::rs,h=>by rw[wtRs]at h;have:=@vD (N-1) rs (by omega);grind
end
def gw(w:World):Gh:=⟨λ_ _=>none,λb i=>w.cell? ⟨b,i,none⟩⟩
theorem VM{w:World}{b i:Nat}{u:Value}(hm:w.cell? ⟨b,i,none⟩=some u):b<w.heap.size:=by grind[Nat.lt_or_ge,Array.getElem?_eq_none,World.cell?]
theorem abE{w:World}(hg:M6 w):W h0 (gw w) w:=⟨λo x e=>(by simp[h0,AHeap.get,Tr.get]at e),λ_ _ _ _ _ e=>(by cases e),λ_ _ _ _ _ _ _ _ _ e=>(by cases e),λ_ _ _ hm=>⟨hm,VM hm⟩,λ_ _ _ _ _ _ _ _ e=>(by cases e),λb p e=>by obtain⟨cs,x,y,h1,h2,h3⟩:=hg b p e;refine⟨⟨cs,x,y,h1,h2,h3⟩,cs[0],?_⟩;show w.cell? ⟨b,0,none⟩=_;simp_all[World.cell?]⟩
theorem Uf(w:World):M6 w:=λb p e=>by cases e
end Go.AI
end

namespace Go.AI
open Go
theorem Ix:∀(a b:List AV),wtR (a++b)=wtR a+wtR b|[],b=>by simp[wtR]|c::a,b=>by rw[List.cons_append,wtR,Ix a b,wtR];omega
theorem Jh:∀(a:List (List AV))(r:List AV),wtRs (a++[r])=wtRs a+(wtR r+1)|[],r=>by simp[wtRs]|q::a,r=>by rw[List.cons_append,wtRs,Jh a r,wtRs];omega
theorem SH{w:World}{a:Addr}{v:Value}(h:w.cell? a=some v):a.spot=none:=by
 unfold World.cell? at h
 split at h
 .simp_all
 .cases h
theorem Ki{a:Addr}(h:a.spot=none)(n:Nat):a.add n=⟨a.block,a.off+n,none⟩:=by obtain⟨b,o,s⟩:=a;simp_all[Addr.add]
theorem Kj{a:Addr}{n:Nat}{w:World}{v:Value}(h:w.cell? ((a.add n).add 0)=some v)(hn:n=0):a.spot=none:=by grind[SH,Addr.add]
structure Blk(H:Type)where
 blk:DataW H->Nat
 all:List (DataW H)->Nat
 str:∀b,blk (.lit (.string b))=b.length+1
 lit:∀l,1<=blk (.lit l)
 nil:1<=blk .nil
 sl:∀es sp,all es+1<=blk (.slice es sp)
 agg:∀ps,blk (.agg ps)=all ps+1
 none:all []=0
 cons:∀d r,all (d::r)=blk d+all r
section
variable (P:Program)(S:List TypeId)
def layAll(fs:List Field):List Lf:=(fs.map λf=>lay P f.type).flatten
def An:Nat->List Field->Prop|_,[]=>True|o,f::fs=>f.offset=o/\f.type∈S/\P.cellsOf f.type=(lay P f.type).length/\An (o+(lay P f.type).length) fs
def Gy:Nat->List Field->Bool|_,[]=>true|o,f::fs=>Nat.beq f.offset o&&(S.contains f.type&&(Nat.beq (P.cellsOf f.type) (lay P f.type).length&&Gy (o+(lay P f.type).length) fs))
theorem oS:∀{o:Nat}{fs:List Field},Gy P S o fs=true->An P S o fs|_,[],_=>trivial|o,f::fs,h=>by unfold Gy at h;rw[aZ,aZ,aZ]at h;exact⟨Nat.eq_of_beq_eq_true h.1,by simpa using h.2.1,Nat.eq_of_beq_eq_true h.2.2.1,oS h.2.2.2⟩
def fP(t:TypeId):Prop:=(∃k,P.underlying t=some (.int k)/\lay P t=[.int k])\/(P.underlying t=some .bool/\lay P t=[.bool])\/(P.underlying t=some .string/\lay P t=[.str])\/(∃e,P.underlying t=some (.slice e)/\lay P t=[.sl e]/\e∈S/\bj P e=some (lay P e).length/\0<(lay P e).length/\P.cellsOf e=(lay P e).length)\/(∃fs:Array Field,P.underlying t=some (.struct fs)/\lay P t=layAll P fs.toList/\P.cellsOf t=(lay P t).length/\An P S 0 fs.toList)
end
section
variable {H:Type}{enc:TypeId×Value->H}{P:Program}{S:List TypeId}{w:World}{B:Blk H}
theorem Ji{wd:Wd}:∀{i c:List Lf}{a a' b b':List AV},bR P wd i a a'->bR P wd c b b'->bR P wd (i++c) (a++b) (a'++b')|_,_,_,_,_,_,.nil,h=>h|_,_,_,_,_,_,.cons h k,h'=>.cons h (Ji k h')
theorem H4{wd:Wd}{l:List Lf}{r r':List AV}(h:bR P wd l r r'):∀{a a':List (List AV)},bG P wd l a a'->bG P wd l (a++[r]) (a'++[r'])|_,_,.nil _=>.cons h (.nil _)|_,_,.cons h1 k=>.cons h1 (H4 h k)
theorem Iy{wd:Wd}:∀{l:List Lf}{a a':List AV},bR P wd l a a'->a'.length=l.length|_,_,_,.nil=>rfl|_,_,_,.cons _ k=>by rw[kx,kx,Iy k]
theorem SI{a b:List AV}(h1:dF a=true)(h2:dF b=true):dF (a++b)=true:=by grind[qm]
theorem Blk.snoc(B:Blk H):∀(l:List (DataW H))(d:DataW H),B.all (l++[d])=B.all l+B.blk d|[],d=>by rw[List.nil_append,B.cons,B.none];omega|x::l,d=>by rw[List.cons_append,B.cons,B.snoc l d,B.cons];omega
inductive Cn(P:Program):List Lf->List AV->Prop|nil:Cn P [] []|int{k:IntKind}{n:Int}{ls:List Lf}{r:List AV}:Cn P ls r->Cn P (.int k::ls) (.sc (.int k n)::r)|bool{b:Bool}{ls:List Lf}{r:List AV}:Cn P ls r->Cn P (.bool::ls) (.sc (.bool b)::r)|str{s:ByteArray}{ls:List Lf}{r:List AV}:Cn P ls r->Cn P (.str::ls) (.sc (.string s)::r)|sl{t:TypeId}{rows:List (List AV)}{ls:List Lf}{r:List AV}:(∀q,q∈rows->Cn P (lay P t) q)->Cn P ls r->Cn P (.sl t::ls) (.aI rows (lay P t).length::r)
theorem vE:∀{i c:List Lf}{a b:List AV},Cn P i a->Cn P c b->Cn P (i++c) (a++b)|_,_,_,_,.nil,h=>h|_,_,_,_,.int h,h'=>.int (vE h h')|_,_,_,_,.bool h,h'=>.bool (vE h h')|_,_,_,_,.str h,h'=>.str (vE h h')|_,_,_,_,.sl g h,h'=>.sl g (vE h h')
abbrev PL(P:Program)(B:Blk H)(w:World)(t:TypeId)(cs:List Value)(d:DataW H):Prop:=∃r r',(bR P w00S (lay P t) r r'/\Cn P (lay P t) r)/\dF r'=true/\ay (gw w) r' cs/\wtR r+1<=2*B.blk d
theorem Jj{m:Nat}{cs:List Value}(ih:∀t cs(x:DataW H×List MemPlace),t∈S->DataW.trod enc P w 0 (λ_=>true) true m t cs=some x->PL P B w t cs x.1):∀(fs:List Field)(o:Nat)(ys:List (DataW H×List MemPlace)),An P S o fs->ys.length=fs.length->
 (∀(i:Nat)(f:Field),fs[i]?=some f->DataW.trod enc P w 0 (λ_=>true) true m f.type ((cs.drop f.offset).take (P.cellsOf f.type))=ys[i]?)->
 ∃r r',(bR P w00S (layAll P fs) r r'/\Cn P (layAll P fs) r)/\dF r'=true/\ay (gw w) r' ((cs.drop o).take (layAll P fs).length)/\wtR r<=2*B.all (ys.map (·.1))
 |[],o,ys,_,hl,_=>⟨[],[],⟨.nil,.nil⟩,rfl,by simp[layAll];trivial,Nat.zero_le _⟩
 |f::fs,o,[],_,hl,_=>by simp at hl
 |f::fs,o,y::ys,⟨h1,h2,h3,h4⟩,hl,hf=>by
  have hy:=hf 0 f rfl
  simp only[List.getElem?_cons_zero]at hy
  obtain⟨r,s,q1,q2,q3,c⟩:=ih _ _ _ h2 hy
  obtain⟨r',s',p1,p2,p3,j⟩:=Jj ih fs (o+(lay P f.type).length) ys h4 (by grind) λi g hg=>by simpa using hf (i+1) g (by grind)
  refine⟨r++r',s++s',?_,SI q2 p2,?_,?_⟩
  .exact⟨Ji q1.1 p1.1,vE q1.2 p1.2⟩
  .simp_all[List.take_add,List.drop_drop,ay.append,layAll,lay]
  .rw[Ix,List.map_cons,B.cons];omega
theorem br(hS:∀t,t∈S->fP P S t):∀(n:Nat)(t:TypeId)(cs:List Value)(x:DataW H×List MemPlace),t∈S->DataW.trod enc P w 0 (λ_=>true) true n t cs=some x->PL P B w t cs x.1:=by
 intro n
 induction n using Nat.strongRecOn with
 |_ n ih=>
 intro t cs x ht h
 rcases hS t ht with⟨k,hu,hl⟩|⟨hu,hl⟩|⟨hu,hl⟩|⟨e,hu,hl,he,N,F,hc⟩|⟨fs,hu,hl,hc,R⟩
 .obtain⟨m,rfl,rfl,_⟩:=DataW.trod_int hu h;have:=B.lit (.int k m);exact⟨[.sc (.int k m)],[.sc (.int k m)],by rw[hl];exact⟨.cons (.int k m) .nil,.int .nil⟩,rfl,⟨.sc _,trivial⟩,by simp only[wtR,wtA];omega⟩
 .obtain⟨b,rfl,rfl⟩:=DataW.trod_bool hu h;have:=B.lit (.bool b);exact⟨[.sc (.bool b)],[.sc (.bool b)],by rw[hl];exact⟨.cons (.bool b) .nil,.bool .nil⟩,rfl,⟨.sc _,trivial⟩,by simp only[wtR,wtA];omega⟩
 .obtain⟨s,rfl,rfl,_⟩:=DataW.trod_string hu h
  have:=B.str s.data.toList
  have e:s.data.toList.length=s.size:=by simp
  exact⟨[.sc (.string s)],[.sc (.string s)],by rw[hl];exact⟨.cons (.str s) .nil,.str .nil⟩,rfl,⟨.sc _,trivial⟩,by simp only[wtR,wtA];omega⟩
 .have cell:∀{rows:List (List AV)}{y:AV},Rd P w00S e rows y->(∀q,q∈rows->Cn P (lay P e) q)->bR P w00S (lay P t) [.aI rows (lay P e).length] [y]/\Cn P (lay P t) [.aI rows (lay P e).length]:=λhr hc=>by rw[hl];exact⟨.cons (.sl hr) .nil,.sl hc .nil⟩
  rcases DataW.trod_slice hu h with⟨rfl,rfl⟩|⟨a,len,cap,elems,rest,n',rfl,rfl,rfl,hb,hlc,hcm,hlen,I,E,_⟩
  .have:=B.nil;exact⟨[.aI [] _],_,cell (.nil e) (by simp),rfl,⟨.sc _,trivial⟩,by simp only[wtR,wtA,wtRs];omega⟩
  .have hbs:=B.sl (elems.map (·.1)) (rest.map (·.1))
   rw[hc]at I E
   generalize o:(lay P e).length=sz at*
   obtain⟨hr1,O⟩:=E rfl
   have one:∀i,i<len->∃r s aH,(bR P w00S (lay P e) r s/\Cn P (lay P e) r)/\dF s=true/\ay (gw w) s aH/\aH.length=sz/\(∀j,j<sz->w.cell? ((a.add (i*sz)).add j)=aH[j]?)/\∃d,elems[i]?=some d/\wtR r+1<=2*B.blk d.1:=by intro i hi;have h1:=I i hi;rw[List.getElem?_eq_getElem (by omega)]at h1;simp only[Option.bind_eq_some_iff]at h1;obtain⟨aH,h1,h2⟩:=h1;obtain⟨r,s,q1,q3,J,U⟩:=ih n' (Nat.lt_succ_self _) e aH _ he h2;unfold World.cells? at h1;rw[if_pos (Nat.zero_le _)]at h1;exact⟨r,s,aH,q1,q3,J,by simpa using mapM_some_length h1,λj hj=>mapM_some_get h1 j j (by simp[hj]),_,List.getElem?_eq_getElem (by omega),U⟩
   have u:0<cap->a.spot=none:=by
    intro h0
    rcases Nat.eq_zero_or_pos len with hz0|Q
    .have h1:=O 0 (by omega)
     rw[List.getElem?_eq_getElem (by omega)]at h1
     simp only[Option.bind_eq_some_iff]at h1
     obtain⟨aH,h1,_⟩:=h1
     unfold World.cells? at h1
     rw[if_pos (Nat.zero_le _)]at h1
     have hl':aH.length=sz:=by simpa using mapM_some_length h1
     have:=mapM_some_get h1 0 0 (by simp[F]);grind[List.getElem?_eq_getElem,Kj]
    .grind[List.getElem?_eq_getElem,Kj]
   rcases Nat.eq_zero_or_pos len with p|p
   .subst p;exact⟨[.aI [] _],_,cell (.bC e) (by simp),rfl,⟨.bC a _,trivial⟩,by simp only[wtR,wtA,wtRs];omega⟩
   .have z:=u (by omega)
    have build:∀k,k<=len->∃rows rows':List (List AV),rows.length=k/\rows'.length=k/\(bG P w00S (lay P e) rows rows'/\∀q,q∈rows->Cn P (lay P e) q)/\(∀r,r∈rows'->r.length=sz/\dF r=true)/\(∀i x,rows'.flatten[i]?=some x->∃v,w.cell? ⟨a.block,a.off+i,none⟩=some v/\VR (gw w) x v)/\
     wtRs rows<=2*B.all ((elems.take k).map (·.1)):=by
     intro k
     induction k with
     |zero=>intro _;exact⟨[],[],rfl,rfl,⟨.nil _,by simp⟩,by simp,by simp,Nat.zero_le _⟩
     |succ k L=>
      intro hk
      obtain⟨rows,rows',D,p1,K,p2,p3,V⟩:=L (by omega)
      obtain⟨r,s,aH,q1,q3,J,U,Z,d,Y,q8⟩:=one k (by omega)
      have q2:s.length=sz:=by rw[Iy q1.1,o]
      refine⟨rows++[r],rows'++[s],by simp[D],by simp[p1],⟨H4 q1.1 K.1,λq hq=>(List.mem_append.1 hq).elim (K.2 q) λh=>by grind⟩,?_,?_,?_⟩
      .intro r' C
       rcases List.mem_append.1 C with C|C
       .grind
       grind
      .intro i x hx
       have T:rows'.flatten.length=k*sz:=by rw[mF (sz:=sz) λr hr=>(p2 r hr).1,p1]
       rw[List.flatten_append,List.flatten_singleton]at hx
       rcases Nat.lt_or_ge i (k*sz)with hi|hi
       .rw[List.getElem?_append_left (by omega)]at hx;exact p3 i x hx
       .rw[List.getElem?_append_right (by omega),T]at hx
        have hj:i-k*sz<sz:=by grind
        have c:=Z (i-k*sz) hj
        rw[List.getElem?_eq_getElem (by omega)]at c
        refine⟨_,?_,J.get _ x _ hx (List.getElem?_eq_getElem (by omega))⟩
        have e1:(⟨a.block,a.off+i,none⟩:Addr)=⟨a.block,a.off+k*sz+(i-k*sz),none⟩:=by congr 1;omega
        rw[<-c,Ki z,Ki rfl,e1]
      .have e1:elems.take (k+1)=elems.take k++[d]:=by rw[List.take_succ,Y];rfl
       rw[Jh,e1,List.map_append,List.map_cons,List.map_nil,B.snoc];omega
    obtain⟨rows,rows',D,p1,K,p2,p3,V⟩:=build len (ao _)
    rw[List.take_of_length_le (by omega)]at V
    have G:∀r,r∈rows'->r.length=sz:=λr hr=>(p2 r hr).1
    obtain⟨b,off,X⟩:=a
    simp only at z;subst z
    refine⟨[.aI rows sz],[.aI rows' sz],cell (by rw[<-o]at*;exact .aI (by rw[N]) (by omega) (by omega) K.1) (by grind),rfl,⟨?_,trivial⟩,by simp only[wtR,wtA];omega⟩
    rw[<-p1]
    refine .aI G ?_ (.aN (λi=>(w.cell? ⟨b,off+i,none⟩).getD .nilIface) ?_ ?_ (mF G) (by omega) (by simp))
    .rw[qm];intro x hx;obtain⟨r,hr,M⟩:=List.mem_flatten.1 hx;exact qm.1 (p2 r hr).2 x M
    .intro i x hx;obtain⟨v,hv,_⟩:=p3 i x hx;show w.cell? ⟨b,off+i,none⟩=some _;rw[hv];rfl
    grind
 .obtain⟨xs,m,rfl,rfl,hlen,Px,hf⟩:=DataW.trod_struct hu h;obtain⟨r,s,q1,q2,q3,J⟩:=Jj (B:=B) (cs:=cs) (λt cs x=>ih m (Nat.lt_succ_self _) t cs x) fs.toList 0 xs R (by grind) λi f hi=>hf i f (by grind);rw[<-hl]at q1 q3;rw[List.drop_zero,List.take_of_length_le (by omega)]at q3;have:=B.agg (xs.map (·.1));grind
end
end Go.AI

section
namespace Go.AI
open Go Go.Proofs
set_option maxRecDepth 100000
def S6:List TypeId:=[3,9,22,24,39,40,42,43,44,46,48,50,52,156,160]
theorem YI:fP Tryz.prog S6 3:=.inl ⟨.i64,Tryz.underlying3,by kernel_rfl⟩
theorem YJ:fP Tryz.prog S6 9:=.inr (.inr (.inl ⟨Tryz.underlying9,by kernel_rfl⟩))
theorem Xo:fP Tryz.prog S6 22:=.inr (.inr (.inr (.inl ⟨52,Tryz.underlying22,by kernel_rfl,by decide,by kernel_rfl,oq (by kernel_rfl),by kernel_rfl⟩)))
theorem Xp:fP Tryz.prog S6 24:=.inr (.inr (.inr (.inl ⟨9,Tryz.underlying24,by kernel_rfl,by decide,by kernel_rfl,oq (by kernel_rfl),by kernel_rfl⟩)))
theorem Xq:fP Tryz.prog S6 39:=.inr (.inr (.inr (.inl ⟨156,Tryz.underlying39,by kernel_rfl,by decide,by kernel_rfl,oq (by kernel_rfl),by kernel_rfl⟩)))
theorem Xr:fP Tryz.prog S6 40:=.inr (.inr (.inr (.inl ⟨160,Tryz.underlying40,by kernel_rfl,by decide,by kernel_rfl,oq (by kernel_rfl),by kernel_rfl⟩)))
theorem Xs:fP Tryz.prog S6 42:=.inr (.inr (.inr (.inr ⟨_,Tryz.underlying42,by kernel_rfl,by kernel_rfl,oS _ _ (by kernel_rfl)⟩)))
theorem Xt:fP Tryz.prog S6 43:=.inr (.inr (.inr (.inl ⟨48,Tryz.underlying43,by kernel_rfl,by decide,by kernel_rfl,oq (by kernel_rfl),by kernel_rfl⟩)))
theorem Xu:fP Tryz.prog S6 44:=.inr (.inr (.inr (.inl ⟨46,Tryz.underlying44,by kernel_rfl,by decide,by kernel_rfl,oq (by kernel_rfl),by kernel_rfl⟩)))
theorem Xv:fP Tryz.prog S6 46:=.inr (.inr (.inr (.inr ⟨_,Tryz.underlying46,by kernel_rfl,by kernel_rfl,oS _ _ (by kernel_rfl)⟩)))
theorem Xw:fP Tryz.prog S6 48:=.inr (.inr (.inr (.inr ⟨_,Tryz.underlying48,by kernel_rfl,by kernel_rfl,oS _ _ (by kernel_rfl)⟩)))
theorem Xx:fP Tryz.prog S6 50:=.inr (.inr (.inr (.inr ⟨_,Tryz.underlying50,by kernel_rfl,by kernel_rfl,oS _ _ (by kernel_rfl)⟩)))
theorem Xy:fP Tryz.prog S6 52:=.inr (.inr (.inr (.inr ⟨_,Tryz.underlying52,by kernel_rfl,by kernel_rfl,oS _ _ (by kernel_rfl)⟩)))
theorem VN:fP Tryz.prog S6 156:=.inr (.inr (.inr (.inr ⟨_,Tryz.underlying156,by kernel_rfl,by kernel_rfl,oS _ _ (by kernel_rfl)⟩)))
theorem VO:fP Tryz.prog S6 160:=.inr (.inr (.inr (.inr ⟨_,Tryz.underlying160,by kernel_rfl,by kernel_rfl,oS _ _ (by kernel_rfl)⟩)))
theorem okS:∀t,t∈S6->fP Tryz.prog S6 t:=by
 intro t ht
 simp only[S6,List.mem_cons,List.not_mem_nil,or_false]at ht
 rcases ht with rfl|rfl|rfl|rfl|rfl|rfl|rfl|rfl|rfl|rfl|rfl|rfl|rfl|rfl|rfl
 .exact YI
 .exact YJ
 .exact Xo
 .exact Xp
 .exact Xq
 .exact Xr
 .exact Xs
 .exact Xt
 .exact Xu
 .exact Xv
 .exact Xw
 .exact Xx
 .exact Xy
 .exact VN
 .exact VO
end Go.AI
end

section
namespace Go.AI
open Go Go.Proofs
theorem Cn.get{P:Program}{t:TypeId}:∀{ls:List Lf}{r:List AV}{j:Nat},Cn P ls r->ls[j]?=some (.sl t)->∀q,q∈gD r j->Cn P (lay P t) q|_,_,0,.sl (rows:=rows) g _,h,q,hq=>by cases h;exact g q hq|_,_,j+1,.sl _ h,e,q,hq=>h.get (j:=j) e q hq|_,_,j+1,.int h,e,q,hq=>h.get (j:=j) e q hq|_,_,j+1,.bool h,e,q,hq=>h.get (j:=j) e q hq|_,_,j+1,.str h,e,q,hq=>h.get (j:=j) e q hq
theorem NO:lay Tryz.prog 46=[.int .i64,.str,.sl 46]:=by kernel_rfl
theorem MY:lay Tryz.prog 48=[.int .i64,.str,.int .i64,.int .i64,.str,.sl 46,.sl 48]:=by kernel_rfl
theorem Yq:lay Tryz.prog 160=[.str,.int .i64,.str,.sl 46]:=by kernel_rfl
theorem aa2:lay Tryz.prog 52=[.str,.sl 156,.sl 160,.sl 48,.int .i64,.str,.int .i64,.int .i64,.str,.sl 46,.sl 48]:=by kernel_rfl
theorem Ay:∀(W:Nat)(l:Rows),wtRs l<W->(∀q,q∈l->Cn Tryz.prog (lay Tryz.prog 46) q)->CT l
 |0,_,h,_=>absurd h (Nat.not_lt_zero _)
 |_+1,[],_,_=>.nil
 |W+1,q::l,h,hq=>by
  have h1:=hq q (by simp)
  rw[NO]at h1
  cases h1 with
  |int h1=>
  cases h1 with
  |str h1=>
  cases h1 with
  |sl g h1=>
  cases h1
  have e:(lay Tryz.prog 46).length=3:=by rw[NO];rfl
  rw[e];exact .cons (Ay W _ (by simp only[wtRs,wtR,wtA]at h;omega) g) (Ay W l (by simp only[wtRs]at h;omega) λx hx=>hq x (by simp[hx]))
theorem LO:∀{r:List AV}{j:Nat},wtRs (gD r j)<=wtR r|[],j=>by rw[show gD [] j=[]from rfl];simp[wtRs]|c::r,0=>by rw[wtR];show wtRs (match(some c:Option AV)with|some (.aI rows _)=>rows|_=>[])<=_;grind[wtA,wtRs]|c::r,j+1=>by rw[wtR];exact Nat.le_trans (LO (r:=r) (j:=j)) (Nat.le_add_left ..)
theorem MZ:∀{l:Rows}{r:List AV},r∈l->wtR r+1<=wtRs l
 |q::l,r,h=>by
  rw[wtRs]
  rcases List.mem_cons.1 h with rfl|h
  .omega
  .have:=MZ h;omega
theorem Fj:∀(W:Nat)(t:b6),wtRs t.2.2.2.2.2.2<W->(∀q,q∈t.2.2.2.2.2.1->Cn Tryz.prog (lay Tryz.prog 46) q)->(∀q,q∈t.2.2.2.2.2.2->Cn Tryz.prog (lay Tryz.prog 48) q)->gT t|0,_,h,_,_=>absurd h (Nat.not_lt_zero _)|W+1,t,h,h1,h2=>.mk (Ay _ _ (Nat.lt_succ_self _) h1) λr hr=>by have h3:=h2 r hr;rw[MY]at h3;have:=MZ hr;have:=LO (r:=r) (j:=6);exact Fj W _ (by show wtRs (gD r 6)<W;omega) (h3.get (j:=5) rfl) (h3.get (j:=6) rfl)
theorem NP{r:List AV}(h:Cn Tryz.prog (lay Tryz.prog 52) r):CS (dE r):=by
 rw[aa2]at h
 refine⟨λd hd=>?_,λq hq=>?_,Fj _ _ (Nat.lt_succ_self _) (h.get (j:=9) rfl) (h.get (j:=10) rfl)⟩
 .have h1:=h.get (j:=2) rfl d hd;rw[Yq]at h1;exact Ay _ _ (Nat.lt_succ_self _) (h1.get (j:=3) rfl)
 .have h1:=h.get (j:=3) rfl q hq;rw[MY]at h1;exact Fj _ _ (Nat.lt_succ_self _) (h1.get (j:=5) rfl) (h1.get (j:=6) rfl)
theorem law_calls{W:World}{i c:Value}{l k:Rows}{x y:AV}{s:ByteArray}(hP:ProgOK Tryz.prog)(m:Rd Tryz.prog w00S 52 l x)(j:Rd Tryz.prog w00S 52 k y)(hw:wtRs l+wtRs k+s.size<=2097152)(q:∀r,r∈l->Cn Tryz.prog (lay Tryz.prog 52) r)(p:∀r,r∈k->Cn Tryz.prog (lay Tryz.prog 52) r)(z:VR (gw W) x i)(w:VR (gw W) y c):Calls Tryz.prog 3 #[i,c,.string s] W λe w'=>e=.returned (.bool true)/\w'.os=W.os/\w'.output=W.output/\∀b,b<W.heap.size->w'.heap[b]?=W.heap[b]?:=by obtain⟨u,hn⟩:=UM l k s ⟨vD (by omega),va (by omega)⟩ ⟨vD (by omega),va (by omega)⟩ (show s.size<=1099511627776 by omega) (λr hr=>NP (q r hr)) λr hr=>NP (p r hr);have hr:(dh Tryz.prog B0 u).call 3 [.dl 52 l,.dl 52 k,.sc (.string s)] [] [.bool] []=some true:=hn u (ao _);obtain⟨h',hc⟩:=SA hP (Xm hP) abt hr rfl (.cons (.dl m) (.cons (.dl j) (.cons (.sc rfl) .nil))) (t:=4) (λfn hf=>by rw[Tryz.func3]at hf;cases hf;kernel_rfl) (by kernel_rfl);refine(hc (gw W) W [i,c,.string s] (abE (Uf W)) (λ_ _ _=>rfl) ⟨z,w,.sc _,trivial⟩).mono ?_;rintro e w'⟨g',st,_,ho⟩;refine⟨?_,st.os,st.out,λb hb=>st.fr b hb λo v s n e=>by cases e⟩;cases e with|returned x=>cases ho;rfl|panicked _=>exact ho.elim|outgrown=>exact ho.elim
end Go.AI
end
