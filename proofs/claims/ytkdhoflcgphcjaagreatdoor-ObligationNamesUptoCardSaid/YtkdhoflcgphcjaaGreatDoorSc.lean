/- A part of the proof. -/
import Derived.Test.YtkdhoflcgphcjaaGreatDoorSb
set_option linter.all false

section
namespace Go.AI
def cN(P:Program)(w:Wd)(h:AHeap)(i:Nat):ai->Prop|.box t cs=>∃o c sh,w.s i=some (.box o c.length)/\h.get o=some (.cells 0 0 c 0 t true sh)/\ak P w cs c/\cn cs=true/\¬w.F o|.arr t rows aM=>bj P t=some (lay P t).length/\0<(lay P t).length/\isByte P t=false/\((w.s i=some .nil/\rows=[])\/∃o ver mv c ex sh cap,w.s i=some (.sl o ver (rows.length*(lay P t).length) (lay P t).length rows.length cap)/\(∀k,cap=some k->k=rows.length)/\h.get o=some (.cells ver mv c 0 t ex sh)/\mv<=ver/\c.length=rows.length*(lay P t).length/\bG P w (lay P t) rows (chunks (lay P t).length rows.length c)/\(aM=true->True)/\(aM=false->¬w.F o))|.ba s el=>isByte P el=true/\((w.s i=some .nil/\s.size=0)\/∃o ver mv ex fz cap,0<s.size/\w.s i=some (.sl o ver s.size 1 s.size cap)/\(∀k,cap=some k->k=s.size)/\h.get o=some (.cells ver mv (cw s) fz el ex false)/\mv<=ver/\fz<=s.size/\¬w.F o)|.mp t rows aM=>∃e o es cl,lj P t=some e/\w.s i=some (.mp o)/\h.get o=some (.map es cl)/\sd P w e rows es cl/\(aM=false->¬w.F o)|.tr t rows aM=>bj P t=some (lay P t).length/\0<(lay P t).length/\isByte P t=false/\((w.s i=some .nil/\rows=[])\/∃o ver mv c ex sh n,w.s i=some (.sl o ver n (lay P t).length rows.length none)/\h.get o=some (.cells ver mv c 0 t ex sh)/\mv<=ver/\rows.length*(lay P t).length<=n/\rows.length*(lay P t).length<=c.length/\bG P w (lay P t) rows (chunks (lay P t).length rows.length c)/\(aM=false->¬w.F o))|.gone=>True
section
variable {P:Program}{w w':Wd}{ob:Tr ai}{nx:Nat}{h h':AHeap}
theorem af.fO(hs:af P w ob nx h){i:Nat}{x:ai}(hx:ob.get i=some x):cN P w h i x:=by cases x with|box t cs=>exact hs.box i t cs hx|arr t rows aM=>exact hs.arr i t rows aM hx|ba s aM=>exact hs.ba i s aM hx|mp t rows aM=>exact hs.mp i t rows aM hx|tr t rows aM=>exact hs.tr i t rows aM hx|gone=>trivial
theorem cN.move{i:Nat}{x:ai}(hx:cN P w h i x)(hl:aK w w')(hs:∀j k,w.s j=some k->w'.s j=some k)(ho:∀k o,w.s i=some k->k.obj=some o->h'.get o=h.get o/\(w'.F o->w.F o)):cN P w' h' i x:=by
 cases x with
 |box t cs=>obtain⟨o,c,sh,b1,b2,b3,K,J⟩:=hx;obtain⟨q1,q2⟩:=ho _ o b1 rfl;exact⟨o,c,sh,hs _ _ b1,by grind,b3.mono hl hs,K,λf=>J (q2 f)⟩
 |arr t rows aM=>
  obtain⟨G,E,D,C⟩:=hx
  refine⟨G,E,D,?_⟩
  rcases C with⟨q1,q2⟩|⟨o,ver,mv,c,ex,sh,cap,q1,q2,q3,p,m,u,I,q⟩
  .grind
  .obtain⟨p1,p2⟩:=ho _ o q1 rfl;exact .inr ⟨o,ver,mv,c,ex,sh,cap,hs _ _ q1,q2,by grind,p,m,u.mono hl,I,λe f=>q e (p2 f)⟩
 |ba s aM=>
  refine⟨hx.1,?_⟩
  rcases hx.2 with⟨q1,q2⟩|⟨o,ver,mv,ex,fz,cap,L,q1,q2,q3,p,m,I⟩
  .grind
  .obtain⟨p1,p2⟩:=ho _ o q1 rfl;grind
 |mp t rows aM=>obtain⟨e,o,es,cl,q1,q2,q3,p,m⟩:=hx;obtain⟨p1,p2⟩:=ho _ o q2 rfl;exact⟨e,o,es,cl,q1,hs _ _ q2,by grind,p.bI hl.c,λa f=>m a (p2 f)⟩
 |tr t rows aM=>
  obtain⟨G,E,D,C⟩:=hx
  refine⟨G,E,D,?_⟩
  rcases C with⟨q1,q2⟩|⟨o,ver,mv,c,ex,sh,n,q1,q3,p,m,z,u,q⟩
  .grind
  .obtain⟨p1,p2⟩:=ho _ o q1 rfl;exact .inr ⟨o,ver,mv,c,ex,sh,n,hs _ _ q1,by grind,p,m,z,u.mono hl,λe f=>q e (p2 f)⟩|gone=>trivial
theorem af.there(hs:af P w ob nx h){i:Nat}(hi:live ob i){k:Lk}{o:Nat}(hk:w.s i=some k)(ho:k.obj=some o):h.get o≠none:=by
 obtain⟨x,hx,hg⟩:=hi
 have:=hs.fO hx
 cases x with
 |box t cs=>obtain⟨o',c,sh,b1,b2,_⟩:=this;rw[b1]at hk;cases hk;cases ho;grind
 |arr t rows aM=>
  obtain⟨_,_,_,j⟩:=this
  rcases j with⟨q1,_⟩|⟨o',ver,mv,c,ex,sh,cap,q1,_,q3,_⟩
  .rw[q1]at hk;cases hk;cases ho
  .rw[q1]at hk;cases hk;cases ho;grind
 |ba s aM=>
  rcases this.2 with⟨q1,_⟩|⟨o',ver,mv,ex,fz,cap,_,q1,_,q3,_⟩
  .rw[q1]at hk;cases hk;cases ho
  .rw[q1]at hk;cases hk;cases ho;grind
 |mp t rows aM=>obtain⟨_,o',es,cl,_,q2,q3,_⟩:=this;rw[q2]at hk;cases hk;cases ho;grind
 |tr t rows aM=>
  obtain⟨_,_,_,j⟩:=this
  rcases j with⟨q1,_⟩|⟨o',ver,mv,c,ex,sh,n,q1,q3,_⟩
  .rw[q1]at hk;cases hk;cases ho
  .rw[q1]at hk;cases hk;cases ho;grind|gone=>grind
inductive w8:bT->Prop|cells(v mv:Nat)(c:List AV)(fz:Nat)(el:TypeId)(ex sh:Bool):w8 (.cells v mv c fz el ex sh)|map(es:List (AV×AV×Nat))(cl:Nat):w8 (.map es cl)
theorem af.cells(hs:af P w ob nx h){i:Nat}(hi:live ob i){k:Lk}{o:Nat}(hk:w.s i=some k)(ho:k.obj=some o):∃y,h.get o=some y/\w8 y:=by
 obtain⟨x,hx,hg⟩:=hi
 have:=hs.fO hx
 cases x with
 |box t cs=>obtain⟨o',c,sh,b1,b2,_⟩:=this;rw[b1]at hk;cases hk;cases ho;exact⟨_,b2,.cells ..⟩
 |arr t rows aM=>
  obtain⟨_,_,_,j⟩:=this
  rcases j with⟨q1,_⟩|⟨o',ver,mv,c,ex,sh,cap,q1,_,q3,_⟩
  .rw[q1]at hk;cases hk;cases ho
  .rw[q1]at hk;cases hk;cases ho;exact⟨_,q3,.cells ..⟩
 |ba s aM=>
  rcases this.2 with⟨q1,_⟩|⟨o',ver,mv,ex,fz,cap,_,q1,_,q3,_⟩
  .rw[q1]at hk;cases hk;cases ho
  .rw[q1]at hk;cases hk;cases ho;exact⟨_,q3,.cells ..⟩
 |mp t rows aM=>obtain⟨_,o',es,cl,_,q2,q3,_⟩:=this;rw[q2]at hk;cases hk;cases ho;exact⟨_,q3,.map ..⟩
 |tr t rows aM=>
  obtain⟨_,_,_,j⟩:=this
  rcases j with⟨q1,_⟩|⟨o',ver,mv,c,ex,sh,n,q1,q3,_⟩
  .rw[q1]at hk;cases hk;cases ho
  .rw[q1]at hk;cases hk;cases ho;exact⟨_,q3,.cells ..⟩|gone=>grind
theorem af.lv(hs:af P w ob nx h){i:Nat}(hi:live ob i){k:Lk}{o:Nat}(hk:w.s i=some k)(ho:k.obj=some o):¬Lp h.get o:=by rintro⟨x,e,j⟩;obtain⟨_,q,c⟩:=hs.cells hi hk ho;rw[q]at e;cases e;cases c<;>cases j
def Wd.put(w:Wd)(g:Nat->Option bT)(i:Nat)(k:Lk):Wd:={g:=g,F:=w.F,s:=λj=>if j=i then some k else w.s j}
theorem af.fresh(hs:af P w ob nx h){lk:Lk}{x:ai}(ha:∀a,lk.obj=some a->h.get a=none/\a<h'.next)(hg:∀o,lk.obj≠some o->h'.get o=h.get o)(hn:h.next<=h'.next)(q:∀o,h'.next<=o->h'.get o=none)
 (hx:cN P (w.put h'.get nx lk) h' nx x):af P (w.put h'.get nx lk) (ob.put nx x) (nx+1) h'/\aK w (w.put h'.get nx lk)/\(∀i k,w.s i=some k->(w.put h'.get nx lk).s i=some k):=by
 have u:∀i k,w.s i=some k->(w.put h'.get nx lk).s i=some k:=by
  intro i k e
  have:i≠nx:=by rintro rfl;rw[(hs.nx i (Nat.le_refl _)).1]at e;cases e
  simp only[Wd.put];rw[if_neg this];exact e
 have C:∀o,w.F o->lk.obj≠some o:=λo f e=>(hs.bJ o f).2 (ha o e).1
 have z:aK w (w.put h'.get nx lk):=⟨λ_ f=>f,λo x e _=>by rw[hs.g]at e;show h'.get o=_;grind,λo e=>by rw[hs.g]at e;have:h'.get o=h.get o:=hg o λe2=>e (ha o e2).1;show h'.get o≠none/\(Lp h'.get o->Lp w.g o);unfold Lp;rw[this,hs.g];grind,λo f v mv c fz el ex sh e=>⟨v,[],fz,el,ex,sh,by simp only[Wd.put,List.append_nil];rw[hg o (C o f),<-hs.g];exact e,Nat.le_refl _⟩,λo f es cl e=>by show h'.get o=_;rw[hg o (C o f),<-hs.g];exact e⟩
 have p:∀j,live (ob.put nx x) j->j=nx\/(j≠nx/\live ob j):=by
  rintro j⟨y,h1,h2⟩
  by_cases e:j=nx
  .exact .inl e
  .rw[Tr.aB _ _ e]at h1;exact .inr ⟨e,y,h1,h2⟩
 have m:∀i y,(ob.put nx x).get i=some y->cN P (w.put h'.get nx lk) h' i y:=by
  intro i y hy
  by_cases e:i=nx
  .simp_all[Tr.aQ]
  .rw[Tr.aB _ _ e]at hy;cases y with|gone=>trivial|_=>refine(hs.fO hy).move z u λk o h1 h2=>⟨hg o λe2=>?_,λf=>f⟩;exact hs.there ⟨_,hy,by simp⟩ h1 h2 (ha o e2).1
 refine⟨⟨λ_=>rfl,λi t cs e=>m i _ e,λi t rows l e=>m i _ e,λi s l e=>m i _ e,?_,?_,?_,?_,q,λi t rows l e=>m i _ e,λi t rows l e=>m i _ e⟩,z,u⟩
 .intro i j k l o h1 h2 h3 h4 h5 h6
  simp only[Wd.put]at h3 h4
  rcases p i h1 with E|⟨e1,g1⟩
  .rcases p j h2 with D|⟨e2,g2⟩
   .rw[E,D]
   .rw[if_pos E]at h3;rw[if_neg e2]at h4;cases h3;exact absurd (ha o h5).1 (hs.there g2 h4 h6)
  .rcases p j h2 with D|⟨e2,g2⟩
   .rw[if_neg e1]at h3;rw[if_pos D]at h4;cases h4;exact absurd (ha o h6).1 (hs.there g1 h3 h5)
   .rw[if_neg e1]at h3;rw[if_neg e2]at h4;exact hs.inj i j k l o g1 g2 h3 h4 h5 h6
 .intro i k o h1 h2
  simp only[Wd.put]at h1
  split at h1
  .grind
  .exact Nat.lt_of_lt_of_le (hs.lt i k o h1 h2) hn
 .intro i hi
  constructor
  .simp only[Wd.put];rw[if_neg (by omega)];exact(hs.nx i (by omega)).1
  .rw[Tr.aB _ _ (by omega)];exact(hs.nx i (by omega)).2
 .intro o f;obtain⟨q1,q2⟩:=hs.bJ o f;grind
end
end Go.AI
namespace Go.AI
section
variable {P:Program}{w w':Wd}{h h':AHeap}{ρ:Type}
theorem Va{n:Int}{k:UInt8->Option ρ}{r:ρ}(h:Fm n k=some r):0<=n/\n<256/\k (UInt8.ofNat n.toNat)=some r:=by unfold Fm at h;grind
theorem I9:∀{vs:List SV}{xs:List AV}{k:List UInt8->Option ρ}{r:ρ},yT vs k=some r->ak P w vs xs->∃b:List UInt8,k b=some r/\xs=b.map λb=>.sc (.int .u8 b.toNat)
 |[],_,k,r,h,.nil=>⟨[],h,rfl⟩
 |v::vs,_,k,r,h,.cons a b=>by
  unfold yT at h
  split at h
  .grind
  .rename_i k' n us e
   cases e
   obtain⟨h1,h2,h3⟩:=Va h
   obtain⟨bs,q1,q2⟩:=I9 h3 b
   refine⟨_,q1,?_⟩
   cases a
   rw[q2]
   simp only[List.map_cons,List.cons.injEq,and_true,AV.sc.injEq,Value.int.injEq,true_and]
   have:(UInt8.ofNat n.toNat).toNat=n.toNat:=by simp;omega
   grind
  .cases h
theorem bR.cells{w:Wd}:∀{ls:List Lf}{r r':List AV},bR P w ls r r'->r'.all dt=true|_,_,_,.nil=>rfl|_,_,_,.cons a b=>by simp only[List.all_cons,Bool.and_eq_true];refine⟨?_,b.cells⟩;cases a with|sl h=>exact h.cell|_=>rfl
structure N1(P:Program)(w:Wd)(h:AHeap)(S:ad)(k:SV->ad->Option ρ)(r:ρ)(run:AHeap->Option (dv×AHeap)):Prop where ok:∃(F:Nat->Prop)(dT:Tr ai)(obj:bT)(y:Nat->AV)(v:SV)(x:ai)(lk:Nat->Lk),af P (w.more F) dT S.nx h/\fF S.ob dT/\(∀o,F o->Ow w S.ob o)/\(∀hp,run hp=some (.val (y hp.next),hp.alloc obj))/\k v {S with ob:=dT.put S.nx x,nx:=S.nx+1}=some r/\x≠.gone/\(∀a,(lk a).obj=some a)/\∀(w':Wd)(h':AHeap)(a:Nat),aK (w.more F) w'->(∀i k,w.s i=some k->w'.s i=some k)->w'.s S.nx=some (lk a)->h'.get a=some obj->¬w'.F a->cN P w' h' S.nx x/\RV P w' v (y a)
variable {A:cQ}{R:dg A.pn}{kp:TypeId->List AV->ad->Option ρ}
theorem Ja{S:ad}(hs:af P w S.ob S.nx h){t:TypeId}{cs:List SV}{xs:List AV}(hc:ak P w cs xs)(j:cn cs=true){k:SV->ad->Option ρ}{r:ρ}(hr:jk S (.box t cs) (λi st=>k (.ref i 0) st)=some r){run:AHeap->Option (dv×AHeap)}(c:∀hp,run hp=some (.val (jT hp t xs).2,(jT hp t xs).1)):N1 P w h S k r run:=by refine⟨λ_=>False,S.ob,.cells 0 0 xs 0 t true false,λn=>.ref n 0 xs.length 0,.ref S.nx 0,.box t cs,λa=>.box a xs.length,by rw[Wd.i6];exact hs,.refl _,λ_ f=>f.elim,c,hr,by simp,λ_=>rfl,?_⟩;intro w' h' a hl m hn hg hF;rw[Wd.i6]at hl;exact⟨⟨a,xs,false,hn,hg,hc.mono hl m,j,hF⟩,.ref hn⟩
theorem KX{S:ad}(hs:af P w S.ob S.nx h){o:Oper}{ρ':Operand->AV}(D:∀x,x∈o.op.operands.toList->RV P w (bw S.tm x) (ρ' x))(hA:aX o.op=true){k:SV->ad->Option ρ}{r:ρ}(hr:gX P A R kp o S k=some r):
 N1 P w h S k r (aJ P ρ' o):=by
 unfold gX at hr
 simp only at hr
 split at hr
 case h_1=>
  rename_i t j
  split at hr
  .rename_i i hi
   split at hr
   .rename_i z hz
    split at hr
    .rename_i m;refine Ja hs (uC z) m hr λhp=>?_;simp only[aJ,j,dN,hi,hz,Option.map_some];rw[if_pos ((uC (P:=P) (w:=w) z).cells m)]
    .cases hr
   .cases hr
  .cases hr
 case h_2=>
  rename_i t x j
  split at hr
  .rename_i m;have hc:=oc (D x (by rw[j];simp[Op.operands])) (Ed m);refine Ja hs hc m hr λhp=>?_;simp only[aJ,j];rw[if_pos (hc.cells m)]
  .cases hr
 case h_4=>
  rename_i t len parts j
  have hp:=pA.map (P:=P) (w:=w) (e:=bw S.tm) (ρ':=ρ') parts.toList λx hx=>D x (by rw[j];simpa[Op.operands]using hx)
  unfold HN at hr
  split at hr
  .rename_i e hu
   split at hr
   .rename_i s z hz q
    split at hr
    .rename_i ad5
     split at hr
     .rename_i ie V
      split at hr
      .rename_i z' L
       have J:z=bh z':=by simp only[dN,V,L,Option.map_some,Option.some.injEq]at q;exact q.symm
       have E:∀n,ak P w (yS (bc (fL z')) n) (gF (aO z) n):=by intro n;induction n with|zero=>exact .nil|succ n ih=>rw[J];exact(uC z').append (by grind)
       split at hr
       .rename_i cells hf
        obtain⟨xs,e1,e2⟩:=yA hp (E len) hf
        have m:∀{F:Nat->Prop}{rows:List (List AV)},bG P (w.more F) (lay P e) rows (chunks s len xs)->xs.length=len*s->s=(lay P e).length->xs.all dt=true:=by
         intro F rows N hl hs2
         have I:∀{ls:List Lf}{a b:List (List AV)},bG P (w.more F) ls a b->∀r,r∈b->r.all dt=true:=by
          intro ls a b Z
          induction b generalizing a with
          |nil=>grind
          |cons x b ih=>cases Z with
           |cons q1 q2=>intro r hr;rcases List.mem_cons.1 hr with rfl|hr
                        .exact q1.cells
                        grind
         have:=I N;rw[<-chunks_flatten s len xs hl,List.all_eq_true];intro x hx;obtain⟨r,Q,O⟩:=List.mem_flatten.1 hx;exact List.all_eq_true.1 (this r Q) x O
        have T:∀{cs aH:List SV}{ps:List (Nat×SV)}{pl:Nat->Option (Nat×Nat)},jM pl cs ps=some aH->aH.length=cs.length:=by intro cs aH ps pl;induction ps generalizing cs with|nil=>simp_all[Option.some.injEq,jM]|cons p ps ih=>grind[List.length_append,List.length_take,List.length_drop,jM,ot]
        have K:∀n,(yS (bc (fL z')) n).length=n*s:=by intro n;rw[(E n).length];induction n with|zero=>simp[gF]|succ n ih=>grind[List.length_append,Nat.add_mul,gF]
        have hlen:xs.length=len*s:=by rw[<-e2.length,T hf,K]
        split at hr
        .rename_i C
         split at hr
         case h_2=>cases hr
         rename_i Y
         obtain⟨b,q1,q2⟩:=I9 hr e2
         cases b with
         |nil=>cases q1
         |cons b bs=>
          have M:s=1:=Nat.eq_of_beq_eq_true Y
          subst M
          have U:xs=cw ⟨⟨b::bs⟩⟩:=q2
          have hl3:len=(⟨⟨b::bs⟩⟩:ByteArray).size:=by rw[Nat.mul_one]at hlen;rw[<-hlen,U];simp[cw,ByteArray.size]
          refine⟨λ_=>False,S.ob,.cells 0 0 xs 0 e true false,λn=>.sl n 0 xs.length 0 1 len (some len),_,_,λa=>.sl a 0 xs.length 1 len (some len),by rw[Wd.i6];exact hs,.refl _,λ_ f=>f.elim,λhp=>?_,q1,by simp,λ_=>rfl,?_⟩
          .simp_all[if_pos,List.all_map,if_true,aJ,uy,dt]
          .intro w' h' a hl G hn hg hF
           refine⟨⟨C,.inr ⟨a,0,0,true,0,some len,by grind,?_,?_,?_,Nat.le_refl _,Nat.zero_le _,hF⟩⟩,.bX hn⟩
           .grind
           .grind
           grind
        .rename_i C
         split at hr
         .rename_i c
          split at hr
          .rename_i rows u
           obtain⟨F,p1,p2,p4,p3,p5⟩:=lR hs cells
           obtain⟨r1,r2⟩:=CP p3 (λv hv=>hv) u e2
           have X:s=(lay P e).length/\0<s:=by unfold iJ at c;rw[hz,q]at c;simp[Nat.blt_eq]at c;exact⟨c.1.1,c.1.2⟩
           refine⟨F,_,.cells 0 0 xs 0 e true false,λn=>.sl n 0 xs.length 0 s len (some len),_,_,λa=>.sl a 0 xs.length s len (some len),p1,p2,p4,λhp=>?_,hr,by simp,λ_=>rfl,?_⟩
           .simp only[aJ,j,uy,hu,hz,q];grind
           .intro w' h' a hl G hn hg hF
            refine⟨⟨by grind,by grind,C,.inr ⟨a,0,0,xs,true,false,some len,?_,?_,hg,Nat.le_refl _,?_,?_,(λ_=>trivial),λ_=>hF⟩⟩,.bX hn⟩
            .grind
            .grind
            .grind
            .rw[r2,<-X.1];exact r1.mono hl
          .cases hr
         .cases hr
       .cases hr
      .cases hr
     .cases hr
    .cases hr
   .cases hr
  .cases hr
 case h_21=>
  rename_i t j
  split at hr
  .rename_i e hm;refine⟨λ_=>False,S.ob,.map [] 0,λn=>.map n,.om S.nx,.mp t [] false,λa=>.mp a,by rw[Wd.i6];exact hs,.refl _,λ_ f=>f.elim,λhp=>by simp only[aJ,j],hr,by simp,λ_=>rfl,?_⟩;intro w' h' a hl G hn hg hF;exact⟨⟨e,a,[],0,hm,hn,hg,⟨.nil,λ_ e=>by simp at e,List.nodup_nil⟩,λ_=>hF⟩,.om hn⟩
  .cases hr
 all_goals simp_all[aX]
end
end Go.AI
end

section
namespace Go.AI
structure aT(w:Wd)(ob:Tr ai)(h:AHeap)(w':Wd)(ob':Tr ai)(h':AHeap):Prop where
 le:aK w w'
 s:∀i k,w.s i=some k->w'.s i=some k
 next:h.next<=h'.next
 floor:h'.floor=h.floor
 b0:∀o,o<h.next->¬Ow w ob o->h'.get o=h.get o
 own:∀o,Ow w' ob' o->h.next<=o\/Ow w ob o
 F:∀o,w'.F o->w.F o\/h.next<=o\/Ow w ob o
 wr:∀o,o∈h'.wr->o∈h.wr\/h.next<=o\/Ow w ob o\/Lp h.get o
 dA:(∀o,o∈h.wr->o<h.floor)->∀o,o∈h'.wr->o<h'.floor
 bx:∀i t cs,ob.get i=some (.box t cs)->∃aH,ob'.get i=some (.box t aH)
theorem Vb{w:Wd}{ob:Tr ai}{h h':AHeap}{o:Nat}{Q:Nat->Prop}(hk:∀o,o<h.next->¬Ow w ob o->h'.get o=h.get o)(_:∀o,Q o->h.next<=o\/Ow w ob o)(hl:Lp h'.get o):h.next<=o\/Ow w ob o\/Lp h.get o:=by
 rcases Nat.lt_or_ge o h.next with e|e
 .by_cases e2:Ow w ob o
  .grind
  .obtain⟨x,e3,e4⟩:=hl;exact .inr (.inr ⟨x,by grind,e4⟩)
 grind
theorem aT.refl(w:Wd)(ob:Tr ai)(h:AHeap):aT w ob h w ob h:=⟨.refl w,λ_ _ e=>e,ao _,rfl,λ_ _ _=>rfl,λ_ e=>.inr e,λ_ e=>.inl e,λ_ e=>.inl e,λe=>e,λ_ _ cs e=>⟨cs,e⟩⟩
theorem aT.trans{w w' j:Wd}{ob ob' c:Tr ai}{h h' m:AHeap}(a:aT w ob h w' ob' h')(b:aT w' ob' h' j c m):aT w ob h j c m where
 le:=a.le.trans b.le
 s:=λi k e=>b.s i k (a.s i k e)
 next:=Nat.le_trans a.next b.next
 floor:=b.floor.trans a.floor
 b0:=λo h1 h2=>by rw[b.b0 o (Nat.lt_of_lt_of_le h1 a.next) λh3=>(a.own o h3).elim (λh4=>absurd h1 (by omega)) h2];exact a.b0 o h1 h2
 own:=λo e=>by
  rcases b.own o e with h1|h1
  .exact .inl (Nat.le_trans a.next h1)
  .exact a.own o h1
 F:=λo e=>by
  rcases b.F o e with h1|h1|h1
  .exact a.F o h1
  .exact .inr (.inl (Nat.le_trans a.next h1))
  .exact .inr (a.own o h1)
 wr:=λo e=>by
  rcases b.wr o e with h1|h1|h1|h1
  .exact a.wr o h1
  .exact .inr (.inl (Nat.le_trans a.next h1))
  .exact .inr ((a.own o h1).imp id .inl)
  .exact .inr (Vb a.b0 a.own h1)
 dA:=λe=>b.dA (a.dA e);bx:=λi t cs e=>let⟨c1,e1⟩:=a.bx i t cs e;b.bx i t c1 e1
def Wd.heap(w:Wd)(g:Nat->Option bT):Wd:={g:=g,F:=w.F,s:=w.s}
section
variable {P:Program}{w:Wd}{ob ob':Tr ai}{nx:Nat}{h h':AHeap}
theorem aT.bg{F:Nat->Prop}(hl:fF ob ob')(hF:∀o,F o->Ow w ob o):aT w ob h (w.more F) ob' h where
 le:=.more w F
 s:=λ_ _ e=>e
 next:=ao _
 floor:=rfl
 b0:=λ_ _ _=>rfl
 own:=λo⟨i,k,h1,h2,h3⟩=>.inr ⟨i,k,(hl.live i).1 h1,h2,h3⟩
 F:=λo e=>e.elim .inl λe=>.inr (.inr (hF o e))
 wr:=λ_ e=>.inl e
 dA:=λe=>e
 bx:=λi t cs e=>⟨cs,(hl.box i t cs).2 e⟩
theorem mC{l:List Nat}{c o p:Nat}(h:p∈jj l c o):p∈l\/p=o:=by grind[jj]
theorem oo{l:List Nat}{c o:Nat}(hl:∀p,p∈l->p<c):∀p,p∈jj l c o->p<c:=by grind[jj]
theorem aK.aG(hs:af P w ob nx h){o:Nat}{y:bT}(hF:¬w.F o)(hL:¬Lp h.get o)(hy:nJ y=false):aK w (w.heap (h.aG o y).get):=⟨λ_ f=>f,λo' x e i=>by
 have j:o'≠o:=by rintro rfl;exact hL ⟨x,by rw[<-hs.g];exact e,i⟩
 simp only[Wd.heap,AHeap.get,AHeap.aG,Tr.aB _ _ j]
 rw[hs.g]at e;exact e,λo' e=>by
 simp only[Wd.heap,Lp,AHeap.get,AHeap.aG]
 by_cases j:o'=o
 .simp_all[Tr.aQ]
 .rw[Tr.aB _ _ j];rw[hs.g]at e;exact⟨e,λq=>by rw[hs.g];exact q⟩,λo' f v mv c fz el ex sh e=>⟨v,[],fz,el,ex,sh,by have j:o'≠o:=λe=>hF (e▸f);simp only[Wd.heap,List.append_nil,AHeap.get,AHeap.aG,Tr.aB _ _ j];rw[hs.g]at e;exact e,ao _⟩,λo' f es cl e=>by have j:o'≠o:=λe=>hF (e▸f);simp only[Wd.heap,AHeap.get,AHeap.aG,Tr.aB _ _ j];rw[hs.g]at e;exact e⟩
theorem Ee{i:Nat}{c x:ai}(m:ob.get i=some c)(o:∀t cs,c=.box t cs->∃aH,x=.box t aH):∀j t cs,ob.get j=some (.box t cs)->∃aH,(ob.put i x).get j=some (.box t aH):=by grind[Tr.aQ,Tr.aB]
theorem Ef{i:Nat}{x:ai}(c:ob.get i=none):∀j t cs,ob.get j=some (.box t cs)->∃aH,(ob.put i x).get j=some (.box t aH):=by grind[Tr.aB]
theorem af.change(hs:af P w ob nx h){i o:Nat}{G x:ai}{k:Lk}{y:bT}(m:ob.get i=some G)(E:G≠.gone)(K:∀t cs,G=.box t cs->∃aH,x=.box t aH)(hk:w.s i=some k)(ho:k.obj=some o)(hF:¬w.F o)
 (hy:nJ y=false)(hx:cN P (w.heap (h.aG o y).get) (h.aG o y) i x)(hg:x≠.gone):af P (w.heap (h.aG o y).get) (ob.put i x) nx (h.aG o y)/\aT w ob h (w.heap (h.aG o y).get) (ob.put i x) (h.aG o y):=by
 have u:live ob i:=⟨_,m,E⟩
 have C:∀j,live (ob.put i x) j↔live ob j:=λj=>oj m E hg
 have c:∀o',o'≠o->(h.aG o y).get o'=h.get o':=λo' e=>by simp only[AHeap.get,AHeap.aG,Tr.aB _ _ e]
 have M:=hs.lt i k o hk ho
 have D:aK w (w.heap (h.aG o y).get):=.aG hs hF (hs.lv u hk ho) hy
 have q:∀j z,(ob.put i x).get j=some z->cN P (w.heap (h.aG o y).get) (h.aG o y) j z:=by
  intro j z hz
  by_cases e:j=i
  .simp_all[Tr.aQ]
  .rw[Tr.aB _ _ e]at hz;cases z with|gone=>trivial|_=>refine(hs.fO hz).move D (λ_ _ e=>e) λk' o' h1 h2=>⟨c o' λe2=>?_,λf=>f⟩;subst e2;exact e (hs.inj j i k' k o' ⟨_,hz,by simp⟩ u h1 hk h2 ho)
 refine⟨⟨λ_=>rfl,λi t cs e=>q i _ e,λi t rows l e=>q i _ e,λi s l e=>q i _ e,?_,?_,?_,?_,?_,λi t rows l e=>q i _ e,λi t rows l e=>q i _ e⟩,⟨D,λ_ _ e=>e,ao _,rfl,?_,?_,λ_ f=>.inl f,?_,?_,Ee m K⟩⟩
 .intro a b I L o' h1 h2 h3 h4 h5 h6;exact hs.inj a b I L o' ((C a).1 h1) ((C b).1 h2) h3 h4 h5 h6
 .intro a I o' h1 h2;exact hs.lt a I o' h1 h2
 .intro a ha
  refine⟨(hs.nx a ha).1,?_⟩
  have:a≠i:=by rintro rfl;rw[(hs.nx a ha).2]at m;cases m
  rw[Tr.aB _ _ this];exact(hs.nx a ha).2
 .intro o' f;refine⟨(hs.bJ o' f).1,?_⟩;rw[c o' λe=>hF (e▸f)];exact(hs.bJ o' f).2
 .intro o' J;have hn:h.next<=o':=J;rw[c o' (by omega)];exact hs.new o' hn
 .intro o' _ hn;exact c o' λe=>hn (e▸⟨i,k,u,hk,ho⟩)
 .rintro o'⟨j,k',h1,h2,h3⟩;exact .inr ⟨j,k',(C j).1 h1,h2,h3⟩
 .intro p hp
  rcases mC hp with e|rfl
  .exact .inl e
  .exact .inr (.inr (.inl ⟨i,k,u,hk,ho⟩))
 .exactλe=>oo e
theorem bG.oN{w:Wd}{ls:List Lf}:∀{rs cC:List (List AV)},rs.length=cC.length->(∀(i:Nat)(r r':List AV),rs[i]?=some r->cC[i]?=some r'->bR P w ls r r')->bG P w ls rs cC|[],[],_,_=>.nil _|r::rs,r'::cC,hl,h=>.cons (h 0 r r' rfl rfl) (bG.oN (by grind) λi a b h1 h2=>h (i+1) a b (by grind) (by grind))|[],_::_,hl,_=>by simp at hl|_::_,[],hl,_=>by simp at hl
theorem AO(c new:List AV)(p q:Nat)(hp:p+new.length<=c.length):(dn c p new)[q]?=if p<=q/\q<p+new.length then new[q-p]? else c[q]?:=by unfold dn;grind
theorem AP(c new:List AV)(p:Nat)(hp:p+new.length<=c.length):(dn c p new).length=c.length:=by grind[List.length_append,List.length_take,List.length_drop,dn]
theorem bR.oN{w:Wd}:∀{ls:List Lf}{r r':List AV},r.length=ls.length->r'.length=ls.length->(∀(j:Nat)(l:Lf)(c y:AV),ls[j]?=some l->r[j]?=some c->r'[j]?=some y->jw P w l c y)->bR P w ls r r'|[],[],[],_,_,_=>.nil|l::ls,c::r,y::r',h1,h2,h=>.cons (h 0 l c y rfl rfl rfl) (bR.oN (by grind) (by grind) λj l' c' i a b d=>h (j+1) l' c' i (by grind) (by grind) (by grind))|[],_::_,_,h,_,_=>by simp at h|[],[],_::_,_,h,_=>by simp at h|_::_,[],_,h,_,_=>by simp at h|_::_,_::_,[],_,h,_=>by simp at h
theorem bR.dn{w:Wd}{ls:List Lf}{r r' new new':List AV}{off:Nat}(hr:bR P w ls r r')(hn:bR P w ((ls.drop off).take new.length) new new')(hl:off+new.length<=ls.length):bR P w ls (dn r off new) (dn r' off new'):=by
 obtain⟨o,m⟩:=hr.length
 obtain⟨b1,b2⟩:=hn.length
 have b3:((ls.drop off).take new.length).length=new.length:=by grind
 refine .oN (by rw[AP _ _ _ (by omega)];exact o) (by rw[AP _ _ _ (by omega)];exact m) λj l c y h1 h2 h3=>?_
 rw[AO _ _ _ _ (by omega)]at h2 h3
 rw[b2,b3]at h3
 split at h2
 .rename_i hc;rw[if_pos hc]at h3;obtain⟨c',i,e1,e2,e3⟩:=hn.get (j-off) l (by grind);grind
 .rename_i hc;rw[if_neg hc]at h3;obtain⟨c',i,e1,e2,e3⟩:=hr.get j l h1;grind
theorem bG.set{w:Wd}{ls:List Lf}{rows:List (List AV)}{c:List AV}{j:Nat}{dz:List AV}{p:Nat}{new:List AV}(hr:bG P w ls rows (chunks ls.length rows.length c))(hc:c.length=rows.length*ls.length)
 (hj:j<rows.length)(hp:j*ls.length<=p/\p+new.length<=(j+1)*ls.length)(hn:bR P w ls dz ((((dn c p new).drop (j*ls.length)).take ls.length))):bG P w ls (rows.set j dz) (chunks ls.length (rows.set j dz).length (dn c p new)):=by
 have o:(j+1)*ls.length<=rows.length*ls.length:=Nat.mul_le_mul_right _ hj
 refine .oN (by rw[HB]) λi r r' h1 h2=>?_
 have hi:i<rows.length:=by grind
 rw[List.length_set,qq _ _ _ hi]at h2
 cases h2
 by_cases e:i=j
 .grind
 .rw[List.getElem?_set_ne (λe2=>e e2.symm)]at h1
  obtain⟨r',q1,q2⟩:=hr.get i r h1
  rw[qq _ _ _ hi]at q1
  cases q1
  have:((dn c p new).drop (i*ls.length)).take ls.length=(c.drop (i*ls.length)).take ls.length:=by
   apply List.ext_getElem?
   intro q
   rw[List.getElem?_take,List.getElem?_take]
   split
   .rename_i hq
    rw[List.getElem?_drop,List.getElem?_drop,AO _ _ _ _ (by omega),if_neg]
    rintro⟨z,u⟩
    rcases Nat.lt_or_ge i j with m|m
    .have:(i+1)*ls.length<=j*ls.length:=Nat.mul_le_mul_right _ m;grind
    .have m:j+1<=i:=by omega
     have:(j+1)*ls.length<=i*ls.length:=Nat.mul_le_mul_right _ m;omega
   .rfl
  grind
variable {ρ:Type}
theorem TB{S:ad}(hs:af P w S.ob S.nx h){t:TypeId}{a v:SV}{x y:AV}(hx:RV P w a x)(hy:RV P w v y){k:ad->Option ρ}{r:ρ}(hr:D5 P S t a v k=some r):
 ∃w' ob' h',af P w' ob' S.nx h'/\aT w S.ob h w' ob' h'/\k {S with ob:=ob'}=some r/\oG P h t x y=some h':=by
 unfold D5 at hr
 split at hr
 .rename_i s i off hz
  split at hr
  .rename_i t' cs hb
   split at hr
   .rename_i hc;obtain⟨o,c,sh,b1,b2,b3,b4,K⟩:=hs.box i t' cs hb;have m:=oc hy (Ed hc.2.2);have hlen:=m.length;cases hx with|ref e=>rw[b1]at e;simp only[an,Lk.box.injEq]at e;obtain⟨rfl,rfl⟩:=e;have hcl:=b3.length;have I:(dn c off (aO y)).length=c.length:=AP _ _ _ (by omega);obtain⟨q1,q2⟩:=hs.change (y:=.cells 0 0 (dn c off (aO y)) 0 t' true sh) (x:=.box t' (ot cs off (bc v))) hb (by simp) (by grind) b1 rfl K rfl ⟨o,_,sh,by rw[I];exact b1,by simp only[AHeap.get,AHeap.aG,Tr.aQ],(b3.dn m off).mono (.aG hs K (hs.lv ⟨_,hb,by simp⟩ b1 rfl) rfl) (λ_ _ e=>e),Rw off b4 hc.2.2,K⟩ (by simp);refine⟨_,_,_,q1,q2,hr,?_⟩;simp only[oG,hz];rw[if_pos (by grind)];simp only[hT,b2];rw[if_pos ⟨trivial,ao _,by omega,Nat.zero_le _,m.cells hc.2.2⟩]
   .cases hr
  .cases hr
 .rename_i s i j off hz
  split at hr
  .rename_i t' rows hb
   unfold jU at hr
   split at hr
   .rename_i row z
    split at hr
    .rename_i hc
     split at hr
     .rename_i new C
      obtain⟨F,p1,p2,V,p3,p5⟩:=lR hs (bc v)
      have hv:v≠.aA:=by rintro rfl;revert C;generalize((lay P t').drop off).take s=l;cases l<;>simp[bc,rowOf,cellOf]
      have m:=oc hy hv
      have u:=uJ p3 (λv hv=>hv) C m
      obtain⟨n1,n2⟩:=u.length
      have X:(((lay P t').drop off).take s).length=s:=by grind
      obtain⟨a1,a2,a3,a4⟩:=p1.arr i t' rows false hb
      have hj:=xI z
      rcases a4 with⟨_,rfl⟩|⟨o,ver,mv,c,ex,sh,cap,q1,q2,q3,U,T,M,q7,E⟩
      .simp at z
      .cases hx with
       |cV e _=>
        have J:(w.more F).s i=_:=e
        rw[q1]at J
        simp only[an,Lk.sl.injEq]at J
        obtain⟨rfl,rfl,rfl,rfl,rfl,rfl⟩:=J
        have Y:(j+1)*(lay P t').length<=rows.length*(lay P t').length:=Nat.mul_le_mul_right _ hj
        have N:(j+1)*(lay P t').length=j*(lay P t').length+(lay P t').length:=by grind
        obtain⟨dz,L,R⟩:=M.get j row z
        rw[qq _ _ _ hj]at L
        cases L
        have G:bR P (w.more F) (lay P t') (dn row off new) (((dn c (j*(lay P t').length+off) (aO y)).drop (j*(lay P t').length)).take (lay P t').length):=by
         have h5:=R.dn (new:=new) (new':=aO y) (off:=off) (by grind) (by omega)
         have e5:dn ((c.drop (j*(lay P t').length)).take (lay P t').length) off (aO y)=((dn c (j*(lay P t').length+off) (aO y)).drop (j*(lay P t').length)).take (lay P t').length:=by
          have Z:((c.drop (j*(lay P t').length)).take (lay P t').length).length=(lay P t').length:=by grind
          apply List.ext_getElem?
          intro q
          rw[AO _ _ _ _ (by omega),List.getElem?_take,List.getElem?_take,List.getElem?_drop,List.getElem?_drop,AO _ _ _ _ (by omega)]
          by_cases hq:q<(lay P t').length
          .grind
          .grind
         rw[<-e5];exact h5
        have D:=M.set (j:=j) (p:=j*(lay P t').length+off) (new:=aO y) T hj ⟨by omega,by omega⟩ G;obtain⟨Q,O⟩:=p1.change (y:=.cells ver ver (dn c (j*(lay P t').length+off) (aO y)) 0 t' ex sh) (x:=.arr t' (rows.set j (dn row off new)) false) hb (by simp) (by simp) q1 rfl (E rfl) rfl ⟨a1,a2,a3,.inr ⟨o,ver,ver,_,ex,sh,cap,by rw[List.length_set];exact q1,by grind,by simp only[AHeap.get,AHeap.aG,Tr.aQ],ao _,by grind[AP,List.length_set],D.mono (.aG p1 (E rfl) (p1.lv ⟨_,hb,by simp⟩ q1 rfl) rfl),(λ_=>trivial),λ_=>E rfl⟩⟩ (by simp);refine⟨_,_,_,Q,(aT.bg p2 V).trans O,hr,?_⟩;simp only[oG,hz];rw[if_pos (by grind)];simp only[hT,q3];rw[if_pos ⟨trivial,U,by omega,Nat.zero_le _,u.cells⟩]
     .cases hr
    .cases hr
   .cases hr
  .cases hr
 .cases hr
theorem af.move(hs:af P w ob nx h){i:Nat}{J x:ai}{k lk:Lk}{g:Nat->Option bT}{h':AHeap}(z:ob.get i=some J)(R:J≠.gone)(hnb:∀t cs,J≠.box t cs)(Z:∀t rows l,J≠.mp t rows l)(hk:w.s i=some k)
 (hg:g=h'.get)(hn:h'.next=h.next)(S:h'.floor=h.floor)(N:∀p,p∈h'.wr->p∈h.wr\/k.obj=some p)(O:(∀p,p∈h.wr->p<h.floor)->∀p,p∈h'.wr->p<h'.floor)
 (m:∀o,k.obj≠some o->h'.get o=h.get o)(G:∀o,lk.obj=some o->k.obj=some o)
 (Q:∀o,w.F o->k.obj=some o->∀v mv c fz el ex sh,h.get o=some (.cells v mv c fz el ex sh)->∃v' d eW eY eZ eN,h'.get o=some (.cells v' mv (c++d) eW eY eZ eN)/\v<=v')
 (GX:∀o,k.obj=some o->h'.get o≠none/\¬Lp h'.get o)
 (hx:aK w (w.put g nx lk)->(∀j l,w.s j=some l->(w.put g nx lk).s j=some l)->cN P (w.put g nx lk) h' nx x)(Y:x≠.gone):
 af P (w.put g nx lk) ((ob.put i .gone).put nx x) (nx+1) h'/\aT w ob h (w.put g nx lk) ((ob.put i .gone).put nx x) h':=by
 subst hg
 have u:live ob i:=⟨_,z,R⟩
 have V:i≠nx:=by rintro rfl;rw[(hs.nx i (ao _)).2]at z;cases z
 have K:∀j l,w.s j=some l->(w.put h'.get nx lk).s j=some l:=by
  intro j l e
  have:j≠nx:=by rintro rfl;rw[(hs.nx j (ao _)).1]at e;cases e
  simp only[Wd.put];rw[if_neg this];exact e
 have hnm:∀o,k.obj=some o->∀es cl,h.get o≠some (.map es cl):=by
  intro o ho es cl q
  have hr:=hs.fO z
  cases J with
  |box t cs=>grind
  |mp t r l=>grind
  |gone=>grind
  |arr t rows l=>
   obtain⟨_,_,_,T⟩:=hr
   rcases T with⟨q1,_⟩|⟨o',ver,mv,c,ex,sh,cap,q1,_,q3,_⟩
   .rw[q1]at hk;cases hk;cases ho
   .rw[q1]at hk;cases hk;cases ho;grind
  |tr t rows l=>
   obtain⟨_,_,_,T⟩:=hr
   rcases T with⟨q1,_⟩|⟨o',ver,mv,c,ex,sh,n,q1,q3,_⟩
   .rw[q1]at hk;cases hk;cases ho
   .rw[q1]at hk;cases hk;cases ho;grind
  |ba s l=>
   rcases hr.2 with⟨q1,_⟩|⟨o',ver,mv,ex,fz,cap,_,q1,_,q3,_⟩
   .rw[q1]at hk;cases hk;cases ho
   .rw[q1]at hk;cases hk;cases ho;grind
 have L:aK w (w.put h'.get nx lk):=by
  refine⟨λ_ f=>f,λo x e i=>?_,λo e=>?_,λo f v mv c fz el ex sh e=>?_,λo f es cl e=>?_⟩
  .rw[hs.g]at e;show h'.get o=_;rw[m o λe2=>hs.lv u hk e2 ⟨x,e,i⟩];exact e
  .show h'.get o≠none/\(Lp h'.get o->Lp w.g o)
   rw[hs.g]at e
   by_cases D:k.obj=some o
   .grind
   .unfold Lp;rw[m o D,hs.g];grind
  .rw[hs.g]at e
   by_cases D:k.obj=some o
   .exact Q o f D _ _ _ _ _ _ _ e
   .exact⟨v,[],fz,el,ex,sh,by simp only[Wd.put,List.append_nil];grind,ao _⟩
  .rw[hs.g]at e;show h'.get o=_;grind
 have E:∀j,live ((ob.put i .gone).put nx x) j->j=nx\/(j≠nx/\j≠i/\live ob j):=by
  rintro j⟨y,h1,h2⟩
  by_cases e:j=nx
  .exact .inl e
  .rw[Tr.aB _ _ e]at h1
   by_cases e2:j=i
   .grind[Tr.aQ]
   .rw[Tr.aB _ _ e2]at h1;exact .inr ⟨e,e2,y,h1,h2⟩
 have C:∀j y,((ob.put i .gone).put nx x).get j=some y->cN P (w.put h'.get nx lk) h' j y:=by
  intro j y hy
  by_cases e:j=nx
  .grind[Tr.aQ]
  .rw[Tr.aB _ _ e]at hy
   by_cases e2:j=i
   .subst e2;rw[Tr.aQ]at hy;cases hy;trivial
   .rw[Tr.aB _ _ e2]at hy;cases y with|gone=>trivial|_=>refine(hs.fO hy).move L K λl o h1 h2=>⟨m o λe3=>?_,λf=>f⟩;exact e2 (hs.inj j i l k o ⟨_,hy,by simp⟩ u h1 hk h2 e3)
 refine⟨⟨λ_=>rfl,λi t cs e=>C i _ e,λi t rows l e=>C i _ e,λi s l e=>C i _ e,?_,?_,?_,?_,?_,λi t rows l e=>C i _ e,λi t rows l e=>C i _ e⟩,⟨L,K,by omega,S,?_,?_,λ_ f=>.inl f,?_,O,?_⟩⟩
 .intro a b M U o h1 h2 h3 h4 h5 h6
  simp only[Wd.put]at h3 h4
  rcases E a h1 with I|⟨I,X,g1⟩
  .rcases E b h2 with b1|⟨b1,b2,g2⟩
   .rw[I,b1]
   .rw[if_pos I]at h3;rw[if_neg b1]at h4;cases h3;exact absurd (hs.inj b i U k o g2 u h4 hk h6 (G o h5)) b2
  .rcases E b h2 with b1|⟨b1,b2,g2⟩
   .rw[if_neg I]at h3;rw[if_pos b1]at h4;cases h4;exact absurd (hs.inj a i M k o g1 u h3 hk h5 (G o h6)) X
   .rw[if_neg I]at h3;rw[if_neg b1]at h4;exact hs.inj a b M U o g1 g2 h3 h4 h5 h6
 .intro a M o h1 h2
  simp only[Wd.put]at h1
  split at h1
  .cases h1;rw[hn];exact hs.lt i k o hk (G o h2)
  .rw[hn];exact hs.lt a M o h1 h2
 .intro a ha
  constructor
  .simp only[Wd.put];rw[if_neg (by omega)];exact(hs.nx a (by omega)).1
  .rw[Tr.aB _ _ (by omega),Tr.aB]
   .exact(hs.nx a (by omega)).2
   .rintro rfl;rw[(hs.nx a (by omega)).2]at z;cases z
 .intro o f
  refine⟨by rw[hn];exact(hs.bJ o f).1,?_⟩
  by_cases D:k.obj=some o
  .grind
  .rw[m o D];exact(hs.bJ o f).2
 .intro o ho;rw[hn]at ho;rw[m o λe=>by have:=hs.lt i k o hk e;omega];exact hs.new o ho
 .intro o _ h2;exact m o λe=>h2 ⟨i,k,u,hk,e⟩
 .rintro o⟨j,l,h1,h2,h3⟩
  right
  simp only[Wd.put]at h2
  rcases E j h1 with I|⟨I,X,g1⟩
  .rw[if_pos I]at h2;cases h2;exact⟨i,k,u,hk,G o h3⟩
  .rw[if_neg I]at h2;exact⟨j,l,g1,h2,h3⟩
 .intro p hp
  rcases N p hp with e|e
  .exact .inl e
  .exact .inr (.inr (.inl ⟨i,k,u,hk,e⟩))
 .intro j t cs e
  have e2:j≠i:=by grind
  have e3:j≠nx:=by rintro rfl;rw[(hs.nx _ (ao _)).2]at e;cases e
  grind[Tr.aB]
theorem Rd.first{w:Wd}(hg:∀o,w.g o=h.get o){e:TypeId}{rows:List (List AV)}{x:AV}(hd:Rd P w e rows x):∃cells,fh h (lay P e).length rows.length x=some cells/\cells.length=rows.length*(lay P e).length/\bG P w (lay P e) rows (chunks (lay P e).length rows.length cells)/\cells.all dt=true:=by
 have j:∀{ls:List Lf}{a b:List (List AV)},bG P w ls a b->b.flatten.all dt=true/\(∀r,r∈b->r.length=ls.length):=by
  intro ls a b q
  induction b generalizing a with
  |nil=>grind
  |cons x b ih=>cases q with
   |cons q1 q2=>
    obtain⟨p,m⟩:=ih q2
    refine⟨by rw[List.flatten_cons,List.all_append,q1.cells,p];rfl,λr hr=>?_⟩
    rcases List.mem_cons.1 hr with rfl|hr
    .exact q1.length.2
    grind
 cases hd with
 |nil=>exact⟨[],by simp[fh],by simp,.nil _,rfl⟩
 |bC=>exact⟨[],by simp[fh],by simp,.nil _,rfl⟩
 |aI D C a0 i=>rename_i rows';obtain⟨p,m⟩:=j i;have hl:=i.length;refine⟨rows'.flatten,?_,by rw[mF m,hl],by rw[hl,Ct m];exact i,p⟩;simp_all[if_pos,trivial,List.take_length,fh]
 |sl D C hF z h3 h4 h5 h6 u i=>
  rename_i o ver n off v mv fz c el ex sh cap
  obtain⟨p,m⟩:=j i
  have hl:((c.drop off).take (rows.length*(lay P e).length)).length=rows.length*(lay P e).length:=by grind
  have hc:chunks (lay P e).length rows.length ((c.drop off).take (rows.length*(lay P e).length))=chunks (lay P e).length rows.length (c.drop off):=by grind[sA,List.take_append_drop,lay]
  refine⟨(c.drop off).take (rows.length*(lay P e).length),?_,hl,by grind,?_⟩
  .simp_all[if_pos,trivial,ao,fh,cz]
  grind[chunks_flatten,lay]
theorem L0{e:TypeId}{s:ByteArray}{aY r':List AV}{u:AV}(h1:bR P w (lay P e) aY r')(h2:(dG P e=some true/\u=.agg r')\/(dG P e=some false/\r'=[u])):
 ∀{rows:List (List AV)}{es:List (AV×AV×Nat)}(cl j:Nat),jq P w e rows es->(gJ (.string s) es j=some none/\jq P w e (a6 rows s aY) (es++[(.sc (.string s),u,cl)]))\/∃i v b,gJ (.string s) es j=some (some (i+j,v,b))/\jq P w e (a6 rows s aY) (es.set i (.sc (.string s),u,b))/\(es.set i (.sc (.string s),u,b)).map (·.2.2)=es.map (·.2.2)
 |_,_,cl,j,.nil=>.inl ⟨rfl,.cons h1 h2 .nil⟩
 |_,_,cl,j,.cons (s:=q) (r:=m) (r':=p) (v:=v) (c:=c) (rows:=rows) (es:=es) g1 g2 o=>by
  have e1:gJ (.string s) ((.sc (.string q),v,c)::es) j=match some (s==q)with|some true=>some (some (j,v,c))|some false=>gJ (.string s) es (j+1)|none=>none:=rfl
  have e2:a6 ((.sc (.string q)::m)::rows) s aY=match s==q with|true=>(.sc (.string s)::aY)::rows|false=>(.sc (.string q)::m)::a6 rows s aY:=rfl
  rw[e1,e2]
  cases s==q with
  |true=>exact .inr ⟨0,v,c,by simp,.cons h1 h2 o,rfl⟩
  |false=>
   rcases L0 h1 h2 cl (j+1) o with⟨a,b⟩|⟨i,v',c',a,b,b'⟩
   .exact .inl ⟨a,.cons g1 g2 b⟩
   .exact .inr ⟨i+1,v',c',by grind,.cons g1 g2 b,by grind⟩
theorem Vc{S:ad}(hs:af P w S.ob S.nx h){t:TypeId}{m i x:SV}{y z u:AV}(hm:RV P w m y)(hi:RV P w i z)(hx:RV P w x u){k:ad->Option ρ}{r:ρ}(hr:Fk P S t m i x k=some r):
 ∃w' ob' h',af P w' ob' S.nx h'/\aT w S.ob h w' ob' h'/\k {S with ob:=ob'}=some r/\mA P h t y z u=some h':=by
 unfold Fk at hr
 split at hr
 .rename_i e j s p
  obtain⟨F,p1,p2,Q,p3,Y⟩:=lR hs (bc x)
  have key:∀rows aY,(bg S.ob (bc x)).get j=some (.mp t rows false)->rowOf P S.ob (lay P e) (bc x)=some aY->((dG P e=some true/\∃cs,x=.agg cs)\/(dG P e=some false/\∀cs,x≠.agg cs))->
   k {S with ob:=(bg S.ob (bc x)).put j (.mp t (a6 rows s aY) false)}=some r->∃w' ob' h',af P w' ob' S.nx h'/\aT w S.ob h w' ob' h'/\k {S with ob:=ob'}=some r/\mA P h t y z u=some h':=by
   intro rows aY hb q N hr
   have hv:x≠.aA:=by rintro rfl;revert q;generalize lay P e=l;cases l<;>simp[bc,rowOf,cellOf]
   have C:=oc hx hv
   have G:=uJ p3 (λv hv=>hv) q C
   have I:(dG P e=some true/\u=.agg (aO u))\/(dG P e=some false/\aO u=[u]):=by
    rcases N with⟨a,cs,rfl⟩|⟨a,b⟩
    .cases hx with|agg _=>exact .inl ⟨a,rfl⟩
    .exact .inr ⟨a,I3 (hx.na hv b)⟩
   obtain⟨e',o,es,cl,q1,q2,q3,E,D⟩:=p1.mp j t rows false hb
   rw[p]at q1;cases q1
   cases hm with
   |om U=>
    have J:(w.more F).s j=_:=U
    rw[q2]at J;cases J
    cases hi
    obtain⟨Z,_,_,X,V,_⟩:=DJ p
    rcases L0 G I cl 0 E.en with⟨T,O⟩|⟨i,v,b,T,O,R⟩
    .obtain⟨L,K⟩:=p1.change (y:=.map (es++[(.sc (.string s),u,cl)]) (cl+1)) (x:=.mp t (a6 rows s aY) false) hb (by simp) (by simp) q2 rfl (D rfl) rfl
      ⟨e,o,es++[(.sc (.string s),u,cl)],cl+1,p,q2,by simp only[AHeap.get,AHeap.aG,Tr.aQ],⟨O.bI (aK.aG p1 (D rfl) (p1.lv ⟨_,hb,by simp⟩ q2 rfl) rfl).c,λz hz=>by
        rw[List.map_append,List.mem_append]at hz
        rcases hz with hz|hz
        .exact Nat.lt_succ_of_lt (E.lt z hz)
        grind,by rw[List.map_append,List.nodup_append];refine⟨E.nd,by simp,λa ha b M=>?_⟩;simp only[List.map_cons,List.map_nil,List.mem_singleton]at M;have:=E.lt a ha;omega⟩,λ_=>D rfl⟩ (by simp);exact⟨_,_,_,L,(aT.bg p2 Q).trans K,hr,by simp_all[mA,eQ]⟩
    .obtain⟨L,K⟩:=p1.change (y:=.map (es.set i (.sc (.string s),u,b)) cl) (x:=.mp t (a6 rows s aY) false) hb (by simp) (by simp) q2 rfl (D rfl) rfl ⟨e,o,es.set i (.sc (.string s),u,b),cl,p,q2,by simp only[AHeap.get,AHeap.aG,Tr.aQ],⟨O.bI (aK.aG p1 (D rfl) (p1.lv ⟨_,hb,by simp⟩ q2 rfl) rfl).c,by rw[R];exact E.lt,by rw[R];exact E.nd⟩,λ_=>D rfl⟩ (by simp);exact⟨_,_,_,L,(aT.bg p2 Q).trans K,hr,by simp_all[mA,eQ]⟩
  split at hr
  .simp_all
  .cases hr
  .simp_all
  .cases hr
 .cases hr
end
end Go.AI
end

section
namespace Go.AI
section
variable {P:Program}{w:Wd}{ob:Tr ai}{nx:Nat}{h h':AHeap}{ρ:Type}
theorem sT{e:TypeId}(hg:iJ P e=true):bj P e=some (lay P e).length/\0<(lay P e).length/\∃z,dN P e=some z/\(aO z).length=(lay P e).length:=by
 unfold iJ at hg
 split at hg
 .rename_i s z h1 h2;simp[Nat.blt_eq]at hg;grind
 .cases hg
theorem Cz{P:Program}{w:Wd}:∀{ls:List Lf}{a b:List (List AV)},bG P w ls a b->∀r,r∈b->r.length=ls.length
 |_,_,_,.nil _,_,e=>by cases e
 |_,_,_,.cons h1 h2,r,e=>by
  rcases List.mem_cons.1 e with rfl|e
  .exact h1.length.2
  .exact Cz h2 r e
theorem sU{n b:Nat}{k:Option ρ}{r:ρ}(h:fits n b k=some r):n*b<=140737488355328/\k=some r:=by grind[fits]
theorem Io{st p e:TypeId}{q:TypeDesc}{s i n:Nat}{z x y:AV}{new:List AV}(hu:P.underlying st=some (.slice e))(hx:P.underlying p=some q)(hi:isInt q=false)(hn:eK y=some n)(hs:bj P e=some s)(hb:mS P e=some i)(hz:dN P e=some z)(u:(aO z).length=s)(C:0<s)(hf:fh h s n y=some new)(j:new.all dt=true):ky P h st p x y=(match x with
 |.sc (.slice none 0 0)=>if n=0 then some (x,h)else if 0<i/\n*i<=140737488355328 then some (.sl h.next 0 (n*s) 0 s n none,h.alloc (.cells 0 0 new 0 e false false))else none
 |.sl o ver m off sz len cap=>if sz≠s then none else match cap with|some c=>if len+n<=c then(if n=0 then some (x,h)else match hT h o ver m (off+len*s) new with|some h'=>some (.sl o ver m off sz (len+n) (some c),h')|none=>none)else if 0<i/\(len+n)*i<=140737488355328 then match cz h o ver m off (len*s)with|some old=>some (.sl h.next 0 ((len+n)*s) 0 s (len+n) none,h.alloc (.cells 0 0 (old++new) 0 e false false))|none=>none else none|none=>if n=0 then some (x,h)else match h.get o with|some (.cells v mv c fz el _ sh)=>if ver=v/\mv<=v/\off=0/\len*s<=m/\fz<=len*s/\el=e/\0<i/\(len+n)*i<=140737488355328 then some (.sl o (v+1) ((len+n)*s) 0 s (len+n) none,h.aG o (.cells (v+1) (if len*s=c.length then mv else v+1) (c.take (len*s)++new) fz el false sh))else none|_=>none
 |.aN cells sz len (some c)=>if sz≠s\/cells.length≠len*s then none else if n=0 then some (x,h)else if c<len+n/\0<i/\(len+n)*i<=140737488355328 then some (.sl h.next 0 ((len+n)*s) 0 s (len+n) none,h.alloc (.cells 0 0 (cells++new) 0 e false false))else none|.aN _ _ _ none=>if n=0 then some (x,h)else none|.aI _ _=>if n=0 then some (x,h)else none|.bC=>if n=0 then some (x,h)else none|_=>none):=by unfold ky;simp only[hu,hx,hn,hi,hs,hb,hz,hf,j];rw[if_neg (by decide),if_neg (by omega)];simp only[Bool.not_true,Bool.false_eq_true,if_false];cases x<;>rfl
theorem uD{sz:Nat}:∀(a b:Nat)(x y:List AV),x.length=a*sz->chunks sz (a+b) (x++y)=chunks sz a x++chunks sz b y|0,b,x,y,h=>by have:x=[]:=List.eq_nil_of_length_eq_zero (by simpa using h);subst this;simp[chunks]|a+1,b,x,y,h=>by rw[Nat.add_mul,Nat.one_mul]at h;rw[show a+1+b=(a+b)+1 by omega];simp only[chunks,List.cons_append];rw[List.take_append_of_le_length (by omega),List.drop_append_of_le_length (by omega),uD a b (x.drop sz) y (by rw[List.length_drop];omega)]
theorem af.drop(hs:af P w ob nx h){i:Nat}(hi:i<nx)(p:∀t cs,ob.get i≠some (.box t cs)):af P w (ob.put i .gone) nx h/\aT w ob h w (ob.put i .gone) h:=by
 have c:∀j x,x≠.gone->(ob.put i .gone).get j=some x->ob.get j=some x:=by
  intro j x hx hj
  by_cases e:j=i
  .simp_all[Tr.aQ]
  .rw[Tr.aB _ _ e]at hj;exact hj
 have m:∀j,live (ob.put i .gone) j->live ob j:=λj⟨x,h1,h2⟩=>⟨x,c j x h2 h1,h2⟩;refine⟨⟨hs.g,λj t cs e=>hs.box j t cs (c _ _ (by simp) e),λj t rows l e=>hs.arr j t rows l (c _ _ (by simp) e),λj s l e=>hs.ba j s l (c _ _ (by simp) e),λa b k l o h1 h2=>hs.inj a b k l o (m _ h1) (m _ h2),hs.lt,?_,hs.bJ,hs.new,λj t rows l e=>hs.mp j t rows l (c _ _ (by simp) e),λj t rows l e=>hs.tr j t rows l (c _ _ (by simp) e)⟩,⟨.refl w,λ_ _ e=>e,Nat.le_refl _,rfl,λ_ _ _=>rfl,λo⟨j,k,h1,h2,h3⟩=>.inr ⟨j,k,m _ h1,h2,h3⟩,λ_ e=>.inl e,λ_ e=>.inl e,λe=>e,λj t cs e=>⟨cs,by grind[Tr.aB]⟩⟩⟩;intro j hj;exact⟨(hs.nx j hj).1,by rw[Tr.aB _ _ (by omega)];exact(hs.nx j hj).2⟩
theorem af.oZ(hs:af P w ob nx h){i:Nat}{x:ai}(hx:ob.get i=some x):i<nx:=by
 rcases Nat.lt_or_ge i nx with a|a
 .exact a
 .rw[(hs.nx i a).2]at hx;cases hx
theorem af.mZ(hs:af P w ob nx h){lk:Lk}{x:ai}{y:bT}(hl:lk.obj=some h.next)(u:x≠.gone)
 (hx:∀w',aK w w'->w'.s nx=some lk->¬w'.F h.next->cN P w' (h.alloc y) nx x):∃w',w'.s nx=some lk/\af P w' (ob.put nx x) (nx+1) (h.alloc y)/\aT w ob h w' (ob.put nx x) (h.alloc y):=by
 have i:∀o,lk.obj≠some o->(h.alloc y).get o=h.get o:=λo e=>by grind[Tr.aB,AHeap.get,AHeap.alloc]
 have m:(w.put (h.alloc y).get nx lk).s nx=some lk:=by simp[Wd.put]
 have q:¬w.F h.next:=λf=>by have:=(hs.bJ _ f).1;omega
 obtain⟨q1,q2,q3⟩:=hs.fresh (h':=h.alloc y) (lk:=lk) (x:=x) (λa e=>by rw[hl]at e;cases e;exact⟨hs.new _ (Nat.le_refl _),Nat.lt_succ_self _⟩) i (Nat.le_succ _) (λo ho=>by have C:h.next+1<=o:=ho;rw[i o (by grind)];exact hs.new o (by omega)) (hx _ ⟨λ_ f=>f,λo x e _=>by rw[hs.g]at e;show(h.alloc y).get o=_;rw[i o (by rw[hl];intro e2;cases e2;rw[hs.new _ (Nat.le_refl _)]at e;cases e)];exact e,λo e=>by rw[hs.g]at e;have:(h.alloc y).get o=h.get o:=i o (by rw[hl];intro e2;cases e2;exact e (hs.new _ (Nat.le_refl _)));show(h.alloc y).get o≠none/\(Lp (h.alloc y).get o->Lp w.g o);unfold Lp;rw[this,hs.g];grind,λo f v mv c fz el ex sh e=>⟨v,[],fz,el,ex,sh,by simp only[Wd.put,List.append_nil];rw[i o (by grind),<-hs.g];exact e,Nat.le_refl _⟩,λo f es cl e=>by show(h.alloc y).get o=_;rw[i o (by grind),<-hs.g];exact e⟩ m q)
 refine⟨_,m,q1,⟨q2,q3,Nat.le_succ _,rfl,λo ho _=>i o (by grind),?_,λ_ f=>.inl f,λ_ e=>.inl e,λe=>e,Ef (hs.nx _ (Nat.le_refl _)).2⟩⟩
 rintro o⟨j,k,h1,h2,h3⟩
 obtain⟨z,h1,h4⟩:=h1
 simp only[Wd.put]at h2
 split at h2
 .grind
 .rename_i p;rw[Tr.aB _ _ p]at h1;exact .inr ⟨j,k,⟨z,h1,h4⟩,h2,h3⟩
theorem af.rb(hs:af P w ob nx h){x:ai}(m:x≠.gone)(hx:∀w',w'.s nx=some .nil->cN P w' h nx x):∃w',w'.s nx=some .nil/\af P w' (ob.put nx x) (nx+1) h/\aT w ob h w' (ob.put nx x) h:=by
 have c:(w.put h.get nx .nil).s nx=some .nil:=by simp[Wd.put]
 obtain⟨q1,q2,q3⟩:=hs.fresh (h':=h) (lk:=.nil) (x:=x) (λa e=>by cases e) (λ_ _=>rfl) (Nat.le_refl _) hs.new (hx _ c)
 refine⟨_,c,q1,⟨q2,q3,Nat.le_refl _,rfl,λ_ _ _=>rfl,?_,λ_ f=>.inl f,λ_ e=>.inl e,λe=>e,Ef (hs.nx _ (Nat.le_refl _)).2⟩⟩
 rintro o⟨j,k,⟨z,h1,h4⟩,h2,h3⟩
 simp only[Wd.put]at h2
 split at h2
 .cases h2;cases h3
 .rename_i i;rw[Tr.aB _ _ i]at h1;exact .inr ⟨j,k,⟨z,h1,h4⟩,h2,h3⟩
end
end Go.AI
namespace Go.AI
section
variable {P:Program}{w:Wd}{ob:Tr ai}{nx:Nat}{h h':AHeap}{ρ:Type}
theorem af.renamed(hs:af P w ob nx h){i:Nat}{q x:ai}{k:Lk}(j:ob.get i=some q)(m:q≠.gone)(D:∀t cs,q≠.box t cs)(C:∀t rows l,q≠.mp t rows l)(hk:w.s i=some k)(u:x≠.gone)
 (hx:∀w',aK w w'->w'.s nx=some k->(∀o,w'.F o->w.F o)->cN P w' h nx x):∃w',w'.s nx=some k/\af P w' ((ob.put i .gone).put nx x) (nx+1) h/\aT w ob h w' ((ob.put i .gone).put nx x) h:=by
 have z:(w.put h.get nx k).s nx=some k:=by simp[Wd.put]
 obtain⟨q1,q2⟩:=hs.move (lk:=k) (h':=h) (g:=h.get) j m D C hk rfl rfl rfl (λp e=>.inl e) (λe=>e) (λ_ _=>rfl) (λo e=>e) (λo f _ v mv c fz el ex sh e=>⟨v,[],fz,el,ex,sh,by grind,Nat.le_refl _⟩) (λo e=>⟨hs.there ⟨_,j,m⟩ hk e,hs.lv ⟨_,j,m⟩ hk e⟩) (λhl _=>hx _ hl z λ_ f=>f) u;grind
theorem RX{S:ad}(hs:af P w S.ob S.nx h){st xt e:TypeId}{xd:TypeDesc}{a b:SV}{x y:AV}{k:SV->ad->Option ρ}{r:ρ}(hu:P.underlying st=some (.slice e))(hxd:P.underlying xt=some xd)(hint:isInt xd=false)(E:isByte P e=false)
 (hx:RV P w a x)(hy:RV P w b y)(hr:qJ P S e a b k=some r):
 ∃w' ob' nx' h' v z,af P w' ob' nx' h'/\aT w S.ob h w' ob' h'/\k v {S with ob:=ob',nx:=nx'}=some r/\ky P h st xt x y=some (z,h')/\RV P w' v z:=by
 unfold qJ at hr
 split at hr
 case h_2=>cases hr
 rename_i Pb O hbt
 obtain⟨g1,g2,z,g3,g4⟩:=sT O
 rw[E]at hr
 simp only at hr
 split at hr
 .cases hr
 rename_i new T
 obtain⟨F,p1,p2,p4,p3,p5⟩:=lR hs [b]
 have hd:=I4 (by simp) p3 T hy
 obtain⟨cells,c1,c2,c3,c4⟩:=hd.first (h:=h) p1.g
 have hl:=hd.len.1
 have X:=λx=>Io (h:=h) (x:=x) hu hxd hint hl g1 hbt g3 g4 g2 c1 c4
 have m:=aT.bg (h:=h) p2 p4
 split at hr
 .cases hx
  obtain⟨Q,hr⟩:=sU hr
  by_cases hn:new.length=0
  .have K:new=[]:=List.eq_nil_of_length_eq_zero hn;obtain⟨w',e1,e2,e3⟩:=p1.rb (x:=.arr e new false) (by simp) λw' e=>⟨g1,g2,E,.inl ⟨e,K⟩⟩;refine⟨w',_,_,h,_,_,e2,m.trans e3,hr,?_,.ck e1⟩;grind
  .obtain⟨w',e1,e2,e3⟩:=p1.mZ (x:=.arr e new false) (lk:=.sl h.next 0 (new.length*(lay P e).length) (lay P e).length new.length none) (y:=.cells 0 0 cells 0 e false false) rfl (by simp) λw' u e hF=>⟨g1,g2,E,.inr ⟨h.next,0,0,cells,false,false,none,e,(λk e=>by cases e),by simp[AHeap.get,AHeap.alloc,Tr.aQ],Nat.le_refl _,c2,c3.mono u,(λ_=>trivial),λ_=>hF⟩⟩;refine⟨w',_,_,_,_,_,e2,m.trans e3,hr,?_,.bX e1⟩;grind
 .rename_i i
  split at hr
  case h_3=>cases hr
  case h_2=>
   rename_i t rows hb
   split at hr
   .cases hr
   rename_i C j
   split at hr
   case isFalse=>cases hr
   rename_i L;subst L
   obtain⟨Q,hr⟩:=sU hr
   obtain⟨_,_,_,a4⟩:=p1.tr i t rows false hb
   have N:=p1.oZ hb
   have I:RV P (w.more F) (.own i) x:=hx.mono (aK.more _ _) λ_ _ e=>e
   have hn:(C::j).length≠0:=by simp
   rcases a4 with⟨q1,rfl⟩|⟨o,ver,mv,c,ex,sh,n,q1,q3,q4,q5,q5',Z,Y⟩
   .cases I with|bX e=>grind|ck e=>obtain⟨d1,d2⟩:=p1.drop N (by grind);simp only[List.length_nil,Nat.zero_add]at Q;obtain⟨w',e1,e2,e3⟩:=d1.mZ (x:=.tr t ([]++C::j) false) (lk:=.sl h.next 0 ((C::j).length*(lay P t).length) (lay P t).length (C::j).length none) (y:=.cells 0 0 cells 0 t false false) rfl (by simp) λw' u e hF=>⟨g1,g2,E,.inr ⟨h.next,0,0,cells,false,false,_,e,by simp[AHeap.get,AHeap.alloc,Tr.aQ],Nat.le_refl _,Nat.le_refl _,Nat.le_of_eq c2.symm,c3.mono u,λ_=>hF⟩⟩;refine⟨w',_,_,_,_,_,e2,(m.trans d2).trans e3,hr,?_,.bX e1⟩;grind
   .cases I with
    |ck e=>grind
    |bX e=>
     rw[q1]at e
     simp only[Option.some.injEq,Lk.sl.injEq]at e
     obtain⟨rfl,rfl,rfl,rfl,rfl,rfl⟩:=e
     have htk:(c.take (rows.length*(lay P t).length)).length=rows.length*(lay P t).length:=by rw[List.length_take];omega
     have q:(c.take (rows.length*(lay P t).length)++cells).length=(rows++C::j).length*(lay P t).length:=by grind
     have D:bG P (w.more F) (lay P t) (rows++C::j) (chunks (lay P t).length (rows++C::j).length (c.take (rows.length*(lay P t).length)++cells)):=by rw[List.length_append,uD _ _ _ _ htk];refine bG.append ?_ c3;have:=sA (sz:=(lay P t).length) rows.length (c.take (rows.length*(lay P t).length)) (c.drop (rows.length*(lay P t).length)) (by omega);rw[List.take_append_drop]at this;rw[<-this];exact Z
     have M:∀g,((w.more F).put g S.nx (.sl o (ver+1) ((rows.length+(C::j).length)*(lay P t).length) (lay P t).length (rows.length+(C::j).length) none)).s S.nx=some (.sl o (ver+1) ((rows.length+(C::j).length)*(lay P t).length) (lay P t).length (rows.length+(C::j).length) none):=by simp[Wd.put]
     have G:(h.aG o (.cells (ver+1) (if rows.length*(lay P t).length=c.length then mv else ver+1) (c.take (rows.length*(lay P t).length)++cells) 0 t false sh)).get o=some (.cells (ver+1) (if rows.length*(lay P t).length=c.length then mv else ver+1) (c.take (rows.length*(lay P t).length)++cells) 0 t false sh):=by simp[AHeap.get,AHeap.aG,Tr.aQ]
     have GV:(if rows.length*(lay P t).length=c.length then mv else ver+1)<=ver+1:=by grind
     obtain⟨e2,e3⟩:=p1.move (x:=.tr t (rows++C::j) false) (lk:=.sl o (ver+1) ((rows.length+(C::j).length)*(lay P t).length) (lay P t).length (rows.length+(C::j).length) none) (h':=h.aG o (.cells (ver+1) (if rows.length*(lay P t).length=c.length then mv else ver+1) (c.take (rows.length*(lay P t).length)++cells) 0 t false sh)) hb (by simp) (by simp) (by simp) q1 rfl rfl rfl (λp hp=>by rcases mC hp with e|rfl;exact .inl e;exact .inr rfl) (λe=>oo e) (λo' e=>by have:o'≠o:=λe2=>e (by rw[e2];rfl);simp only[AHeap.get,AHeap.aG,Tr.aB _ _ this]) (λo' e=>e) (λo' f ho v' mv' c' eW eY eZ eN hg=>by cases ho;grind) (λo' ho=>by cases ho;rw[G];exact⟨by simp,by rintro⟨x,e1,e2⟩;rw[G]at e1;cases e1;cases e2⟩) (λu _=>⟨g1,g2,E,.inr ⟨o,ver+1,_,_,false,sh,_,by rw[List.length_append];exact M _,G,GV,by grind,Nat.le_of_eq q.symm,D.mono u,λe=>Y e⟩⟩) (by simp);refine⟨_,_,_,_,_,_,e2,m.trans e3,hr,?_,.bX (M _)⟩;grind
  rename_i t rows aM hb
  split at hr
  case isFalse=>cases hr
  rename_i L;subst L
  obtain⟨Q,hr⟩:=sU hr
  obtain⟨_,_,_,a4⟩:=p1.arr i t rows aM hb
  have N:=p1.oZ hb
  have I:RV P (w.more F) (.own i) x:=hx.mono (aK.more _ _) λ_ _ e=>e
  rcases a4 with⟨q1,rfl⟩|⟨o,ver,mv,c,ex,sh,cap,q1,q2,q3,q4,q5,Z,q7,Y⟩
  .cases I with
   |bX e=>grind
   |ck e=>
    obtain⟨d1,d2⟩:=p1.drop N (by grind)
    simp only[List.length_nil,Nat.zero_add]at Q
    by_cases hn:new.length=0
    .have K:new=[]:=List.eq_nil_of_length_eq_zero hn;obtain⟨w',e1,e2,e3⟩:=d1.rb (x:=.arr t ([]++new) aM) (by simp) λw' e=>⟨g1,g2,E,.inl ⟨e,by simp[K]⟩⟩;refine⟨w',_,_,h,_,_,e2,(m.trans d2).trans e3,hr,?_,.ck e1⟩;grind
    .obtain⟨w',e1,e2,e3⟩:=d1.mZ (x:=.arr t ([]++new) aM) (lk:=.sl h.next 0 (new.length*(lay P t).length) (lay P t).length new.length none) (y:=.cells 0 0 cells 0 t false false) rfl (by simp) λw' u e hF=>⟨g1,g2,E,.inr ⟨h.next,0,0,cells,false,false,none,e,(λk e=>by cases e),by simp[AHeap.get,AHeap.alloc,Tr.aQ],Nat.le_refl _,c2,c3.mono u,(λ_=>trivial),λ_=>hF⟩⟩;refine⟨w',_,_,_,_,_,e2,(m.trans d2).trans e3,hr,?_,.bX e1⟩;grind
  .cases I with
   |ck e=>grind
   |bX e=>
    rw[q1]at e
    simp only[Option.some.injEq,Lk.sl.injEq]at e
    obtain⟨rfl,rfl,rfl,rfl,rfl,rfl⟩:=e
    have q:(c++cells).length=(rows++new).length*(lay P t).length:=by grind
    have D:bG P (w.more F) (lay P t) (rows++new) (chunks (lay P t).length (rows++new).length (c++cells)):=by rw[List.length_append,uD _ _ _ _ q5];exact Z.append c3
    by_cases hn:new.length=0
    .have K:new=[]:=List.eq_nil_of_length_eq_zero hn;obtain⟨w',e1,e2,e3⟩:=p1.renamed (x:=.arr t (rows++new) aM) hb (by simp) (by simp) (by simp) q1 (by simp) λw' u e hF=>⟨g1,g2,E,.inr ⟨o,ver,mv,c,ex,sh,cap,by grind,by grind,q3,q4,by grind,by rw[K,List.append_nil];exact Z.mono u,q7,λe f=>Y e (hF _ f)⟩⟩;refine⟨w',_,_,h,_,_,e2,m.trans e3,hr,?_,.bX e1⟩;grind
    .cases cap with
     |some cp=>
      have hcp:=q2 cp rfl
      obtain⟨d1,d2⟩:=p1.drop N (by grind)
      obtain⟨w',e1,e2,e3⟩:=d1.mZ (x:=.arr t (rows++new) aM) (lk:=.sl h.next 0 ((rows.length+new.length)*(lay P t).length) (lay P t).length (rows.length+new.length) none) (y:=.cells 0 0 (c++cells) 0 t false false) rfl (by simp) λw' u e hF=>⟨g1,g2,E,.inr ⟨h.next,0,0,c++cells,false,false,none,by grind,(λk e=>by cases e),by simp[AHeap.get,AHeap.alloc,Tr.aQ],Nat.le_refl _,q,D.mono u,(λ_=>trivial),λ_=>hF⟩⟩
      refine⟨w',_,_,_,_,_,e2,(m.trans d2).trans e3,hr,?_,.bX e1⟩
      rw[X]
      simp only[ne_eq,not_true_eq_false,if_false]
      rw[if_neg (by omega),if_pos ⟨Nat.succ_pos _,Q⟩]
      have R:cz h o ver (rows.length*(lay P t).length) 0 (rows.length*(lay P t).length)=some c:=by simp only[cz,q3];grind
      grind
     |none=>
      have M:∀g,((w.more F).put g S.nx (.sl o (ver+1) ((rows.length+new.length)*(lay P t).length) (lay P t).length (rows.length+new.length) none)).s S.nx=some (.sl o (ver+1) ((rows.length+new.length)*(lay P t).length) (lay P t).length (rows.length+new.length) none):=by simp[Wd.put]
      have G:(h.aG o (.cells (ver+1) mv (c++cells) 0 t false sh)).get o=some (.cells (ver+1) mv (c++cells) 0 t false sh):=by simp[AHeap.get,AHeap.aG,Tr.aQ]
      obtain⟨e2,e3⟩:=p1.move (x:=.arr t (rows++new) aM) (lk:=.sl o (ver+1) ((rows.length+new.length)*(lay P t).length) (lay P t).length (rows.length+new.length) none) (h':=h.aG o (.cells (ver+1) mv (c++cells) 0 t false sh)) hb (by simp) (by simp) (by simp) q1 rfl rfl rfl (λp hp=>by rcases mC hp with e|rfl;exact .inl e;exact .inr rfl) (λe=>oo e) (λo' e=>by have:o'≠o:=λe2=>e (by rw[e2];rfl);simp only[AHeap.get,AHeap.aG,Tr.aB _ _ this]) (λo' e=>e) (λo' f ho v' mv' c' eW eY eZ eN hg=>by cases ho;grind) (λo' ho=>by cases ho;rw[G];exact⟨by simp,by rintro⟨x,e1,e2⟩;rw[G]at e1;cases e1;cases e2⟩) (λu _=>⟨g1,g2,E,.inr ⟨o,ver+1,mv,c++cells,false,sh,none,by grind,(λk e=>by cases e),G,by omega,q,D.mono u,(λ_=>trivial),λe=>Y e⟩⟩) (by simp);refine⟨_,_,_,_,_,_,e2,m.trans e3,hr,?_,.bX (M _)⟩;grind
 .rename_i t rows
  split at hr
  .cases hr
  rename_i C j
  split at hr
  case isFalse=>cases hr
  rename_i L;subst L
  obtain⟨Q,hr⟩:=sU hr
  have I:RV P (w.more F) (.cl t rows) x:=hx.mono (aK.more _ _) λ_ _ e=>e
  cases I with
  |@cl _ _ o ver n off NX J=>
   cases J with
   |@sl _ _ _ _ _ _ v mv fz c el ex sh _ k1 k2 k3 k4 k5 k6 k7 k8 k9 k10=>
    have hn:(C::j).length≠0:=by simp
    have hold:((c.drop off).take (rows.length*(lay P t).length)).length=rows.length*(lay P t).length:=by rw[List.length_take,List.length_drop];omega
    have q:(((c.drop off).take (rows.length*(lay P t).length))++cells).length=(rows++C::j).length*(lay P t).length:=by grind
    have D:bG P (w.more F) (lay P t) (rows++C::j) (chunks (lay P t).length (rows++C::j).length (((c.drop off).take (rows.length*(lay P t).length))++cells)):=by rw[List.length_append,uD _ _ _ _ hold];refine bG.append ?_ c3;have:=sA (sz:=(lay P t).length) rows.length ((c.drop off).take (rows.length*(lay P t).length)) ((c.drop off).drop (rows.length*(lay P t).length)) (by omega);rw[List.take_append_drop]at this;rw[<-this];exact k10
    obtain⟨w',e1,e2,e3⟩:=p1.mZ (x:=.arr t (rows++C::j) false) (lk:=.sl h.next 0 ((rows.length+(C::j).length)*(lay P t).length) (lay P t).length (rows.length+(C::j).length) none) (y:=.cells 0 0 (((c.drop off).take (rows.length*(lay P t).length))++cells) 0 t false false) rfl (by simp) λw' u e hF=>⟨g1,g2,E,.inr ⟨h.next,0,0,_,false,false,none,by grind,(λk e=>by cases e),by simp[AHeap.get,AHeap.alloc,Tr.aQ],Nat.le_refl _,q,D.mono u,(λ_=>trivial),λ_=>hF⟩⟩
    refine⟨w',_,_,_,_,_,e2,m.trans e3,hr,?_,.bX e1⟩
    rw[X]
    simp only[ne_eq,not_true_eq_false,if_false]
    rw[if_neg (by simp),if_pos ⟨Nat.succ_pos _,Q⟩]
    have R:cz h o ver n off (rows.length*(lay P t).length)=some ((c.drop off).take (rows.length*(lay P t).length)):=by
     have V:h.get o=some (.cells v mv c fz el ex sh):=by rw[<-hs.g];exact k4
     simp only[cz,V];grind
    grind
  |@jx _ _ rows' J=>
   have U:=J.length
   have G1:rows'.flatten.length=rows.length*(lay P t).length:=by rw[U];exact mF (Cz J)
   have q:(rows'.flatten++cells).length=(rows++C::j).length*(lay P t).length:=by grind
   have D:bG P (w.more F) (lay P t) (rows++C::j) (chunks (lay P t).length (rows++C::j).length (rows'.flatten++cells)):=by rw[List.length_append,uD _ _ _ _ G1];refine bG.append ?_ c3;rw[U,Ct (Cz J)];exact J
   obtain⟨w',e1,e2,e3⟩:=p1.mZ (x:=.arr t (rows++C::j) false) (lk:=.sl h.next 0 ((rows.length+(C::j).length)*(lay P t).length) (lay P t).length (rows.length+(C::j).length) none) (y:=.cells 0 0 (rows'.flatten++cells) 0 t false false) rfl (by simp) λw' u e hF=>⟨g1,g2,E,.inr ⟨h.next,0,0,_,false,false,none,by grind,(λk e=>by cases e),by simp[AHeap.get,AHeap.alloc,Tr.aQ],Nat.le_refl _,q,D.mono u,(λ_=>trivial),λ_=>hF⟩⟩;refine⟨w',_,_,_,_,_,e2,m.trans e3,hr,?_,.bX e1⟩;grind
 .cases hr
end
end Go.AI
namespace Go.AI
section
variable {P:Program}{w:Wd}{ob:Tr ai}{nx:Nat}{h h':AHeap}{ρ:Type}
theorem Ip(s:ByteArray):(cw s).length=s.size:=by simp[cw]
theorem Ch(s t:ByteArray):cw (s++t)=cw s++cw t:=by simp[cw,ByteArray.data_append]
theorem Ri(s:ByteArray):(cw s).all dt=true:=by rw[List.all_eq_true];intro x hx;unfold cw at hx;obtain⟨b,_,rfl⟩:=List.mem_map.1 hx;rfl
theorem Vd{S:ad}(hs:af P w S.ob S.nx h){b:SV}{y:AV}(hy:RV P w b y){new:ByteArray}
 (he:Fo S.ob b=some new):eK y=some new.size/\fh h 1 new.size y=some (cw new):=by
 unfold Fo at he
 split at he
 .cases he;cases hy;refine⟨rfl,?_⟩;simp only[fh];rw[if_pos ⟨trivial,Nat.le_refl _⟩,List.take_of_length_le (by simp)];rfl
 .rename_i j
  split at he
  .rename_i s t hb;cases he;obtain⟨q1,q2,q3⟩:=I8 (h1:=h) hs hb hy λ_ _=>rfl;grind
  .cases he
 .cases he;cases hy;exact⟨rfl,by simp[fh,cw]⟩
 .cases he
theorem RY{S:ad}(hs:af P w S.ob S.nx h){st N e:TypeId}{O:TypeDesc}{a b:SV}{x y:AV}{k:SV->ad->Option ρ}{r:ρ}(hu:P.underlying st=some (.slice e))(G:P.underlying N=some O)(hint:isInt O=false)(c:isByte P e=true)
 (hx:RV P w a x)(hy:RV P w b y)(hr:qJ P S e a b k=some r):
 ∃w' ob' nx' h' v z,af P w' ob' nx' h'/\aT w S.ob h w' ob' h'/\k v {S with ob:=ob',nx:=nx'}=some r/\ky P h st N x y=some (z,h')/\RV P w' v z:=by
 unfold qJ at hr
 split at hr
 case h_2=>cases hr
 rename_i Pb u L
 obtain⟨g1,g2,z,g3,g4⟩:=sT u
 rw[c]at hr
 simp only at hr
 split at hr
 case h_2=>cases hr
 rename_i q
 have T:(lay P e).length=1:=by rw[g1]at q;simpa using q
 split at hr
 .cases hr
 rename_i new E
 obtain⟨c1,c2⟩:=Vd hs hy E
 have J:=λx=>Io (h:=h) (x:=x) hu G hint c1 q L g3 (by grind) (Nat.zero_lt_one) c2 (Ri new)
 split at hr
 .cases hx
  obtain⟨M,hr⟩:=sU hr
  by_cases hn:new.size=0
  .obtain⟨w',e1,e2,e3⟩:=hs.rb (x:=.ba new e) (by simp) λw' e=>⟨c,.inl ⟨e,hn⟩⟩;refine⟨w',_,_,h,_,_,e2,e3,hr,?_,.ck e1⟩;grind
  .obtain⟨w',e1,e2,e3⟩:=hs.mZ (x:=.ba new e) (lk:=.sl h.next 0 (new.size*1) 1 new.size none) (y:=.cells 0 0 (cw new) 0 e false false) rfl (by simp) λw' m e hF=>⟨c,.inr ⟨h.next,0,0,false,0,none,by omega,by grind,(λk e=>by cases e),by simp[AHeap.get,AHeap.alloc,Tr.aQ],Nat.le_refl _,Nat.zero_le _,hF⟩⟩;refine⟨w',_,_,_,_,_,e2,e3,hr,?_,.bX e1⟩;grind
 .rename_i i
  split at hr
  case h_2=>cases hr
  rename_i s t hb
  split at hr
  case isFalse=>cases hr
  rename_i K;subst K
  obtain⟨M,hr⟩:=sU hr
  obtain⟨_,a4⟩:=hs.ba i s t hb
  have D:=hs.oZ hb
  rcases a4 with⟨q1,F⟩|⟨o,ver,mv,ex,fz,cap,F,q1,q2,q3,U,q5,Q⟩
  .have I:s=.empty:=by cases s with|mk d=>cases d with|mk l=>cases l with|nil=>rfl|cons _ _=>simp[ByteArray.size]at F
   cases hx with
   |bX e=>grind
   |ck e=>
    obtain⟨d1,d2⟩:=hs.drop D (by grind)
    rw[F,Nat.zero_add]at M
    by_cases hn:new.size=0
    .obtain⟨w',e1,e2,e3⟩:=d1.rb (x:=.ba (s++new) t) (by simp) λw' e=>⟨c,.inl ⟨e,by grind⟩⟩;refine⟨w',_,_,h,_,_,e2,d2.trans e3,hr,?_,.ck e1⟩;grind
    .obtain⟨w',e1,e2,e3⟩:=d1.mZ (x:=.ba (s++new) t) (lk:=.sl h.next 0 (new.size*1) 1 new.size none) (y:=.cells 0 0 (cw new) 0 t false false) rfl (by simp) λw' m e hF=>⟨c,.inr ⟨h.next,0,0,false,0,none,by grind,by grind,(λk e=>by cases e),by rw[Ch,I];simp[AHeap.get,AHeap.alloc,Tr.aQ,cw],Nat.le_refl _,Nat.zero_le _,hF⟩⟩;refine⟨w',_,_,_,_,_,e2,d2.trans e3,hr,?_,.bX e1⟩;grind
  .cases hx with
   |ck e=>grind
   |bX e=>
    rw[q1]at e
    simp only[Option.some.injEq,Lk.sl.injEq]at e
    obtain⟨rfl,rfl,rfl,rfl,rfl,rfl⟩:=e
    have Z:=Ip s
    by_cases hn:new.size=0
    .have C:s++new=s:=by
      apply ByteArray.ext
      rw[ByteArray.data_append]
      have:new.data=#[]:=by have h0:new.data.size=0:=hn;exact Array.eq_empty_of_size_eq_zero h0
      grind
     obtain⟨w',e1,e2,e3⟩:=hs.renamed (x:=.ba (s++new) t) hb (by simp) (by simp) (by simp) q1 (by simp) λw' m e hF=>⟨c,.inr ⟨o,ver,mv,ex,fz,cap,by grind,by grind,by grind,by grind,U,by grind,λf=>Q (hF _ f)⟩⟩;refine⟨w',_,_,h,_,_,e2,e3,hr,?_,.bX e1⟩;grind
    .have X:(s++new).size=s.size+new.size:=ByteArray.size_append
     cases cap with
     |some cp=>
      have Y:=q2 cp rfl
      obtain⟨d1,d2⟩:=hs.drop D (by grind)
      obtain⟨w',e1,e2,e3⟩:=d1.mZ (x:=.ba (s++new) t) (lk:=.sl h.next 0 ((s.size+new.size)*1) 1 (s.size+new.size) none) (y:=.cells 0 0 (cw s++cw new) 0 t false false) rfl (by simp) λw' m e hF=>⟨c,.inr ⟨h.next,0,0,false,0,none,by omega,by grind,(λk e=>by cases e),by rw[Ch];simp[AHeap.get,AHeap.alloc,Tr.aQ],Nat.le_refl _,Nat.zero_le _,hF⟩⟩
      refine⟨w',_,_,_,_,_,e2,d2.trans e3,hr,?_,.bX e1⟩
      rw[J]
      simp only[ne_eq,not_true_eq_false,if_false]
      rw[if_neg (by omega),if_pos ⟨Nat.succ_pos _,M⟩]
      have R:cz h o ver s.size 0 (s.size*1)=some (cw s):=by simp only[cz,q3];grind
      grind
     |none=>
      have C:∀g,(w.put g S.nx (.sl o (ver+1) ((s.size+new.size)*1) 1 (s.size+new.size) none)).s S.nx=some (.sl o (ver+1) ((s.size+new.size)*1) 1 (s.size+new.size) none):=by simp[Wd.put]
      have j:(h.aG o (.cells (ver+1) mv (cw s++cw new) fz t false false)).get o=some (.cells (ver+1) mv (cw s++cw new) fz t false false):=by simp[AHeap.get,AHeap.aG,Tr.aQ]
      obtain⟨e2,e3⟩:=hs.move (x:=.ba (s++new) t) (lk:=.sl o (ver+1) ((s.size+new.size)*1) 1 (s.size+new.size) none) (h':=h.aG o (.cells (ver+1) mv (cw s++cw new) fz t false false)) hb (by simp) (by simp) (by simp) q1 rfl rfl rfl (λp hp=>by rcases mC hp with e|rfl;exact .inl e;exact .inr rfl) (λe=>oo e) (λo' e=>by have:o'≠o:=λe2=>e (by rw[e2];rfl);simp only[AHeap.get,AHeap.aG,Tr.aB _ _ this]) (λo' e=>e) (λo' f ho v' V c' eW eY eZ eN hg=>by cases ho;grind) (λo' ho=>by cases ho;rw[j];exact⟨by simp,by rintro⟨x,e1,e2⟩;rw[j]at e1;cases e1;cases e2⟩) (λm _=>⟨c,.inr ⟨o,ver+1,mv,false,fz,none,by omega,by grind,(λk e=>by cases e),by rw[Ch];exact j,by omega,by omega,Q⟩⟩) (by simp);refine⟨_,_,_,_,_,_,e2,e3,hr,?_,.bX (C _)⟩;grind
 .cases hr
end
end Go.AI
end

section
namespace Go.AI
section
variable {P:Program}{w:Wd}{ob:Tr ai}{nx:Nat}{h h':AHeap}{ρ:Type}
theorem Ve{s:ByteArray}{n:Int}{k:ByteArray->Option ρ}{r:ρ}(h:head s n k=some r):0<n/\n<=s.size/\n<=9223372036854775807/\k (s.extract 0 n.toNat)=some r:=by unfold head at h;grind
theorem Q5(s:ByteArray)(n:Nat):iC ((cw s).take n)=some (s.data.toList.take n):=by unfold cw;rw[<-List.map_take];generalize s.data.toList.take n=l;induction l with|nil=>rfl|cons b bs ih=>simp only[List.map_cons,iC,ih,Option.map_some];simp_all
theorem Vf{S:ad}(hs:af P w S.ob S.nx h){i:Nat}{s:ByteArray}{t:TypeId}{x:AV}{kd:IntKind}{n:Int}{E:TypeId}(hb:S.ob.get i=some (.ba s t))(hx:RV P w (.fG i) x)(hu:P.underlying E=some (.pointer t))(hz:bj P t=some 1)
 (h0:0<n)(h1:n<=s.size)(h2:n<=9223372036854775807):
 ∃w' h',af P w' S.ob S.nx h'/\aT w S.ob h w' S.ob h'/\sw P h E x (.sc (.int kd n))=some (.sc (.string (s.extract 0 n.toNat)),h'):=by
 obtain⟨C,K⟩:=hs.ba i s t hb
 cases hx with
 |fG e=>
  rcases K with⟨q1,_⟩|⟨o,ver,mv,ex,fz,cap,I,q1,q2,q3,G,L,D⟩
  .grind
  .rw[q1]at e
   simp only[an,Lk.sl.injEq]at e
   obtain⟨rfl,rfl,rfl,rfl,rfl,rfl⟩:=e
   obtain⟨m,hm⟩:∃m,n.toNat=m+1:=⟨n.toNat-1,by omega⟩
   have J:=Ip s
   obtain⟨e1,e2⟩:=hs.change (x:=.ba s t) (y:=.cells ver ver (cw s) (max fz (0+(m+1))) t ex false) hb (by simp) (by simp) q1 rfl D rfl ⟨C,.inr ⟨o,ver,ver,ex,max fz (0+(m+1)),cap,I,q1,q2,by simp only[AHeap.get,AHeap.aG,Tr.aQ],ao _,by omega,D⟩⟩ (by simp)
   have c:af P (w.heap (h.aG o (.cells ver ver (cw s) (max fz (0+(m+1))) t ex false)).get) S.ob S.nx (h.aG o (.cells ver ver (cw s) (max fz (0+(m+1))) t ex false))/\aT w S.ob h (w.heap (h.aG o (.cells ver ver (cw s) (max fz (0+(m+1))) t ex false)).get) S.ob (h.aG o (.cells ver ver (cw s) (max fz (0+(m+1))) t ex false)):=by
    have p:∀j,(S.ob.put i (.ba s t)).get j=S.ob.get j:=by
     intro j
     by_cases e:j=i
     .subst e;rw[Tr.aQ,hb]
     .rw[Tr.aB _ _ e]
    have q:∀j,live S.ob j->live (S.ob.put i (.ba s t)) j:=λj⟨z,a,b⟩=>⟨z,by grind,b⟩;refine⟨⟨e1.g,λj t cs e=>e1.box j t cs (by grind),λj t rows l e=>e1.arr j t rows l (by grind),λj s l e=>e1.ba j s l (by grind),λa b k l o p1 p2=>e1.inj a b k l o (q _ p1) (q _ p2),e1.lt,?_,e1.bJ,e1.new,λj t rows l e=>e1.mp j t rows l (by grind),λj t rows l e=>e1.tr j t rows l (by grind)⟩,⟨e2.le,e2.s,e2.next,e2.floor,e2.b0,λo⟨j,k,p1,p2,p3⟩=>e2.own o ⟨j,k,q _ p1,p2,p3⟩,e2.F,e2.wr,e2.dA,λj t cs e=>⟨cs,e⟩⟩⟩;intro j hj;have:=e1.nx j hj;rw[p]at this;exact this
   refine⟨_,_,c.1,c.2,?_⟩
   simp only[sw,n0 (show 0<=n by omega),hm,hu,q3]
   rw[if_pos ⟨trivial,G,trivial,hz,by omega⟩]
   have u:cz h o ver s.size 0 (m+1)=some ((cw s).take (m+1)):=by simp only[cz,q3];grind
   simp only[u,Q5,Option.map_some]
   congr 3
   have:(⟨(s.data.toList.take (m+1)).toArray⟩:ByteArray)=s.extract 0 (m+1):=by apply ByteArray.ext;apply Array.ext';simp
   rw[this]
variable {A:cQ}{R:dg A.pn}{kp:TypeId->List AV->ad->Option ρ}
def vR:Op->Bool|.call c=>(match c.callee with|.value _=>true|_=>false)|_=>false
theorem TC{S:ad}(hs:af P w S.ob S.nx h){v:SV}{y:AV}(hy:RV P w v y){k:SV->ad->Option ρ}{r:ρ}(hr:EN S v k=some r):
 ∃w' ob' nx' v',af P w' ob' nx' h/\aT w S.ob h w' ob' h/\k v' {S with ob:=ob',nx:=nx'}=some r/\RV P w' v' y:=by
 unfold EN at hr
 split at hr
 .rename_i i m
  split at hr
  .rename_i t rows hb
   obtain⟨g1,g2,z,F⟩:=hs.tr i t rows false hb
   have C:∀g lk,(w.put g S.nx lk).s S.nx=some lk:=by simp[Wd.put]
   have hn:∀{k':Lk}{o:Nat},w.s i=some k'->k'.obj=some o->h.get o≠none/\¬Lp h.get o:=λe e2=>⟨hs.there ⟨_,hb,by simp⟩ e e2,hs.lv ⟨_,hb,by simp⟩ e e2⟩
   cases hy with
   |mY q hz=>
    rcases F with⟨_,rfl⟩|⟨o,ver,mv,c,ex,sh,n,u,_⟩
    .obtain⟨q1,q2⟩:=hs.move (x:=.tr t (([]:List (List AV)).take m.toNat) false) (lk:=.nil) (h':=h) (g:=h.get) hb (by simp) (by simp) (by simp) q rfl rfl rfl (λp e=>.inl e) (λe=>e) (λ_ _=>rfl) (λo e=>by cases e) (λo _ e=>by cases e) (λo e=>by cases e) (λhl _=>⟨g1,g2,z,.inl ⟨C _ _,by simp⟩⟩) (by simp);exact⟨_,_,_,_,q1,q2,hr,.ck (C _ _)⟩
    grind
   |nw q D=>
    rcases F with⟨u,_⟩|⟨o,ver,mv,c,ex,sh,n,u,q3,K,L,J,I,G⟩
    .grind
    .rw[u]at q;simp only[an,Lk.sl.injEq]at q
     obtain⟨rfl,rfl,rfl,rfl,rfl,rfl⟩:=q
     have hlen:(rows.take m.toNat).length=m.toNat:=by rw[List.length_take];omega
     have E:m.toNat*(lay P t).length<=rows.length*(lay P t).length:=Nat.mul_le_mul_right _ D;have j:=I.sub 0 m.toNat;rw[List.drop_zero,xz _ _ _ _ (by omega)]at j;simp only[Nat.zero_mul,List.drop_zero]at j;obtain⟨q1,q2⟩:=hs.move (x:=.tr t (rows.take m.toNat) false) (lk:=.sl o ver n (lay P t).length m.toNat none) (h':=h) (g:=h.get) hb (by simp) (by simp) (by simp) u rfl rfl rfl (λp e=>.inl e) (λe=>e) (λ_ _=>rfl) (λo e=>e) (λo f _ v mv c fz el ex sh e=>⟨v,[],fz,el,ex,sh,by grind,ao _⟩) (λo e=>hn u e) (λhl _=>⟨g1,g2,z,.inr ⟨o,ver,mv,c,ex,sh,n,by grind,q3,K,by grind,by grind,by rw[hlen];exact j.mono hl,λe f=>G e f⟩⟩) (by simp);exact⟨_,_,_,_,q1,q2,hr,.bX (C _ _)⟩
  .cases hr
 .exact⟨w,S.ob,S.nx,_,hs,.refl _ _ _,hr,hy⟩
theorem Vg{S:ad}(hs:af P w S.ob S.nx h){o:Oper}{ρ':Operand->AV}(C:∀x,x∈o.op.operands.toList->RV P w (bw S.tm x) (ρ' x))(hA:aX o.op=false)(hF:bN o.op=false)(hC:vR o.op=false){k:SV->ad->Option ρ}{r:ρ}(hr:gX P A R kp o S k=some r):
 ∃w' ob' nx' h' v y,af P w' ob' nx' h'/\aT w S.ob h w' ob' h'/\k v {S with ob:=ob',nx:=nx'}=some r/\(aJ P ρ' o h=some (.val y,h')\/aJ P ρ' o h=some (.skip,h')/\y=dm)/\RV P w' v y:=by
 unfold gX at hr
 simp only at hr
 split at hr
 case h_1=>simp_all[aX]
 case h_2=>simp_all[aX]
 case h_3=>simp_all[bN]
 case h_4=>simp_all[aX]
 case h_5=>simp_all[bN]
 case h_6=>rename_i t a x q;obtain⟨w1,O,Q,v1,p1,p2,p3,p4⟩:=TC hs (C x (by rw[q];simp[Op.operands])) hr;obtain⟨w',ob',h',q1,q2,q3,K⟩:=TB (S:={S with ob:=O,nx:=Q}) p1 ((C a (by rw[q];simp[Op.operands])).mono p2.le p2.s) p4 p3;exact⟨w',ob',_,h',_,dm,q1,p2.trans q2,q3,.inr ⟨by simp only[aJ,q];rw[K];rfl,rfl⟩,.bl .nil⟩
 case h_19=>
  rename_i c q
  obtain⟨callee,args,M⟩:=c
  cases callee with
  |invoke x m=>cases hr
  |value f=>rw[q]at hC;cases hC
  |builtin b=>
   simp only at hr
   have p:∀a,a∈args.toList->RV P w (bw S.tm a) (ρ' a):=λa ha=>C a (by simp_all[Op.operands,Call.operands])
   have E:∀x y,args.toList.map (bw S.tm)=[x,y]->∃a b,args.toList=[a,b]/\bw S.tm a=x/\bw S.tm b=y:=by intro x y hl;cases h0:args.toList with|nil=>grind|cons a l=>cases l with|nil=>grind|cons b l=>cases l with|nil=>grind|cons _ _=>grind
   unfold xS at hr
   split at hr
   .rename_i x y hl
    obtain⟨a,b,G,hx,hy⟩:=E x y hl
    have h1:=p a (by grind)
    have h2:=p b (by grind)
    rw[hx]at h1;rw[hy]at h2
    have fin:∀e t t' d,M[0]?=some t->M[1]?=some t'->P.underlying t=some (.slice e)->P.underlying t'=some d->isInt d=false->qJ P S e x y k=some r->
     ∃w' ob' nx' h' v z,af P w' ob' nx' h'/\aT w S.ob h w' ob' h'/\k v {S with ob:=ob',nx:=nx'}=some r/\(aJ P ρ' o h=some (.val z,h')\/aJ P ρ' o h=some (.skip,h')/\z=dm)/\RV P w' v z:=by
     intro e t t' d ht F hu D hi hr
     have key:∃w' ob' nx' h' v z,af P w' ob' nx' h'/\aT w S.ob h w' ob' h'/\k v {S with ob:=ob',nx:=nx'}=some r/\ky P h t t' (ρ' a) (ρ' b)=some (z,h')/\RV P w' v z:=by cases L:isByte P e with|true=>exact RY hs hu D hi L h1 h2 hr|false=>exact RX hs hu D hi L h1 h2 hr
     obtain⟨w',ob',nx',h',v,z,q1,q2,q3,K,N⟩:=key;refine⟨w',ob',nx',h',v,z,q1,q2,q3,.inl ?_,N⟩;simp only[aJ,q,fE,fe,G,List.map_cons,List.map_nil,ht,F];rw[Rk K];rfl
    split at hr
    .rename_i t t' ht F
     split at hr
     .rename_i e d hu D;exact fin e t t' _ ht F hu D rfl hr
     .rename_i e hu D;exact fin e t t' _ ht F hu D rfl hr
     .cases hr
    .cases hr
   .rw[q]at hF;cases hF
   .rw[q]at hF;cases hF
   .rw[q]at hF;cases hF
   .rename_i kd n hl
    obtain⟨a,b,G,hx,hy⟩:=E _ _ hl
    obtain⟨Z,J⟩:∃y,ρ' a=y:=⟨_,rfl⟩
    obtain⟨Y,I⟩:∃y,ρ' b=y:=⟨_,rfl⟩
    have h1:=p a (by grind)
    have h2:=p b (by grind)
    rw[hx,J]at h1;rw[hy,I]at h2
    cases h1;cases h2
    rcases sS hr with⟨hn,hr⟩|⟨_,hr⟩
    .have hn:n=0:=by simpa using hn
     subst hn
     split at hr
     .rename_i pt T;refine⟨w,S.ob,S.nx,h,_,_,hs,.refl _ _ _,hr,.inl ?_,.sc rfl⟩;simp_all[List.map_cons,List.map_nil,aJ,fE,fe,sw,ff]
     .cases hr
    .cases hr
   .rename_i i kd n hl
    obtain⟨a,b,G,hx,hy⟩:=E _ _ hl
    obtain⟨Z,J⟩:∃y,ρ' a=y:=⟨_,rfl⟩
    obtain⟨Y,I⟩:∃y,ρ' b=y:=⟨_,rfl⟩
    have h1:=p a (by grind)
    have h2:=p b (by grind)
    rw[hx,J]at h1;rw[hy,I]at h2
    cases h2
    split at hr
    .rename_i s t pt hb T
     split at hr
     .rename_i u hu
      split at hr
      .rename_i hz
       split at hr
       .rename_i e;subst e;obtain⟨b1,b2,b3,hr⟩:=Ve hr;obtain⟨w',h',q1,q2,q3⟩:=Vf (kd:=kd) hs hb h1 hu hz b1 b2 b3;refine⟨w',S.ob,S.nx,h',_,_,q1,q2,hr,.inl ?_,.sc rfl⟩;simp_all[List.map_cons,List.map_nil,aJ,fE,fe]
       .cases hr
      .cases hr
     .cases hr
    .cases hr
   .rename_i j hl
    obtain⟨a,G,hx⟩:∃a,args.toList=[a]/\bw S.tm a=.om j:=by simp_all
    have h1:=p a (by grind)
    rw[hx]at h1
    obtain⟨y,hy⟩:∃y,ρ' a=y:=⟨_,rfl⟩
    rw[hy]at h1
    split at hr
    .rename_i t rows d hb hd;obtain⟨e',o2,es,cl,q1,q2,q3,K,N⟩:=hs.mp j t rows false hb;cases h1 with|om U=>rw[q2]at U;cases U;obtain⟨X,V⟩:=hs.change (y:=.map [] cl) (x:=.mp t [] false) hb (by simp) (by simp) q2 rfl (N rfl) rfl ⟨e',o2,[],cl,q1,q2,by simp only[AHeap.get,AHeap.aG,Tr.aQ],⟨.nil,λz hz=>by simp at hz,by simp⟩,λ_=>N rfl⟩ (by simp);refine⟨_,_,S.nx,_,_,dm,X,V,hr,.inl ?_,.bl .nil⟩;simp_all[List.map_cons,List.map_nil,aJ,fE,fe]
    .cases hr
   .cases hr
 case h_21=>simp_all[aX]
 case h_23=>rename_i t m i x q;obtain⟨w',ob',h',q1,q2,q3,K⟩:=Vc hs (C m (by rw[q];simp[Op.operands])) (C i (by rw[q];simp[Op.operands])) (C x (by rw[q];simp[Op.operands])) hr;exact⟨w',ob',_,h',_,dm,q1,q2,q3,.inr ⟨by simp only[aJ,q];rw[K];rfl,rfl⟩,.bl .nil⟩
 all_goals first|(simp_all[bN];done)|cases hr
end
end Go.AI
end

section
namespace Go.AI
def Wd.sub(w:Wd)(L:List Nat):Wd:={g:=w.g,F:=w.F,s:=λj=>(L[j]?).bind w.s}
theorem vj:∀{L:List Nat}{i j:Nat},idx L i=some j->L[j]?=some i
 |[],_,_,h=>by cases h
 |y::ys,i,j,h=>by
  simp only[idx]at h
  split at h
  .rename_i hb;cases h;simp[Nat.eq_of_beq_eq_true hb]
  .cases hi:idx ys i with|none=>rw[hi]at h;cases h|some k=>rw[hi]at h;cases h;simpa using vj hi
theorem DK:∀{L:List Nat}{x:Nat},l9 L x=false->x∉L|[],_,_=>by simp|y::ys,x,h=>by simp only[l9,Bool.or_eq_false_iff]at h;simp only[List.mem_cons,not_or];exact⟨Nat.ne_of_beq_eq_false h.1,DK h.2⟩
theorem JX:∀{L:List Nat},nodup L=true->∀(i j x:Nat),L[i]?=some x->L[j]?=some x->i=j
 |[],_,i,j,x,h,_=>by simp at h
 |y::ys,hn,i,j,x,h1,h2=>by
  simp only[nodup,aZ,Bool.not_eq_true']at hn
  have c:=DK hn.1
  cases i with
  |zero=>cases j with|zero=>rfl|succ j=>simp at h1 h2;subst h1;exact absurd (List.mem_of_getElem? h2) c
  |succ i=>cases j with|zero=>simp at h1 h2;subst h2;exact absurd (List.mem_of_getElem? h1) c|succ j=>simp at h1 h2;rw[JX hn.2 i j x h1 h2]
theorem H0{α:Type}:∀(xs:List α)(i:Nat)(t:Tr α)(k:Nat),(bH xs i t).get k=if i<=k/\k<i+xs.length then xs[k-i]? else t.get k
 |[],i,t,k=>by simp[bH];grind
 |x::xs,i,t,k=>by
  simp only[bH]
  rw[H0 xs (i+1) (t.put i x) k]
  by_cases h1:k=i
  .subst h1;rw[if_neg (by omega),if_pos (by simp),Tr.aQ];simp
  .rw[Tr.aB _ _ h1];grind
theorem qD{α:Type}(xs:List α)(k:Nat):(bH xs 0 .leaf).get k=xs[k]?:=by
 rw[H0]
 split
 .simp
 .rename_i h;rw[List.getElem?_eq_none (by omega)];rfl
section
variable {P:Program}{w w':Wd}{ob ob':Tr ai}{nx:Nat}{h h':AHeap}{ρ:Type}
theorem aK.sub(w:Wd)(L:List Nat):aK w (w.sub L):=.imp rfl λ_ f=>f
mutual
theorem RV.gr(L:List Nat):∀{v:SV}{x:AV},RV P w v x->RV P (w.sub L) (o6 L v) x
 |_,_,.aA x=>.aA x
 |_,_,.sc h=>.sc h
 |_,_,.agg h=>.agg (ak.gr L h)
 |_,_,.dl h=>.dl (h.mono (.sub w L))
 |_,_,.ck (i:=i) h=>by
  simp only[o6]
  split
  .rename_i j hj;exact .ck (by simp only[Wd.sub,vj hj,Option.bind_some];exact h)
  .exact .aA _
 |_,_,.bX (i:=i) h=>by
  simp only[o6]
  split
  .rename_i j hj;exact .bX (by simp only[Wd.sub,vj hj,Option.bind_some];exact h)
  .exact .aA _
 |_,_,.ref (i:=i) h=>by
  simp only[o6]
  split
  .rename_i j hj;exact .ref (by simp only[Wd.sub,vj hj,Option.bind_some];exact h)
  .exact .aA _
 |_,_,.cV _ _=>.aA _
 |_,_,.cI h=>.cI (h.mono (.sub w L))
 |_,_,.fG _=>.aA _
 |_,_,.fJ h a=>.fJ (RV.gr L h) a
 |_,_,.il=>.il
 |_,_,.fn h=>.fn (ak.gr L h)
 |_,_,.fp=>.fp
 |_,_,.bl h=>.bl (ak.gr L h)
 |_,_,.dB h=>.dB (RV.gr L h)
 |_,_,.lr=>.lr
 |_,_,.lu=>.lu
 |_,_,.ea h=>.ea h
 |_,_,.cl a h=>.cl a (h.mono (.sub w L))
 |_,_,.jx h=>.jx (h.mono (.sub w L))
 |_,_,.om (i:=i) h=>by
  simp only[o6]
  split
  .rename_i j hj;exact .om (by simp only[Wd.sub,vj hj,Option.bind_some];exact h)
  .exact .aA _|_,_,.md h=>.md (h.bI (aK.sub w L).c)|_,_,.ls h=>.ls (h.bI (aK.sub w L).c)|_,_,.pb a b c d e f g i=>.pb a b c d e f g (i.lJ (aK.sub w L).c f g)|_,_,.mY _ _=>.aA _|_,_,.nw _ _=>.aA _|_,_,.yl a b h=>.yl a b (ak.gr L h)theorem ak.gr(L:List Nat):∀{vs:List SV}{xs:List AV},ak P w vs xs->ak P (w.sub L) (iK L vs) xs|_,_,.nil=>.nil|_,_,.cons a b=>.cons (RV.gr L a) (ak.gr L b)end
def jY(ob:Tr ai)(L:List Nat)(i:Nat):ai:=match ob.get i with|some (.box t cs)=>.box t (iK L cs)|some x=>x|none=>.gone
theorem sG(ob:Tr ai)(L:List Nat):∀(M:List Nat)(j:Nat),(bW ob L M)[j]?=(M[j]?).map (jY ob L)|[],j=>by simp[bW]|i::is,0=>by simp only[bW,List.getElem?_cons_zero,Option.map_some];rfl|i::is,j+1=>by simp[bW,sG ob L is j]
theorem xJ(ob:Tr ai)(L:List Nat):∀(M:List Nat),(bW ob L M).length=M.length|[]=>rfl|i::is=>by simp[bW,xJ ob L is]
theorem qE:∀{os:List ai},iL os=true->∀(j:Nat)(t:TypeId)(cs:List SV),os[j]?=some (.box t cs)->cn cs=true|[],_,j,t,cs,h=>by simp at h|.box t' aH::os,h,0,t,cs,e=>by simp_all[aZ,iL]|.box t' aH::os,h,j+1,t,cs,e=>by simp only[iL,aZ]at h;exact qE h.2 j t cs (by grind)|.arr _ _ _::os,h,0,t,cs,e=>by simp at e|.arr _ _ _::os,h,j+1,t,cs,e=>qE (by simpa[iL]using h) j t cs (by grind)|.ba _ _::os,h,0,t,cs,e=>by simp at e|.ba _ _::os,h,j+1,t,cs,e=>qE (by simpa[iL]using h) j t cs (by grind)|.mp _ _ _::os,h,0,t,cs,e=>by simp at e|.mp _ _ _::os,h,j+1,t,cs,e=>qE (by simpa[iL]using h) j t cs (by grind)|.tr _ _ _::os,h,0,t,cs,e=>by simp at e|.tr _ _ _::os,h,j+1,t,cs,e=>qE (by simpa[iL]using h) j t cs (by grind)|.gone::os,h,0,t,cs,e=>by simp at e|.gone::os,h,j+1,t,cs,e=>qE (by simpa[iL]using h) j t cs (by grind)
theorem af.sub(hs:af P w ob nx h){L:List Nat}(hn:nodup L=true)(N:iL (bW ob L L)=true):af P (w.sub L) (bH (bW ob L L) 0 .leaf) L.length h:=by
 have p:∀j y,(bH (bW ob L L) 0 .leaf).get j=some y->∃i,L[j]?=some i/\y=jY ob L i:=by intro j y e;rw[qD,sG]at e;cases hL:L[j]? with|none=>grind|some i=>grind
 have C:∀j i,L[j]?=some i->(w.sub L).s j=w.s i:=λj i e=>by simp only[Wd.sub,e,Option.bind_some]
 have D:∀j,live (bH (bW ob L L) 0 .leaf) j->∃i,L[j]?=some i/\live ob i:=by rintro j⟨y,h1,h2⟩;obtain⟨i,e,rfl⟩:=p j y h1;refine⟨i,e,?_⟩;unfold jY at h2;cases hi:ob.get i with|none=>grind|some z=>refine⟨z,hi,?_⟩;grind
 have m:∀j y,(bH (bW ob L L) 0 .leaf).get j=some y->cN P (w.sub L) h j y:=by
  intro j y e
  have G:=e
  obtain⟨i,hi,rfl⟩:=p j y e
  rw[qD]at G
  unfold jY at G⊢
  cases hz:ob.get i with
  |none=>trivial
  |some z=>
   rw[hz]at G
   have ho:=hs.fO hz
   cases z with
   |box t cs=>obtain⟨o,c,sh,b1,b2,b3,T,S⟩:=ho;exact⟨o,c,sh,by grind,b2,b3.gr L,qE N j t _ G,S⟩
   |arr t rows aM=>
    obtain⟨F,Q,O,E⟩:=ho
    refine⟨F,Q,O,?_⟩
    rcases E with⟨q1,q2⟩|⟨o,ver,mv,c,ex,sh,cap,q1,q2,q3,u,q,K,J,I⟩
    .grind
    .exact .inr ⟨o,ver,mv,c,ex,sh,cap,by grind,q2,q3,u,q,K.mono (.sub w L),J,I⟩
   |ba s t=>
    obtain⟨F,E⟩:=ho
    refine⟨F,?_⟩
    rcases E with⟨q1,q2⟩|⟨o,ver,mv,ex,fz,cap,R,q1,q2,q3,u,q,J⟩
    .grind
    .exact .inr ⟨o,ver,mv,ex,fz,cap,R,by grind,q2,q3,u,q,J⟩
   |mp t rows aM=>obtain⟨e,o,es,cl,q1,q2,q3,u,q⟩:=ho;exact⟨e,o,es,cl,q1,by grind,q3,u.bI (aK.sub w L).c,q⟩
   |tr t rows aM=>
    obtain⟨F,Q,O,E⟩:=ho
    refine⟨F,Q,O,?_⟩
    rcases E with⟨q1,q2⟩|⟨o,ver,mv,c,ex,sh,n,q1,q3,u,q,M,K,I⟩
    .grind
    .exact .inr ⟨o,ver,mv,c,ex,sh,n,by grind,q3,u,q,M,K.mono (.sub w L),I⟩|gone=>trivial
 refine⟨hs.g,λi t cs e=>m i _ e,λi t rows l e=>m i _ e,λi s l e=>m i _ e,?_,?_,?_,hs.bJ,hs.new,λi t rows l e=>m i _ e,λi t rows l e=>m i _ e⟩
 .intro a b k l o h1 h2 h3 h4 h5 h6;obtain⟨i,e1,g1⟩:=D a h1;obtain⟨j,e2,g2⟩:=D b h2;rw[C a i e1]at h3;rw[C b j e2]at h4;have:=hs.inj i j k l o g1 g2 h3 h4 h5 h6;subst this;exact JX hn a b i e1 e2
 .intro a k o h1 h2;cases hL:L[a]? with|none=>simp only[Wd.sub,hL]at h1;cases h1|some i=>rw[C a i hL]at h1;exact hs.lt i k o h1 h2
 simp_all[List.getElem?_eq_none,qD,sG,Wd.sub]
theorem Ow.sub{L:List Nat}{o:Nat}(h:Ow (w.sub L) (bH (bW ob L L) 0 .leaf) o):∃(j i:Nat)(k:Lk),L[j]?=some i/\live ob i/\w.s i=some k/\k.obj=some o:=by obtain⟨j,k,⟨y,h1,h2⟩,h3,h4⟩:=h;rw[qD,sG]at h1;cases hL:L[j]? with|none=>grind|some i=>rw[hL]at h1;cases h1;simp only[Wd.sub,hL,Option.bind_some]at h3;refine⟨j,i,k,hL,?_,h3,h4⟩;unfold jY at h2;cases hi:ob.get i with|none=>grind|some z=>refine⟨z,hi,?_⟩;grind
theorem af.said(hs:af P w ob nx h){i:Nat}{q x:ai}(m:ob.get i=some q)(u:q≠.gone)(z:∀t cs,q=.box t cs->∃aH,x=.box t aH)(hx:cN P w h i x)(hg:x≠.gone):af P w (ob.put i x) nx h/\aT w ob h w (ob.put i x) h:=by
 have p:∀j,live (ob.put i x) j↔live ob j:=λj=>oj m u hg
 have c:∀j y,(ob.put i x).get j=some y->cN P w h j y:=by
  intro j y e
  by_cases e2:j=i
  .simp_all[Tr.aQ]
  .rw[Tr.aB _ _ e2]at e;exact hs.fO e
 refine⟨⟨hs.g,λi t cs e=>c i _ e,λi t rows l e=>c i _ e,λi s l e=>c i _ e,λa b k l o h1 h2=>hs.inj a b k l o ((p a).1 h1) ((p b).1 h2),hs.lt,?_,hs.bJ,hs.new,λi t rows l e=>c i _ e,λi t rows l e=>c i _ e⟩,⟨.refl w,λ_ _ e=>e,ao _,rfl,λ_ _ _=>rfl,λo⟨j,k,h1,h2,h3⟩=>.inr ⟨j,k,(p j).1 h1,h2,h3⟩,λ_ e=>.inl e,λ_ e=>.inl e,λe=>e,Ee m z⟩⟩
 intro j hj
 refine⟨(hs.nx j hj).1,?_⟩
 have:j≠i:=by rintro rfl;rw[(hs.nx j hj).2]at m;cases m
 rw[Tr.aB _ _ this];exact(hs.nx j hj).2
def jm(P:Program)(w:Wd)(h:AHeap)(st st':ad)(w':Wd):Prop:=af P w' st'.ob st'.nx h/\aT w st.ob h w' st'.ob h/\st'.tm=st.tm/\st'.r=st.r/\(∀j t cs,st'.ob.get j=some (.box t cs)↔st.ob.get j=some (.box t cs))
theorem jm.refl{st:ad}(hs:af P w st.ob st.nx h):jm P w h st st w:=⟨hs,.refl _ _ _,rfl,rfl,λ_ _ _=>Iff.rfl⟩
theorem jm.trans{i:Wd}{st st' c:ad}(a:jm P w h st st' w')(b:jm P w' h st' c i):jm P w h st c i:=⟨b.1,a.2.1.trans b.2.1,b.2.2.1.trans a.2.2.1,b.2.2.2.1.trans a.2.2.2.1,λj t cs=>(b.2.2.2.2 j t cs).trans (a.2.2.2.2 j t cs)⟩
theorem TD{st:ad}(hs:af P w st.ob st.nx h){e:TypeId}(hg:(iJ P e&&!isByte P e)=true):∃w',jm P w h st {st with ob:=st.ob.put st.nx (.tr e [] false),nx:=st.nx+1} w'/\RV P w' (.own st.nx) (.sc (.slice none 0 0)):=by
 simp only[aZ,Bool.not_eq_true']at hg
 obtain⟨g1,g2,_⟩:=sT hg.1
 obtain⟨w',e1,e2,e3⟩:=hs.rb (x:=.tr e [] false) (by simp) λw' e=>⟨g1,g2,hg.2,.inl ⟨e,rfl⟩⟩
 refine⟨w',⟨e2,e3,rfl,rfl,λj t cs=>?_⟩,.ck e1⟩
 show(st.ob.put st.nx _).get j=_↔_
 by_cases e2:j=st.nx
 .subst e2;rw[Tr.aQ,(hs.nx _ (ao _)).2];simp
 .rw[Tr.aB _ _ e2]
theorem CQ{st:ad}(hs:af P w st.ob st.nx h)(e:TypeId):∃w',jm P w h st (mW P st e).2 w'/\RV P w' (mW P st e).1 (.sc (.slice none 0 0)):=by
 have m:∀(x:ai),(∀t cs,x≠.box t cs)->∀j t cs,(st.ob.put st.nx x).get j=some (.box t cs)↔st.ob.get j=some (.box t cs):=by
  intro x hx j t cs
  by_cases e2:j=st.nx
  .subst e2;rw[Tr.aQ,(hs.nx _ (ao _)).2];grind
  .rw[Tr.aB _ _ e2]
 unfold mW
 split
 .rename_i i;obtain⟨w',e1,e2,e3⟩:=hs.rb (x:=.ba .empty e) (by simp) λw' e=>⟨i,.inl ⟨e,rfl⟩⟩;exact⟨w',⟨e2,e3,rfl,rfl,m _ (by simp)⟩,.ck e1⟩
 .rename_i i c;obtain⟨g1,g2,_⟩:=sT c;obtain⟨w',e1,e2,e3⟩:=hs.rb (x:=.arr e [] false) (by simp) λw' e=>⟨g1,g2,i,.inl ⟨e,rfl⟩⟩;exact⟨w',⟨e2,e3,rfl,rfl,m _ (by simp)⟩,.ck e1⟩
 .exact⟨w,.refl hs,.aA _⟩
theorem oO{F:Nat->Prop}{vs:List SV}(h3:∀i,SV.own i∈vs->∀t rows l x,iR ob i t rows l->RV P w (.own i) x->Rd P (w.more F) t rows x)(h5:∀i,SV.om i∈vs->∀t rows l x,ob.get i=some (.mp t rows l)->RV P w (.om i) x->Rm P (w.more F) t rows x){v:SV}{x:AV}(hv:v∈vs)(hx:RV P w v x):RV P (w.more F) (bJ ob v) x:=by
 unfold bJ
 split
 .rename_i i
  split
  .rename_i t r l hb;exact .dl (h3 i hv _ _ _ _ (.inl hb) hx)
  .rename_i t r l hb;exact .dl (h3 i hv _ _ _ _ (.inr hb) hx)
  .exact .aA _
 .rename_i i
  split
  .rename_i t r l hb;exact .md (h5 i hv _ _ _ _ hb hx)
  .exact .aA _
 .exact hx.mono (aK.more _ _) λ_ _ e=>e
theorem lN{st:ad}(hs:af P w st.ob st.nx h)(vs:List SV):∃F,jm P w h st {st with ob:=bg st.ob vs} (w.more F)/\(∀i,SV.own i∈vs->∀t rows l x,iR st.ob i t rows l->RV P w (.own i) x->Rd P (w.more F) t rows x)/\∀i,SV.om i∈vs->∀t rows l x,st.ob.get i=some (.mp t rows l)->RV P w (.om i) x->Rm P (w.more F) t rows x:=by obtain⟨F,p1,p2,j,p3,c⟩:=lR hs vs;exact⟨F,⟨p1,.bg p2 j,rfl,rfl,p2.box⟩,p3,c⟩
theorem Ss{st:ad}(hs:af P w st.ob st.nx h){m i:Nat}{l:Lf}{v:SV}{x:AV}(hi:∃o n,w.s i=some (.box o n))(hx:RV P w v x):∃w',jm P w h st (s9 P m i l v st).2 w'/\RV P w' (s9 P m i l v st).1 x:=by
 unfold s9
 split
 .split
  .cases hx;exact⟨w,.refl hs,.dl (.nil _)⟩
  .split
   .rename_i hg;cases hx;exact TD hs hg
   .exact⟨w,.refl hs,hx⟩
  .exact⟨w,.refl hs,hx⟩
  .cases hx;obtain⟨w1,q1,q2⟩:=CQ hs (e:=_);obtain⟨F,j,_,_⟩:=lN q1.1 [_];exact⟨_,q1.trans j,q2.mono (aK.more _ _) λ_ _ e=>e⟩
  .cases hx;exact CQ hs _
 .split
  .obtain⟨F,q1,q2,c⟩:=lN hs [SV.own _];exact⟨_,q1,oO q2 c (by simp) hx⟩
  .obtain⟨F,q1,q2,c⟩:=lN hs [SV.own _];exact⟨_,q1,hx.mono (aK.more _ _) λ_ _ e=>e⟩
  .exact⟨w,.refl hs,hx⟩
 .split
  .cases hx;exact⟨w,.refl hs,.il⟩
  .exact⟨w,.refl hs,hx⟩
 .split
  .cases hx with|ref e=>exact⟨w,.refl hs,.fJ (.ref e) rfl⟩
  .exact⟨w,.refl hs,hx⟩
 .split
  .exact⟨w,.refl hs,hx⟩
  .obtain⟨F,q1,q2,c⟩:=lN hs [SV.om _];exact⟨_,q1,oO q2 c (by simp) hx⟩
 .exact⟨w,.refl hs,hx⟩
theorem JY{m i:Nat}:∀{ls:List Lf}{vs:List SV}{xs:List AV}{st:ad}{w:Wd},af P w st.ob st.nx h->(∃o n,w.s i=some (.box o n))->ak P w vs xs->∃w',jm P w h st (kR P m i ls vs st).2 w'/\ak P w' (kR P m i ls vs st).1 xs
 |[],vs,xs,st,w,hs,_,hx=>by
  have:kR P m i [] vs st=(vs,st):=by cases vs<;>rfl
  rw[this];exact⟨w,.refl hs,hx⟩|l::ls,[],xs,st,w,hs,_,hx=>⟨w,.refl hs,hx⟩|l::ls,v::vs,_,st,w,hs,hi,.cons a b=>by obtain⟨w1,q1,q2⟩:=Ss (m:=m) (l:=l) hs hi a;obtain⟨o,n,hi⟩:=hi;obtain⟨w2,c,j⟩:=JY (ls:=ls) q1.1 ⟨o,n,q1.2.1.s _ _ hi⟩ (b.mono q1.2.1.le q1.2.1.s);exact⟨w2,q1.trans c,.cons (q2.mono c.2.1.le c.2.1.s) j⟩
variable {bx:TypeId->Nat}
theorem uE:∀(is:List Nat){st:ad}{w:Wd},af P w st.ob st.nx h->∃w',af P w' (mK P bx is st).ob (mK P bx is st).nx h/\aT w st.ob h w' (mK P bx is st).ob h/\(mK P bx is st).tm=st.tm/\(mK P bx is st).r=st.r
 |[],st,w,hs=>⟨w,hs,.refl _ _ _,rfl,rfl⟩
 |i::is,st,w,hs=>by
  simp only[mK]
  split
  .rename_i t cs hb
   obtain⟨o,c,sh,b1,b2,b3,E,D⟩:=hs.box i t cs hb
   obtain⟨w1,q1,q2⟩:=JY (m:=bx t) (i:=i) (ls:=lay P t) hs ⟨o,_,b1⟩ b3
   cases C:cn (kR P (bx t) i (lay P t) cs st).1 with
   |false=>obtain⟨w2,z,u,q,p⟩:=uE is q1.1;exact⟨w2,z,q1.2.1.trans u,q.trans q1.2.2.1,p.trans q1.2.2.2.1⟩
   |true=>
    have j:=(q1.2.2.2.2 i t cs).2 hb
    have hF:¬w1.F o:=λf=>by obtain⟨o',c',eN,d1,_,_,_,d5⟩:=q1.1.box i t cs j;have:=q1.2.1.s _ _ b1;grind
    obtain⟨e1,e2⟩:=q1.1.said (x:=.box t (kR P (bx t) i (lay P t) cs st).1) j (by simp) (by grind) ⟨o,c,sh,q1.2.1.s _ _ b1,b2,q2,C,hF⟩ (by simp);obtain⟨w2,z,u,q,p⟩:=uE is (st:={(kR P (bx t) i (lay P t) cs st).2 with ob:=(kR P (bx t) i (lay P t) cs st).2.ob.put i (.box t (kR P (bx t) i (lay P t) cs st).1)}) e1;exact⟨w2,z,(q1.2.1.trans e2).trans u,q.trans q1.2.2.1,p.trans q1.2.2.2.1⟩
  .exact uE is hs
theorem Dj{st c:ad}(hs:af P w st.ob st.nx h){aY i:List SV}{xs:List AV}(hx:ak P w aY xs){pre L:List Nat}{au:List ai}(hc:lS P bx st aY pre=some (i,au,L,c)):
 ∃w2,af P w2 c.ob c.nx h/\aT w st.ob h w2 c.ob h/\c.tm=st.tm/\c.r=st.r/\af P (w2.sub L) (bH au 0 .leaf) au.length h/\ak P (w2.sub L) i xs/\au=bW c.ob L L/\nodup L=true:=by
 unfold lS at hc
 simp only at hc
 split at hc
 .rename_i j;simp only[aZ]at j;simp only[an,aV]at hc;obtain⟨rfl,rfl,rfl,rfl⟩:=hc;obtain⟨w2,o,m,q,p⟩:=uE (bx:=bx) (qZ st.ob 200 (pre++dw aY) []) hs;refine⟨w2,o,m,q,p,?_,(hx.mono m.le m.s).gr _,rfl,j.1⟩;rw[xJ];exact o.sub j.1 j.2
 .cases hc
end
end Go.AI
end

section
namespace Go.AI
structure eL(X:Nat->Prop)(nb:Nat)(w:Wd)(ob:Tr ai)(h:AHeap)(w':Wd)(ob':Tr ai)(h':AHeap):Prop where
 le:aK w w'
 s:∀i k,i<nb->w.s i=some k->w'.s i=some k
 next:h.next<=h'.next
 floor:h'.floor=h.floor
 b0:∀o,o<h.next->¬Ow w ob o->¬X o->h'.get o=h.get o
 own:∀o,Ow w' ob' o->h.next<=o\/Ow w ob o
 F:∀o,w'.F o->w.F o\/h.next<=o\/Ow w ob o
 wr:∀o,o∈h'.wr->o∈h.wr\/h.next<=o\/Ow w ob o\/Lp h.get o\/X o
 dA:(∀o,o∈h.wr->o<h.floor)->∀o,o∈h'.wr->o<h'.floor
 bx:∀i t cs,i<nb->ob.get i=some (.box t cs)->∃aH,ob'.get i=some (.box t aH)
abbrev fl(nb:Nat):=eL (λ_=>False) nb
def XW(h:AHeap)(o:Nat):Prop:=h.floor<=o/\h.get o=some (.b8 (some []))
section
variable {P:Program}{w w':Wd}{ob ob':Tr ai}{nx:Nat}{h h':AHeap}{ρ:Type}
theorem eL.of{X:Nat->Prop}{nb:Nat}(a:aT w ob h w' ob' h'):eL X nb w ob h w' ob' h':=⟨a.le,λi k _ e=>a.s i k e,a.next,a.floor,λo h1 h2 _=>a.b0 o h1 h2,a.own,a.F,λo e=>(a.wr o e).imp id (.imp id (.imp id .inl)),a.dA,λi t cs _ e=>a.bx i t cs e⟩
theorem fl.of{nb:Nat}(a:aT w ob h w' ob' h'):fl nb w ob h w' ob' h':=eL.of a
theorem eL.trans{X p:Nat->Prop}{nb:Nat}{j:Wd}{c:Tr ai}{m:AHeap}(a:eL X nb w ob h w' ob' h')(b:eL p nb w' ob' h' j c m)(u:∀o,p o->o<h.next->¬Ow w ob o->X o):eL X nb w ob h j c m where
 le:=a.le.trans b.le
 s:=λi k hi e=>b.s i k hi (a.s i k hi e)
 next:=Nat.le_trans a.next b.next
 floor:=b.floor.trans a.floor
 b0:=λo h1 h2 hx=>by rw[b.b0 o (Nat.lt_of_lt_of_le h1 a.next) (λh3=>(a.own o h3).elim (λh4=>absurd h1 (by omega)) h2) λe=>hx (u o e h1 h2)];exact a.b0 o h1 h2 hx
 own:=λo e=>by
  rcases b.own o e with h1|h1
  .exact .inl (Nat.le_trans a.next h1)
  .exact a.own o h1
 F:=λo e=>by
  rcases b.F o e with h1|h1|h1
  .exact a.F o h1
  .exact .inr (.inl (Nat.le_trans a.next h1))
  .exact .inr (a.own o h1)
 wr:=λo e=>by
  rcases Nat.lt_or_ge o h.next with q|q
  .by_cases h2:Ow w ob o
   .grind
   .by_cases h3:X o
    .grind
    .rcases b.wr o e with h1|h1|h1|h1|h1
     .exact a.wr o h1
     .exact absurd (Nat.le_trans a.next h1) (by omega)
     .exact .inr ((a.own o h1).imp id .inl)
     .obtain⟨x,e3,e4⟩:=h1;exact .inr (.inr (.inr (.inl ⟨x,by rw[<-a.b0 o q h2 h3];exact e3,e4⟩)))
     grind
  grind
 dA:=λe=>b.dA (a.dA e);bx:=λi t cs hi e=>let⟨c1,e1⟩:=a.bx i t cs hi e;b.bx i t c1 hi e1
theorem fl.trans{nb:Nat}{i:Wd}{c:Tr ai}{j:AHeap}(a:aT w ob h w' ob' h')(b:fl nb w' ob' h' i c j):fl nb w ob h i c j:=eL.trans (.of a) b λ_ e _ _=>e
theorem fl.N2{X:Nat->Prop}{nb:Nat}(a:fl nb w ob h w' ob' h'):eL X nb w ob h w' ob' h':=⟨a.le,a.s,a.next,a.floor,λo h1 h2 _=>a.b0 o h1 h2 id,a.own,a.F,λo e=>(a.wr o e).imp id (.imp id (.imp id (.imp id False.elim))),a.dA,a.bx⟩
theorem eL.W4{X:Nat->Prop}{nb:Nat}(c:∀o,o<h.next->¬X o)(a:eL X nb w ob h w' ob' h'):fl nb w ob h w' ob' h':=
 ⟨a.le,a.s,a.next,a.floor,λo h1 h2 _=>a.b0 o h1 h2 (c o h1),a.own,a.F,λo e=>by
  rcases Nat.lt_or_ge o h.next with q|q
  .exact(a.wr o e).imp id (.imp id (.imp id (.imp id (c o q))))
  grind,a.dA,a.bx⟩
theorem fl.xw{nb:Nat}(a:fl nb w ob h w' ob' h'):∀o,XW h' o->o<h.next->¬Ow w ob o->XW h o:=λo e h1 h2=>⟨by rw[<-a.floor];exact e.1,by rw[<-a.b0 o h1 h2 id];exact e.2⟩
def wz:List AV->AV|[y]=>y|ys=>.tuple ys
def ry(P:Program)(X:Nat->Prop)(w:Wd)(ob:Tr ai)(nb:Nat)(h:AHeap)(ts:List TypeId)(shs:List Sh)(r:RT (bB shs))(v:AV)(h':AHeap):Prop:=∃w' ob' nx' vs ys,af P w' ob' nx' h'/\eL X nb w ob h w' ob' h'/\ak P w' vs ys/\v=wz ys/\nodup ((ku P ts vs++mE ob' (upto nb)).flatMap oV)=true/\nr P ts vs=true/\bQ P ob' shs (ku P ts vs++mE ob' (upto nb))=some r
abbrev dR(P:Program)(w:Wd)(ob:Tr ai)(nb:Nat)(h:AHeap):=ry P (XW h) w ob nb h
theorem af.EW(hs:af P w ob nx h){i nx':Nat}{x:ai}{k:Lk}(hg:w'.g=w.g)(hF:w'.F=w.F)(c:∀j,j≠i->w'.s j=w.s j)(u:w'.s i=some k)(hold:w.s i=none\/w.s i=some k)
 (E:¬live ob i)(p:∀o,k.obj=some o->¬Ow w ob o/\o<h.next)(hx:cN P w' h i x)(hi:i<nx')(J:nx<=nx'):af P w' (ob.put i x) nx' h/\(∀j l,w.s j=some l->w'.s j=some l):=by
 have z:∀j l,w.s j=some l->w'.s j=some l:=by
  intro j l e
  by_cases e2:j=i
  .grind
  .grind
 have q:∀j,live (ob.put i x) j->j=i\/(j≠i/\live ob j):=by
  rintro j⟨y,h1,h2⟩
  by_cases e:j=i
  .exact .inl e
  .rw[Tr.aB _ _ e]at h1;exact .inr ⟨e,y,h1,h2⟩
 have m:∀j y,(ob.put i x).get j=some y->cN P w' h j y:=by
  intro j y e
  by_cases e2:j=i
  .simp_all[Tr.aQ]
  .rw[Tr.aB _ _ e2]at e;exact(hs.fO e).move (.imp hg (λo f=>by grind)) z λ_ _ _ _=>⟨rfl,λf=>by grind⟩
 refine⟨⟨λo=>by rw[hg];exact hs.g o,λi t cs e=>m i _ e,λi t rows l e=>m i _ e,λi s l e=>m i _ e,?_,?_,?_,λo f=>hs.bJ o (by grind),hs.new,λi t rows l e=>m i _ e,λi t rows l e=>m i _ e⟩,z⟩
 .intro a b D G o h1 h2 h3 h4 h5 h6
  rcases q a h1 with C|⟨C,I⟩
  .rcases q b h2 with b1|⟨b1,b2⟩
   .rw[C,b1]
   .subst C;rw[u]at h3;cases h3;rw[c b b1]at h4;exact absurd ⟨b,G,b2,h4,h6⟩ (p o h5).1
  .rcases q b h2 with b1|⟨b1,b2⟩
   .subst b1;rw[u]at h4;cases h4;rw[c a C]at h3;exact absurd ⟨a,D,I,h3,h5⟩ (p o h6).1
   .rw[c a C]at h3;rw[c b b1]at h4;exact hs.inj a b D G o I b2 h3 h4 h5 h6
 .intro a D o h1 h2
  by_cases e:a=i
  .grind
  .rw[c a e]at h1;exact hs.lt a D o h1 h2
 .intro a ha
  have e:a≠i:=by omega
  rw[c a e,Tr.aB _ _ e];exact hs.nx a (by omega)
theorem af.congr(hs:af P w ob nx h)(he:∀i,ob'.get i=ob.get i):af P w ob' nx h:=by have c:∀j,live ob' j->live ob j:=λj⟨y,a,b⟩=>⟨y,by grind,b⟩;exact⟨hs.g,λi t cs e=>hs.box i t cs (by grind),λi t rows l e=>hs.arr i t rows l (by grind),λi s l e=>hs.ba i s l (by grind),λa b k l o h1 h2=>hs.inj a b k l o (c _ h1) (c _ h2),hs.lt,λj hj=>by rw[he];exact hs.nx j hj,hs.bJ,hs.new,λi t rows l e=>hs.mp i t rows l (by grind),λi t rows l e=>hs.tr i t rows l (by grind)⟩
theorem my(j:Nat):∀(L:List Nat)(ob:Tr ai),(gE ob L).get j=if j∈L then some .gone else ob.get j
 |[],ob=>by simp[gE]
 |i::is,ob=>by
  simp only[gE]
  rw[my j is]
  by_cases h1:j∈is
  .grind
  .rw[if_neg h1]
   by_cases h2:j=i
   .subst h2;rw[Tr.aQ,if_pos (by simp)]
   simp_all[Tr.aB,if_neg]
theorem KY{q:Wd}{L:List Nat}{u:Tr ai}{z:Nat}(hs:af P w ob nx h)(hE:af P q u z h')(C:h.next<=h'.next)
 (p:∀o,o<h.next->¬Ow (w.sub L) (bH (bW ob L L) 0 .leaf) o->h'.get o=h.get o)(E:aK w q)(hF:∀o,q.F o->w.F o\/h.next<=o\/Ow (w.sub L) (bH (bW ob L L) 0 .leaf) o)(hL:∀j,j∈L->j<nx):
 af P {g:=h'.get,F:=q.F,s:=w.s} (gE ob L) nx h':=by
 have m:∀j,live (gE ob L) j->j∉L/\live ob j:=by
  rintro j⟨y,h1,h2⟩
  rw[my]at h1
  split at h1
  .grind
  .rename_i hj;exact⟨hj,y,h1,h2⟩
 have D:∀j,j∉L->live ob j->∀k o,w.s j=some k->k.obj=some o->¬Ow (w.sub L) (bH (bW ob L L) 0 .leaf) o:=by intro j hj hl k o h1 h2 how;obtain⟨a,i,k',e1,e2,e3,e4⟩:=Ow.sub how;have:=hs.inj i j k' k o e2 hl e3 h1 e4 h2;subst this;exact hj (List.mem_of_getElem? e1)
 have G:q.g=h'.get:=funext hE.g
 have c:∀j y,(gE ob L).get j=some y->cN P {g:=h'.get,F:=q.F,s:=w.s} h' j y:=by
  intro j y e
  cases y with
  |gone=>trivial
  |_=>
   obtain⟨I,J⟩:=m j ⟨_,e,by simp⟩
   rw[my,if_neg I]at e
   refine(hs.fO e).move (E.trans (.imp (by rw[G]) λ_ f=>f)) (λ_ _ e=>e) λk o h1 h2=>⟨p o (hs.lt j k o h1 h2) (D j I J k o h1 h2),λf=>?_⟩
   rcases hF o f with e1|e1|e1
   .exact e1
   .have:=hs.lt j k o h1 h2;omega
   grind
 refine⟨λ_=>rfl,λi t cs e=>c i _ e,λi t rows l e=>c i _ e,λi s l e=>c i _ e,λa b k l o h1 h2=>hs.inj a b k l o (m a h1).2 (m b h2).2,λi k o h1 h2=>Nat.lt_of_lt_of_le (hs.lt i k o h1 h2) C,?_,hE.bJ,hE.new,λi t rows l e=>c i _ e,λi t rows l e=>c i _ e⟩;intro a ha;refine⟨(hs.nx a ha).1,?_⟩;rw[my,if_neg λe=>absurd (hL a e) (by omega)];exact(hs.nx a ha).2
def gu:List Sh->List SV->List SV|.dl _::ss,v::vs=>v::gu ss vs|.md _::ss,v::vs=>v::gu ss vs|_::ss,_::vs=>gu ss vs|_,_=>[]
theorem DM:∀{ss:List Sh}{vs:List SV}{v:SV},v∈gu ss vs->v∈vs|[],vs,v,h=>by cases vs<;>simp[gu]at h|s::ss,[],v,h=>by simp[gu]at h|s::ss,u::vs,v,h=>by cases s<;>simp only[gu]at h<;>first
 |exact List.mem_cons_of_mem _ (DM h)
 |(rcases List.mem_cons.1 h with rfl|h
   .exact List.mem_cons_self ..
   .exact List.mem_cons_of_mem _ (DM h))
theorem qw:∀{vs:List SV}{ob:Tr ai}{j:Nat},SV.own j∉vs->(∀t r l,ob.get j≠some (.mp t r l))->(bg ob vs).get j=ob.get j
 |[],_,_,_,_=>rfl
 |v::vs,ob,j,h,h'=>by
  simp only[List.mem_cons,not_or]at h
  unfold bg
  split
  .rename_i e;cases e
  .rename_i i m e
   simp only[List.cons.injEq]at e
   obtain⟨rfl,rfl⟩:=e
   have c:j≠i:=by rintro rfl;exact h.1 rfl
   split
   .rw[qw h.2 (by rw[Tr.aB _ _ c];exact h'),Tr.aB _ _ c]
   .rw[qw h.2 (by rw[Tr.aB _ _ c];exact h'),Tr.aB _ _ c]
   .exact qw h.2 h'
  .rename_i i m e
   simp only[List.cons.injEq]at e
   obtain⟨rfl,rfl⟩:=e
   split
   .rename_i t r l hb
    have c:j≠i:=by rintro rfl;exact h' _ _ _ hb
    rw[qw h.2 (by rw[Tr.aB _ _ c];exact h'),Tr.aB _ _ c]
   .exact qw h.2 h'
  .rename_i e;simp only[List.cons.injEq]at e;obtain⟨_,rfl⟩:=e;exact qw h.2 h'
theorem L1:∀{a b:List Nat},BB a b=true->a=b|[],[],_=>rfl|x::xs,y::ys,h=>by simp only[BB,aZ]at h;rw[Nat.eq_of_beq_eq_true h.1,L1 h.2]|[],_::_,h=>by cases h|_::_,[],h=>by cases h
theorem L2{v u:Value}(h:wY v u=true):v=u/\s8 v=true:=by
 unfold wY at h
 split at h
 .rename_i k n k' m
  simp only[aZ]at h
  have hk:=Nat.eq_of_beq_eq_true h.1
  have e1:k=k':=by cases k<;>cases k'<;>first|rfl|(simp[EI]at hk)
  subst e1
  have h2:=h.2
  unfold NR at h2
  split at h2
  .rw[Nat.eq_of_beq_eq_true h2];exact⟨rfl,rfl⟩
  .rw[Nat.eq_of_beq_eq_true h2];exact⟨rfl,rfl⟩
  .cases h2
 .exact⟨rfl,rfl⟩
 .exact⟨rfl,rfl⟩
 .rename_i s s'
  have:=L1 h
  have h3:s.data.toList=s'.data.toList:=by
   have hi:∀{a b:List UInt8},a.map (·.toNat)=b.map (·.toNat)->a=b:=by intro a;induction a with|nil=>simp_all|cons x xs ih=>intro b e;cases b with|nil=>simp at e|cons y ys=>simp only[List.map_cons,List.cons.injEq]at e;have e1:x=y:=UInt8.toNat_inj.1 e.1;grind
   exact hi this
  have h4:s.data=s'.data:=by cases hs:s.data;cases c:s'.data;rw[hs,c]at h3;simp only at h3;rw[h3]
  exact⟨by cases s;simp_all,rfl⟩
 .exact⟨rfl,rfl⟩
 .cases h
mutual
theorem W5:∀{x y:AV},BC x y=true->x=y
 |.sc v,.sc u,h=>by
  have h2:wY v u=true:=by simpa only[BC]using h
  rw[(L2 h2).1]|.aI a z,.aI b z',h=>by simp only[BC,aZ]at h;rw[DN h.1,Nat.eq_of_beq_eq_true h.2]|.aA,_,h=>by cases h|.ref ..,_,h=>by cases h|.sl ..,_,h=>by cases h|.bC,_,h=>by cases h|.cr _,_,h=>by cases h|.aN ..,_,h=>by cases h|.map _,_,h=>by cases h|.func ..,_,h=>by cases h|.ej _,_,h=>by cases h|.iface ..,_,h=>by cases h|.agg _,_,h=>by cases h|.tuple _,_,h=>by cases h|.sc _,.aA,h=>by cases h|.sc _,.ref ..,h=>by cases h|.sc _,.sl ..,h=>by cases h|.sc _,.bC,h=>by cases h|.sc _,.cr _,h=>by cases h|.sc _,.aN ..,h=>by cases h|.sc _,.aI ..,h=>by cases h|.sc _,.map _,h=>by cases h|.sc _,.func ..,h=>by cases h|.sc _,.ej _,h=>by cases h|.sc _,.iface ..,h=>by cases h|.sc _,.agg _,h=>by cases h|.sc _,.tuple _,h=>by cases h|.aI ..,.aA,h=>by cases h|.aI ..,.sc _,h=>by cases h|.aI ..,.ref ..,h=>by cases h|.aI ..,.sl ..,h=>by cases h|.aI ..,.bC,h=>by cases h|.aI ..,.cr _,h=>by cases h|.aI ..,.aN ..,h=>by cases h|.aI ..,.map _,h=>by cases h|.aI ..,.func ..,h=>by cases h|.aI ..,.ej _,h=>by cases h|.aI ..,.iface ..,h=>by cases h|.aI ..,.agg _,h=>by cases h|.aI ..,.tuple _,h=>by cases h
theorem L3:∀{a b:List AV},BE a b=true->a=b|[],[],_=>rfl|x::xs,y::ys,h=>by simp only[BE,aZ]at h;rw[W5 h.1,L3 h.2]|[],_::_,h=>by cases h|_::_,[],h=>by cases h
theorem DN:∀{a b:List (List AV)},wq a b=true->a=b|[],[],_=>rfl|x::xs,y::ys,h=>by simp only[wq,aZ]at h;rw[L3 h.1,DN h.2]|[],_::_,h=>by cases h|_::_,[],h=>by cases h
end
mutual
theorem re:∀{v u:SV},eqv v u=true->v=u:=by
 intro v u h
 unfold eqv at h
 split at h
 .simp_all
 .simp only[aZ]at h;rw[Nat.eq_of_beq_eq_true h.1,DO h.2]
 .simp only[aZ]at h;rw[Nat.eq_of_beq_eq_true h.1.1,DO h.1.2,Nat.eq_of_beq_eq_true h.2]
 .simp only[aZ]at h;rw[Nat.eq_of_beq_eq_true h.1,DN h.2]
 .rfl
 .rfl
 .rfl
 .rw[(L2 h).1]
 .rfl
 .cases h
theorem DO:∀{vs us:List SV},nG vs us=true->vs=us|[],[],_=>rfl|v::vs,u::us,h=>by simp only[nG,aZ]at h;rw[re h.1,DO h.2]|[],_::_,h=>by cases h|_::_,[],h=>by cases h
end
mutual
theorem yB{L:List Nat}(hl:gq w w')(hL:∀i j k,L[i]?=some j->w.s i=some k->w'.s j=some k):∀{v:SV}{y:AV},RV P w v y->∀{u:SV},eqv v u=true->RV P w' (ta L u) y
 |_,_,.ref (i:=i) (off:=o) e,u,h=>by
  obtain rfl:=re h
  simp only[ta]
  split
  .rename_i j hj;exact .ref (hL _ _ _ hj e)
  .exact .aA _
 |_,_,.fn (caps:=caps) a,u,h=>by obtain rfl:=re h;simp only[eqv,aZ]at h;simp only[ta];exact .fn (J0 hl hL a h.2)
 |_,_,.fp,u,h=>by obtain rfl:=re h;exact .fp
 |_,_,.pb (cs:=cs) hF hg h1 h3 h4 h5 h6 hr,u,h=>by obtain rfl:=re h;exact(RV.pb hF hg h1 h3 h4 h5 h6 hr).lJ hl rfl rfl
 |_,_,.dl hr,u,h=>by obtain rfl:=re h;exact .dl (hr.bI hl)
 |_,_,.sc (v:=v) hp,u,h=>by obtain rfl:=re h;exact .sc hp
 |_,_,.aA x,u,h=>by
  cases u<;>simp only[eqv]at h<;>try(cases h;done)
  exact .aA _|_,_,.agg _,u,h=>by cases u<;>simp[eqv]at h|_,_,.ck _,u,h=>by cases u<;>simp[eqv]at h|_,_,.bX _,u,h=>by cases u<;>simp[eqv]at h|_,_,.cV _ _,u,h=>by cases u<;>simp[eqv]at h|_,_,.cI _,u,h=>by cases u<;>simp[eqv]at h|_,_,.fG _,u,h=>by cases u<;>simp[eqv]at h|_,_,.fJ _ _,u,h=>by cases u<;>simp[eqv]at h|_,_,.il,u,h=>by cases u<;>simp[eqv]at h|_,_,.bl _,u,h=>by cases u<;>simp[eqv]at h|_,_,.dB _,u,h=>by cases u<;>simp[eqv]at h|_,_,.lr,u,h=>by cases u<;>simp[eqv]at h|_,_,.lu,u,h=>by cases u<;>simp[eqv]at h|_,_,.ea _,u,h=>by cases u<;>simp[eqv]at h|_,_,.cl _ _,u,h=>by cases u<;>simp[eqv]at h|_,_,.jx _,u,h=>by cases u<;>simp[eqv]at h|_,_,.om _,u,h=>by cases u<;>simp[eqv]at h|_,_,.md _,u,h=>by cases u<;>simp[eqv]at h|_,_,.ls _,u,h=>by cases u<;>simp[eqv]at h|_,_,.mY _ _,u,h=>by cases u<;>simp[eqv]at h|_,_,.nw _ _,u,h=>by cases u<;>simp[eqv]at h|_,_,.yl _ _ _,u,h=>by cases u<;>simp[eqv]at h
theorem J0{L:List Nat}(hl:gq w w')(hL:∀i j k,L[i]?=some j->w.s i=some k->w'.s j=some k):∀{vs:List SV}{ys:List AV},ak P w vs ys->∀{us:List SV},nG vs us=true->ak P w' (ov L us) ys
 |_,_,.nil,us,h=>by cases us<;>first|exact .nil|(simp[nG]at h)
 |_,_,.cons a b,us,h=>by cases us with|nil=>simp[nG]at h|cons u us=>simp only[nG,aZ]at h;exact .cons (yB hl hL a h.1) (J0 hl hL b h.2)end
end
end Go.AI
end
