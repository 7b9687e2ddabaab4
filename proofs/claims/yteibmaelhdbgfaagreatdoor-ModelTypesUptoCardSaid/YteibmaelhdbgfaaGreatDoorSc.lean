/- A part of the proof. -/
import Derived.Test.YteibmaelhdbgfaaGreatDoorSb
set_option linter.all false

section
namespace Go.AI
def dp(P:Program)(w:Wd)(h:AHeap)(i:Nat):aq->Prop|.box t cs=>∃o c sh,w.s i=some (.box o c.length)/\h.get o=some (.cells 0 0 c 0 t true sh)/\au P w cs c/\cJ cs=true/\¬w.F o|.arr t rows aY=>bt P t=some (lay P t).length/\0<(lay P t).length/\isByte P t=false/\((w.s i=some .nil/\rows=[])\/∃o ver mv c ex sh cap,w.s i=some (.sl o ver (rows.length*(lay P t).length) (lay P t).length rows.length cap)/\(∀k,cap=some k->k=rows.length)/\h.get o=some (.cells ver mv c 0 t ex sh)/\mv<=ver/\c.length=rows.length*(lay P t).length/\bW P w (lay P t) rows (chunks (lay P t).length rows.length c)/\(aY=true->True)/\(aY=false->¬w.F o))|.bh s el=>isByte P el=true/\((w.s i=some .nil/\s.size=0)\/∃o ver mv ex fz cap,0<s.size/\w.s i=some (.sl o ver s.size 1 s.size cap)/\(∀k,cap=some k->k=s.size)/\h.get o=some (.cells ver mv (cQ s) fz el ex false)/\mv<=ver/\fz<=s.size/\¬w.F o)|.mp t rows aY=>∃e o es cl,kT P t=some e/\w.s i=some (.mp o)/\h.get o=some (.map es cl)/\rb P w e rows es cl/\(aY=false->¬w.F o)|.tr t rows aY=>bt P t=some (lay P t).length/\0<(lay P t).length/\isByte P t=false/\((w.s i=some .nil/\rows=[])\/∃o ver mv c ex sh n,w.s i=some (.sl o ver n (lay P t).length rows.length none)/\h.get o=some (.cells ver mv c 0 t ex sh)/\mv<=ver/\rows.length*(lay P t).length<=n/\rows.length*(lay P t).length<=c.length/\bW P w (lay P t) rows (chunks (lay P t).length rows.length c)/\(aY=false->¬w.F o))|.gone=>True
section
variable {P:Program}{w w':Wd}{ob:Tr aq}{nx:Nat}{h h':AHeap}
theorem ah.gJ(hs:ah P w ob nx h){i:Nat}{x:aq}(hx:ob.get i=some x):dp P w h i x:=by cases x with|box t cs=>exact hs.box i t cs hx|arr t rows aY=>exact hs.arr i t rows aY hx|bh s aY=>exact hs.bh i s aY hx|mp t rows aY=>exact hs.mp i t rows aY hx|tr t rows aY=>exact hs.tr i t rows aY hx|gone=>trivial
theorem dp.move{i:Nat}{x:aq}(hx:dp P w h i x)(hl:aX w w')(hs:∀j k,w.s j=some k->w'.s j=some k)(ho:∀k o,w.s i=some k->k.obj=some o->h'.get o=h.get o/\(w'.F o->w.F o)):dp P w' h' i x:=by
 cases x with
 |box t cs=>obtain⟨o,c,sh,K,O,N,M,L⟩:=hx;obtain⟨q1,q2⟩:=ho _ o K rfl;exact⟨o,c,sh,hs _ _ K,by grind,N.mono hl hs,M,λf=>L (q2 f)⟩
 |arr t rows aY=>
  obtain⟨J,I,E,D⟩:=hx
  refine⟨J,I,E,?_⟩
  rcases D with⟨q1,q2⟩|⟨o,ver,mv,c,ex,sh,cap,q1,q2,q3,q4,q5,q6,q7,q8⟩
  .grind
  .obtain⟨p1,p2⟩:=ho _ o q1 rfl;exact .inr ⟨o,ver,mv,c,ex,sh,cap,hs _ _ q1,q2,by grind,q4,q5,q6.mono hl,q7,λe f=>q8 e (p2 f)⟩
 |bh s aY=>
  refine⟨hx.1,?_⟩
  rcases hx.2 with⟨q1,q2⟩|⟨o,ver,mv,ex,fz,cap,q0,q1,q2,q3,q4,q5,q7⟩
  .grind
  .obtain⟨p1,p2⟩:=ho _ o q1 rfl;grind
 |mp t rows aY=>obtain⟨e,o,es,cl,q1,q2,q3,q4,q5⟩:=hx;obtain⟨p1,p2⟩:=ho _ o q2 rfl;exact⟨e,o,es,cl,q1,hs _ _ q2,by grind,q4.bX hl.c,λa f=>q5 a (p2 f)⟩
 |tr t rows aY=>
  obtain⟨J,I,E,D⟩:=hx
  refine⟨J,I,E,?_⟩
  rcases D with⟨q1,q2⟩|⟨o,ver,mv,c,ex,sh,n,q1,q3,q4,q5,z,q6,q8⟩
  .grind
  .obtain⟨p1,p2⟩:=ho _ o q1 rfl;exact .inr ⟨o,ver,mv,c,ex,sh,n,hs _ _ q1,by grind,q4,q5,z,q6.mono hl,λe f=>q8 e (p2 f)⟩|gone=>trivial
theorem ah.there(hs:ah P w ob nx h){i:Nat}(hi:live ob i){k:Lk}{o:Nat}(hk:w.s i=some k)(ho:k.obj=some o):h.get o≠none:=by
 obtain⟨x,hx,hg⟩:=hi
 have:=hs.gJ hx
 cases x with
 |box t cs=>obtain⟨o',c,sh,D,E,_⟩:=this;rw[D]at hk;cases hk;cases ho;grind
 |arr t rows aY=>
  obtain⟨_,_,_,z⟩:=this
  rcases z with⟨q1,_⟩|⟨o',ver,mv,c,ex,sh,cap,q1,_,q3,_⟩
  .rw[q1]at hk;cases hk;cases ho
  .rw[q1]at hk;cases hk;cases ho;grind
 |bh s aY=>
  rcases this.2 with⟨q1,_⟩|⟨o',ver,mv,ex,fz,cap,_,q1,_,q3,_⟩
  .rw[q1]at hk;cases hk;cases ho
  .rw[q1]at hk;cases hk;cases ho;grind
 |mp t rows aY=>obtain⟨_,o',es,cl,_,q2,q3,_⟩:=this;rw[q2]at hk;cases hk;cases ho;grind
 |tr t rows aY=>
  obtain⟨_,_,_,z⟩:=this
  rcases z with⟨q1,_⟩|⟨o',ver,mv,c,ex,sh,n,q1,q3,_⟩
  .rw[q1]at hk;cases hk;cases ho
  .rw[q1]at hk;cases hk;cases ho;grind|gone=>grind
inductive wL:cr->Prop|cells(v mv:Nat)(c:List AV)(fz:Nat)(el:TypeId)(ex sh:Bool):wL (.cells v mv c fz el ex sh)|map(es:List (AV×AV×Nat))(cl:Nat):wL (.map es cl)
theorem ah.cells(hs:ah P w ob nx h){i:Nat}(hi:live ob i){k:Lk}{o:Nat}(hk:w.s i=some k)(ho:k.obj=some o):∃y,h.get o=some y/\wL y:=by
 obtain⟨x,hx,hg⟩:=hi
 have:=hs.gJ hx
 cases x with
 |box t cs=>obtain⟨o',c,sh,E,D,_⟩:=this;rw[E]at hk;cases hk;cases ho;exact⟨_,D,.cells ..⟩
 |arr t rows aY=>
  obtain⟨_,_,_,z⟩:=this
  rcases z with⟨q1,_⟩|⟨o',ver,mv,c,ex,sh,cap,q1,_,q3,_⟩
  .rw[q1]at hk;cases hk;cases ho
  .rw[q1]at hk;cases hk;cases ho;exact⟨_,q3,.cells ..⟩
 |bh s aY=>
  rcases this.2 with⟨q1,_⟩|⟨o',ver,mv,ex,fz,cap,_,q1,_,q3,_⟩
  .rw[q1]at hk;cases hk;cases ho
  .rw[q1]at hk;cases hk;cases ho;exact⟨_,q3,.cells ..⟩
 |mp t rows aY=>obtain⟨_,o',es,cl,_,q2,q3,_⟩:=this;rw[q2]at hk;cases hk;cases ho;exact⟨_,q3,.map ..⟩
 |tr t rows aY=>
  obtain⟨_,_,_,z⟩:=this
  rcases z with⟨q1,_⟩|⟨o',ver,mv,c,ex,sh,n,q1,q3,_⟩
  .rw[q1]at hk;cases hk;cases ho
  .rw[q1]at hk;cases hk;cases ho;exact⟨_,q3,.cells ..⟩|gone=>grind
theorem ah.la(hs:ah P w ob nx h){i:Nat}(hi:live ob i){k:Lk}{o:Nat}(hk:w.s i=some k)(ho:k.obj=some o):¬Lp h.get o:=by rintro⟨x,e,z⟩;obtain⟨_,q,c⟩:=hs.cells hi hk ho;rw[q]at e;cases e;cases c<;>cases z
def Wd.put(w:Wd)(g:Nat->Option cr)(i:Nat)(k:Lk):Wd:={g:=g,F:=w.F,s:=λj=>if j=i then some k else w.s j}
theorem ah.fresh(hs:ah P w ob nx h){lk:Lk}{x:aq}(ha:∀a,lk.obj=some a->h.get a=none/\a<h'.next)(hg:∀o,lk.obj≠some o->h'.get o=h.get o)(hn:h.next<=h'.next)(E:∀o,h'.next<=o->h'.get o=none)
 (hx:dp P (w.put h'.get nx lk) h' nx x):ah P (w.put h'.get nx lk) (ob.put nx x) (nx+1) h'/\aX w (w.put h'.get nx lk)/\(∀i k,w.s i=some k->(w.put h'.get nx lk).s i=some k):=by
 have I:∀i k,w.s i=some k->(w.put h'.get nx lk).s i=some k:=by
  intro i k e
  have:i≠nx:=by rintro rfl;rw[(hs.nx i (Nat.le_refl _)).1]at e;cases e
  simp only[Wd.put];rw[if_neg this];exact e
 have K:∀o,w.F o->lk.obj≠some o:=λo f e=>(hs.bU o f).2 (ha o e).1
 have J:aX w (w.put h'.get nx lk):=⟨λ_ f=>f,λo x e _=>by rw[hs.g]at e;show h'.get o=_;grind,λo e=>by rw[hs.g]at e;have:h'.get o=h.get o:=hg o λe2=>e (ha o e2).1;show h'.get o≠none/\(Lp h'.get o->Lp w.g o);unfold Lp;rw[this,hs.g];grind,λo f v mv c fz el ex sh e=>⟨v,[],fz,el,ex,sh,by simp only[Wd.put,List.append_nil];rw[hg o (K o f),<-hs.g];exact e,Nat.le_refl _⟩,λo f es cl e=>by show h'.get o=_;rw[hg o (K o f),<-hs.g];exact e⟩
 have D:∀j,live (ob.put nx x) j->j=nx\/(j≠nx/\live ob j):=by
  rintro j⟨y,h1,h2⟩
  by_cases e:j=nx
  .exact .inl e
  .rw[Tr.aL _ _ e]at h1;exact .inr ⟨e,y,h1,h2⟩
 have z:∀i y,(ob.put nx x).get i=some y->dp P (w.put h'.get nx lk) h' i y:=by
  intro i y hy
  by_cases e:i=nx
  .subst e;rw[Tr.a7]at hy;grind
  .rw[Tr.aL _ _ e]at hy;cases y with|gone=>trivial|_=>refine(hs.gJ hy).move J I λk o h1 h2=>⟨hg o λe2=>?_,λf=>f⟩;exact hs.there ⟨_,hy,by simp⟩ h1 h2 (ha o e2).1
 refine⟨⟨λ_=>rfl,λi t cs e=>z i _ e,λi t rows l e=>z i _ e,λi s l e=>z i _ e,?_,?_,?_,?_,E,λi t rows l e=>z i _ e,λi t rows l e=>z i _ e⟩,J,I⟩
 .intro i j k l o h1 h2 h3 h4 h5 h6
  simp only[Wd.put]at h3 h4
  rcases D i h1 with N|⟨e1,M⟩
  .rcases D j h2 with L|⟨e2,g2⟩
   .rw[N,L]
   .rw[if_pos N]at h3;rw[if_neg e2]at h4;cases h3;exact absurd (ha o h5).1 (hs.there g2 h4 h6)
  .rcases D j h2 with L|⟨e2,g2⟩
   .rw[if_neg e1]at h3;rw[if_pos L]at h4;cases h4;exact absurd (ha o h6).1 (hs.there M h3 h5)
   .rw[if_neg e1]at h3;rw[if_neg e2]at h4;exact hs.inj i j k l o M g2 h3 h4 h5 h6
 .intro i k o h1 h2
  simp only[Wd.put]at h1
  split at h1
  .grind
  .exact Nat.lt_of_lt_of_le (hs.lt i k o h1 h2) hn
 .intro i hi
  constructor
  .simp only[Wd.put];rw[if_neg (by omega)];exact(hs.nx i (by omega)).1
  .rw[Tr.aL _ _ (by omega)];exact(hs.nx i (by omega)).2
 .intro o f;obtain⟨q1,q2⟩:=hs.bU o f;grind
end
end Go.AI
namespace Go.AI
section
variable {P:Program}{w w':Wd}{h h':AHeap}{ρ:Type}
theorem aaP{n:Int}{k:UInt8->Option ρ}{r:ρ}(h:FF n k=some r):0<=n/\n<256/\k (UInt8.ofNat n.toNat)=some r:=by unfold FF at h;grind
theorem K8:∀{vs:List SV}{xs:List AV}{k:List UInt8->Option ρ}{r:ρ},zD vs k=some r->au P w vs xs->∃b:List UInt8,k b=some r/\xs=b.map λb=>.sc (.int .u8 b.toNat)
 |[],_,k,r,h,.nil=>⟨[],h,rfl⟩
 |v::vs,_,k,r,h,.cons a b=>by
  unfold zD at h
  split at h
  .grind
  .rename_i k' n us e
   cases e
   obtain⟨h1,h2,h3⟩:=aaP h
   obtain⟨bs,q1,q2⟩:=K8 h3 b
   refine⟨_,q1,?_⟩
   cases a
   rw[q2]
   simp only[List.map_cons,List.cons.injEq,and_true,AV.sc.injEq,Value.int.injEq,true_and]
   have:(UInt8.ofNat n.toNat).toNat=n.toNat:=by simp_all
   grind
  .cases h
theorem cf.cells{w:Wd}:∀{ls:List Lf}{r r':List AV},cf P w ls r r'->r'.all dN=true|_,_,_,.nil=>rfl|_,_,_,.cons a b=>by simp only[List.all_cons,Bool.and_eq_true];refine⟨?_,b.cells⟩;cases a with|sl h=>exact h.cell|_=>rfl
structure S7(P:Program)(w:Wd)(h:AHeap)(S:ae)(k:SV->ae->Option ρ)(r:ρ)(run:AHeap->Option (dU×AHeap)):Prop where ok:∃(F:Nat->Prop)(eL:Tr aq)(obj:cr)(y:Nat->AV)(v:SV)(x:aq)(lk:Nat->Lk),ah P (w.more F) eL S.nx h/\fV S.ob eL/\(∀o,F o->Ow w S.ob o)/\(∀hp,run hp=some (.val (y hp.next),hp.alloc obj))/\k v {S with ob:=eL.put S.nx x,nx:=S.nx+1}=some r/\x≠.gone/\(∀a,(lk a).obj=some a)/\∀(w':Wd)(h':AHeap)(a:Nat),aX (w.more F) w'->(∀i k,w.s i=some k->w'.s i=some k)->w'.s S.nx=some (lk a)->h'.get a=some obj->¬w'.F a->dp P w' h' S.nx x/\RV P w' v (y a)
variable {A:dr}{R:dJ A.pn}{kp:TypeId->List AV->ae->Option ρ}
theorem K9{S:ae}(hs:ah P w S.ob S.nx h){t:TypeId}{cs:List SV}{xs:List AV}(hc:au P w cs xs)(hok:cJ cs=true){k:SV->ae->Option ρ}{r:ρ}(hr:jy S (.box t cs) (λi st=>k (.ref i 0) st)=some r){run:AHeap->Option (dU×AHeap)}(c:∀hp,run hp=some (.val (j3 hp t xs).2,(j3 hp t xs).1)):S7 P w h S k r run:=by refine⟨λ_=>False,S.ob,.cells 0 0 xs 0 t true false,λn=>.ref n 0 xs.length 0,.ref S.nx 0,.box t cs,λa=>.box a xs.length,by rw[Wd.jk];exact hs,.refl _,λ_ f=>f.elim,c,hr,by simp,λ_=>rfl,?_⟩;intro w' h' a hl o hn hg hF;rw[Wd.jk]at hl;exact⟨⟨a,xs,false,hn,hg,hc.mono hl o,hok,hF⟩,.ref hn⟩
theorem NR{S:ae}(hs:ah P w S.ob S.nx h){o:Oper}{ρ':Operand->AV}(M:∀x,x∈o.op.operands.toList->RV P w (bH S.tm x) (ρ' x))(hA:bg o.op=true){k:SV->ae->Option ρ}{r:ρ}(hr:h9 P A R kp o S k=some r):
 S7 P w h S k r (aV P ρ' o):=by
 unfold h9 at hr
 simp only at hr
 split at hr
 case h_1=>
  rename_i t D
  split at hr
  .rename_i i hi
   split at hr
   .rename_i z hz
    split at hr
    .rename_i hok;refine K9 hs (ti z) hok hr λhp=>?_;simp only[aV,D,eE,hi,hz,Option.map_some];rw[if_pos ((ti (P:=P) (w:=w) z).cells hok)]
    .cases hr
   .cases hr
  .cases hr
 case h_2=>
  rename_i t x D
  split at hr
  .rename_i hok;have hc:=nF (M x (by rw[D];simp[Op.operands])) (EZ hok);refine K9 hs hc hok hr λhp=>?_;simp only[aV,D];rw[if_pos (hc.cells hok)]
  .cases hr
 case h_4=>
  rename_i t len parts D
  have hp:=pF.map (P:=P) (w:=w) (e:=bH S.tm) (ρ':=ρ') parts.toList λx hx=>M x (by rw[D];simpa[Op.operands]using hx)
  unfold Ji at hr
  split at hr
  .rename_i e hu
   split at hr
   .rename_i s z hz E
    split at hr
    .rename_i I
     split at hr
     .rename_i ie hie
      split at hr
      .rename_i z' X
       have U:z=bz z':=by simp only[eE,hie,X,Option.map_some,Option.some.injEq]at E;exact E.symm
       have N:∀n,au P w (zC (bl (gx z')) n) (gP (a6 z) n):=by intro n;induction n with|zero=>exact .nil|succ n L=>rw[U];exact(ti z').append (by grind)
       split at hr
       .rename_i cells hf
        obtain⟨xs,e1,e2⟩:=zw hp (N len) hf
        have hok:∀{F:Nat->Prop}{rows:List (List AV)},bW P (w.more F) (lay P e) rows (chunks s len xs)->xs.length=len*s->s=(lay P e).length->xs.all dN=true:=by
         intro F rows Z hl Ui
         have hall:∀{ls:List Lf}{a b:List (List AV)},bW P (w.more F) ls a b->∀r,r∈b->r.all dN=true:=by
          intro ls a b hab
          induction b generalizing a with
          |nil=>grind
          |cons x b L=>cases hab with
           |cons q1 q2=>intro r hr;rcases List.mem_cons.1 hr with rfl|hr
                        .exact q1.cells
                        grind
         have:=hall Z;rw[<-chunks_flatten s len xs hl,List.all_eq_true];intro x hx;obtain⟨r,Uj,hr2⟩:=List.mem_flatten.1 hx;exact List.all_eq_true.1 (this r Uj) x hr2
        have It:∀{cs aS:List SV}{ps:List (Nat×SV)}{pl:Nat->Option (Nat×Nat)},jX pl cs ps=some aS->aS.length=cs.length:=by
         intro cs aS ps pl
         induction ps generalizing cs with
         |nil=>intro e;simp only[jX,Option.some.injEq]at e;rw[e]
         |cons p ps L=>
          obtain⟨i,v⟩:=p
          intro e
          simp only[jX]at e
          split at e
          .cases e
          .split at e
           .rename_i hc;rw[L e];unfold nN;grind
           .cases e
        have V:∀n,(zC (bl (gx z')) n).length=n*s:=by intro n;rw[(N n).length];induction n with|zero=>simp[gP]|succ n L=>simp only[gP,List.length_append,L,I.2,Nat.add_mul];omega
        have hlen:xs.length=len*s:=by rw[<-e2.length,It hf,V]
        split at hr
        .rename_i K
         split at hr
         case h_2=>cases hr
         rename_i hb1
         obtain⟨b,q1,q2⟩:=K8 hr e2
         cases b with
         |nil=>cases q1
         |cons b bs=>
          have Y:s=1:=Nat.eq_of_beq_eq_true hb1
          subst Y
          have T:xs=cQ ⟨⟨b::bs⟩⟩:=q2
          have Q:len=(⟨⟨b::bs⟩⟩:ByteArray).size:=by rw[Nat.mul_one]at hlen;rw[<-hlen,T];simp[cQ,ByteArray.size]
          refine⟨λ_=>False,S.ob,.cells 0 0 xs 0 e true false,λn=>.sl n 0 xs.length 0 1 len (some len),_,_,λa=>.sl a 0 xs.length 1 len (some len),by rw[Wd.jk];exact hs,.refl _,λ_ f=>f.elim,λhp=>?_,q1,by simp,λ_=>rfl,?_⟩
          .simp only[aV,D,tc,hu,hz,E]
           rw[if_pos I,e1]
           have:xs.all dN=true:=by rw[q2];simp[List.all_map,dN]
           simp only[this,if_true];rfl
          .intro w' h' a hl O hn hg hF
           refine⟨⟨K,.inr ⟨a,0,0,true,0,some len,by simp[ByteArray.size],?_,?_,?_,Nat.le_refl _,Nat.zero_le _,hF⟩⟩,.cu hn⟩
           .rw[<-Q];rw[hlen,Nat.mul_one]at hn;exact hn
           .intro k e;cases e;exact Q
           .rw[<-T];exact hg
        .rename_i K
         split at hr
         .rename_i c
          split at hr
          .rename_i rows J
           obtain⟨F,p1,p2,p4,p3,p5⟩:=lE hs cells
           obtain⟨r1,r2⟩:=Di p3 (λv hv=>hv) J e2
           have hg2:s=(lay P e).length/\0<s:=by unfold iU at c;rw[hz,E]at c;simp[Nat.blt_eq]at c;exact⟨c.1.1,c.1.2⟩
           refine⟨F,_,.cells 0 0 xs 0 e true false,λn=>.sl n 0 xs.length 0 s len (some len),_,_,λa=>.sl a 0 xs.length s len (some len),p1,p2,p4,λhp=>?_,hr,by simp,λ_=>rfl,?_⟩
           .simp only[aV,D,tc,hu,hz,E];grind
           .intro w' h' a hl O hn hg hF
            refine⟨⟨by grind,by grind,K,.inr ⟨a,0,0,xs,true,false,some len,?_,?_,hg,Nat.le_refl _,?_,?_,(λ_=>trivial),λ_=>hF⟩⟩,.cu hn⟩
            .grind
            .grind
            .grind
            .rw[r2,<-hg2.1];exact r1.mono hl
          .cases hr
         .cases hr
       .cases hr
      .cases hr
     .cases hr
    .cases hr
   .cases hr
  .cases hr
 case h_21=>
  rename_i t D
  split at hr
  .rename_i e hm;refine⟨λ_=>False,S.ob,.map [] 0,λn=>.map n,.om S.nx,.mp t [] false,λa=>.mp a,by rw[Wd.jk];exact hs,.refl _,λ_ f=>f.elim,λhp=>by simp only[aV,D],hr,by simp,λ_=>rfl,?_⟩;intro w' h' a hl O hn hg hF;exact⟨⟨e,a,[],0,hm,hn,hg,⟨.nil,λ_ e=>by simp at e,List.nodup_nil⟩,λ_=>hF⟩,.om hn⟩
  .cases hr
 all_goals simp_all[bg]
end
end Go.AI
end

section
namespace Go.AI
structure a8(w:Wd)(ob:Tr aq)(h:AHeap)(w':Wd)(ob':Tr aq)(h':AHeap):Prop where
 le:aX w w'
 s:∀i k,w.s i=some k->w'.s i=some k
 next:h.next<=h'.next
 floor:h'.floor=h.floor
 ck:∀o,o<h.next->¬Ow w ob o->h'.get o=h.get o
 own:∀o,Ow w' ob' o->h.next<=o\/Ow w ob o
 F:∀o,w'.F o->w.F o\/h.next<=o\/Ow w ob o
 wr:∀o,o∈h'.wr->o∈h.wr\/h.next<=o\/Ow w ob o\/Lp h.get o
 ea:(∀o,o∈h.wr->o<h.floor)->∀o,o∈h'.wr->o<h'.floor
 bx:∀i t cs,ob.get i=some (.box t cs)->∃aS,ob'.get i=some (.box t aS)
theorem aaQ{w:Wd}{ob:Tr aq}{h h':AHeap}{o:Nat}{Q:Nat->Prop}(hk:∀o,o<h.next->¬Ow w ob o->h'.get o=h.get o)(_:∀o,Q o->h.next<=o\/Ow w ob o)(hl:Lp h'.get o):h.next<=o\/Ow w ob o\/Lp h.get o:=by
 rcases Nat.lt_or_ge o h.next with e|e
 .by_cases e2:Ow w ob o
  .grind
  .obtain⟨x,e3,c⟩:=hl;exact .inr (.inr ⟨x,by grind,c⟩)
 grind
theorem a8.refl(w:Wd)(ob:Tr aq)(h:AHeap):a8 w ob h w ob h:=⟨.refl w,λ_ _ e=>e,aC _,rfl,λ_ _ _=>rfl,λ_ e=>.inr e,λ_ e=>.inl e,λ_ e=>.inl e,λe=>e,λ_ _ cs e=>⟨cs,e⟩⟩
theorem a8.trans{w w' z:Wd}{ob ob' c:Tr aq}{h h' D:AHeap}(a:a8 w ob h w' ob' h')(b:a8 w' ob' h' z c D):a8 w ob h z c D where
 le:=a.le.trans b.le
 s:=λi k e=>b.s i k (a.s i k e)
 next:=Nat.le_trans a.next b.next
 floor:=b.floor.trans a.floor
 ck:=λo h1 h2=>by rw[b.ck o (Nat.lt_of_lt_of_le h1 a.next) λh3=>(a.own o h3).elim (λh4=>absurd h1 (by omega)) h2];exact a.ck o h1 h2
 own:=λo e=>by
  rcases b.own o e with h1|h1
  .exact .inl (Nat.le_trans a.next h1)
  .exact a.own o h1
 F:=λo e=>by
  rcases b.F o e with h1|h1|h1
  .exact a.F o h1
  .exact .inr (.inl (Nat.le_trans a.next h1))
  .exact .inr (a.own o h1)
 wr:=λo e=>by
  rcases b.wr o e with h1|h1|h1|h1
  .exact a.wr o h1
  .exact .inr (.inl (Nat.le_trans a.next h1))
  .exact .inr ((a.own o h1).imp id .inl)
  .exact .inr (aaQ a.ck a.own h1)
 ea:=λe=>b.ea (a.ea e);bx:=λi t cs e=>let⟨E,e1⟩:=a.bx i t cs e;b.bx i t E e1
def Wd.heap(w:Wd)(g:Nat->Option cr):Wd:={g:=g,F:=w.F,s:=w.s}
section
variable {P:Program}{w:Wd}{ob ob':Tr aq}{nx:Nat}{h h':AHeap}
theorem a8.bo{F:Nat->Prop}(hl:fV ob ob')(hF:∀o,F o->Ow w ob o):a8 w ob h (w.more F) ob' h where
 le:=.more w F
 s:=λ_ _ e=>e
 next:=aC _
 floor:=rfl
 ck:=λ_ _ _=>rfl
 own:=λo⟨i,k,h1,h2,h3⟩=>.inr ⟨i,k,(hl.live i).1 h1,h2,h3⟩
 F:=λo e=>e.elim .inl λe=>.inr (.inr (hF o e))
 wr:=λ_ e=>.inl e
 ea:=λe=>e
 bx:=λi t cs e=>⟨cs,(hl.box i t cs).2 e⟩
theorem nD{l:List Nat}{c o p:Nat}(h:p∈jw l c o):p∈l\/p=o:=by unfold jw at h;grind
theorem nM{l:List Nat}{c o:Nat}(hl:∀p,p∈l->p<c):∀p,p∈jw l c o->p<c:=by intro p h;unfold jw at h;grind
theorem aX.aU(hs:ah P w ob nx h){o:Nat}{y:cr}(hF:¬w.F o)(hL:¬Lp h.get o)(hy:nc y=false):aX w (w.heap (h.aU o y).get):=⟨λ_ f=>f,λo' x e i=>by
 have z:o'≠o:=by rintro rfl;exact hL ⟨x,by rw[<-hs.g];exact e,i⟩
 simp only[Wd.heap,AHeap.get,AHeap.aU,Tr.aL _ _ z]
 rw[hs.g]at e;exact e,λo' e=>by
 simp only[Wd.heap,Lp,AHeap.get,AHeap.aU]
 by_cases z:o'=o
 .subst z;rw[Tr.a7];grind
 .rw[Tr.aL _ _ z];rw[hs.g]at e;exact⟨e,λq=>by rw[hs.g];exact q⟩,λo' f v mv c fz el ex sh e=>⟨v,[],fz,el,ex,sh,by have z:o'≠o:=λe=>hF (e▸f);simp only[Wd.heap,List.append_nil,AHeap.get,AHeap.aU,Tr.aL _ _ z];rw[hs.g]at e;exact e,aC _⟩,λo' f es cl e=>by have z:o'≠o:=λe=>hF (e▸f);simp only[Wd.heap,AHeap.get,AHeap.aU,Tr.aL _ _ z];rw[hs.g]at e;exact e⟩
theorem E0{i:Nat}{z x:aq}(c:ob.get i=some z)(o:∀t cs,z=.box t cs->∃aS,x=.box t aS):∀j t cs,ob.get j=some (.box t cs)->∃aS,(ob.put i x).get j=some (.box t aS):=by
 intro j t cs e
 by_cases e2:j=i
 .subst e2;rw[c]at e;cases e;obtain⟨aS,rfl⟩:=o t cs rfl;exact⟨aS,Tr.a7 ..⟩
 .exact⟨cs,by rw[Tr.aL _ _ e2];exact e⟩
theorem E1{i:Nat}{x:aq}(c:ob.get i=none):∀j t cs,ob.get j=some (.box t cs)->∃aS,(ob.put i x).get j=some (.box t aS):=by
 intro j t cs e
 have e2:j≠i:=by grind
 exact⟨cs,by rw[Tr.aL _ _ e2];exact e⟩
theorem ah.change(hs:ah P w ob nx h){i o:Nat}{M x:aq}{k:Lk}{y:cr}(D:ob.get i=some M)(L:M≠.gone)(Q:∀t cs,M=.box t cs->∃aS,x=.box t aS)(hk:w.s i=some k)(ho:k.obj=some o)(hF:¬w.F o)
 (hy:nc y=false)(hx:dp P (w.heap (h.aU o y).get) (h.aU o y) i x)(hg:x≠.gone):ah P (w.heap (h.aU o y).get) (ob.put i x) nx (h.aU o y)/\a8 w ob h (w.heap (h.aU o y).get) (ob.put i x) (h.aU o y):=by
 have I:live ob i:=⟨_,D,L⟩
 have J:∀j,live (ob.put i x) j↔live ob j:=λj=>nL D L hg
 have c:∀o',o'≠o->(h.aU o y).get o'=h.get o':=λo' e=>by simp only[AHeap.get,AHeap.aU,Tr.aL _ _ e]
 have hlt:=hs.lt i k o hk ho
 have K:aX w (w.heap (h.aU o y).get):=.aU hs hF (hs.la I hk ho) hy
 have E:∀j z,(ob.put i x).get j=some z->dp P (w.heap (h.aU o y).get) (h.aU o y) j z:=by
  intro j z hz
  by_cases e:j=i
  .subst e;rw[Tr.a7]at hz;grind
  .rw[Tr.aL _ _ e]at hz;cases z with|gone=>trivial|_=>refine(hs.gJ hz).move K (λ_ _ e=>e) λk' o' h1 h2=>⟨c o' λe2=>?_,λf=>f⟩;subst e2;exact e (hs.inj j i k' k o' ⟨_,hz,by simp⟩ I h1 hk h2 ho)
 refine⟨⟨λ_=>rfl,λi t cs e=>E i _ e,λi t rows l e=>E i _ e,λi s l e=>E i _ e,?_,?_,?_,?_,?_,λi t rows l e=>E i _ e,λi t rows l e=>E i _ e⟩,⟨K,λ_ _ e=>e,aC _,rfl,?_,?_,λ_ f=>.inl f,?_,?_,E0 D Q⟩⟩
 .intro a b N R o' h1 h2 h3 h4 h5 h6;exact hs.inj a b N R o' ((J a).1 h1) ((J b).1 h2) h3 h4 h5 h6
 .intro a N o' h1 h2;exact hs.lt a N o' h1 h2
 .intro a ha
  refine⟨(hs.nx a ha).1,?_⟩
  have:a≠i:=by rintro rfl;rw[(hs.nx a ha).2]at D;cases D
  rw[Tr.aL _ _ this];exact(hs.nx a ha).2
 .intro o' f;refine⟨(hs.bU o' f).1,?_⟩;rw[c o' λe=>hF (e▸f)];exact(hs.bU o' f).2
 .intro o' O;have hn:h.next<=o':=O;rw[c o' (by omega)];exact hs.new o' hn
 .intro o' _ hn;exact c o' λe=>hn (e▸⟨i,k,I,hk,ho⟩)
 .rintro o'⟨j,k',h1,h2,h3⟩;exact .inr ⟨j,k',(J j).1 h1,h2,h3⟩
 .intro p hp
  rcases nD hp with e|rfl
  .exact .inl e
  .exact .inr (.inr (.inl ⟨i,k,I,hk,ho⟩))
 .exactλe=>nM e
theorem bW.oi{w:Wd}{ls:List Lf}:∀{rs cZ:List (List AV)},rs.length=cZ.length->(∀(i:Nat)(r r':List AV),rs[i]?=some r->cZ[i]?=some r'->cf P w ls r r')->bW P w ls rs cZ|[],[],_,_=>.nil _|r::rs,r'::cZ,hl,h=>.cons (h 0 r r' rfl rfl) (bW.oi (by grind) λi a b h1 h2=>h (i+1) a b (by grind) (by grind))|[],_::_,hl,_=>by simp at hl|_::_,[],hl,_=>by simp at hl
theorem B6(c new:List AV)(p q:Nat)(hp:p+new.length<=c.length):(dO c p new)[q]?=if p<=q/\q<p+new.length then new[q-p]? else c[q]?:=by unfold dO;grind
theorem B7(c new:List AV)(p:Nat)(hp:p+new.length<=c.length):(dO c p new).length=c.length:=by unfold dO;grind
theorem cf.oi{w:Wd}:∀{ls:List Lf}{r r':List AV},r.length=ls.length->r'.length=ls.length->(∀(j:Nat)(l:Lf)(c y:AV),ls[j]?=some l->r[j]?=some c->r'[j]?=some y->jO P w l c y)->cf P w ls r r'|[],[],[],_,_,_=>.nil|l::ls,c::r,y::r',h1,h2,h=>.cons (h 0 l c y rfl rfl rfl) (cf.oi (by grind) (by grind) λj l' c' o a b d=>h (j+1) l' c' o (by grind) (by grind) (by grind))|[],_::_,_,h,_,_=>by simp at h|[],[],_::_,_,h,_=>by simp at h|_::_,[],_,h,_,_=>by simp at h|_::_,_::_,[],_,h,_=>by simp at h
theorem cf.dO{w:Wd}{ls:List Lf}{r r' new new':List AV}{off:Nat}(hr:cf P w ls r r')(hn:cf P w ((ls.drop off).take new.length) new new')(hl:off+new.length<=ls.length):cf P w ls (dO r off new) (dO r' off new'):=by
 obtain⟨F,E⟩:=hr.length
 obtain⟨I,D⟩:=hn.length
 have z:((ls.drop off).take new.length).length=new.length:=by grind
 refine .oi (by rw[B7 _ _ _ (by omega)];exact F) (by rw[B7 _ _ _ (by omega)];exact E) λj l c y h1 h2 h3=>?_
 rw[B6 _ _ _ _ (by omega)]at h2 h3
 rw[D,z]at h3
 split at h2
 .rename_i hc;rw[if_pos hc]at h3;obtain⟨c',o,e1,e2,e3⟩:=hn.get (j-off) l (by grind);grind
 .rename_i hc;rw[if_neg hc]at h3;obtain⟨c',o,e1,e2,e3⟩:=hr.get j l h1;grind
theorem bW.set{w:Wd}{ls:List Lf}{rows:List (List AV)}{c:List AV}{j:Nat}{dZ:List AV}{p:Nat}{new:List AV}(hr:bW P w ls rows (chunks ls.length rows.length c))(hc:c.length=rows.length*ls.length)
 (hj:j<rows.length)(hp:j*ls.length<=p/\p+new.length<=(j+1)*ls.length)(hn:cf P w ls dZ ((((dO c p new).drop (j*ls.length)).take ls.length))):bW P w ls (rows.set j dZ) (chunks ls.length (rows.set j dZ).length (dO c p new)):=by
 have z:(j+1)*ls.length<=rows.length*ls.length:=Nat.mul_le_mul_right _ hj
 refine .oi (by rw[I7]) λi r r' h1 h2=>?_
 have hi:i<rows.length:=by grind
 rw[List.length_set,pK _ _ _ hi]at h2
 cases h2
 by_cases e:i=j
 .grind
 .rw[List.getElem?_set_ne (λe2=>e e2.symm)]at h1
  obtain⟨r',q1,q2⟩:=hr.get i r h1
  rw[pK _ _ _ hi]at q1
  cases q1
  have:((dO c p new).drop (i*ls.length)).take ls.length=(c.drop (i*ls.length)).take ls.length:=by
   apply List.ext_getElem?
   intro q
   rw[List.getElem?_take,List.getElem?_take]
   split
   .rename_i hq
    rw[List.getElem?_drop,List.getElem?_drop,B6 _ _ _ _ (by omega),if_neg]
    rintro⟨E,D⟩
    rcases Nat.lt_or_ge i j with o|o
    .have:(i+1)*ls.length<=j*ls.length:=Nat.mul_le_mul_right _ o;grind
    .have o:j+1<=i:=by omega
     have:(j+1)*ls.length<=i*ls.length:=Nat.mul_le_mul_right _ o;omega
   .rfl
  grind
variable {ρ:Type}
theorem X1{S:ae}(hs:ah P w S.ob S.nx h){t:TypeId}{a v:SV}{x y:AV}(hx:RV P w a x)(hy:RV P w v y){k:ae->Option ρ}{r:ρ}(hr:Eh P S t a v k=some r):
 ∃w' ob' h',ah P w' ob' S.nx h'/\a8 w S.ob h w' ob' h'/\k {S with ob:=ob'}=some r/\nV P h t x y=some h':=by
 unfold Eh at hr
 split at hr
 .rename_i s i off hz
  split at hr
  .rename_i t' cs hb
   split at hr
   .rename_i hc;obtain⟨o,c,sh,K,b2,Q,b4,N⟩:=hs.box i t' cs hb;have z:=nF hy (EZ hc.2.2);have hlen:=z.length;cases hx with|ref e=>rw[K]at e;simp only[ad,Lk.box.injEq]at e;obtain⟨rfl,rfl⟩:=e;have Z:=Q.length;have M:(dO c off (a6 y)).length=c.length:=B7 _ _ _ (by omega);obtain⟨q1,q2⟩:=hs.change (y:=.cells 0 0 (dO c off (a6 y)) 0 t' true sh) (x:=.box t' (nN cs off (bl v))) hb (by simp) (by grind) K rfl N rfl ⟨o,_,sh,by rw[M];exact K,by simp only[AHeap.get,AHeap.aU,Tr.a7],(Q.dO z off).mono (.aU hs N (hs.la ⟨_,hb,by simp⟩ K rfl) rfl) (λ_ _ e=>e),Vv off b4 hc.2.2,N⟩ (by simp);refine⟨_,_,_,q1,q2,hr,?_⟩;simp only[nV,hz];rw[if_pos (by grind)];simp only[iq,b2];rw[if_pos ⟨trivial,aC _,by omega,Nat.zero_le _,z.cells hc.2.2⟩]
   .cases hr
  .cases hr
 .rename_i s i j off hz
  split at hr
  .rename_i t' rows hb
   unfold eJ at hr
   split at hr
   .rename_i row E
    split at hr
    .rename_i hc
     split at hr
     .rename_i new I
      obtain⟨F,p1,p2,U,p3,p5⟩:=lE hs (bl v)
      have hv:v≠.aM:=by rintro rfl;revert I;generalize((lay P t').drop off).take s=l;cases l<;>simp[bl,rowOf,cellOf]
      have z:=nF hy hv
      have D:=tT p3 (λv hv=>hv) I z
      obtain⟨n1,n2⟩:=D.length
      have V:(((lay P t').drop off).take s).length=s:=by grind
      obtain⟨a1,a2,a3,a4⟩:=p1.arr i t' rows false hb
      have hj:=yK E
      rcases a4 with⟨_,rfl⟩|⟨o,ver,mv,c,ex,sh,cap,q1,q2,q3,q4,q5,q6,q7,q8⟩
      .simp at E
      .cases hx with
       |dI e _=>
        have e':(w.more F).s i=_:=e
        rw[q1]at e'
        simp only[ad,Lk.sl.injEq]at e'
        obtain⟨rfl,rfl,rfl,rfl,rfl,rfl⟩:=e'
        have X:(j+1)*(lay P t').length<=rows.length*(lay P t').length:=Nat.mul_le_mul_right _ hj
        have O:(j+1)*(lay P t').length=j*(lay P t').length+(lay P t').length:=by grind
        obtain⟨dZ,r1,r2⟩:=q6.get j row E
        rw[pK _ _ _ hj]at r1
        cases r1
        have L:cf P (w.more F) (lay P t') (dO row off new) (((dO c (j*(lay P t').length+off) (a6 y)).drop (j*(lay P t').length)).take (lay P t').length):=by
         have h5:=r2.dO (new:=new) (new':=a6 y) (off:=off) (by grind) (by omega)
         have e5:dO ((c.drop (j*(lay P t').length)).take (lay P t').length) off (a6 y)=((dO c (j*(lay P t').length+off) (a6 y)).drop (j*(lay P t').length)).take (lay P t').length:=by
          have Y:((c.drop (j*(lay P t').length)).take (lay P t').length).length=(lay P t').length:=by grind
          apply List.ext_getElem?
          intro q
          rw[B6 _ _ _ _ (by omega),List.getElem?_take,List.getElem?_take,List.getElem?_drop,List.getElem?_drop,B6 _ _ _ _ (by omega)]
          by_cases hq:q<(lay P t').length
          .grind
          .grind
         rw[<-e5];exact h5
        have J:=q6.set (j:=j) (p:=j*(lay P t').length+off) (new:=a6 y) q5 hj ⟨by omega,by omega⟩ L;obtain⟨T,R⟩:=p1.change (y:=.cells ver ver (dO c (j*(lay P t').length+off) (a6 y)) 0 t' ex sh) (x:=.arr t' (rows.set j (dO row off new)) false) hb (by simp) (by simp) q1 rfl (q8 rfl) rfl ⟨a1,a2,a3,.inr ⟨o,ver,ver,_,ex,sh,cap,by rw[List.length_set];exact q1,by grind,by simp only[AHeap.get,AHeap.aU,Tr.a7],aC _,by rw[B7 _ _ _ (by omega),List.length_set];exact q5,J.mono (.aU p1 (q8 rfl) (p1.la ⟨_,hb,by simp⟩ q1 rfl) rfl),(λ_=>trivial),λ_=>q8 rfl⟩⟩ (by simp);refine⟨_,_,_,T,(a8.bo p2 U).trans R,hr,?_⟩;simp only[nV,hz];rw[if_pos (by grind)];simp only[iq,q3];rw[if_pos ⟨trivial,q4,by omega,Nat.zero_le _,D.cells⟩]
     .cases hr
    .cases hr
   .cases hr
  .cases hr
 .cases hr
theorem ah.move(hs:ah P w ob nx h){i:Nat}{O x:aq}{k lk:Lk}{g:Nat->Option cr}{h':AHeap}(E:ob.get i=some O)(Y:O≠.gone)(CD:∀t cs,O≠.box t cs)(hnp:∀t rows l,O≠.mp t rows l)(hk:w.s i=some k)
 (hg:g=h'.get)(hn:h'.next=h.next)(Z:h'.floor=h.floor)(U:∀p,p∈h'.wr->p∈h.wr\/k.obj=some p)(V:(∀p,p∈h.wr->p<h.floor)->∀p,p∈h'.wr->p<h'.floor)
 (z:∀o,k.obj≠some o->h'.get o=h.get o)(L:∀o,lk.obj=some o->k.obj=some o)
 (X:∀o,w.F o->k.obj=some o->∀v mv c fz el ex sh,h.get o=some (.cells v mv c fz el ex sh)->∃v' d fF fG eY fw,h'.get o=some (.cells v' mv (c++d) fF fG eY fw)/\v<=v')
 (HK:∀o,k.obj=some o->h'.get o≠none/\¬Lp h'.get o)
 (hx:aX w (w.put g nx lk)->(∀j l,w.s j=some l->(w.put g nx lk).s j=some l)->dp P (w.put g nx lk) h' nx x)(Iu:x≠.gone):
 ah P (w.put g nx lk) ((ob.put i .gone).put nx x) (nx+1) h'/\a8 w ob h (w.put g nx lk) ((ob.put i .gone).put nx x) h':=by
 subst hg
 have D:live ob i:=⟨_,E,Y⟩
 have akC:i≠nx:=by rintro rfl;rw[(hs.nx i (aC _)).2]at E;cases E
 have Q:∀j l,w.s j=some l->(w.put h'.get nx lk).s j=some l:=by
  intro j l e
  have:j≠nx:=by rintro rfl;rw[(hs.nx j (aC _)).1]at e;cases e
  simp only[Wd.put];rw[if_neg this];exact e
 have hnm:∀o,k.obj=some o->∀es cl,h.get o≠some (.map es cl):=by
  intro o ho es cl q
  have hr:=hs.gJ E
  cases O with
  |box t cs=>grind
  |mp t r l=>grind
  |gone=>grind
  |arr t rows l=>
   obtain⟨_,_,_,a4⟩:=hr
   rcases a4 with⟨q1,_⟩|⟨o',ver,mv,c,ex,sh,cap,q1,_,q3,_⟩
   .rw[q1]at hk;cases hk;cases ho
   .rw[q1]at hk;cases hk;cases ho;grind
  |tr t rows l=>
   obtain⟨_,_,_,a4⟩:=hr
   rcases a4 with⟨q1,_⟩|⟨o',ver,mv,c,ex,sh,n,q1,q3,_⟩
   .rw[q1]at hk;cases hk;cases ho
   .rw[q1]at hk;cases hk;cases ho;grind
  |bh s l=>
   rcases hr.2 with⟨q1,_⟩|⟨o',ver,mv,ex,fz,cap,_,q1,_,q3,_⟩
   .rw[q1]at hk;cases hk;cases ho
   .rw[q1]at hk;cases hk;cases ho;grind
 have R:aX w (w.put h'.get nx lk):=by
  refine⟨λ_ f=>f,λo x e i=>?_,λo e=>?_,λo f v mv c fz el ex sh e=>?_,λo f es cl e=>?_⟩
  .rw[hs.g]at e;show h'.get o=_;rw[z o λe2=>hs.la D hk e2 ⟨x,e,i⟩];exact e
  .show h'.get o≠none/\(Lp h'.get o->Lp w.g o)
   rw[hs.g]at e
   by_cases J:k.obj=some o
   .grind
   .unfold Lp;rw[z o J,hs.g];grind
  .rw[hs.g]at e
   by_cases J:k.obj=some o
   .exact X o f J _ _ _ _ _ _ _ e
   .exact⟨v,[],fz,el,ex,sh,by simp only[Wd.put,List.append_nil];grind,aC _⟩
  .rw[hs.g]at e;show h'.get o=_;grind
 have K:∀j,live ((ob.put i .gone).put nx x) j->j=nx\/(j≠nx/\j≠i/\live ob j):=by
  rintro j⟨y,h1,h2⟩
  by_cases e:j=nx
  .exact .inl e
  .rw[Tr.aL _ _ e]at h1
   by_cases e2:j=i
   .subst e2;rw[Tr.a7]at h1;grind
   .rw[Tr.aL _ _ e2]at h1;exact .inr ⟨e,e2,y,h1,h2⟩
 have I:∀j y,((ob.put i .gone).put nx x).get j=some y->dp P (w.put h'.get nx lk) h' j y:=by
  intro j y hy
  by_cases e:j=nx
  .subst e;rw[Tr.a7]at hy;grind
  .rw[Tr.aL _ _ e]at hy
   by_cases e2:j=i
   .subst e2;rw[Tr.a7]at hy;cases hy;trivial
   .rw[Tr.aL _ _ e2]at hy;cases y with|gone=>trivial|_=>refine(hs.gJ hy).move R Q λl o h1 h2=>⟨z o λe3=>?_,λf=>f⟩;exact e2 (hs.inj j i l k o ⟨_,hy,by simp⟩ D h1 hk h2 e3)
 refine⟨⟨λ_=>rfl,λi t cs e=>I i _ e,λi t rows l e=>I i _ e,λi s l e=>I i _ e,?_,?_,?_,?_,?_,λi t rows l e=>I i _ e,λi t rows l e=>I i _ e⟩,⟨R,Q,by omega,Z,?_,?_,λ_ f=>.inl f,?_,V,?_⟩⟩
 .intro a b S k2 o h1 h2 h3 h4 h5 h6
  simp only[Wd.put]at h3 h4
  rcases K a h1 with M|⟨M,a2,T⟩
  .rcases K b h2 with N|⟨N,b2,g2⟩
   .rw[M,N]
   .rw[if_pos M]at h3;rw[if_neg N]at h4;cases h3;exact absurd (hs.inj b i k2 k o g2 D h4 hk h6 (L o h5)) b2
  .rcases K b h2 with N|⟨N,b2,g2⟩
   .rw[if_neg M]at h3;rw[if_pos N]at h4;cases h4;exact absurd (hs.inj a i S k o T D h3 hk h5 (L o h6)) a2
   .rw[if_neg M]at h3;rw[if_neg N]at h4;exact hs.inj a b S k2 o T g2 h3 h4 h5 h6
 .intro a S o h1 h2
  simp only[Wd.put]at h1
  split at h1
  .cases h1;rw[hn];exact hs.lt i k o hk (L o h2)
  .rw[hn];exact hs.lt a S o h1 h2
 .intro a ha
  constructor
  .simp only[Wd.put];rw[if_neg (by omega)];exact(hs.nx a (by omega)).1
  .rw[Tr.aL _ _ (by omega),Tr.aL]
   .exact(hs.nx a (by omega)).2
   .rintro rfl;rw[(hs.nx a (by omega)).2]at E;cases E
 .intro o f
  refine⟨by rw[hn];exact(hs.bU o f).1,?_⟩
  by_cases J:k.obj=some o
  .grind
  .rw[z o J];exact(hs.bU o f).2
 .intro o ho;rw[hn]at ho;rw[z o λe=>by have:=hs.lt i k o hk e;omega];exact hs.new o ho
 .intro o _ h2;exact z o λe=>h2 ⟨i,k,D,hk,e⟩
 .rintro o⟨j,l,h1,h2,h3⟩
  right
  simp only[Wd.put]at h2
  rcases K j h1 with M|⟨M,a2,T⟩
  .rw[if_pos M]at h2;cases h2;exact⟨i,k,D,hk,L o h3⟩
  .rw[if_neg M]at h2;exact⟨j,l,T,h2,h3⟩
 .intro p hp
  rcases U p hp with e|e
  .exact .inl e
  .exact .inr (.inr (.inl ⟨i,k,D,hk,e⟩))
 .intro j t cs e
  have e2:j≠i:=by grind
  have e3:j≠nx:=by rintro rfl;rw[(hs.nx _ (aC _)).2]at e;cases e
  exact⟨cs,by rw[Tr.aL _ _ e3,Tr.aL _ _ e2];exact e⟩
theorem Rd.first{w:Wd}(hg:∀o,w.g o=h.get o){e:TypeId}{rows:List (List AV)}{x:AV}(hd:Rd P w e rows x):∃cells,fT h (lay P e).length rows.length x=some cells/\cells.length=rows.length*(lay P e).length/\bW P w (lay P e) rows (chunks (lay P e).length rows.length cells)/\cells.all dN=true:=by
 have hall:∀{ls:List Lf}{a b:List (List AV)},bW P w ls a b->b.flatten.all dN=true/\(∀r,r∈b->r.length=ls.length):=by
  intro ls a b I
  induction b generalizing a with
  |nil=>grind
  |cons x b K=>cases I with
   |cons q1 q2=>
    obtain⟨D,E⟩:=K q2
    refine⟨by rw[List.flatten_cons,List.all_append,q1.cells,D];rfl,λr hr=>?_⟩
    rcases List.mem_cons.1 hr with rfl|hr
    .exact q1.length.2
    grind
 cases hd with
 |nil=>exact⟨[],by simp[fT],by simp,.nil _,rfl⟩
 |bT=>exact⟨[],by simp[fT],by simp,.nil _,rfl⟩
 |aQ M L a0 z=>rename_i rows';obtain⟨D,E⟩:=hall z;have hl:=z.length;refine⟨rows'.flatten,?_,by rw[nH E,hl],by rw[hl,Jp E];exact z,D⟩;simp only[fT];grind
 |sl M L hF F h3 h4 h5 h6 J z=>
  rename_i o ver n off v mv fz c el ex sh cap
  obtain⟨D,E⟩:=hall z
  have hl:((c.drop off).take (rows.length*(lay P e).length)).length=rows.length*(lay P e).length:=by grind
  have hc:chunks (lay P e).length rows.length ((c.drop off).take (rows.length*(lay P e).length))=chunks (lay P e).length rows.length (c.drop off):=by have:=rq (sz:=(lay P e).length) rows.length ((c.drop off).take (rows.length*(lay P e).length)) ((c.drop off).drop (rows.length*(lay P e).length)) (by omega);rw[List.take_append_drop]at this;exact this.symm
  refine⟨(c.drop off).take (rows.length*(lay P e).length),?_,hl,by grind,?_⟩
  .simp only[fT];rw[if_pos ⟨trivial,aC _⟩];simp only[c9,<-hg,F];grind
  .rw[<-chunks_flatten (lay P e).length rows.length _ hl,hc];exact D
theorem Pn{e:TypeId}{s:ByteArray}{bu r':List AV}{u:AV}(h1:cf P w (lay P e) bu r')(h2:(ep P e=some true/\u=.agg r')\/(ep P e=some false/\r'=[u])):
 ∀{rows:List (List AV)}{es:List (AV×AV×Nat)}(cl j:Nat),jK P w e rows es->(gR (.string s) es j=some none/\jK P w e (bG rows s bu) (es++[(.sc (.string s),u,cl)]))\/∃i v b,gR (.string s) es j=some (some (i+j,v,b))/\jK P w e (bG rows s bu) (es.set i (.sc (.string s),u,b))/\(es.set i (.sc (.string s),u,b)).map (·.2.2)=es.map (·.2.2)
 |_,_,cl,j,.nil=>.inl ⟨rfl,.cons h1 h2 .nil⟩
 |_,_,cl,j,.cons (s:=q) (r:=r0) (r':=r1) (v:=v) (c:=c) (rows:=rows) (es:=es) z g2 o=>by
  have e1:gR (.string s) ((.sc (.string q),v,c)::es) j=match some (s==q)with|some true=>some (some (j,v,c))|some false=>gR (.string s) es (j+1)|none=>none:=rfl
  have e2:bG ((.sc (.string q)::r0)::rows) s bu=match s==q with|true=>(.sc (.string s)::bu)::rows|false=>(.sc (.string q)::r0)::bG rows s bu:=rfl
  rw[e1,e2]
  cases s==q with
  |true=>exact .inr ⟨0,v,c,by simp,.cons h1 h2 o,rfl⟩
  |false=>
   rcases Pn h1 h2 cl (j+1) o with⟨a,b⟩|⟨i,v',c',a,b,b'⟩
   .exact .inl ⟨a,.cons z g2 b⟩
   .exact .inr ⟨i+1,v',c',by grind,.cons z g2 b,by grind⟩
theorem aaR{S:ae}(hs:ah P w S.ob S.nx h){t:TypeId}{m i x:SV}{y z u:AV}(hm:RV P w m y)(hi:RV P w i z)(hx:RV P w x u){k:ae->Option ρ}{r:ρ}(hr:FD P S t m i x k=some r):
 ∃w' ob' h',ah P w' ob' S.nx h'/\a8 w S.ob h w' ob' h'/\k {S with ob:=ob'}=some r/\me P h t y z u=some h':=by
 unfold FD at hr
 split at hr
 .rename_i e j s D
  obtain⟨F,p1,p2,V,p3,Z⟩:=lE hs (bl x)
  have key:∀rows bu,(bo S.ob (bl x)).get j=some (.mp t rows false)->rowOf P S.ob (lay P e) (bl x)=some bu->((ep P e=some true/\∃cs,x=.agg cs)\/(ep P e=some false/\∀cs,x≠.agg cs))->
   k {S with ob:=(bo S.ob (bl x)).put j (.mp t (bG rows s bu) false)}=some r->∃w' ob' h',ah P w' ob' S.nx h'/\a8 w S.ob h w' ob' h'/\k {S with ob:=ob'}=some r/\me P h t y z u=some h':=by
   intro rows bu hb E hag hr
   have hv:x≠.aM:=by rintro rfl;revert E;generalize lay P e=l;cases l<;>simp[bl,rowOf,cellOf]
   have I:=nF hx hv
   have J:=tT p3 (λv hv=>hv) E I
   have K:(ep P e=some true/\u=.agg (a6 u))\/(ep P e=some false/\a6 u=[u]):=by
    rcases hag with⟨a,cs,rfl⟩|⟨a,b⟩
    .cases hx with|agg _=>exact .inl ⟨a,rfl⟩
    .exact .inr ⟨a,K0 (hx.na hv b)⟩
   obtain⟨e',o,es,cl,q1,q2,q3,q4,q5⟩:=p1.mp j t rows false hb
   rw[D]at q1;cases q1
   cases hm with
   |om Y=>
    have L:(w.more F).s j=_:=Y
    rw[q2]at L;cases L
    cases hi
    obtain⟨kt,_,_,U,T,_⟩:=D8 D
    rcases Pn J K cl 0 q4.en with⟨R,Q⟩|⟨i,v,b,R,Q,X⟩
    .obtain⟨N,M⟩:=p1.change (y:=.map (es++[(.sc (.string s),u,cl)]) (cl+1)) (x:=.mp t (bG rows s bu) false) hb (by simp) (by simp) q2 rfl (q5 rfl) rfl
      ⟨e,o,es++[(.sc (.string s),u,cl)],cl+1,D,q2,by simp only[AHeap.get,AHeap.aU,Tr.a7],⟨Q.bX (aX.aU p1 (q5 rfl) (p1.la ⟨_,hb,by simp⟩ q2 rfl) rfl).c,λz hz=>by
        rw[List.map_append,List.mem_append]at hz
        rcases hz with hz|hz
        .exact Nat.lt_succ_of_lt (q4.lt z hz)
        grind,by rw[List.map_append,List.nodup_append];refine⟨q4.nd,by simp,λa ha b O=>?_⟩;simp only[List.map_cons,List.map_nil,List.mem_singleton]at O;have:=q4.lt a ha;omega⟩,λ_=>q5 rfl⟩ (by simp);exact⟨_,_,_,N,(a8.bo p2 V).trans M,hr,by simp only[me,U,T,q3,fx,R];rfl⟩
    .obtain⟨N,M⟩:=p1.change (y:=.map (es.set i (.sc (.string s),u,b)) cl) (x:=.mp t (bG rows s bu) false) hb (by simp) (by simp) q2 rfl (q5 rfl) rfl ⟨e,o,es.set i (.sc (.string s),u,b),cl,D,q2,by simp only[AHeap.get,AHeap.aU,Tr.a7],⟨Q.bX (aX.aU p1 (q5 rfl) (p1.la ⟨_,hb,by simp⟩ q2 rfl) rfl).c,by rw[X];exact q4.lt,by rw[X];exact q4.nd⟩,λ_=>q5 rfl⟩ (by simp);exact⟨_,_,_,N,(a8.bo p2 V).trans M,hr,by simp only[me,U,T,q3,fx,R];rfl⟩
  split at hr
  .simp_all
  .cases hr
  .simp_all
  .cases hr
 .cases hr
end
end Go.AI
end

section
namespace Go.AI
section
variable {P:Program}{w:Wd}{ob:Tr aq}{nx:Nat}{h h':AHeap}{ρ:Type}
theorem rP{e:TypeId}(hg:iU P e=true):bt P e=some (lay P e).length/\0<(lay P e).length/\∃z,eE P e=some z/\(a6 z).length=(lay P e).length:=by
 unfold iU at hg
 split at hg
 .rename_i s z h1 h2;simp[Nat.blt_eq]at hg;grind
 .cases hg
theorem rQ{n b:Nat}{k:Option ρ}{r:ρ}(h:fits n b k=some r):n*b<=140737488355328/\k=some r:=by unfold fits at h;grind
theorem JS{st E e:TypeId}{F:TypeDesc}{s D n:Nat}{z x y:AV}{new:List AV}(hu:P.underlying st=some (.slice e))(hx:P.underlying E=some F)(hi:isInt F=false)(hn:ft y=some n)(hs:bt P e=some s)(hb:mw P e=some D)(hz:eE P e=some z)(I:(a6 z).length=s)(J:0<s)(hf:fT h s n y=some new)(hok:new.all dN=true):mm P h st E x y=(match x with
 |.sc (.slice none 0 0)=>if n=0 then some (x,h)else if 0<D/\n*D<=140737488355328 then some (.sl h.next 0 (n*s) 0 s n none,h.alloc (.cells 0 0 new 0 e false false))else none
 |.sl o ver m off sz len cap=>if sz≠s then none else match cap with|some c=>if len+n<=c then(if n=0 then some (x,h)else match iq h o ver m (off+len*s) new with|some h'=>some (.sl o ver m off sz (len+n) (some c),h')|none=>none)else if 0<D/\(len+n)*D<=140737488355328 then match c9 h o ver m off (len*s)with|some old=>some (.sl h.next 0 ((len+n)*s) 0 s (len+n) none,h.alloc (.cells 0 0 (old++new) 0 e false false))|none=>none else none|none=>if n=0 then some (x,h)else match h.get o with|some (.cells v mv c fz el _ sh)=>if ver=v/\mv<=v/\off=0/\len*s<=m/\fz<=len*s/\el=e/\0<D/\(len+n)*D<=140737488355328 then some (.sl o (v+1) ((len+n)*s) 0 s (len+n) none,h.aU o (.cells (v+1) (if len*s=c.length then mv else v+1) (c.take (len*s)++new) fz el false sh))else none|_=>none
 |.aZ cells sz len (some c)=>if sz≠s\/cells.length≠len*s then none else if n=0 then some (x,h)else if c<len+n/\0<D/\(len+n)*D<=140737488355328 then some (.sl h.next 0 ((len+n)*s) 0 s (len+n) none,h.alloc (.cells 0 0 (cells++new) 0 e false false))else none|.aZ _ _ _ none=>if n=0 then some (x,h)else none|.aQ _ _=>if n=0 then some (x,h)else none|.bT=>if n=0 then some (x,h)else none|_=>none):=by unfold mm;simp only[hu,hx,hn,hi,hs,hb,hz,hf,hok];rw[if_neg (by decide),if_neg (by omega)];simp only[Bool.not_true,Bool.false_eq_true,if_false];cases x<;>rfl
theorem yw{sz:Nat}:∀(a b:Nat)(x y:List AV),x.length=a*sz->chunks sz (a+b) (x++y)=chunks sz a x++chunks sz b y|0,b,x,y,h=>by have:x=[]:=List.eq_nil_of_length_eq_zero (by grind);subst this;simp[chunks]|a+1,b,x,y,h=>by rw[Nat.add_mul,Nat.one_mul]at h;rw[show a+1+b=(a+b)+1 by omega];simp only[chunks,List.cons_append];rw[List.take_append_of_le_length (by omega),List.drop_append_of_le_length (by omega),yw a b (x.drop sz) y (by grind)]
theorem ah.drop(hs:ah P w ob nx h){i:Nat}(hi:i<nx)(D:∀t cs,ob.get i≠some (.box t cs)):ah P w (ob.put i .gone) nx h/\a8 w ob h w (ob.put i .gone) h:=by
 have c:∀j x,x≠.gone->(ob.put i .gone).get j=some x->ob.get j=some x:=by
  intro j x hx hj
  by_cases e:j=i
  .subst e;rw[Tr.a7]at hj;grind
  .rw[Tr.aL _ _ e]at hj;exact hj
 have z:∀j,live (ob.put i .gone) j->live ob j:=λj⟨x,h1,h2⟩=>⟨x,c j x h2 h1,h2⟩;refine⟨⟨hs.g,λj t cs e=>hs.box j t cs (c _ _ (by simp) e),λj t rows l e=>hs.arr j t rows l (c _ _ (by simp) e),λj s l e=>hs.bh j s l (c _ _ (by simp) e),λa b k l o h1 h2=>hs.inj a b k l o (z _ h1) (z _ h2),hs.lt,?_,hs.bU,hs.new,λj t rows l e=>hs.mp j t rows l (c _ _ (by simp) e),λj t rows l e=>hs.tr j t rows l (c _ _ (by simp) e)⟩,⟨.refl w,λ_ _ e=>e,Nat.le_refl _,rfl,λ_ _ _=>rfl,λo⟨j,k,h1,h2,h3⟩=>.inr ⟨j,k,z _ h1,h2,h3⟩,λ_ e=>.inl e,λ_ e=>.inl e,λe=>e,λj t cs e=>⟨cs,by rw[Tr.aL _ _ (by grind)];exact e⟩⟩⟩;intro j hj;exact⟨(hs.nx j hj).1,by rw[Tr.aL _ _ (by omega)];exact(hs.nx j hj).2⟩
theorem ah.oy(hs:ah P w ob nx h){i:Nat}{x:aq}(hx:ob.get i=some x):i<nx:=by
 rcases Nat.lt_or_ge i nx with a|a
 .exact a
 .rw[(hs.nx i a).2]at hx;cases hx
theorem ah.oj(hs:ah P w ob nx h){lk:Lk}{x:aq}{y:cr}(hl:lk.obj=some h.next)(K:x≠.gone)
 (hx:∀w',aX w w'->w'.s nx=some lk->¬w'.F h.next->dp P w' (h.alloc y) nx x):∃w',w'.s nx=some lk/\ah P w' (ob.put nx x) (nx+1) (h.alloc y)/\a8 w ob h w' (ob.put nx x) (h.alloc y):=by
 have D:∀o,lk.obj≠some o->(h.alloc y).get o=h.get o:=λo e=>by have:o≠h.next:=λe2=>e (by grind);simp only[AHeap.get,AHeap.alloc,Tr.aL _ _ this]
 have E:(w.put (h.alloc y).get nx lk).s nx=some lk:=by simp[Wd.put]
 have J:¬w.F h.next:=λf=>by have:=(hs.bU _ f).1;omega
 obtain⟨q1,q2,q3⟩:=hs.fresh (h':=h.alloc y) (lk:=lk) (x:=x) (λa e=>by rw[hl]at e;cases e;exact⟨hs.new _ (Nat.le_refl _),Nat.lt_succ_self _⟩) D (Nat.le_succ _) (λo ho=>by have L:h.next+1<=o:=ho;rw[D o (by grind)];exact hs.new o (by omega)) (hx _ ⟨λ_ f=>f,λo x e _=>by rw[hs.g]at e;show(h.alloc y).get o=_;rw[D o (by rw[hl];intro e2;cases e2;rw[hs.new _ (Nat.le_refl _)]at e;cases e)];exact e,λo e=>by rw[hs.g]at e;have:(h.alloc y).get o=h.get o:=D o (by rw[hl];intro e2;cases e2;exact e (hs.new _ (Nat.le_refl _)));show(h.alloc y).get o≠none/\(Lp (h.alloc y).get o->Lp w.g o);unfold Lp;rw[this,hs.g];grind,λo f v mv c fz el ex sh e=>⟨v,[],fz,el,ex,sh,by simp only[Wd.put,List.append_nil];rw[D o (by grind),<-hs.g];exact e,Nat.le_refl _⟩,λo f es cl e=>by show(h.alloc y).get o=_;rw[D o (by grind),<-hs.g];exact e⟩ E J)
 refine⟨_,E,q1,⟨q2,q3,Nat.le_succ _,rfl,λo ho _=>D o (by grind),?_,λ_ f=>.inl f,λ_ e=>.inl e,λe=>e,E1 (hs.nx _ (Nat.le_refl _)).2⟩⟩
 rintro o⟨j,k,h1,h2,h3⟩
 obtain⟨z,h1,h4⟩:=h1
 simp only[Wd.put]at h2
 split at h2
 .grind
 .rename_i I;rw[Tr.aL _ _ I]at h1;exact .inr ⟨j,k,⟨z,h1,h4⟩,h2,h3⟩
theorem ah.qp(hs:ah P w ob nx h){x:aq}(E:x≠.gone)(hx:∀w',w'.s nx=some .nil->dp P w' h nx x):∃w',w'.s nx=some .nil/\ah P w' (ob.put nx x) (nx+1) h/\a8 w ob h w' (ob.put nx x) h:=by
 have c:(w.put h.get nx .nil).s nx=some .nil:=by simp[Wd.put]
 obtain⟨q1,q2,q3⟩:=hs.fresh (h':=h) (lk:=.nil) (x:=x) (λa e=>by cases e) (λ_ _=>rfl) (Nat.le_refl _) hs.new (hx _ c)
 refine⟨_,c,q1,⟨q2,q3,Nat.le_refl _,rfl,λ_ _ _=>rfl,?_,λ_ f=>.inl f,λ_ e=>.inl e,λe=>e,E1 (hs.nx _ (Nat.le_refl _)).2⟩⟩
 rintro o⟨j,k,⟨z,h1,h4⟩,h2,h3⟩
 simp only[Wd.put]at h2
 split at h2
 .cases h2;cases h3
 .rename_i D;rw[Tr.aL _ _ D]at h1;exact .inr ⟨j,k,⟨z,h1,h4⟩,h2,h3⟩
end
end Go.AI
namespace Go.AI
section
variable {P:Program}{w:Wd}{ob:Tr aq}{nx:Nat}{h h':AHeap}{ρ:Type}
theorem ah.renamed(hs:ah P w ob nx h){i:Nat}{E x:aq}{k:Lk}(z:ob.get i=some E)(D:E≠.gone)(L:∀t cs,E≠.box t cs)(K:∀t rows l,E≠.mp t rows l)(hk:w.s i=some k)(I:x≠.gone)
 (hx:∀w',aX w w'->w'.s nx=some k->(∀o,w'.F o->w.F o)->dp P w' h nx x):∃w',w'.s nx=some k/\ah P w' ((ob.put i .gone).put nx x) (nx+1) h/\a8 w ob h w' ((ob.put i .gone).put nx x) h:=by
 have J:(w.put h.get nx k).s nx=some k:=by simp[Wd.put]
 obtain⟨q1,q2⟩:=hs.move (lk:=k) (h':=h) (g:=h.get) z D L K hk rfl rfl rfl (λp e=>.inl e) (λe=>e) (λ_ _=>rfl) (λo e=>e) (λo f _ v mv c fz el ex sh e=>⟨v,[],fz,el,ex,sh,by grind,Nat.le_refl _⟩) (λo e=>⟨hs.there ⟨_,z,D⟩ hk e,hs.la ⟨_,z,D⟩ hk e⟩) (λhl _=>hx _ hl J λ_ f=>f) I;grind
theorem V7{S:ae}(hs:ah P w S.ob S.nx h){st xt e:TypeId}{xd:TypeDesc}{a b:SV}{x y:AV}{k:SV->ae->Option ρ}{r:ρ}(hu:P.underlying st=some (.slice e))(hxd:P.underlying xt=some xd)(hint:isInt xd=false)(L:isByte P e=false)
 (hx:RV P w a x)(hy:RV P w b y)(hr:pZ P S e a b k=some r):
 ∃w' ob' nx' h' v z,ah P w' ob' nx' h'/\a8 w S.ob h w' ob' h'/\k v {S with ob:=ob',nx:=nx'}=some r/\mm P h st xt x y=some (z,h')/\RV P w' v z:=by
 unfold pZ at hr
 split at hr
 case h_2=>cases hr
 rename_i TJ Z hbt
 obtain⟨Y,g2,z,g3,g4⟩:=rP Z
 rw[L]at hr
 simp only at hr
 split at hr
 .cases hr
 rename_i new FV
 obtain⟨F,p1,p2,p4,p3,p5⟩:=lE hs [b]
 have hd:=K3 (by simp) p3 FV hy
 obtain⟨cells,c1,c2,c3,c4⟩:=hd.first (h:=h) p1.g
 have hl:=hd.len.1
 have N:=λx=>JS (h:=h) (x:=x) hu hxd hint hl Y hbt g3 g4 g2 c1 c4
 have E:=a8.bo (h:=h) p2 p4
 split at hr
 .cases hx
  obtain⟨T,hr⟩:=rQ hr
  by_cases hn:new.length=0
  .have Q:new=[]:=List.eq_nil_of_length_eq_zero hn;obtain⟨w',e1,e2,e3⟩:=p1.qp (x:=.arr e new false) (by simp) λw' e=>⟨Y,g2,L,.inl ⟨e,Q⟩⟩;refine⟨w',_,_,h,_,_,e2,E.trans e3,hr,?_,.cM e1⟩;rw[N];simp only[hn,if_true]
  .obtain⟨w',e1,e2,e3⟩:=p1.oj (x:=.arr e new false) (lk:=.sl h.next 0 (new.length*(lay P e).length) (lay P e).length new.length none) (y:=.cells 0 0 cells 0 e false false) rfl (by simp) λw' I e hF=>⟨Y,g2,L,.inr ⟨h.next,0,0,cells,false,false,none,e,(λk e=>by cases e),by simp[AHeap.get,AHeap.alloc,Tr.a7],Nat.le_refl _,c2,c3.mono I,(λ_=>trivial),λ_=>hF⟩⟩;refine⟨w',_,_,_,_,_,e2,E.trans e3,hr,?_,.cu e1⟩;rw[N];simp only[hn,if_false];rw[if_pos ⟨Nat.succ_pos _,T⟩]
 .rename_i i
  split at hr
  case h_3=>cases hr
  case h_2=>
   rename_i t rows hb
   split at hr
   .cases hr
   rename_i M D
   split at hr
   case isFalse=>cases hr
   rename_i X;subst X
   obtain⟨T,hr⟩:=rQ hr
   obtain⟨_,_,_,a4⟩:=p1.tr i t rows false hb
   have hlt:=p1.oy hb
   have R:RV P (w.more F) (.own i) x:=hx.mono (aX.more _ _) λ_ _ e=>e
   have hn:(M::D).length≠0:=by simp
   rcases a4 with⟨q1,rfl⟩|⟨o,ver,mv,c,ex,sh,n,q1,q3,q4,q5,q5',q6,q8⟩
   .cases R with|cu e=>rw[q1]at e;cases e|cM e=>obtain⟨d1,d2⟩:=p1.drop hlt (by intro _ _;rw[hb];simp);simp only[List.length_nil,Nat.zero_add]at T;obtain⟨w',e1,e2,e3⟩:=d1.oj (x:=.tr t ([]++M::D) false) (lk:=.sl h.next 0 ((M::D).length*(lay P t).length) (lay P t).length (M::D).length none) (y:=.cells 0 0 cells 0 t false false) rfl (by simp) λw' I e hF=>⟨Y,g2,L,.inr ⟨h.next,0,0,cells,false,false,_,e,by simp[AHeap.get,AHeap.alloc,Tr.a7],Nat.le_refl _,Nat.le_refl _,Nat.le_of_eq c2.symm,c3.mono I,λ_=>hF⟩⟩;refine⟨w',_,_,_,_,_,e2,(E.trans d2).trans e3,hr,?_,.cu e1⟩;rw[N];simp only[hn,if_false];rw[if_pos ⟨Nat.succ_pos _,T⟩]
   .cases R with
    |cM e=>rw[q1]at e;cases e
    |cu e=>
     rw[q1]at e
     simp only[Option.some.injEq,Lk.sl.injEq]at e
     obtain⟨rfl,rfl,rfl,rfl,rfl,rfl⟩:=e
     have Uk:(c.take (rows.length*(lay P t).length)).length=rows.length*(lay P t).length:=by rw[List.length_take];omega
     have J:(c.take (rows.length*(lay P t).length)++cells).length=(rows++M::D).length*(lay P t).length:=by rw[List.length_append,List.length_append,Uk,c2,Nat.add_mul]
     have O:bW P (w.more F) (lay P t) (rows++M::D) (chunks (lay P t).length (rows++M::D).length (c.take (rows.length*(lay P t).length)++cells)):=by rw[List.length_append,yw _ _ _ _ Uk];refine bW.append ?_ c3;have:=rq (sz:=(lay P t).length) rows.length (c.take (rows.length*(lay P t).length)) (c.drop (rows.length*(lay P t).length)) (by omega);rw[List.take_append_drop]at this;rw[<-this];exact q6
     have U:∀g,((w.more F).put g S.nx (.sl o (ver+1) ((rows.length+(M::D).length)*(lay P t).length) (lay P t).length (rows.length+(M::D).length) none)).s S.nx=some (.sl o (ver+1) ((rows.length+(M::D).length)*(lay P t).length) (lay P t).length (rows.length+(M::D).length) none):=by simp[Wd.put]
     have K:(h.aU o (.cells (ver+1) (if rows.length*(lay P t).length=c.length then mv else ver+1) (c.take (rows.length*(lay P t).length)++cells) 0 t false sh)).get o=some (.cells (ver+1) (if rows.length*(lay P t).length=c.length then mv else ver+1) (c.take (rows.length*(lay P t).length)++cells) 0 t false sh):=by simp[AHeap.get,AHeap.aU,Tr.a7]
     have HH:(if rows.length*(lay P t).length=c.length then mv else ver+1)<=ver+1:=by split<;>omega
     obtain⟨e2,e3⟩:=p1.move (x:=.tr t (rows++M::D) false) (lk:=.sl o (ver+1) ((rows.length+(M::D).length)*(lay P t).length) (lay P t).length (rows.length+(M::D).length) none) (h':=h.aU o (.cells (ver+1) (if rows.length*(lay P t).length=c.length then mv else ver+1) (c.take (rows.length*(lay P t).length)++cells) 0 t false sh)) hb (by simp) (by simp) (by simp) q1 rfl rfl rfl (λp hp=>by rcases nD hp with e|rfl;exact .inl e;exact .inr rfl) (λe=>nM e) (λo' e=>by have:o'≠o:=λe2=>e (by rw[e2];rfl);simp only[AHeap.get,AHeap.aU,Tr.aL _ _ this]) (λo' e=>e) (λo' f ho v' Ul c' fF fG eY fw hg=>by cases ho;exact absurd f (q8 rfl)) (λo' ho=>by cases ho;rw[K];exact⟨by simp,by rintro⟨x,e1,e2⟩;rw[K]at e1;cases e1;cases e2⟩) (λI _=>⟨Y,g2,L,.inr ⟨o,ver+1,_,_,false,sh,_,by rw[List.length_append];exact U _,K,HH,by rw[List.length_append];exact Nat.le_refl _,Nat.le_of_eq J.symm,O.mono I,λe=>q8 e⟩⟩) (by simp);refine⟨_,_,_,_,_,_,e2,E.trans e3,hr,?_,.cu (U _)⟩;rw[N];simp only[ne_eq,not_true_eq_false,if_false,hn,q3];rw[if_pos ⟨trivial,q4,trivial,q5,Nat.zero_le _,trivial,Nat.succ_pos _,T⟩]
  rename_i t rows aY hb
  split at hr
  case isFalse=>cases hr
  rename_i X;subst X
  obtain⟨T,hr⟩:=rQ hr
  obtain⟨_,_,_,a4⟩:=p1.arr i t rows aY hb
  have hlt:=p1.oy hb
  have R:RV P (w.more F) (.own i) x:=hx.mono (aX.more _ _) λ_ _ e=>e
  rcases a4 with⟨q1,rfl⟩|⟨o,ver,mv,c,ex,sh,cap,q1,q2,q3,q4,q5,q6,q7,q8⟩
  .cases R with
   |cu e=>rw[q1]at e;cases e
   |cM e=>
    obtain⟨d1,d2⟩:=p1.drop hlt (by intro _ _;rw[hb];simp)
    simp only[List.length_nil,Nat.zero_add]at T
    by_cases hn:new.length=0
    .have Q:new=[]:=List.eq_nil_of_length_eq_zero hn;obtain⟨w',e1,e2,e3⟩:=d1.qp (x:=.arr t ([]++new) aY) (by simp) λw' e=>⟨Y,g2,L,.inl ⟨e,by simp[Q]⟩⟩;refine⟨w',_,_,h,_,_,e2,(E.trans d2).trans e3,hr,?_,.cM e1⟩;rw[N];simp only[hn,if_true]
    .obtain⟨w',e1,e2,e3⟩:=d1.oj (x:=.arr t ([]++new) aY) (lk:=.sl h.next 0 (new.length*(lay P t).length) (lay P t).length new.length none) (y:=.cells 0 0 cells 0 t false false) rfl (by simp) λw' I e hF=>⟨Y,g2,L,.inr ⟨h.next,0,0,cells,false,false,none,e,(λk e=>by cases e),by simp[AHeap.get,AHeap.alloc,Tr.a7],Nat.le_refl _,c2,c3.mono I,(λ_=>trivial),λ_=>hF⟩⟩;refine⟨w',_,_,_,_,_,e2,(E.trans d2).trans e3,hr,?_,.cu e1⟩;rw[N];simp only[hn,if_false];rw[if_pos ⟨Nat.succ_pos _,T⟩]
  .cases R with
   |cM e=>rw[q1]at e;cases e
   |cu e=>
    rw[q1]at e
    simp only[Option.some.injEq,Lk.sl.injEq]at e
    obtain⟨rfl,rfl,rfl,rfl,rfl,rfl⟩:=e
    have J:(c++cells).length=(rows++new).length*(lay P t).length:=by rw[List.length_append,List.length_append,q5,c2,Nat.add_mul]
    have O:bW P (w.more F) (lay P t) (rows++new) (chunks (lay P t).length (rows++new).length (c++cells)):=by rw[List.length_append,yw _ _ _ _ q5];exact q6.append c3
    by_cases hn:new.length=0
    .have Q:new=[]:=List.eq_nil_of_length_eq_zero hn;obtain⟨w',e1,e2,e3⟩:=p1.renamed (x:=.arr t (rows++new) aY) hb (by simp) (by simp) (by simp) q1 (by simp) λw' I e hF=>⟨Y,g2,L,.inr ⟨o,ver,mv,c,ex,sh,cap,by rw[Q,List.append_nil];exact e,by rw[Q,List.append_nil];exact q2,q3,q4,by rw[Q,List.append_nil];exact q5,by rw[Q,List.append_nil];exact q6.mono I,q7,λe f=>q8 e (hF _ f)⟩⟩;refine⟨w',_,_,h,_,_,e2,E.trans e3,hr,?_,.cu e1⟩;rw[N];simp only[ne_eq,not_true_eq_false,if_false];cases cap with|none=>simp only[hn,if_true]|some cp=>have:=q2 cp rfl;simp only[hn,if_true];rw[if_pos (by omega)]
    .cases cap with
     |some cp=>
      have hcp:=q2 cp rfl
      obtain⟨d1,d2⟩:=p1.drop hlt (by intro _ _;rw[hb];simp)
      obtain⟨w',e1,e2,e3⟩:=d1.oj (x:=.arr t (rows++new) aY) (lk:=.sl h.next 0 ((rows.length+new.length)*(lay P t).length) (lay P t).length (rows.length+new.length) none) (y:=.cells 0 0 (c++cells) 0 t false false) rfl (by simp) λw' I e hF=>⟨Y,g2,L,.inr ⟨h.next,0,0,c++cells,false,false,none,by rw[List.length_append];exact e,(λk e=>by cases e),by simp[AHeap.get,AHeap.alloc,Tr.a7],Nat.le_refl _,J,O.mono I,(λ_=>trivial),λ_=>hF⟩⟩
      refine⟨w',_,_,_,_,_,e2,(E.trans d2).trans e3,hr,?_,.cu e1⟩
      rw[N]
      simp only[ne_eq,not_true_eq_false,if_false]
      rw[if_neg (by omega),if_pos ⟨Nat.succ_pos _,T⟩]
      have V:c9 h o ver (rows.length*(lay P t).length) 0 (rows.length*(lay P t).length)=some c:=by simp only[c9,q3];rw[if_pos ⟨q4,Nat.le_refl _,by omega⟩,List.drop_zero,List.take_of_length_le (by omega)]
      simp only[V]
     |none=>
      have U:∀g,((w.more F).put g S.nx (.sl o (ver+1) ((rows.length+new.length)*(lay P t).length) (lay P t).length (rows.length+new.length) none)).s S.nx=some (.sl o (ver+1) ((rows.length+new.length)*(lay P t).length) (lay P t).length (rows.length+new.length) none):=by simp[Wd.put]
      have K:(h.aU o (.cells (ver+1) mv (c++cells) 0 t false sh)).get o=some (.cells (ver+1) mv (c++cells) 0 t false sh):=by simp[AHeap.get,AHeap.aU,Tr.a7]
      obtain⟨e2,e3⟩:=p1.move (x:=.arr t (rows++new) aY) (lk:=.sl o (ver+1) ((rows.length+new.length)*(lay P t).length) (lay P t).length (rows.length+new.length) none) (h':=h.aU o (.cells (ver+1) mv (c++cells) 0 t false sh)) hb (by simp) (by simp) (by simp) q1 rfl rfl rfl (λp hp=>by rcases nD hp with e|rfl;exact .inl e;exact .inr rfl) (λe=>nM e) (λo' e=>by have:o'≠o:=λe2=>e (by rw[e2];rfl);simp only[AHeap.get,AHeap.aU,Tr.aL _ _ this]) (λo' e=>e) (λo' f ho v' Ul c' fF fG eY fw hg=>by cases ho;rw[q3]at hg;cases hg;exact⟨ver+1,cells,0,t,false,sh,K,Nat.le_succ _⟩) (λo' ho=>by cases ho;rw[K];exact⟨by simp,by rintro⟨x,e1,e2⟩;rw[K]at e1;cases e1;cases e2⟩) (λI _=>⟨Y,g2,L,.inr ⟨o,ver+1,mv,c++cells,false,sh,none,by rw[List.length_append];exact U _,(λk e=>by cases e),K,by omega,J,O.mono I,(λ_=>trivial),λe=>q8 e⟩⟩) (by simp);refine⟨_,_,_,_,_,_,e2,E.trans e3,hr,?_,.cu (U _)⟩;rw[N];simp only[ne_eq,not_true_eq_false,if_false,hn,q3];rw[if_pos ⟨trivial,q4,trivial,Nat.le_refl _,Nat.zero_le _,trivial,Nat.succ_pos _,T⟩,if_pos q5.symm,List.take_of_length_le (by omega)]
 .rename_i t rows
  split at hr
  .cases hr
  rename_i M D
  split at hr
  case isFalse=>cases hr
  rename_i X;subst X
  obtain⟨T,hr⟩:=rQ hr
  have R:RV P (w.more F) (.cl t rows) x:=hx.mono (aX.more _ _) λ_ _ e=>e
  cases R with
  |@cl _ _ o ver n off R6 wb=>
   cases wb with
   |@sl _ _ _ _ _ _ v mv fz c el ex sh _ k1 k2 k3 k4 k5 k6 k7 k8 k9 k10=>
    have hn:(M::D).length≠0:=by simp
    have hold:((c.drop off).take (rows.length*(lay P t).length)).length=rows.length*(lay P t).length:=by rw[List.length_take,List.length_drop];omega
    have J:(((c.drop off).take (rows.length*(lay P t).length))++cells).length=(rows++M::D).length*(lay P t).length:=by rw[List.length_append,List.length_append,hold,c2,Nat.add_mul]
    have O:bW P (w.more F) (lay P t) (rows++M::D) (chunks (lay P t).length (rows++M::D).length (((c.drop off).take (rows.length*(lay P t).length))++cells)):=by rw[List.length_append,yw _ _ _ _ hold];refine bW.append ?_ c3;have:=rq (sz:=(lay P t).length) rows.length ((c.drop off).take (rows.length*(lay P t).length)) ((c.drop off).drop (rows.length*(lay P t).length)) (by omega);rw[List.take_append_drop]at this;rw[<-this];exact k10
    obtain⟨w',e1,e2,e3⟩:=p1.oj (x:=.arr t (rows++M::D) false) (lk:=.sl h.next 0 ((rows.length+(M::D).length)*(lay P t).length) (lay P t).length (rows.length+(M::D).length) none) (y:=.cells 0 0 (((c.drop off).take (rows.length*(lay P t).length))++cells) 0 t false false) rfl (by simp) λw' I e hF=>⟨Y,g2,L,.inr ⟨h.next,0,0,_,false,false,none,by rw[List.length_append];exact e,(λk e=>by cases e),by simp[AHeap.get,AHeap.alloc,Tr.a7],Nat.le_refl _,J,O.mono I,(λ_=>trivial),λ_=>hF⟩⟩
    refine⟨w',_,_,_,_,_,e2,E.trans e3,hr,?_,.cu e1⟩
    rw[N]
    simp only[ne_eq,not_true_eq_false,if_false]
    rw[if_neg (by simp),if_pos ⟨Nat.succ_pos _,T⟩]
    have V:c9 h o ver n off (rows.length*(lay P t).length)=some ((c.drop off).take (rows.length*(lay P t).length)):=by
     have aio:h.get o=some (.cells v mv c fz el ex sh):=by rw[<-hs.g];exact k4
     simp only[c9,aio];rw[if_pos (by omega)]
    simp only[V]
 .cases hr
end
end Go.AI
namespace Go.AI
section
variable {P:Program}{w:Wd}{ob:Tr aq}{nx:Nat}{h h':AHeap}{ρ:Type}
theorem JT(s:ByteArray):(cQ s).length=s.size:=by simp[cQ]
theorem CL(s t:ByteArray):cQ (s++t)=cQ s++cQ t:=by simp[cQ,ByteArray.data_append]
theorem Vk(s:ByteArray):(cQ s).all dN=true:=by rw[List.all_eq_true];intro x hx;unfold cQ at hx;obtain⟨b,_,rfl⟩:=List.mem_map.1 hx;rfl
theorem aaS{S:ae}(hs:ah P w S.ob S.nx h){b:SV}{y:AV}(hy:RV P w b y){new:ByteArray}
 (he:FG S.ob b=some new):ft y=some new.size/\fT h 1 new.size y=some (cQ new):=by
 unfold FG at he
 split at he
 .cases he;cases hy;refine⟨rfl,?_⟩;simp only[fT];rw[if_pos ⟨trivial,Nat.le_refl _⟩,List.take_of_length_le (by simp)];rfl
 .rename_i j
  split at he
  .rename_i s t hb;cases he;obtain⟨q1,q2,q3⟩:=K7 (h1:=h) hs hb hy λ_ _=>rfl;grind
  .cases he
 .cases he;cases hy;exact⟨rfl,by simp[fT,cQ]⟩
 .cases he
theorem V8{S:ae}(hs:ah P w S.ob S.nx h){st Z e:TypeId}{xd:TypeDesc}{a b:SV}{x y:AV}{k:SV->ae->Option ρ}{r:ρ}(hu:P.underlying st=some (.slice e))(T:P.underlying Z=some xd)(hint:isInt xd=false)(D:isByte P e=true)
 (hx:RV P w a x)(hy:RV P w b y)(hr:pZ P S e a b k=some r):
 ∃w' ob' nx' h' v z,ah P w' ob' nx' h'/\a8 w S.ob h w' ob' h'/\k v {S with ob:=ob',nx:=nx'}=some r/\mm P h st Z x y=some (z,h')/\RV P w' v z:=by
 unfold pZ at hr
 split at hr
 case h_2=>cases hr
 rename_i TJ K X
 obtain⟨g1,g2,z,g3,g4⟩:=rP K
 rw[D]at hr
 simp only at hr
 split at hr
 case h_2=>cases hr
 rename_i J
 have O:(lay P e).length=1:=by rw[g1]at J;simpa using J
 split at hr
 .cases hr
 rename_i new Q
 obtain⟨c1,c2⟩:=aaS hs hy Q
 have E:=λx=>JS (h:=h) (x:=x) hu T hint c1 J X g3 (by rw[g4];exact O) (Nat.zero_lt_one) c2 (Vk new)
 split at hr
 .cases hx
  obtain⟨L,hr⟩:=rQ hr
  by_cases hn:new.size=0
  .obtain⟨w',e1,e2,e3⟩:=hs.qp (x:=.bh new e) (by simp) λw' e=>⟨D,.inl ⟨e,hn⟩⟩;refine⟨w',_,_,h,_,_,e2,e3,hr,?_,.cM e1⟩;rw[E];simp only[hn,if_true]
  .obtain⟨w',e1,e2,e3⟩:=hs.oj (x:=.bh new e) (lk:=.sl h.next 0 (new.size*1) 1 new.size none) (y:=.cells 0 0 (cQ new) 0 e false false) rfl (by simp) λw' I e hF=>⟨D,.inr ⟨h.next,0,0,false,0,none,by omega,by rw[Nat.mul_one]at e;exact e,(λk e=>by cases e),by simp[AHeap.get,AHeap.alloc,Tr.a7],Nat.le_refl _,Nat.zero_le _,hF⟩⟩;refine⟨w',_,_,_,_,_,e2,e3,hr,?_,.cu e1⟩;rw[E];simp only[hn,if_false];rw[if_pos ⟨Nat.succ_pos _,L⟩]
 .rename_i i
  split at hr
  case h_2=>cases hr
  rename_i s t hb
  split at hr
  case isFalse=>cases hr
  rename_i V;subst V
  obtain⟨L,hr⟩:=rQ hr
  obtain⟨_,a4⟩:=hs.bh i s t hb
  have hlt:=hs.oy hb
  rcases a4 with⟨q1,q0⟩|⟨o,ver,mv,ex,fz,cap,q0,q1,q2,q3,q4,q5,q7⟩
  .have U:s=.empty:=by cases s with|mk d=>cases d with|mk l=>cases l with|nil=>rfl|cons _ _=>simp[ByteArray.size]at q0
   cases hx with
   |cu e=>rw[q1]at e;cases e
   |cM e=>
    obtain⟨d1,R⟩:=hs.drop hlt (by intro _ _;rw[hb];simp)
    rw[q0,Nat.zero_add]at L
    by_cases hn:new.size=0
    .obtain⟨w',e1,e2,e3⟩:=d1.qp (x:=.bh (s++new) t) (by simp) λw' e=>⟨D,.inl ⟨e,by rw[ByteArray.size_append];omega⟩⟩;refine⟨w',_,_,h,_,_,e2,R.trans e3,hr,?_,.cM e1⟩;rw[E];simp only[hn,if_true]
    .obtain⟨w',e1,e2,e3⟩:=d1.oj (x:=.bh (s++new) t) (lk:=.sl h.next 0 (new.size*1) 1 new.size none) (y:=.cells 0 0 (cQ new) 0 t false false) rfl (by simp) λw' I e hF=>⟨D,.inr ⟨h.next,0,0,false,0,none,by rw[ByteArray.size_append];omega,by rw[ByteArray.size_append,q0,Nat.zero_add];rw[Nat.mul_one]at e;exact e,(λk e=>by cases e),by rw[CL,U];simp[AHeap.get,AHeap.alloc,Tr.a7,cQ],Nat.le_refl _,Nat.zero_le _,hF⟩⟩;refine⟨w',_,_,_,_,_,e2,R.trans e3,hr,?_,.cu e1⟩;rw[E];simp only[hn,if_false];rw[if_pos ⟨Nat.succ_pos _,L⟩]
  .cases hx with
   |cM e=>rw[q1]at e;cases e
   |cu e=>
    rw[q1]at e
    simp only[Option.some.injEq,Lk.sl.injEq]at e
    obtain⟨rfl,rfl,rfl,rfl,rfl,rfl⟩:=e
    have eR:=JT s
    by_cases hn:new.size=0
    .have c:s++new=s:=by
      apply ByteArray.ext
      rw[ByteArray.data_append]
      have:new.data=#[]:=by have h0:new.data.size=0:=hn;exact Array.eq_empty_of_size_eq_zero h0
      rw[this,Array.append_empty]
     obtain⟨w',e1,e2,e3⟩:=hs.renamed (x:=.bh (s++new) t) hb (by simp) (by simp) (by simp) q1 (by simp) λw' I e hF=>⟨D,.inr ⟨o,ver,mv,ex,fz,cap,by rw[c];exact q0,by rw[c];exact e,by rw[c];exact q2,by rw[c];exact q3,q4,by rw[c];exact q5,λf=>q7 (hF _ f)⟩⟩;refine⟨w',_,_,h,_,_,e2,e3,hr,?_,.cu e1⟩;rw[E];simp only[ne_eq,not_true_eq_false,if_false];cases cap with|none=>simp only[hn,if_true]|some Y=>have:=q2 Y rfl;simp only[hn,if_true];rw[if_pos (by omega)]
    .have M:(s++new).size=s.size+new.size:=ByteArray.size_append
     cases cap with
     |some Y=>
      have hcp:=q2 Y rfl
      obtain⟨d1,R⟩:=hs.drop hlt (by intro _ _;rw[hb];simp)
      obtain⟨w',e1,e2,e3⟩:=d1.oj (x:=.bh (s++new) t) (lk:=.sl h.next 0 ((s.size+new.size)*1) 1 (s.size+new.size) none) (y:=.cells 0 0 (cQ s++cQ new) 0 t false false) rfl (by simp) λw' I e hF=>⟨D,.inr ⟨h.next,0,0,false,0,none,by omega,by rw[M];rw[Nat.mul_one]at e;exact e,(λk e=>by cases e),by rw[CL];simp[AHeap.get,AHeap.alloc,Tr.a7],Nat.le_refl _,Nat.zero_le _,hF⟩⟩
      refine⟨w',_,_,_,_,_,e2,R.trans e3,hr,?_,.cu e1⟩
      rw[E]
      simp only[ne_eq,not_true_eq_false,if_false]
      rw[if_neg (by omega),if_pos ⟨Nat.succ_pos _,L⟩]
      have N:c9 h o ver s.size 0 (s.size*1)=some (cQ s):=by simp only[c9,q3];rw[if_pos ⟨q4,Nat.le_refl _,by omega⟩,List.drop_zero,List.take_of_length_le (by omega)]
      simp only[N]
     |none=>
      have c:∀g,(w.put g S.nx (.sl o (ver+1) ((s.size+new.size)*1) 1 (s.size+new.size) none)).s S.nx=some (.sl o (ver+1) ((s.size+new.size)*1) 1 (s.size+new.size) none):=by simp[Wd.put]
      have F:(h.aU o (.cells (ver+1) mv (cQ s++cQ new) fz t false false)).get o=some (.cells (ver+1) mv (cQ s++cQ new) fz t false false):=by simp[AHeap.get,AHeap.aU,Tr.a7]
      obtain⟨e2,e3⟩:=hs.move (x:=.bh (s++new) t) (lk:=.sl o (ver+1) ((s.size+new.size)*1) 1 (s.size+new.size) none) (h':=h.aU o (.cells (ver+1) mv (cQ s++cQ new) fz t false false)) hb (by simp) (by simp) (by simp) q1 rfl rfl rfl (λp hp=>by rcases nD hp with e|rfl;exact .inl e;exact .inr rfl) (λe=>nM e) (λo' e=>by have:o'≠o:=λe2=>e (by rw[e2];rfl);simp only[AHeap.get,AHeap.aU,Tr.aL _ _ this]) (λo' e=>e) (λo' f ho v' Ul c' fF fG eY fw hg=>by cases ho;exact absurd f q7) (λo' ho=>by cases ho;rw[F];exact⟨by simp,by rintro⟨x,e1,e2⟩;rw[F]at e1;cases e1;cases e2⟩) (λI _=>⟨D,.inr ⟨o,ver+1,mv,false,fz,none,by omega,by have:=c (h.aU o (.cells (ver+1) mv (cQ s++cQ new) fz t false false)).get;rw[M];rw[Nat.mul_one]at this;rw[Nat.mul_one];exact this,(λk e=>by cases e),by rw[CL];exact F,by omega,by omega,q7⟩⟩) (by simp);refine⟨_,_,_,_,_,_,e2,e3,hr,?_,.cu (c _)⟩;rw[E];simp only[ne_eq,not_true_eq_false,if_false,hn,q3];rw[if_pos ⟨trivial,q4,trivial,by omega,by omega,trivial,Nat.succ_pos _,L⟩,if_pos (by omega),List.take_of_length_le (by omega)]
 .cases hr
end
end Go.AI
end

section
namespace Go.AI
section
variable {P:Program}{w:Wd}{ob:Tr aq}{nx:Nat}{h h':AHeap}{ρ:Type}
theorem aaT{s:ByteArray}{n:Int}{k:ByteArray->Option ρ}{r:ρ}(h:head s n k=some r):0<n/\n<=s.size/\n<=9223372036854775807/\k (s.extract 0 n.toNat)=some r:=by unfold head at h;grind
theorem UZ(s:ByteArray)(n:Nat):iO ((cQ s).take n)=some (s.data.toList.take n):=by unfold cQ;rw[<-List.map_take];generalize s.data.toList.take n=l;induction l with|nil=>rfl|cons b bs c=>simp only[List.map_cons,iO,c,Option.map_some];simp_all
theorem aaU{S:ae}(hs:ah P w S.ob S.nx h){i:Nat}{s:ByteArray}{t:TypeId}{x:AV}{kd:IntKind}{n:Int}{pt:TypeId}(hb:S.ob.get i=some (.bh s t))(hx:RV P w (.fW i) x)(hu:P.underlying pt=some (.pointer t))(hz:bt P t=some 1)
 (h0:0<n)(h1:n<=s.size)(h2:n<=9223372036854775807):
 ∃w' h',ah P w' S.ob S.nx h'/\a8 w S.ob h w' S.ob h'/\rl P h pt x (.sc (.int kd n))=some (.sc (.string (s.extract 0 n.toNat)),h'):=by
 obtain⟨J,K⟩:=hs.bh i s t hb
 cases hx with
 |fW e=>
  rcases K with⟨q1,_⟩|⟨o,ver,mv,ex,fz,cap,q0,q1,q2,q3,q4,q5,q7⟩
  .grind
  .rw[q1]at e
   simp only[ad,Lk.sl.injEq]at e
   obtain⟨rfl,rfl,rfl,rfl,rfl,rfl⟩:=e
   obtain⟨m,hm⟩:∃m,n.toNat=m+1:=⟨n.toNat-1,by omega⟩
   have eR:=JT s
   obtain⟨e1,e2⟩:=hs.change (x:=.bh s t) (y:=.cells ver ver (cQ s) (max fz (0+(m+1))) t ex false) hb (by simp) (by simp) q1 rfl q7 rfl ⟨J,.inr ⟨o,ver,ver,ex,max fz (0+(m+1)),cap,q0,q1,q2,by simp only[AHeap.get,AHeap.aU,Tr.a7],aC _,by omega,q7⟩⟩ (by simp)
   have c:ah P (w.heap (h.aU o (.cells ver ver (cQ s) (max fz (0+(m+1))) t ex false)).get) S.ob S.nx (h.aU o (.cells ver ver (cQ s) (max fz (0+(m+1))) t ex false))/\a8 w S.ob h (w.heap (h.aU o (.cells ver ver (cQ s) (max fz (0+(m+1))) t ex false)).get) S.ob (h.aU o (.cells ver ver (cQ s) (max fz (0+(m+1))) t ex false)):=by
    have D:∀j,(S.ob.put i (.bh s t)).get j=S.ob.get j:=by
     intro j
     by_cases e:j=i
     .subst e;rw[Tr.a7,hb]
     .rw[Tr.aL _ _ e]
    have E:∀j,live S.ob j->live (S.ob.put i (.bh s t)) j:=λj⟨z,a,b⟩=>⟨z,by grind,b⟩;refine⟨⟨e1.g,λj t cs e=>e1.box j t cs (by grind),λj t rows l e=>e1.arr j t rows l (by grind),λj s l e=>e1.bh j s l (by grind),λa b k l o p1 p2=>e1.inj a b k l o (E _ p1) (E _ p2),e1.lt,?_,e1.bU,e1.new,λj t rows l e=>e1.mp j t rows l (by grind),λj t rows l e=>e1.tr j t rows l (by grind)⟩,⟨e2.le,e2.s,e2.next,e2.floor,e2.ck,λo⟨j,k,p1,p2,p3⟩=>e2.own o ⟨j,k,E _ p1,p2,p3⟩,e2.F,e2.wr,e2.ea,λj t cs e=>⟨cs,e⟩⟩⟩;intro j hj;have:=e1.nx j hj;rw[D]at this;exact this
   refine⟨_,_,c.1,c.2,?_⟩
   simp only[rl,nC (show 0<=n by omega),hm,hu,q3]
   rw[if_pos ⟨trivial,q4,trivial,hz,by omega⟩]
   have I:c9 h o ver s.size 0 (m+1)=some ((cQ s).take (m+1)):=by simp only[c9,q3];grind
   simp only[I,UZ,Option.map_some]
   congr 3
   have:(⟨(s.data.toList.take (m+1)).toArray⟩:ByteArray)=s.extract 0 (m+1):=by apply ByteArray.ext;apply Array.ext';simp
   rw[this]
variable {A:dr}{R:dJ A.pn}{kp:TypeId->List AV->ae->Option ρ}
def vr:Op->Bool|.call c=>(match c.callee with|.value _=>true|_=>false)|_=>false
theorem X2{S:ae}(hs:ah P w S.ob S.nx h){v:SV}{y:AV}(hy:RV P w v y){k:SV->ae->Option ρ}{r:ρ}(hr:Fa S v k=some r):
 ∃w' ob' nx' v',ah P w' ob' nx' h/\a8 w S.ob h w' ob' h/\k v' {S with ob:=ob',nx:=nx'}=some r/\RV P w' v' y:=by
 unfold Fa at hr
 split at hr
 .rename_i i hh
  split at hr
  .rename_i t rows hb
   obtain⟨K,g2,E,L⟩:=hs.tr i t rows false hb
   have F:∀g lk,(w.put g S.nx lk).s S.nx=some lk:=by simp[Wd.put]
   have hn:∀{k':Lk}{o:Nat},w.s i=some k'->k'.obj=some o->h.get o≠none/\¬Lp h.get o:=λe e2=>⟨hs.there ⟨_,hb,by simp⟩ e e2,hs.la ⟨_,hb,by simp⟩ e e2⟩
   cases hy with
   |mE q hz=>
    rcases L with⟨_,rfl⟩|⟨o,ver,mv,c,ex,sh,n,D,_⟩
    .obtain⟨q1,q2⟩:=hs.move (x:=.tr t (([]:List (List AV)).take hh.toNat) false) (lk:=.nil) (h':=h) (g:=h.get) hb (by simp) (by simp) (by simp) q rfl rfl rfl (λp e=>.inl e) (λe=>e) (λ_ _=>rfl) (λo e=>by cases e) (λo _ e=>by cases e) (λo e=>by cases e) (λhl _=>⟨K,g2,E,.inl ⟨F _ _,by simp⟩⟩) (by simp);exact⟨_,_,_,_,q1,q2,hr,.cM (F _ _)⟩
    grind
   |mN q I=>
    rcases L with⟨D,_⟩|⟨o,ver,mv,c,ex,sh,n,D,q3,q4,q5,M,q6,q8⟩
    .grind
    .rw[D]at q;simp only[ad,Lk.sl.injEq]at q
     obtain⟨rfl,rfl,rfl,rfl,rfl,rfl⟩:=q
     have hlen:(rows.take hh.toNat).length=hh.toNat:=by grind
     have J:hh.toNat*(lay P t).length<=rows.length*(lay P t).length:=Nat.mul_le_mul_right _ I;have z:=q6.sub 0 hh.toNat;rw[List.drop_zero,yv _ _ _ _ (by omega)]at z;simp only[Nat.zero_mul,List.drop_zero]at z;obtain⟨q1,q2⟩:=hs.move (x:=.tr t (rows.take hh.toNat) false) (lk:=.sl o ver n (lay P t).length hh.toNat none) (h':=h) (g:=h.get) hb (by simp) (by simp) (by simp) D rfl rfl rfl (λp e=>.inl e) (λe=>e) (λ_ _=>rfl) (λo e=>e) (λo f _ v mv c fz el ex sh e=>⟨v,[],fz,el,ex,sh,by grind,aC _⟩) (λo e=>hn D e) (λhl _=>⟨K,g2,E,.inr ⟨o,ver,mv,c,ex,sh,n,by grind,q3,q4,by grind,by grind,by rw[hlen];exact z.mono hl,λe f=>q8 e f⟩⟩) (by simp);exact⟨_,_,_,_,q1,q2,hr,.cu (F _ _)⟩
  .cases hr
 .exact⟨w,S.ob,S.nx,_,hs,.refl _ _ _,hr,hy⟩
theorem aaV{S:ae}(hs:ah P w S.ob S.nx h){o:Oper}{ρ':Operand->AV}(F:∀x,x∈o.op.operands.toList->RV P w (bH S.tm x) (ρ' x))(hA:bg o.op=false)(hF:cd o.op=false)(hC:vr o.op=false){k:SV->ae->Option ρ}{r:ρ}(hr:h9 P A R kp o S k=some r):
 ∃w' ob' nx' h' v y,ah P w' ob' nx' h'/\a8 w S.ob h w' ob' h'/\k v {S with ob:=ob',nx:=nx'}=some r/\(aV P ρ' o h=some (.val y,h')\/aV P ρ' o h=some (.skip,h')/\y=dS)/\RV P w' v y:=by
 unfold h9 at hr
 simp only at hr
 split at hr
 case h_1=>simp_all[bg]
 case h_2=>simp_all[bg]
 case h_3=>simp_all[cd]
 case h_4=>simp_all[bg]
 case h_5=>simp_all[cd]
 case h_6=>rename_i t a x D;obtain⟨w1,U,V,v1,p1,p2,p3,Z⟩:=X2 hs (F x (by rw[D];simp[Op.operands])) hr;obtain⟨w',ob',h',q1,q2,q3,q4⟩:=X1 (S:={S with ob:=U,nx:=V}) p1 ((F a (by rw[D];simp[Op.operands])).mono p2.le p2.s) Z p3;exact⟨w',ob',_,h',_,dS,q1,p2.trans q2,q3,.inr ⟨by simp only[aV,D];rw[q4];rfl,rfl⟩,.bC .nil⟩
 case h_19=>
  rename_i c D
  obtain⟨callee,args,T⟩:=c
  cases callee with
  |invoke x m=>cases hr
  |value f=>rw[D]at hC;cases hC
  |builtin b=>
   simp only at hr
   have E:∀a,a∈args.toList->RV P w (bH S.tm a) (ρ' a):=λa ha=>F a (by rw[D];simp only[Op.operands,Call.operands];grind)
   have J:∀x y,args.toList.map (bH S.tm)=[x,y]->∃a b,args.toList=[a,b]/\bH S.tm a=x/\bH S.tm b=y:=by intro x y hl;cases h0:args.toList with|nil=>grind|cons a l=>cases l with|nil=>grind|cons b l=>cases l with|nil=>grind|cons _ _=>grind
   unfold yQ at hr
   split at hr
   .rename_i x y hl
    obtain⟨a,b,M,hx,hy⟩:=J x y hl
    have h1:=E a (by grind)
    have h2:=E b (by grind)
    rw[hx]at h1;rw[hy]at h2
    have fin:∀e t t' d,T[0]?=some t->T[1]?=some t'->P.underlying t=some (.slice e)->P.underlying t'=some d->isInt d=false->pZ P S e x y k=some r->
     ∃w' ob' nx' h' v z,ah P w' ob' nx' h'/\a8 w S.ob h w' ob' h'/\k v {S with ob:=ob',nx:=nx'}=some r/\(aV P ρ' o h=some (.val z,h')\/aV P ρ' o h=some (.skip,h')/\z=dS)/\RV P w' v z:=by
     intro e t t' d ht N hu I hi hr
     have key:∃w' ob' nx' h' v z,ah P w' ob' nx' h'/\a8 w S.ob h w' ob' h'/\k v {S with ob:=ob',nx:=nx'}=some r/\mm P h t t' (ρ' a) (ρ' b)=some (z,h')/\RV P w' v z:=by cases Q:isByte P e with|true=>exact V8 hs hu I hi Q h1 h2 hr|false=>exact V7 hs hu I hi Q h1 h2 hr
     obtain⟨w',ob',nx',h',v,z,q1,q2,q3,q4,q5⟩:=key;refine⟨w',ob',nx',h',v,z,q1,q2,q3,.inl ?_,q5⟩;simp only[aV,D,gT,hN,M,List.map_cons,List.map_nil,ht,N];rw[Vm q4];rfl
    split at hr
    .rename_i t t' ht N
     split at hr
     .rename_i e d hu I;exact fin e t t' _ ht N hu I rfl hr
     .rename_i e hu I;exact fin e t t' _ ht N hu I rfl hr
     .cases hr
    .cases hr
   .rw[D]at hF;cases hF
   .rw[D]at hF;cases hF
   .rw[D]at hF;cases hF
   .rename_i kd n hl
    obtain⟨a,b,M,hx,hy⟩:=J _ _ hl
    obtain⟨Y,L⟩:∃y,ρ' a=y:=⟨_,rfl⟩
    obtain⟨X,K⟩:∃y,ρ' b=y:=⟨_,rfl⟩
    have h1:=E a (by grind)
    have h2:=E b (by grind)
    rw[hx,L]at h1;rw[hy,K]at h2
    cases h1;cases h2
    rcases rO hr with⟨hn,hr⟩|⟨_,hr⟩
    .have hn:n=0:=by grind
     subst hn
     split at hr
     .rename_i pt O;refine⟨w,S.ob,S.nx,h,_,_,hs,.refl _ _ _,hr,.inl ?_,.sc rfl⟩;simp only[aV,D,gT,hN,M,List.map_cons,List.map_nil,L,K,O,rl,fK];rfl
     .cases hr
    .cases hr
   .rename_i i kd n hl
    obtain⟨a,b,M,hx,hy⟩:=J _ _ hl
    obtain⟨Y,L⟩:∃y,ρ' a=y:=⟨_,rfl⟩
    obtain⟨X,K⟩:∃y,ρ' b=y:=⟨_,rfl⟩
    have h1:=E a (by grind)
    have h2:=E b (by grind)
    rw[hx,L]at h1;rw[hy,K]at h2
    cases h2
    split at hr
    .rename_i s t pt hb O
     split at hr
     .rename_i u hu
      split at hr
      .rename_i hz
       split at hr
       .rename_i e;subst e;obtain⟨b1,b2,b3,hr⟩:=aaT hr;obtain⟨w',h',q1,q2,q3⟩:=aaU (kd:=kd) hs hb h1 hu hz b1 b2 b3;refine⟨w',S.ob,S.nx,h',_,_,q1,q2,hr,.inl ?_,.sc rfl⟩;simp only[aV,D,gT,hN,M,List.map_cons,List.map_nil,L,K,O,q3];rfl
       .cases hr
      .cases hr
     .cases hr
    .cases hr
   .cases hr
 case h_21=>simp_all[bg]
 case h_23=>rename_i t m i x D;obtain⟨w',ob',h',q1,q2,q3,q4⟩:=aaR hs (F m (by rw[D];simp[Op.operands])) (F i (by rw[D];simp[Op.operands])) (F x (by rw[D];simp[Op.operands])) hr;exact⟨w',ob',_,h',_,dS,q1,q2,q3,.inr ⟨by simp only[aV,D];rw[q4];rfl,rfl⟩,.bC .nil⟩
 all_goals first|(simp_all[cd];done)|cases hr
end
end Go.AI
end

section
namespace Go.AI
def Wd.sub(w:Wd)(L:List Nat):Wd:={g:=w.g,F:=w.F,s:=λj=>(L[j]?).bind w.s}
theorem u5:∀{L:List Nat}{i j:Nat},idx L i=some j->L[j]?=some i
 |[],_,_,h=>by cases h
 |y::ys,i,j,h=>by
  simp only[idx]at h
  split at h
  .rename_i hb;cases h;simp_all
  .cases hi:idx ys i with|none=>grind|some k=>rw[hi]at h;cases h;simpa using u5 hi
theorem D9:∀{L:List Nat}{x:Nat},mR L x=false->x∉L|[],_,_=>by simp|y::ys,x,h=>by simp only[mR,Bool.or_eq_false_iff]at h;simp only[List.mem_cons,not_or];exact⟨Nat.ne_of_beq_eq_false h.1,D9 h.2⟩
theorem Mg:∀{L:List Nat},nodup L=true->∀(i j x:Nat),L[i]?=some x->L[j]?=some x->i=j|[],_,i,j,x,h,_=>by simp at h|y::ys,hn,i,j,x,h1,h2=>by simp only[nodup,bB,Bool.not_eq_true']at hn;have c:=D9 hn.1;cases i with|zero=>grind|succ i=>cases j with|zero=>grind|succ j=>simp at h1 h2;rw[Mg hn.2 i j x h1 h2]
theorem Jv{α:Type}:∀(xs:List α)(i:Nat)(t:Tr α)(k:Nat),(bP xs i t).get k=if i<=k/\k<i+xs.length then xs[k-i]? else t.get k
 |[],i,t,k=>by simp[bP];grind
 |x::xs,i,t,k=>by
  simp only[bP]
  rw[Jv xs (i+1) (t.put i x) k]
  by_cases h1:k=i
  .subst h1;rw[if_neg (by omega),if_pos (by simp),Tr.a7];simp
  .rw[Tr.aL _ _ h1];grind
theorem pV{α:Type}(xs:List α)(k:Nat):(bP xs 0 .leaf).get k=xs[k]?:=by
 rw[Jv]
 split
 .simp
 .rename_i h;rw[List.getElem?_eq_none (by omega)];rfl
section
variable {P:Program}{w w':Wd}{ob ob':Tr aq}{nx:Nat}{h h':AHeap}{ρ:Type}
theorem aX.sub(w:Wd)(L:List Nat):aX w (w.sub L):=.imp rfl λ_ f=>f
mutual
theorem RV.gK(L:List Nat):∀{v:SV}{x:AV},RV P w v x->RV P (w.sub L) (oz L v) x
 |_,_,.aM x=>.aM x
 |_,_,.sc h=>.sc h
 |_,_,.agg h=>.agg (au.gK L h)
 |_,_,.dl h=>.dl (h.mono (.sub w L))
 |_,_,.cM (i:=i) h=>by
  simp only[oz]
  split
  .rename_i j hj;exact .cM (by simp only[Wd.sub,u5 hj,Option.bind_some];exact h)
  .exact .aM _
 |_,_,.cu (i:=i) h=>by
  simp only[oz]
  split
  .rename_i j hj;exact .cu (by simp only[Wd.sub,u5 hj,Option.bind_some];exact h)
  .exact .aM _
 |_,_,.ref (i:=i) h=>by
  simp only[oz]
  split
  .rename_i j hj;exact .ref (by simp only[Wd.sub,u5 hj,Option.bind_some];exact h)
  .exact .aM _
 |_,_,.dI _ _=>.aM _
 |_,_,.dj h=>.dj (h.mono (.sub w L))
 |_,_,.fW _=>.aM _
 |_,_,.fY h a=>.fY (RV.gK L h) a
 |_,_,.iG=>.iG
 |_,_,.fn h=>.fn (au.gK L h)
 |_,_,.fR=>.fR
 |_,_,.bC h=>.bC (au.gK L h)
 |_,_,.eb h=>.eb (RV.gK L h)
 |_,_,.kY=>.kY
 |_,_,.k0=>.k0
 |_,_,.aR h=>.aR h
 |_,_,.cl a h=>.cl a (h.mono (.sub w L))
 |_,_,.om (i:=i) h=>by
  simp only[oz]
  split
  .rename_i j hj;exact .om (by simp only[Wd.sub,u5 hj,Option.bind_some];exact h)
  .exact .aM _|_,_,.md h=>.md (h.bX (aX.sub w L).c)|_,_,.ls h=>.ls (h.bX (aX.sub w L).c)|_,_,.pb a b c d e f g i=>.pb a b c d e f g (i.lu (aX.sub w L).c f g)|_,_,.mE _ _=>.aM _|_,_,.mN _ _=>.aM _|_,_,.yl a b h=>.yl a b (au.gK L h)theorem au.gK(L:List Nat):∀{vs:List SV}{xs:List AV},au P w vs xs->au P (w.sub L) (iV L vs) xs|_,_,.nil=>.nil|_,_,.cons a b=>.cons (RV.gK L a) (au.gK L b)end
def j9(ob:Tr aq)(L:List Nat)(i:Nat):aq:=match ob.get i with|some (.box t cs)=>.box t (iV L cs)|some x=>x|none=>.gone
theorem rz(ob:Tr aq)(L:List Nat):∀(M:List Nat)(j:Nat),(cq ob L M)[j]?=(M[j]?).map (j9 ob L)|[],j=>by simp[cq]|i::is,0=>by simp only[cq,List.getElem?_cons_zero,Option.map_some];rfl|i::is,j+1=>by simp[cq,rz ob L is j]
theorem yL(ob:Tr aq)(L:List Nat):∀(M:List Nat),(cq ob L M).length=M.length|[]=>rfl|i::is=>by simp[cq,yL ob L is]
theorem pW:∀{os:List aq},iW os=true->∀(j:Nat)(t:TypeId)(cs:List SV),os[j]?=some (.box t cs)->cJ cs=true|[],_,j,t,cs,h=>by simp at h|.box t' aS::os,h,0,t,cs,e=>by simp only[iW,bB]at h;grind|.box t' aS::os,h,j+1,t,cs,e=>by simp only[iW,bB]at h;exact pW h.2 j t cs (by grind)|.arr _ _ _::os,h,0,t,cs,e=>by simp at e|.arr _ _ _::os,h,j+1,t,cs,e=>pW (by simpa[iW]using h) j t cs (by grind)|.bh _ _::os,h,0,t,cs,e=>by simp at e|.bh _ _::os,h,j+1,t,cs,e=>pW (by simpa[iW]using h) j t cs (by grind)|.mp _ _ _::os,h,0,t,cs,e=>by simp at e|.mp _ _ _::os,h,j+1,t,cs,e=>pW (by simpa[iW]using h) j t cs (by grind)|.tr _ _ _::os,h,0,t,cs,e=>by simp at e|.tr _ _ _::os,h,j+1,t,cs,e=>pW (by simpa[iW]using h) j t cs (by grind)|.gone::os,h,0,t,cs,e=>by simp at e|.gone::os,h,j+1,t,cs,e=>pW (by simpa[iW]using h) j t cs (by grind)
theorem ah.sub(hs:ah P w ob nx h){L:List Nat}(hn:nodup L=true)(hok:iW (cq ob L L)=true):ah P (w.sub L) (bP (cq ob L L) 0 .leaf) L.length h:=by
 have E:∀j y,(bP (cq ob L L) 0 .leaf).get j=some y->∃i,L[j]?=some i/\y=j9 ob L i:=by intro j y e;rw[pV,rz]at e;cases hL:L[j]? with|none=>grind|some i=>grind
 have F:∀j i,L[j]?=some i->(w.sub L).s j=w.s i:=λj i e=>by simp only[Wd.sub,e,Option.bind_some]
 have I:∀j,live (bP (cq ob L L) 0 .leaf) j->∃i,L[j]?=some i/\live ob i:=by rintro j⟨y,h1,h2⟩;obtain⟨i,e,rfl⟩:=E j y h1;refine⟨i,e,?_⟩;unfold j9 at h2;cases hi:ob.get i with|none=>grind|some z=>refine⟨z,hi,?_⟩;grind
 have D:∀j y,(bP (cq ob L L) 0 .leaf).get j=some y->dp P (w.sub L) h j y:=by
  intro j y e
  have M:=e
  obtain⟨i,hi,rfl⟩:=E j y e
  rw[pV]at M
  unfold j9 at M⊢
  cases hz:ob.get i with
  |none=>trivial
  |some z=>
   rw[hz]at M
   have ho:=hs.gJ hz
   cases z with
   |box t cs=>obtain⟨o,c,sh,X,U,T,V,S⟩:=ho;exact⟨o,c,sh,by grind,U,T.gK L,pW hok j t _ M,S⟩
   |arr t rows aY=>
    obtain⟨K,Q,O,J⟩:=ho
    refine⟨K,Q,O,?_⟩
    rcases J with⟨q1,q2⟩|⟨o,ver,mv,c,ex,sh,cap,q1,q2,q3,q4,q5,q6,q7,q8⟩
    .grind
    .exact .inr ⟨o,ver,mv,c,ex,sh,cap,by grind,q2,q3,q4,q5,q6.mono (.sub w L),q7,q8⟩
   |bh s t=>
    obtain⟨K,J⟩:=ho
    refine⟨K,?_⟩
    rcases J with⟨q1,q2⟩|⟨o,ver,mv,ex,fz,cap,q0,q1,q2,q3,q4,q5,q7⟩
    .grind
    .exact .inr ⟨o,ver,mv,ex,fz,cap,q0,by grind,q2,q3,q4,q5,q7⟩
   |mp t rows aY=>obtain⟨e,o,es,cl,q1,q2,q3,q4,q5⟩:=ho;exact⟨e,o,es,cl,q1,by grind,q3,q4.bX (aX.sub w L).c,q5⟩
   |tr t rows aY=>
    obtain⟨K,Q,O,J⟩:=ho
    refine⟨K,Q,O,?_⟩
    rcases J with⟨q1,q2⟩|⟨o,ver,mv,c,ex,sh,n,q1,q3,q4,q5,N,q6,q8⟩
    .grind
    .exact .inr ⟨o,ver,mv,c,ex,sh,n,by grind,q3,q4,q5,N,q6.mono (.sub w L),q8⟩|gone=>trivial
 refine⟨hs.g,λi t cs e=>D i _ e,λi t rows l e=>D i _ e,λi s l e=>D i _ e,?_,?_,?_,hs.bU,hs.new,λi t rows l e=>D i _ e,λi t rows l e=>D i _ e⟩
 .intro a b k l o h1 h2 h3 h4 h5 h6;obtain⟨i,e1,R⟩:=I a h1;obtain⟨j,e2,g2⟩:=I b h2;rw[F a i e1]at h3;rw[F b j e2]at h4;have:=hs.inj i j k l o R g2 h3 h4 h5 h6;subst this;exact Mg hn a b i e1 e2
 .intro a k o h1 h2;cases hL:L[a]? with|none=>simp only[Wd.sub,hL]at h1;cases h1|some i=>rw[F a i hL]at h1;exact hs.lt i k o h1 h2
 .intro a ha;have hL:L[a]?=none:=List.getElem?_eq_none ha;exact⟨by simp only[Wd.sub,hL];rfl,by rw[pV,rz,hL];rfl⟩
theorem Ow.sub{L:List Nat}{o:Nat}(h:Ow (w.sub L) (bP (cq ob L L) 0 .leaf) o):∃(j i:Nat)(k:Lk),L[j]?=some i/\live ob i/\w.s i=some k/\k.obj=some o:=by obtain⟨j,k,⟨y,h1,h2⟩,h3,h4⟩:=h;rw[pV,rz]at h1;cases hL:L[j]? with|none=>grind|some i=>rw[hL]at h1;cases h1;simp only[Wd.sub,hL,Option.bind_some]at h3;refine⟨j,i,k,hL,?_,h3,h4⟩;unfold j9 at h2;cases hi:ob.get i with|none=>grind|some z=>refine⟨z,hi,?_⟩;grind
theorem ah.said(hs:ah P w ob nx h){i:Nat}{E x:aq}(z:ob.get i=some E)(F:E≠.gone)(I:∀t cs,E=.box t cs->∃aS,x=.box t aS)(hx:dp P w h i x)(hg:x≠.gone):ah P w (ob.put i x) nx h/\a8 w ob h w (ob.put i x) h:=by
 have D:∀j,live (ob.put i x) j↔live ob j:=λj=>nL z F hg
 have c:∀j y,(ob.put i x).get j=some y->dp P w h j y:=by
  intro j y e
  by_cases e2:j=i
  .subst e2;rw[Tr.a7]at e;grind
  .rw[Tr.aL _ _ e2]at e;exact hs.gJ e
 refine⟨⟨hs.g,λi t cs e=>c i _ e,λi t rows l e=>c i _ e,λi s l e=>c i _ e,λa b k l o h1 h2=>hs.inj a b k l o ((D a).1 h1) ((D b).1 h2),hs.lt,?_,hs.bU,hs.new,λi t rows l e=>c i _ e,λi t rows l e=>c i _ e⟩,⟨.refl w,λ_ _ e=>e,aC _,rfl,λ_ _ _=>rfl,λo⟨j,k,h1,h2,h3⟩=>.inr ⟨j,k,(D j).1 h1,h2,h3⟩,λ_ e=>.inl e,λ_ e=>.inl e,λe=>e,E0 z I⟩⟩
 intro j hj
 refine⟨(hs.nx j hj).1,?_⟩
 have:j≠i:=by rintro rfl;rw[(hs.nx j hj).2]at z;cases z
 rw[Tr.aL _ _ this];exact(hs.nx j hj).2
def jC(P:Program)(w:Wd)(h:AHeap)(st st':ae)(w':Wd):Prop:=ah P w' st'.ob st'.nx h/\a8 w st.ob h w' st'.ob h/\st'.tm=st.tm/\st'.r=st.r/\(∀j t cs,st'.ob.get j=some (.box t cs)↔st.ob.get j=some (.box t cs))
theorem jC.refl{st:ae}(hs:ah P w st.ob st.nx h):jC P w h st st w:=⟨hs,.refl _ _ _,rfl,rfl,λ_ _ _=>Iff.rfl⟩
theorem jC.trans{o:Wd}{st st' c:ae}(a:jC P w h st st' w')(b:jC P w' h st' c o):jC P w h st c o:=⟨b.1,a.2.1.trans b.2.1,b.2.2.1.trans a.2.2.1,b.2.2.2.1.trans a.2.2.2.1,λj t cs=>(b.2.2.2.2 j t cs).trans (a.2.2.2.2 j t cs)⟩
theorem X3{st:ae}(hs:ah P w st.ob st.nx h){e:TypeId}(hg:(iU P e&&!isByte P e)=true):∃w',jC P w h st {st with ob:=st.ob.put st.nx (.tr e [] false),nx:=st.nx+1} w'/\RV P w' (.own st.nx) (.sc (.slice none 0 0)):=by
 simp only[bB,Bool.not_eq_true']at hg
 obtain⟨c,g2,_⟩:=rP hg.1
 obtain⟨w',e1,e2,e3⟩:=hs.qp (x:=.tr e [] false) (by simp) λw' e=>⟨c,g2,hg.2,.inl ⟨e,rfl⟩⟩
 refine⟨w',⟨e2,e3,rfl,rfl,λj t cs=>?_⟩,.cM e1⟩
 show(st.ob.put st.nx _).get j=_↔_
 by_cases e2:j=st.nx
 .subst e2;rw[Tr.a7,(hs.nx _ (aC _)).2];simp
 .rw[Tr.aL _ _ e2]
theorem Dj{st:ae}(hs:ah P w st.ob st.nx h)(e:TypeId):∃w',jC P w h st (mB P st e).2 w'/\RV P w' (mB P st e).1 (.sc (.slice none 0 0)):=by
 have z:∀(x:aq),(∀t cs,x≠.box t cs)->∀j t cs,(st.ob.put st.nx x).get j=some (.box t cs)↔st.ob.get j=some (.box t cs):=by
  intro x hx j t cs
  by_cases e2:j=st.nx
  .subst e2;rw[Tr.a7,(hs.nx _ (aC _)).2];grind
  .rw[Tr.aL _ _ e2]
 unfold mB
 split
 .rename_i o;obtain⟨w',e1,e2,e3⟩:=hs.qp (x:=.bh .empty e) (by simp) λw' e=>⟨o,.inl ⟨e,rfl⟩⟩;exact⟨w',⟨e2,e3,rfl,rfl,z _ (by simp)⟩,.cM e1⟩
 .rename_i o c;obtain⟨D,g2,_⟩:=rP c;obtain⟨w',e1,e2,e3⟩:=hs.qp (x:=.arr e [] false) (by simp) λw' e=>⟨D,g2,o,.inl ⟨e,rfl⟩⟩;exact⟨w',⟨e2,e3,rfl,rfl,z _ (by simp)⟩,.cM e1⟩
 .exact⟨w,.refl hs,.aM _⟩
theorem oo{F:Nat->Prop}{vs:List SV}(h3:∀i,SV.own i∈vs->∀t rows l x,jd ob i t rows l->RV P w (.own i) x->Rd P (w.more F) t rows x)(h5:∀i,SV.om i∈vs->∀t rows l x,ob.get i=some (.mp t rows l)->RV P w (.om i) x->Rm P (w.more F) t rows x){v:SV}{x:AV}(hv:v∈vs)(hx:RV P w v x):RV P (w.more F) (bU ob v) x:=by
 unfold bU
 split
 .rename_i i
  split
  .rename_i t r l hb;exact .dl (h3 i hv _ _ _ _ (.inl hb) hx)
  .rename_i t r l hb;exact .dl (h3 i hv _ _ _ _ (.inr hb) hx)
  .exact .aM _
 .rename_i i
  split
  .rename_i t r l hb;exact .md (h5 i hv _ _ _ _ hb hx)
  .exact .aM _
 .exact hx.mono (aX.more _ _) λ_ _ e=>e
theorem lx{st:ae}(hs:ah P w st.ob st.nx h)(vs:List SV):∃F,jC P w h st {st with ob:=bo st.ob vs} (w.more F)/\(∀i,SV.own i∈vs->∀t rows l x,jd st.ob i t rows l->RV P w (.own i) x->Rd P (w.more F) t rows x)/\∀i,SV.om i∈vs->∀t rows l x,st.ob.get i=some (.mp t rows l)->RV P w (.om i) x->Rm P (w.more F) t rows x:=by obtain⟨F,p1,p2,o,p3,c⟩:=lE hs vs;exact⟨F,⟨p1,.bo p2 o,rfl,rfl,p2.box⟩,p3,c⟩
theorem W2{st:ae}(hs:ah P w st.ob st.nx h){m i:Nat}{l:Lf}{v:SV}{x:AV}(hi:∃o n,w.s i=some (.box o n))(hx:RV P w v x):∃w',jC P w h st (rV P m i l v st).2 w'/\RV P w' (rV P m i l v st).1 x:=by
 unfold rV
 split
 .split
  .cases hx;exact⟨w,.refl hs,.dl (.nil _)⟩
  .split
   .rename_i hg;cases hx;exact X3 hs hg
   .exact⟨w,.refl hs,hx⟩
  .exact⟨w,.refl hs,hx⟩
  .cases hx;obtain⟨w1,q1,q2⟩:=Dj hs (e:=_);obtain⟨F,r1,_,_⟩:=lx q1.1 [_];exact⟨_,q1.trans r1,q2.mono (aX.more _ _) λ_ _ e=>e⟩
  .cases hx;exact Dj hs _
 .split
  .obtain⟨F,q1,q2,c⟩:=lx hs [SV.own _];exact⟨_,q1,oo q2 c (by simp) hx⟩
  .obtain⟨F,q1,q2,c⟩:=lx hs [SV.own _];exact⟨_,q1,hx.mono (aX.more _ _) λ_ _ e=>e⟩
  .exact⟨w,.refl hs,hx⟩
 .split
  .cases hx;exact⟨w,.refl hs,.iG⟩
  .exact⟨w,.refl hs,hx⟩
 .split
  .cases hx with|ref e=>exact⟨w,.refl hs,.fY (.ref e) rfl⟩
  .exact⟨w,.refl hs,hx⟩
 .split
  .exact⟨w,.refl hs,hx⟩
  .obtain⟨F,q1,q2,c⟩:=lx hs [SV.om _];exact⟨_,q1,oo q2 c (by simp) hx⟩
 .exact⟨w,.refl hs,hx⟩
theorem Mh{m i:Nat}:∀{ls:List Lf}{vs:List SV}{xs:List AV}{st:ae}{w:Wd},ah P w st.ob st.nx h->(∃o n,w.s i=some (.box o n))->au P w vs xs->∃w',jC P w h st (kK P m i ls vs st).2 w'/\au P w' (kK P m i ls vs st).1 xs
 |[],vs,xs,st,w,hs,_,hx=>by
  have:kK P m i [] vs st=(vs,st):=by cases vs<;>rfl
  rw[this];exact⟨w,.refl hs,hx⟩|l::ls,[],xs,st,w,hs,_,hx=>⟨w,.refl hs,hx⟩|l::ls,v::vs,_,st,w,hs,hi,.cons a b=>by obtain⟨w1,q1,q2⟩:=W2 (m:=m) (l:=l) hs hi a;obtain⟨o,n,hi⟩:=hi;obtain⟨c,r1,r2⟩:=Mh (ls:=ls) q1.1 ⟨o,n,q1.2.1.s _ _ hi⟩ (b.mono q1.2.1.le q1.2.1.s);exact⟨c,q1.trans r1,.cons (q2.mono r1.2.1.le r1.2.1.s) r2⟩
variable {bx:TypeId->Nat}
theorem tj:∀(is:List Nat){st:ae}{w:Wd},ah P w st.ob st.nx h->∃w',ah P w' (mo P bx is st).ob (mo P bx is st).nx h/\a8 w st.ob h w' (mo P bx is st).ob h/\(mo P bx is st).tm=st.tm/\(mo P bx is st).r=st.r
 |[],st,w,hs=>⟨w,hs,.refl _ _ _,rfl,rfl⟩
 |i::is,st,w,hs=>by
  simp only[mo]
  split
  .rename_i t cs hb
   obtain⟨o,c,sh,E,J,I,M,L⟩:=hs.box i t cs hb
   obtain⟨w1,q1,q2⟩:=Mh (m:=bx t) (i:=i) (ls:=lay P t) hs ⟨o,_,E⟩ I
   cases hok:cJ (kK P (bx t) i (lay P t) cs st).1 with
   |false=>obtain⟨D,r1,r2,r3,r4⟩:=tj is q1.1;exact⟨D,r1,q1.2.1.trans r2,r3.trans q1.2.2.1,r4.trans q1.2.2.2.1⟩
   |true=>
    have z:=(q1.2.2.2.2 i t cs).2 hb
    have hF:¬w1.F o:=λf=>by obtain⟨o',c',fw,d1,_,_,_,K⟩:=q1.1.box i t cs z;have:=q1.2.1.s _ _ E;grind
    obtain⟨e1,e2⟩:=q1.1.said (x:=.box t (kK P (bx t) i (lay P t) cs st).1) z (by simp) (by grind) ⟨o,c,sh,q1.2.1.s _ _ E,J,q2,hok,hF⟩ (by simp);obtain⟨D,r1,r2,r3,r4⟩:=tj is (st:={(kK P (bx t) i (lay P t) cs st).2 with ob:=(kK P (bx t) i (lay P t) cs st).2.ob.put i (.box t (kK P (bx t) i (lay P t) cs st).1)}) e1;exact⟨D,r1,(q1.2.1.trans e2).trans r2,r3.trans q1.2.2.1,r4.trans q1.2.2.2.1⟩
  .exact tj is hs
theorem DO{st c:ae}(hs:ah P w st.ob st.nx h){bu o:List SV}{xs:List AV}(hx:au P w bu xs){pre L:List Nat}{aA:List aq}(hc:lF P bx st bu pre=some (o,aA,L,c)):
 ∃z,ah P z c.ob c.nx h/\a8 w st.ob h z c.ob h/\c.tm=st.tm/\c.r=st.r/\ah P (z.sub L) (bP aA 0 .leaf) aA.length h/\au P (z.sub L) o xs/\aA=cq c.ob L L/\nodup L=true:=by
 unfold lF at hc
 simp only at hc
 split at hc
 .rename_i hok;simp only[bB]at hok;simp only[ad,av]at hc;obtain⟨rfl,rfl,rfl,rfl⟩:=hc;obtain⟨z,r1,r2,r3,r4⟩:=tj (bx:=bx) (qf st.ob 200 (pre++dV bu) []) hs;refine⟨z,r1,r2,r3,r4,?_,(hx.mono r2.le r2.s).gK _,rfl,hok.1⟩;rw[yL];exact r1.sub hok.1 hok.2
 .cases hc
end
end Go.AI
end

section
namespace Go.AI
structure fu(X:Nat->Prop)(nb:Nat)(w:Wd)(ob:Tr aq)(h:AHeap)(w':Wd)(ob':Tr aq)(h':AHeap):Prop where
 le:aX w w'
 s:∀i k,i<nb->w.s i=some k->w'.s i=some k
 next:h.next<=h'.next
 floor:h'.floor=h.floor
 ck:∀o,o<h.next->¬Ow w ob o->¬X o->h'.get o=h.get o
 own:∀o,Ow w' ob' o->h.next<=o\/Ow w ob o
 F:∀o,w'.F o->w.F o\/h.next<=o\/Ow w ob o
 wr:∀o,o∈h'.wr->o∈h.wr\/h.next<=o\/Ow w ob o\/Lp h.get o\/X o
 ea:(∀o,o∈h.wr->o<h.floor)->∀o,o∈h'.wr->o<h'.floor
 bx:∀i t cs,i<nb->ob.get i=some (.box t cs)->∃aS,ob'.get i=some (.box t aS)
abbrev fP(nb:Nat):=fu (λ_=>False) nb
def XW(h:AHeap)(o:Nat):Prop:=h.floor<=o/\h.get o=some (.cE (some []))
section
variable {P:Program}{w w':Wd}{ob ob':Tr aq}{nx:Nat}{h h':AHeap}{ρ:Type}
theorem fu.of{X:Nat->Prop}{nb:Nat}(a:a8 w ob h w' ob' h'):fu X nb w ob h w' ob' h':=⟨a.le,λi k _ e=>a.s i k e,a.next,a.floor,λo h1 h2 _=>a.ck o h1 h2,a.own,a.F,λo e=>(a.wr o e).imp id (.imp id (.imp id .inl)),a.ea,λi t cs _ e=>a.bx i t cs e⟩
theorem fP.of{nb:Nat}(a:a8 w ob h w' ob' h'):fP nb w ob h w' ob' h':=fu.of a
theorem fu.trans{X E:Nat->Prop}{nb:Nat}{z:Wd}{c:Tr aq}{D:AHeap}(a:fu X nb w ob h w' ob' h')(b:fu E nb w' ob' h' z c D)(I:∀o,E o->o<h.next->¬Ow w ob o->X o):fu X nb w ob h z c D where
 le:=a.le.trans b.le
 s:=λi k hi e=>b.s i k hi (a.s i k hi e)
 next:=Nat.le_trans a.next b.next
 floor:=b.floor.trans a.floor
 ck:=λo h1 h2 hx=>by rw[b.ck o (Nat.lt_of_lt_of_le h1 a.next) (λh3=>(a.own o h3).elim (λh4=>absurd h1 (by omega)) h2) λe=>hx (I o e h1 h2)];exact a.ck o h1 h2 hx
 own:=λo e=>by
  rcases b.own o e with h1|h1
  .exact .inl (Nat.le_trans a.next h1)
  .exact a.own o h1
 F:=λo e=>by
  rcases b.F o e with h1|h1|h1
  .exact a.F o h1
  .exact .inr (.inl (Nat.le_trans a.next h1))
  .exact .inr (a.own o h1)
 wr:=λo e=>by
  rcases Nat.lt_or_ge o h.next with q|q
  .by_cases h2:Ow w ob o
   .grind
   .by_cases h3:X o
    .grind
    .rcases b.wr o e with h1|h1|h1|h1|h1
     .exact a.wr o h1
     .exact absurd (Nat.le_trans a.next h1) (by omega)
     .exact .inr ((a.own o h1).imp id .inl)
     .obtain⟨x,e3,J⟩:=h1;exact .inr (.inr (.inr (.inl ⟨x,by rw[<-a.ck o q h2 h3];exact e3,J⟩)))
     grind
  grind
 ea:=λe=>b.ea (a.ea e);bx:=λi t cs hi e=>let⟨K,e1⟩:=a.bx i t cs hi e;b.bx i t K hi e1
theorem fP.trans{nb:Nat}{o:Wd}{c:Tr aq}{z:AHeap}(a:a8 w ob h w' ob' h')(b:fP nb w' ob' h' o c z):fP nb w ob h o c z:=fu.trans (.of a) b λ_ e _ _=>e
theorem fP.S8{X:Nat->Prop}{nb:Nat}(a:fP nb w ob h w' ob' h'):fu X nb w ob h w' ob' h':=⟨a.le,a.s,a.next,a.floor,λo h1 h2 _=>a.ck o h1 h2 id,a.own,a.F,λo e=>(a.wr o e).imp id (.imp id (.imp id (.imp id False.elim))),a.ea,a.bx⟩
theorem fu.acp{X:Nat->Prop}{nb:Nat}(c:∀o,o<h.next->¬X o)(a:fu X nb w ob h w' ob' h'):fP nb w ob h w' ob' h':=
 ⟨a.le,a.s,a.next,a.floor,λo h1 h2 _=>a.ck o h1 h2 (c o h1),a.own,a.F,λo e=>by
  rcases Nat.lt_or_ge o h.next with q|q
  .exact(a.wr o e).imp id (.imp id (.imp id (.imp id (c o q))))
  grind,a.ea,a.bx⟩
theorem fP.xw{nb:Nat}(a:fP nb w ob h w' ob' h'):∀o,XW h' o->o<h.next->¬Ow w ob o->XW h o:=λo e h1 h2=>⟨by rw[<-a.floor];exact e.1,by rw[<-a.ck o h1 h2 id];exact e.2⟩
def vY:List AV->AV|[y]=>y|ys=>.tuple ys
def qB(P:Program)(X:Nat->Prop)(w:Wd)(ob:Tr aq)(nb:Nat)(h:AHeap)(ts:List TypeId)(shs:List Sh)(r:RT (bF shs))(v:AV)(h':AHeap):Prop:=∃w' ob' nx' vs ys,ah P w' ob' nx' h'/\fu X nb w ob h w' ob' h'/\au P w' vs ys/\v=vY ys/\nodup ((kx P ts vs++mh ob' (upto nb)).flatMap oq)=true/\mK P ts vs=true/\b9 P ob' shs (kx P ts vs++mh ob' (upto nb))=some r
abbrev eK(P:Program)(w:Wd)(ob:Tr aq)(nb:Nat)(h:AHeap):=qB P (XW h) w ob nb h
theorem ah.Fx(hs:ah P w ob nx h){i nx':Nat}{x:aq}{k:Lk}(hg:w'.g=w.g)(hF:w'.F=w.F)(c:∀j,j≠i->w'.s j=w.s j)(J:w'.s i=some k)(hold:w.s i=none\/w.s i=some k)
 (N:¬live ob i)(D:∀o,k.obj=some o->¬Ow w ob o/\o<h.next)(hx:dp P w' h i x)(hi:i<nx')(S:nx<=nx'):ah P w' (ob.put i x) nx' h/\(∀j l,w.s j=some l->w'.s j=some l):=by
 have K:∀j l,w.s j=some l->w'.s j=some l:=by grind
 have E:∀j,live (ob.put i x) j->j=i\/(j≠i/\live ob j):=by
  rintro j⟨y,h1,h2⟩
  by_cases e:j=i
  .exact .inl e
  .rw[Tr.aL _ _ e]at h1;exact .inr ⟨e,y,h1,h2⟩
 have z:∀j y,(ob.put i x).get j=some y->dp P w' h j y:=by
  intro j y e
  by_cases e2:j=i
  .subst e2;rw[Tr.a7]at e;grind
  .rw[Tr.aL _ _ e2]at e;exact(hs.gJ e).move (.imp hg (λo f=>by grind)) K λ_ _ _ _=>⟨rfl,λf=>by grind⟩
 refine⟨⟨λo=>by rw[hg];exact hs.g o,λi t cs e=>z i _ e,λi t rows l e=>z i _ e,λi s l e=>z i _ e,?_,?_,?_,λo f=>hs.bU o (by grind),hs.new,λi t rows l e=>z i _ e,λi t rows l e=>z i _ e⟩,K⟩
 .intro a b M Q o h1 h2 h3 h4 h5 h6
  rcases E a h1 with L|⟨L,R⟩
  .rcases E b h2 with I|⟨I,O⟩
   .rw[L,I]
   .subst L;rw[J]at h3;cases h3;rw[c b I]at h4;exact absurd ⟨b,Q,O,h4,h6⟩ (D o h5).1
  .rcases E b h2 with I|⟨I,O⟩
   .subst I;rw[J]at h4;cases h4;rw[c a L]at h3;exact absurd ⟨a,M,R,h3,h5⟩ (D o h6).1
   .rw[c a L]at h3;rw[c b I]at h4;exact hs.inj a b M Q o R O h3 h4 h5 h6
 .intro a M o h1 h2
  by_cases e:a=i
  .grind
  .rw[c a e]at h1;exact hs.lt a M o h1 h2
 .intro a ha
  have e:a≠i:=by omega
  rw[c a e,Tr.aL _ _ e];exact hs.nx a (by omega)
theorem ah.congr(hs:ah P w ob nx h)(he:∀i,ob'.get i=ob.get i):ah P w ob' nx h:=by have c:∀j,live ob' j->live ob j:=λj⟨y,a,b⟩=>⟨y,by grind,b⟩;exact⟨hs.g,λi t cs e=>hs.box i t cs (by grind),λi t rows l e=>hs.arr i t rows l (by grind),λi s l e=>hs.bh i s l (by grind),λa b k l o h1 h2=>hs.inj a b k l o (c _ h1) (c _ h2),hs.lt,λj hj=>by rw[he];exact hs.nx j hj,hs.bU,hs.new,λi t rows l e=>hs.mp i t rows l (by grind),λi t rows l e=>hs.tr i t rows l (by grind)⟩
theorem ma(j:Nat):∀(L:List Nat)(ob:Tr aq),(gO ob L).get j=if j∈L then some .gone else ob.get j
 |[],ob=>by simp[gO]
 |i::is,ob=>by
  simp only[gO]
  rw[ma j is]
  by_cases h1:j∈is
  .grind
  .rw[if_neg h1]
   by_cases h2:j=i
   .subst h2;rw[Tr.a7,if_pos (by simp)]
   .rw[Tr.aL _ _ h2,if_neg (by grind)]
theorem NS{E:Wd}{L:List Nat}{I:Tr aq}{J:Nat}(hs:ah P w ob nx h)(Q:ah P E I J h')(K:h.next<=h'.next)
 (D:∀o,o<h.next->¬Ow (w.sub L) (bP (cq ob L L) 0 .leaf) o->h'.get o=h.get o)(N:aX w E)(hF:∀o,E.F o->w.F o\/h.next<=o\/Ow (w.sub L) (bP (cq ob L L) 0 .leaf) o)(hL:∀j,j∈L->j<nx):
 ah P {g:=h'.get,F:=E.F,s:=w.s} (gO ob L) nx h':=by
 have z:∀j,live (gO ob L) j->j∉L/\live ob j:=by
  rintro j⟨y,h1,h2⟩
  rw[ma]at h1
  split at h1
  .grind
  .rename_i hj;exact⟨hj,y,h1,h2⟩
 have M:∀j,j∉L->live ob j->∀k o,w.s j=some k->k.obj=some o->¬Ow (w.sub L) (bP (cq ob L L) 0 .leaf) o:=by intro j hj hl k o h1 h2 how;obtain⟨a,i,k',e1,e2,e3,S⟩:=Ow.sub how;have:=hs.inj i j k' k o e2 hl e3 h1 S h2;subst this;exact hj (List.mem_of_getElem? e1)
 have O:E.g=h'.get:=funext Q.g
 have c:∀j y,(gO ob L).get j=some y->dp P {g:=h'.get,F:=E.F,s:=w.s} h' j y:=by
  intro j y e
  cases y with
  |gone=>trivial
  |_=>
   obtain⟨R,T⟩:=z j ⟨_,e,by simp⟩
   rw[ma,if_neg R]at e
   refine(hs.gJ e).move (N.trans (.imp (by rw[O]) λ_ f=>f)) (λ_ _ e=>e) λk o h1 h2=>⟨D o (hs.lt j k o h1 h2) (M j R T k o h1 h2),λf=>?_⟩
   rcases hF o f with e1|e1|e1
   .exact e1
   .have:=hs.lt j k o h1 h2;omega
   grind
 refine⟨λ_=>rfl,λi t cs e=>c i _ e,λi t rows l e=>c i _ e,λi s l e=>c i _ e,λa b k l o h1 h2=>hs.inj a b k l o (z a h1).2 (z b h2).2,λi k o h1 h2=>Nat.lt_of_lt_of_le (hs.lt i k o h1 h2) K,?_,Q.bU,Q.new,λi t rows l e=>c i _ e,λi t rows l e=>c i _ e⟩;intro a ha;refine⟨(hs.nx a ha).1,?_⟩;rw[ma,if_neg λe=>absurd (hL a e) (by omega)];exact(hs.nx a ha).2
def gL:List Sh->List SV->List SV|.dl _::ss,v::vs=>v::gL ss vs|.md _::ss,v::vs=>v::gL ss vs|_::ss,_::vs=>gL ss vs|_,_=>[]
theorem Eb:∀{ss:List Sh}{vs:List SV}{v:SV},v∈gL ss vs->v∈vs|[],vs,v,h=>by cases vs<;>simp[gL]at h|s::ss,[],v,h=>by simp[gL]at h|s::ss,u::vs,v,h=>by cases s<;>simp only[gL]at h<;>first
 |exact List.mem_cons_of_mem _ (Eb h)
 |(rcases List.mem_cons.1 h with rfl|h
   .grind
   .exact List.mem_cons_of_mem _ (Eb h))
theorem pN:∀{vs:List SV}{ob:Tr aq}{j:Nat},SV.own j∉vs->(∀t r l,ob.get j≠some (.mp t r l))->(bo ob vs).get j=ob.get j
 |[],_,_,_,_=>rfl
 |v::vs,ob,j,h,h'=>by
  simp only[List.mem_cons,not_or]at h
  unfold bo
  split
  .grind
  .rename_i i o e
   simp only[List.cons.injEq]at e
   obtain⟨rfl,rfl⟩:=e
   have c:j≠i:=by grind
   split
   .rw[pN h.2 (by rw[Tr.aL _ _ c];exact h'),Tr.aL _ _ c]
   .rw[pN h.2 (by rw[Tr.aL _ _ c];exact h'),Tr.aL _ _ c]
   .exact pN h.2 h'
  .rename_i i o e
   simp only[List.cons.injEq]at e
   obtain⟨rfl,rfl⟩:=e
   split
   .rename_i t r l hb
    have c:j≠i:=by grind
    rw[pN h.2 (by rw[Tr.aL _ _ c];exact h'),Tr.aL _ _ c]
   .exact pN h.2 h'
  .rename_i e;simp only[List.cons.injEq]at e;obtain⟨_,rfl⟩:=e;exact pN h.2 h'
theorem Po:∀{a b:List Nat},Cc a b=true->a=b|[],[],_=>rfl|x::xs,y::ys,h=>by simp only[Cc,bB]at h;rw[Nat.eq_of_beq_eq_true h.1,Po h.2]|[],_::_,h=>by cases h|_::_,[],h=>by cases h
theorem Pp{v u:Value}(h:v8 v u=true):v=u/\rU v=true:=by
 unfold v8 at h
 split at h
 .rename_i k n k' m
  simp only[bB]at h
  have hk:=Nat.eq_of_beq_eq_true h.1
  have e1:k=k':=by cases k<;>cases k'<;>first|rfl|(simp[E5]at hk)
  subst e1
  have h2:=h.2
  unfold RY at h2
  split at h2
  .rw[Nat.eq_of_beq_eq_true h2];exact⟨rfl,rfl⟩
  .rw[Nat.eq_of_beq_eq_true h2];exact⟨rfl,rfl⟩
  .cases h2
 .exact⟨rfl,rfl⟩
 .exact⟨rfl,rfl⟩
 .rename_i s s'
  have:=Po h
  have h3:s.data.toList=s'.data.toList:=by
   have hi:∀{a b:List UInt8},a.map (·.toNat)=b.map (·.toNat)->a=b:=by intro a;induction a with|nil=>simp_all|cons x xs c=>intro b e;cases b with|nil=>simp at e|cons y ys=>simp only[List.map_cons,List.cons.injEq]at e;have e1:x=y:=UInt8.toNat_inj.1 e.1;grind
   exact hi this
  have h4:s.data=s'.data:=by simp_all
  exact⟨by cases s;simp_all,rfl⟩
 .exact⟨rfl,rfl⟩
 .cases h
mutual
theorem acq:∀{x y:AV},Cd x y=true->x=y
 |.sc v,.sc u,h=>by
  have h2:v8 v u=true:=by simpa only[Cd]using h
  rw[(Pp h2).1]|.aQ a z,.aQ b z',h=>by simp only[Cd,bB]at h;rw[Ec h.1,Nat.eq_of_beq_eq_true h.2]|.aM,_,h=>by cases h|.ref ..,_,h=>by cases h|.sl ..,_,h=>by cases h|.bT,_,h=>by cases h|.cI _,_,h=>by cases h|.aZ ..,_,h=>by cases h|.map _,_,h=>by cases h|.func ..,_,h=>by cases h|.eB _,_,h=>by cases h|.iface ..,_,h=>by cases h|.agg _,_,h=>by cases h|.tuple _,_,h=>by cases h|.sc _,.aM,h=>by cases h|.sc _,.ref ..,h=>by cases h|.sc _,.sl ..,h=>by cases h|.sc _,.bT,h=>by cases h|.sc _,.cI _,h=>by cases h|.sc _,.aZ ..,h=>by cases h|.sc _,.aQ ..,h=>by cases h|.sc _,.map _,h=>by cases h|.sc _,.func ..,h=>by cases h|.sc _,.eB _,h=>by cases h|.sc _,.iface ..,h=>by cases h|.sc _,.agg _,h=>by cases h|.sc _,.tuple _,h=>by cases h|.aQ ..,.aM,h=>by cases h|.aQ ..,.sc _,h=>by cases h|.aQ ..,.ref ..,h=>by cases h|.aQ ..,.sl ..,h=>by cases h|.aQ ..,.bT,h=>by cases h|.aQ ..,.cI _,h=>by cases h|.aQ ..,.aZ ..,h=>by cases h|.aQ ..,.map _,h=>by cases h|.aQ ..,.func ..,h=>by cases h|.aQ ..,.eB _,h=>by cases h|.aQ ..,.iface ..,h=>by cases h|.aQ ..,.agg _,h=>by cases h|.aQ ..,.tuple _,h=>by cases h
theorem Pq:∀{a b:List AV},Ce a b=true->a=b|[],[],_=>rfl|x::xs,y::ys,h=>by simp only[Ce,bB]at h;rw[acq h.1,Pq h.2]|[],_::_,h=>by cases h|_::_,[],h=>by cases h
theorem Ec:∀{a b:List (List AV)},vx a b=true->a=b|[],[],_=>rfl|x::xs,y::ys,h=>by simp only[vx,bB]at h;rw[Pq h.1,Ec h.2]|[],_::_,h=>by cases h|_::_,[],h=>by cases h
end
mutual
theorem qq:∀{v u:SV},eqv v u=true->v=u:=by
 intro v u h
 unfold eqv at h
 split at h
 .simp_all
 .simp only[bB]at h;rw[Nat.eq_of_beq_eq_true h.1,Ed h.2]
 .simp only[bB]at h;rw[Nat.eq_of_beq_eq_true h.1.1,Ed h.1.2,Nat.eq_of_beq_eq_true h.2]
 .simp only[bB]at h;rw[Nat.eq_of_beq_eq_true h.1,Ec h.2]
 .rfl
 .rfl
 .rfl
 .rw[(Pp h).1]
 .rfl
 .cases h
theorem Ed:∀{vs us:List SV},mQ vs us=true->vs=us|[],[],_=>rfl|v::vs,u::us,h=>by simp only[mQ,bB]at h;rw[qq h.1,Ed h.2]|[],_::_,h=>by cases h|_::_,[],h=>by cases h
end
mutual
theorem zx{L:List Nat}(hl:gH w w')(hL:∀i j k,L[i]?=some j->w.s i=some k->w'.s j=some k):∀{v:SV}{y:AV},RV P w v y->∀{u:SV},eqv v u=true->RV P w' (rW L u) y
 |_,_,.ref (i:=i) (off:=o) e,u,h=>by
  obtain rfl:=qq h
  simp only[rW]
  split
  .rename_i j hj;exact .ref (hL _ _ _ hj e)
  .exact .aM _
 |_,_,.fn (caps:=caps) a,u,h=>by obtain rfl:=qq h;simp only[eqv,bB]at h;simp only[rW];exact .fn (Mj hl hL a h.2)
 |_,_,.fR,u,h=>by obtain rfl:=qq h;exact .fR
 |_,_,.pb (cs:=cs) hF hg h1 h3 h4 h5 h6 hr,u,h=>by obtain rfl:=qq h;exact(RV.pb hF hg h1 h3 h4 h5 h6 hr).lu hl rfl rfl
 |_,_,.dl hr,u,h=>by obtain rfl:=qq h;exact .dl (hr.bX hl)
 |_,_,.sc (v:=v) hp,u,h=>by obtain rfl:=qq h;exact .sc hp
 |_,_,.aM x,u,h=>by
  cases u<;>simp only[eqv]at h<;>try(cases h;done)
  exact .aM _|_,_,.agg _,u,h=>by cases u<;>simp[eqv]at h|_,_,.cM _,u,h=>by cases u<;>simp[eqv]at h|_,_,.cu _,u,h=>by cases u<;>simp[eqv]at h|_,_,.dI _ _,u,h=>by cases u<;>simp[eqv]at h|_,_,.dj _,u,h=>by cases u<;>simp[eqv]at h|_,_,.fW _,u,h=>by cases u<;>simp[eqv]at h|_,_,.fY _ _,u,h=>by cases u<;>simp[eqv]at h|_,_,.iG,u,h=>by cases u<;>simp[eqv]at h|_,_,.bC _,u,h=>by cases u<;>simp[eqv]at h|_,_,.eb _,u,h=>by cases u<;>simp[eqv]at h|_,_,.kY,u,h=>by cases u<;>simp[eqv]at h|_,_,.k0,u,h=>by cases u<;>simp[eqv]at h|_,_,.aR _,u,h=>by cases u<;>simp[eqv]at h|_,_,.cl _ _,u,h=>by cases u<;>simp[eqv]at h|_,_,.om _,u,h=>by cases u<;>simp[eqv]at h|_,_,.md _,u,h=>by cases u<;>simp[eqv]at h|_,_,.ls _,u,h=>by cases u<;>simp[eqv]at h|_,_,.mE _ _,u,h=>by cases u<;>simp[eqv]at h|_,_,.mN _ _,u,h=>by cases u<;>simp[eqv]at h|_,_,.yl _ _ _,u,h=>by cases u<;>simp[eqv]at h
theorem Mj{L:List Nat}(hl:gH w w')(hL:∀i j k,L[i]?=some j->w.s i=some k->w'.s j=some k):∀{vs:List SV}{ys:List AV},au P w vs ys->∀{us:List SV},mQ vs us=true->au P w' (nP L us) ys
 |_,_,.nil,us,h=>by cases us<;>first|exact .nil|(simp[mQ]at h)
 |_,_,.cons a b,us,h=>by cases us with|nil=>simp[mQ]at h|cons u us=>simp only[mQ,bB]at h;exact .cons (zx hl hL a h.1) (Mj hl hL b h.2)end
end
end Go.AI
end
