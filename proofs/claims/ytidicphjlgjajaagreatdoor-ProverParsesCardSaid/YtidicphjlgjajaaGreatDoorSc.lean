/-
  A part of the proof: SvNew SvEff SvApp SvCal SvCan SvRet.
-/
import Derived.Test.YtidicphjlgjajaaGreatDoorSb
import Derived.Test.YtidicphjlgjajaaGreatDoorAe
set_option linter.all false

section
namespace Go.AI
def dn(P:Program)(w:Wd)(h:AHeap)(i:Nat):au->Prop|.box t cs=>∃o c sh,w.s i=some (.box o c.length)/\h.get o=some (.cells 0 0 c 0 t true sh)/\aC P w cs c/\cK cs=true/\¬w.F o|.arr t rows bE=>bB P t=some (lay P t).length/\0<(lay P t).length/\isByte P t=false/\((w.s i=some .nil/\rows=[])\/∃o ad mv c ex sh cap,w.s i=some (.sl o ad (rows.length*(lay P t).length) (lay P t).length rows.length cap)/\(∀k,cap=some k->k=rows.length)/\h.get o=some (.cells ad mv c 0 t ex sh)/\mv<=ad/\c.length=rows.length*(lay P t).length/\bX P w (lay P t) rows (chunks (lay P t).length rows.length c)/\(bE=true->True)/\(bE=false->¬w.F o))|.aK s el=>isByte P el=true/\((w.s i=some .nil/\s.size=0)\/∃o ad mv ex fz cap,0<s.size/\w.s i=some (.sl o ad s.size 1 s.size cap)/\(∀k,cap=some k->k=s.size)/\h.get o=some (.cells ad mv (cw s) fz el ex false)/\mv<=ad/\fz<=s.size/\¬w.F o)|.gone=>True
section
variable {P:Program}{w w':Wd}{ob:Tr au}{nx:Nat}{h h':AHeap}
theorem aj.jP(hs:aj P w ob nx h){i:Nat}{x:au}(hx:ob.get i=some x):dn P w h i x:=by cases x with|box t cs=>exact hs.box i t cs hx|arr t rows bE=>exact hs.arr i t rows bE hx|aK s bE=>exact hs.aK i s bE hx|gone=>trivial
theorem dn.move{i:Nat}{x:au}(hx:dn P w h i x)(hl:bA w w')(hs:∀j k,w.s j=some k->w'.s j=some k)(ho:∀k o,w.s i=some k->k.obj=some o->h'.get o=h.get o/\(w'.F o->w.F o)):dn P w' h' i x:=by
 cases x with
 |box t cs=>obtain⟨o,c,sh,m,B,z,v,u⟩:=hx;obtain⟨q1,q2⟩:=ho _ o m rfl;exact⟨o,c,sh,hs _ _ m,by rw[q1];exact B,z.mono hl hs,v,λf=>u (q2 f)⟩
 |arr t rows bE=>
  obtain⟨G,E,D,C⟩:=hx
  refine⟨G,E,D,?_⟩
  rcases C with⟨q1,q2⟩|⟨o,ad,mv,c,ex,sh,cap,q1,q2,q3,l,g,p,b,n⟩
  .exact .inl ⟨hs _ _ q1,q2⟩
  .obtain⟨p1,p2⟩:=ho _ o q1 rfl;exact .inr ⟨o,ad,mv,c,ex,sh,cap,hs _ _ q1,q2,by rw[p1];exact q3,l,g,p.mono hl,b,λe f=>n e (p2 f)⟩
 |aK s bE=>
  refine⟨hx.1,?_⟩
  rcases hx.2 with⟨q1,q2⟩|⟨o,ad,mv,ex,fz,cap,q,q1,q2,q3,l,g,b⟩
  .exact .inl ⟨hs _ _ q1,q2⟩
  .obtain⟨p1,p2⟩:=ho _ o q1 rfl;exact .inr ⟨o,ad,mv,ex,fz,cap,q,hs _ _ q1,q2,by rw[p1];exact q3,l,g,λf=>b (p2 f)⟩|gone=>trivial
theorem aj.there(hs:aj P w ob nx h){i:Nat}(hi:live ob i){k:Lk}{o:Nat}(hk:w.s i=some k)(ho:k.obj=some o):h.get o≠none:=by
 obtain⟨x,hx,hg⟩:=hi
 have:=hs.jP hx
 cases x with
 |box t cs=>obtain⟨o',c,sh,e,b,_⟩:=this;rw[e]at hk;cases hk;cases ho;rw[b];simp
 |arr t rows bE=>
  obtain⟨_,_,_,f⟩:=this
  rcases f with⟨q1,_⟩|⟨o',ad,mv,c,ex,sh,cap,q1,_,q3,_⟩
  .rw[q1]at hk;cases hk;cases ho
  .rw[q1]at hk;cases hk;cases ho;rw[q3];simp
 |aK s bE=>
  rcases this.2 with⟨q1,_⟩|⟨o',ad,mv,ex,fz,cap,_,q1,_,q3,_⟩
  .rw[q1]at hk;cases hk;cases ho
  .rw[q1]at hk;cases hk;cases ho;rw[q3];simp|gone=>exact absurd rfl hg
theorem aj.cells(hs:aj P w ob nx h){i:Nat}(hi:live ob i){k:Lk}{o:Nat}(hk:w.s i=some k)(ho:k.obj=some o):∃v mv c fz el ex sh,h.get o=some (.cells v mv c fz el ex sh):=by
 obtain⟨x,hx,hg⟩:=hi
 have:=hs.jP hx
 cases x with
 |box t cs=>obtain⟨o',c,sh,e,b,_⟩:=this;rw[e]at hk;cases hk;cases ho;exact⟨_,_,_,_,_,_,_,b⟩
 |arr t rows bE=>
  obtain⟨_,_,_,f⟩:=this
  rcases f with⟨q1,_⟩|⟨o',ad,mv,c,ex,sh,cap,q1,_,q3,_⟩
  .rw[q1]at hk;cases hk;cases ho
  .rw[q1]at hk;cases hk;cases ho;exact⟨_,_,_,_,_,_,_,q3⟩
 |aK s bE=>
  rcases this.2 with⟨q1,_⟩|⟨o',ad,mv,ex,fz,cap,_,q1,_,q3,_⟩
  .rw[q1]at hk;cases hk;cases ho
  .rw[q1]at hk;cases hk;cases ho;exact⟨_,_,_,_,_,_,_,q3⟩|gone=>exact absurd rfl hg
theorem aj.qX(hs:aj P w ob nx h){i:Nat}(hi:live ob i){k:Lk}{o:Nat}(hk:w.s i=some k)(ho:k.obj=some o):¬Lp h.get o:=by rintro⟨x,e,i2⟩;obtain⟨_,_,_,_,_,_,_,q⟩:=hs.cells hi hk ho;rw[q]at e;cases e;cases i2
def Wd.put(w:Wd)(g:Nat->Option b7)(i:Nat)(k:Lk):Wd:={g:=g,F:=w.F,s:=λj=>if j=i then some k else w.s j}
theorem aj.fresh(hs:aj P w ob nx h){lk:Lk}{x:au}(ha:∀a,lk.obj=some a->h.get a=none/\a<h'.next)(hg:∀o,lk.obj≠some o->h'.get o=h.get o)(hn:h.next<=h'.next)(p:∀o,h'.next<=o->h'.get o=none)
 (hx:dn P (w.put h'.get nx lk) h' nx x):aj P (w.put h'.get nx lk) (ob.put nx x) (nx+1) h'/\bA w (w.put h'.get nx lk)/\(∀i k,w.s i=some k->(w.put h'.get nx lk).s i=some k):=by
 have q:∀i k,w.s i=some k->(w.put h'.get nx lk).s i=some k:=by
  intro i k e
  have:i≠nx:=by rintro rfl;rw[(hs.nx i (Nat.le_refl _)).1]at e;cases e
  simp only[Wd.put];rw[if_neg this];exact e
 have z:∀o,w.F o->lk.obj≠some o:=λo f e=>(hs.cW o f).2 (ha o e).1
 have u:bA w (w.put h'.get nx lk):=⟨λ_ f=>f,λo x e _=>by rw[hs.g]at e;show h'.get o=_;rw[hg o λb=>by rw[(ha o b).1]at e;cases e];exact e,λo e=>by rw[hs.g]at e;have:h'.get o=h.get o:=hg o λb=>e (ha o b).1;show h'.get o≠none/\(Lp h'.get o->Lp w.g o);unfold Lp;rw[this,hs.g];exact⟨e,id⟩,λo f v mv c fz el ex sh e=>⟨v,[],fz,el,ex,sh,by simp only[Wd.put,List.append_nil];rw[hg o (z o f),<-hs.g];exact e,Nat.le_refl _⟩⟩
 have n:∀j,live (ob.put nx x) j->j=nx\/(j≠nx/\live ob j):=by
  rintro j⟨y,h1,h2⟩
  by_cases e:j=nx
  .exact .inl e
  .rw[Tr.a8 _ _ e]at h1;exact .inr ⟨e,y,h1,h2⟩
 have m:∀i y,(ob.put nx x).get i=some y->dn P (w.put h'.get nx lk) h' i y:=by
  intro i y hy
  by_cases e:i=nx
  .subst e;rw[Tr.bS]at hy;cases hy;exact hx
  .rw[Tr.a8 _ _ e]at hy;cases y with|gone=>trivial|_=>refine(hs.jP hy).move u q λk o h1 h2=>⟨hg o λb=>?_,λf=>f⟩;exact hs.there ⟨_,hy,by simp⟩ h1 h2 (ha o b).1
 refine⟨⟨λ_=>rfl,λi t cs e=>m i _ e,λi t rows l e=>m i _ e,λi s l e=>m i _ e,?_,?_,?_,?_,p⟩,u,q⟩
 .intro i j k l o h1 h2 h3 h4 C B
  simp only[Wd.put]at h3 h4
  rcases n i h1 with I|⟨G,E⟩
  .rcases n j h2 with D|⟨b,g2⟩
   .rw[I,D]
   .rw[if_pos I]at h3;rw[if_neg b]at h4;cases h3;exact absurd (ha o C).1 (hs.there g2 h4 B)
  .rcases n j h2 with D|⟨b,g2⟩
   .rw[if_neg G]at h3;rw[if_pos D]at h4;cases h4;exact absurd (ha o B).1 (hs.there E h3 C)
   .rw[if_neg G]at h3;rw[if_neg b]at h4;exact hs.inj i j k l o E g2 h3 h4 C B
 .intro i k o h1 h2
  simp only[Wd.put]at h1
  split at h1
  .cases h1;exact(ha o h2).2
  .exact Nat.lt_of_lt_of_le (hs.lt i k o h1 h2) hn
 .intro i hi
  constructor
  .simp only[Wd.put];rw[if_neg (by omega)];exact(hs.nx i (by omega)).1
  .rw[Tr.a8 _ _ (by omega)];exact(hs.nx i (by omega)).2
 .intro o f;obtain⟨q1,q2⟩:=hs.cW o f;refine⟨Nat.lt_of_lt_of_le q1 hn,?_⟩;rw[hg o (z o f)];exact q2
end
end Go.AI
namespace Go.AI
section
variable {P:Program}{w w':Wd}{h h':AHeap}{ρ:Type}
theorem T5{n:Int}{k:UInt8->Option ρ}{r:ρ}(h:jH n k=some r):0<=n/\n<256/\k (UInt8.ofNat n.toNat)=some r:=by
 unfold jH at h
 split at h
 .rename_i hd;simp only[decide_eq_true_eq]at hd;exact⟨hd.1,hd.2,h⟩
 .cases h
theorem Ik:∀{vs:List SV}{xs:List AV}{k:List UInt8->Option ρ}{r:ρ},y5 vs k=some r->aC P w vs xs->∃b:List UInt8,k b=some r/\xs=b.map λb=>.sc (.int .u8 b.toNat)
 |[],_,k,r,h,.nil=>⟨[],h,rfl⟩
 |v::vs,_,k,r,h,.cons a b=>by
  unfold y5 at h
  split at h
  .rename_i e;cases e
  .rename_i c n us e
   cases e
   obtain⟨h1,h2,h3⟩:=T5 h
   obtain⟨bs,q1,q2⟩:=Ik h3 b
   refine⟨_,q1,?_⟩
   cases a
   rw[q2]
   simp only[List.map_cons,List.cons.injEq,and_true,AV.sc.injEq,Value.int.injEq,true_and]
   have:(UInt8.ofNat n.toNat).toNat=n.toNat:=by simp;omega
   rw[this];omega
  .cases h
theorem cF.cells{w:Wd}:∀{ls:List Lf}{r r':List AV},cF P w ls r r'->r'.all ez=true|_,_,_,.nil=>rfl|_,_,_,.cons a b=>by simp only[List.all_cons,Bool.and_eq_true];refine⟨?_,b.cells⟩;cases a with|sl h=>exact h.cell|_=>rfl
structure NT(P:Program)(w:Wd)(h:AHeap)(S:af)(k:SV->af->Option ρ)(r:ρ)(run:AHeap->Option (dJ×AHeap)):Prop where ok:∃(F:Nat->Prop)(fc:Tr au)(obj:b7)(y:Nat->AV)(v:SV)(x:au)(lk:Nat->Lk),aj P (w.more F) fc S.nx h/\jb S.ob fc/\(∀o,F o->Ow w S.ob o)/\(∀hp,run hp=some (.val (y hp.next),hp.alloc obj))/\k v {S with ob:=fc.put S.nx x,nx:=S.nx+1}=some r/\x≠.gone/\(∀a,(lk a).obj=some a)/\∀(w':Wd)(h':AHeap)(a:Nat),bA (w.more F) w'->(∀i k,w.s i=some k->w'.s i=some k)->w'.s S.nx=some (lk a)->h'.get a=some obj->¬w'.F a->dn P w' h' S.nx x/\RV P w' v (y a)
variable {A:dX}{R:eD A.pn}{kp:TypeId->List AV->af->Option ρ}
theorem Il{S:af}(hs:aj P w S.ob S.nx h){t:TypeId}{cs:List SV}{xs:List AV}(hc:aC P w cs xs)(aS:cK cs=true){k:SV->af->Option ρ}{r:ρ}(hr:mg S (.box t cs) (λi st=>k (.ref i 0) st)=some r){run:AHeap->Option (dJ×AHeap)}(b:∀hp,run hp=some (.val (kN hp t xs).2,(kN hp t xs).1)):NT P w h S k r run:=by refine⟨λ_=>False,S.ob,.cells 0 0 xs 0 t true false,λn=>.ref n 0 xs.length 0,.ref S.nx 0,.box t cs,λa=>.box a xs.length,by rw[Wd.lW];exact hs,.refl _,λ_ f=>f.elim,b,hr,by simp,λ_=>rfl,?_⟩;intro w' h' a hl c hn hg hF;rw[Wd.lW]at hl;exact⟨⟨a,xs,false,hn,hg,hc.mono hl c,aS,hF⟩,.ref hn⟩
theorem KI{S:af}(hs:aj P w S.ob S.nx h){o:Oper}{aI:Operand->AV}(B:∀x,x∈o.op.operands.toList->RV P w (bK S.tm x) (aI x))(hA:a6 o.op=true){k:SV->af->Option ρ}{r:ρ}(hr:iD P A R kp o S k=some r):
 NT P w h S k r (aU P aI o):=by
 unfold iD at hr
 simp only at hr
 split at hr
 case h_1=>
  rename_i t g
  split at hr
  .rename_i i hi
   split at hr
   .rename_i z hz
    split at hr
    .rename_i aS;refine Il hs (uw z) aS hr λhp=>?_;simp only[aU,g,fk,hi,hz,Option.map_some];rw[if_pos ((uw (P:=P) (w:=w) z).cells aS)]
    .cases hr
   .cases hr
  .cases hr
 case h_2=>
  rename_i t x g
  split at hr
  .rename_i aS;have hc:=uB (B x (by rw[g];simp[Op.operands])) (EH aS);refine Il hs hc aS hr λhp=>?_;simp only[aU,g];rw[if_pos (hc.cells aS)]
  .cases hr
 case h_4=>
  rename_i t len parts g
  have hp:=pJ.map (P:=P) (w:=w) (e:=bK S.tm) (aI:=aI) parts.toList λx hx=>B x (by rw[g];simpa[Op.operands]using hx)
  unfold Hb at hr
  split at hr
  .rename_i e hu
   split at hr
   .rename_i s z hz l
    split at hr
    .rename_i m
     split at hr
     .rename_i ie W
      split at hr
      .rename_i J M
       have C:z=bn J:=by simp only[fk,W,M,Option.map_some,Option.some.injEq]at l;exact l.symm
       have D:∀n,aC P w (yZ (cj (ib J)) n) (hT (bm z) n):=by intro n;induction n with|zero=>exact .nil|succ n ih=>rw[C];exact(uw J).append (by rw[C]at ih;exact ih)
       split at hr
       .rename_i cells hf
        obtain⟨xs,e1,Z⟩:=yV hp (D len) hf
        have aS:∀{F:Nat->Prop}{rows:List (List AV)},bX P (w.more F) (lay P e) rows (chunks s len xs)->xs.length=len*s->s=(lay P e).length->xs.all ez=true:=by
         intro F rows O hl hs2
         have I:∀{ls:List Lf}{a b:List (List AV)},bX P (w.more F) ls a b->∀r,r∈b->r.all ez=true:=by
          intro ls a b Y
          induction b generalizing a with
          |nil=>intro r hr;cases hr
          |cons x b ih=>cases Y with
           |cons q1 q2=>intro r hr;rcases List.mem_cons.1 hr with rfl|hr
                        .exact q1.cells
                        .exact ih q2 r hr
         have:=I O;rw[<-chunks_flatten s len xs hl,List.all_eq_true];intro x hx;obtain⟨r,T,Q⟩:=List.mem_flatten.1 hx;exact List.all_eq_true.1 (this r T) x Q
        have U:∀{cs aP:List SV}{ps:List (Nat×SV)}{pl:Nat->Option (Nat×Nat)},kF pl cs ps=some aP->aP.length=cs.length:=by
         intro cs aP ps pl
         induction ps generalizing cs with
         |nil=>intro e;simp only[kF,Option.some.injEq]at e;rw[e]
         |cons p ps ih=>
          obtain⟨i,v⟩:=p
          intro e
          simp only[kF]at e
          split at e
          .cases e
          .split at e
           .rename_i hc;rw[ih e];unfold oy;rw[List.length_append,List.length_append,List.length_take,List.length_drop];omega
           .cases e
        have L:∀n,(yZ (cj (ib J)) n).length=n*s:=by intro n;rw[(D n).length];induction n with|zero=>simp[hT]|succ n ih=>simp only[hT,List.length_append,ih,m.2,Nat.add_mul];omega
        have hlen:xs.length=len*s:=by rw[<-Z.length,U hf,L]
        split at hr
        .rename_i u
         split at hr
         case h_2=>cases hr
         rename_i X
         obtain⟨b,q1,q2⟩:=Ik hr Z
         cases b with
         |nil=>cases q1
         |cons b bs=>
          have N:s=1:=Nat.eq_of_beq_eq_true X
          subst N
          have G:xs=cw ⟨⟨b::bs⟩⟩:=q2
          have E:len=(⟨⟨b::bs⟩⟩:ByteArray).size:=by rw[Nat.mul_one]at hlen;rw[<-hlen,G];simp[cw,ByteArray.size]
          refine⟨λ_=>False,S.ob,.cells 0 0 xs 0 e true false,λn=>.sl n 0 xs.length 0 1 len (some len),_,_,λa=>.sl a 0 xs.length 1 len (some len),by rw[Wd.lW];exact hs,.refl _,λ_ f=>f.elim,λhp=>?_,q1,by simp,λ_=>rfl,?_⟩
          .simp only[aU,g,ui,hu,hz,l]
           rw[if_pos m,e1]
           have:xs.all ez=true:=by rw[q2];simp[List.all_map,ez]
           simp only[this,if_true];rfl
          .intro w' h' a hl V hn hg hF
           refine⟨⟨u,.inr ⟨a,0,0,true,0,some len,by simp[ByteArray.size],?_,?_,?_,Nat.le_refl _,Nat.zero_le _,hF⟩⟩,.cG hn⟩
           .rw[<-E];rw[hlen,Nat.mul_one]at hn;exact hn
           .intro k e;cases e;exact E
           .rw[<-G];exact hg
        .rename_i u
         split at hr
         .rename_i c
          split at hr
          .rename_i rows q
           obtain⟨F,p1,p2,p4,p3⟩:=sA hs cells
           obtain⟨r1,K⟩:=CT p3 (λv hv=>hv) q Z
           have j:s=(lay P e).length/\0<s:=by unfold mh at c;rw[hz,l]at c;simp[Nat.blt_eq]at c;exact⟨c.1.1,c.1.2⟩
           refine⟨F,_,.cells 0 0 xs 0 e true false,λn=>.sl n 0 xs.length 0 s len (some len),_,_,λa=>.sl a 0 xs.length s len (some len),p1,p2,p4,λhp=>?_,hr,by simp,λ_=>rfl,?_⟩
           .simp only[aU,g,ui,hu,hz,l];rw[if_pos m,e1];simp only[aS r1 hlen j.1,if_true];rfl
           .intro w' h' a hl V hn hg hF
            refine⟨⟨by rw[hz,j.1],by rw[<-j.1];exact j.2,u,.inr ⟨a,0,0,xs,true,false,some len,?_,?_,hg,Nat.le_refl _,?_,?_,(λ_=>trivial),λ_=>hF⟩⟩,.cG hn⟩
            .rw[K,<-j.1,<-hlen];exact hn
            .intro k e;cases e;exact K.symm
            .rw[hlen,K,j.1]
            .rw[K,<-j.1];exact r1.mono hl
          .cases hr
         .cases hr
       .cases hr
      .cases hr
     .cases hr
    .cases hr
   .cases hr
  .cases hr
 all_goals simp_all[a6]
end
end Go.AI
end

section
namespace Go.AI
structure bl(w:Wd)(ob:Tr au)(h:AHeap)(w':Wd)(ay:Tr au)(h':AHeap):Prop where
 le:bA w w'
 s:∀i k,w.s i=some k->w'.s i=some k
 next:h.next<=h'.next
 floor:h'.floor=h.floor
 cb:∀o,o<h.next->¬Ow w ob o->h'.get o=h.get o
 own:∀o,Ow w' ay o->h.next<=o\/Ow w ob o
 F:∀o,w'.F o->w.F o\/h.next<=o\/Ow w ob o
 wr:∀o,o∈h'.wr->o∈h.wr\/h.next<=o\/Ow w ob o\/Lp h.get o
 et:(∀o,o∈h.wr->o<h.floor)->∀o,o∈h'.wr->o<h'.floor
 bx:∀i t cs,ob.get i=some (.box t cs)->∃aP,ay.get i=some (.box t aP)
theorem Ua{w:Wd}{ob:Tr au}{h h':AHeap}{o:Nat}{Q:Nat->Prop}(hk:∀o,o<h.next->¬Ow w ob o->h'.get o=h.get o)(_:∀o,Q o->h.next<=o\/Ow w ob o)(hl:Lp h'.get o):h.next<=o\/Ow w ob o\/Lp h.get o:=by
 rcases Nat.lt_or_ge o h.next with e|e
 .by_cases b:Ow w ob o
  .exact .inr (.inl b)
  .obtain⟨x,f,c⟩:=hl;exact .inr (.inr ⟨x,by rw[<-hk o e b];exact f,c⟩)
 .exact .inl e
theorem bl.refl(w:Wd)(ob:Tr au)(h:AHeap):bl w ob h w ob h:=⟨.refl w,λ_ _ e=>e,ak _,rfl,λ_ _ _=>rfl,λ_ e=>.inr e,λ_ e=>.inl e,λ_ e=>.inl e,λe=>e,λ_ _ cs e=>⟨cs,e⟩⟩
theorem bl.trans{w w' f:Wd}{ob ay c:Tr au}{h h' g:AHeap}(a:bl w ob h w' ay h')(b:bl w' ay h' f c g):bl w ob h f c g where
 le:=a.le.trans b.le
 s:=λi k e=>b.s i k (a.s i k e)
 next:=Nat.le_trans a.next b.next
 floor:=b.floor.trans a.floor
 cb:=λo h1 h2=>by rw[b.cb o (Nat.lt_of_lt_of_le h1 a.next) λh3=>(a.own o h3).elim (λh4=>absurd h1 (by omega)) h2];exact a.cb o h1 h2
 own:=λo e=>by
  rcases b.own o e with h1|h1
  .exact .inl (Nat.le_trans a.next h1)
  .exact a.own o h1
 F:=λo e=>by
  rcases b.F o e with h1|h1|h1
  .exact a.F o h1
  .exact .inr (.inl (Nat.le_trans a.next h1))
  .exact .inr (a.own o h1)
 wr:=λo e=>by
  rcases b.wr o e with h1|h1|h1|h1
  .exact a.wr o h1
  .exact .inr (.inl (Nat.le_trans a.next h1))
  .exact .inr ((a.own o h1).imp id .inl)
  .exact .inr (Ua a.cb a.own h1)
 et:=λe=>b.et (a.et e);bx:=λi t cs e=>let⟨l,j⟩:=a.bx i t cs e;b.bx i t l j
def Wd.heap(w:Wd)(g:Nat->Option b7):Wd:={g:=g,F:=w.F,s:=w.s}
section
variable {P:Program}{w:Wd}{ob ay:Tr au}{nx:Nat}{h h':AHeap}
theorem bl.cv{F:Nat->Prop}(hl:jb ob ay)(hF:∀o,F o->Ow w ob o):bl w ob h (w.more F) ay h where
 le:=.more w F
 s:=λ_ _ e=>e
 next:=ak _
 floor:=rfl
 cb:=λ_ _ _=>rfl
 own:=λo⟨i,k,h1,h2,h3⟩=>.inr ⟨i,k,(hl.live i).1 h1,h2,h3⟩
 F:=λo e=>e.elim .inl λe=>.inr (.inr (hF o e))
 wr:=λ_ e=>.inl e
 et:=λe=>e
 bx:=λi t cs e=>⟨cs,(hl.box i t cs).2 e⟩
theorem pV{l:List Nat}{b o p:Nat}(h:p∈lC l b o):p∈l\/p=o:=by
 unfold lC at h
 split at h
 .split at h
  .exact .inl h
  .rcases List.mem_cons.1 h with e|e
   .exact .inr e
   .exact .inl e
 .exact .inl h
theorem p5{l:List Nat}{b o:Nat}(hl:∀p,p∈l->p<b):∀p,p∈lC l b o->p<b:=by
 intro p h
 unfold lC at h
 split at h
 .split at h
  .exact hl p h
  .rcases List.mem_cons.1 h with e|e
   .omega
   .exact hl p e
 .exact hl p h
theorem bA.aQ(hs:aj P w ob nx h){o:Nat}{y:b7}(hF:¬w.F o)(hL:¬Lp h.get o)(hy:n6 y=false):bA w (w.heap (h.aQ o y).get):=⟨λ_ f=>f,λo' x e i=>by
 have b:o'≠o:=by rintro rfl;exact hL ⟨x,by rw[<-hs.g];exact e,i⟩
 simp only[Wd.heap,AHeap.get,AHeap.aQ,Tr.a8 _ _ b]
 rw[hs.g]at e;exact e,λo' e=>by
 simp only[Wd.heap,Lp,AHeap.get,AHeap.aQ]
 by_cases b:o'=o
 .subst b;rw[Tr.bS];exact⟨by simp,λ⟨x,k,j⟩=>by cases k;rw[hy]at j;cases j⟩
 .rw[Tr.a8 _ _ b];rw[hs.g]at e;exact⟨e,λq=>by rw[hs.g];exact q⟩,λo' f v mv c fz el ex sh e=>⟨v,[],fz,el,ex,sh,by have b:o'≠o:=λe=>hF (e▸f);simp only[Wd.heap,List.append_nil,AHeap.get,AHeap.aQ,Tr.a8 _ _ b];rw[hs.g]at e;exact e,ak _⟩⟩
theorem L1{i:Nat}{f x:au}(b:ob.get i=some f)(c:∀t cs,f=.box t cs->∃aP,x=.box t aP):∀j t cs,ob.get j=some (.box t cs)->∃aP,(ob.put i x).get j=some (.box t aP):=by
 intro j t cs e
 by_cases g:j=i
 .subst g;rw[b]at e;cases e;obtain⟨aP,rfl⟩:=c t cs rfl;exact⟨aP,Tr.bS ..⟩
 .exact⟨cs,by rw[Tr.a8 _ _ g];exact e⟩
theorem EI{i:Nat}{x:au}(b:ob.get i=none):∀j t cs,ob.get j=some (.box t cs)->∃aP,(ob.put i x).get j=some (.box t aP):=by
 intro j t cs e
 have c:j≠i:=by rintro rfl;rw[b]at e;cases e
 exact⟨cs,by rw[Tr.a8 _ _ c];exact e⟩
theorem aj.change(hs:aj P w ob nx h){i o:Nat}{B x:au}{k:Lk}{y:b7}(g:ob.get i=some B)(v:B≠.gone)(G:∀t cs,B=.box t cs->∃aP,x=.box t aP)(hk:w.s i=some k)(ho:k.obj=some o)(hF:¬w.F o)
 (hy:n6 y=false)(hx:dn P (w.heap (h.aQ o y).get) (h.aQ o y) i x)(hg:x≠.gone):aj P (w.heap (h.aQ o y).get) (ob.put i x) nx (h.aQ o y)/\bl w ob h (w.heap (h.aQ o y).get) (ob.put i x) (h.aQ o y):=by
 have m:live ob i:=⟨_,g,v⟩
 have q:∀j,live (ob.put i x) j↔live ob j:=λj=>yk g v hg
 have c:∀o',o'≠o->(h.aQ o y).get o'=h.get o':=λo' e=>by simp only[AHeap.get,AHeap.aQ,Tr.a8 _ _ e]
 have J:=hs.lt i k o hk ho
 have u:bA w (w.heap (h.aQ o y).get):=.aQ hs hF (hs.qX m hk ho) hy
 have n:∀j z,(ob.put i x).get j=some z->dn P (w.heap (h.aQ o y).get) (h.aQ o y) j z:=by
  intro j z hz
  by_cases e:j=i
  .subst e;rw[Tr.bS]at hz;cases hz;exact hx
  .rw[Tr.a8 _ _ e]at hz;cases z with|gone=>trivial|_=>refine(hs.jP hz).move u (λ_ _ e=>e) λD o' h1 h2=>⟨c o' λM=>?_,λf=>f⟩;subst M;exact e (hs.inj j i D k o' ⟨_,hz,by simp⟩ m h1 hk h2 ho)
 refine⟨⟨λ_=>rfl,λi t cs e=>n i _ e,λi t rows l e=>n i _ e,λi s l e=>n i _ e,?_,?_,?_,?_,?_⟩,⟨u,λ_ _ e=>e,ak _,rfl,?_,?_,λ_ f=>.inl f,?_,?_,L1 g G⟩⟩
 .intro a b C I o' h1 h2 h3 h4 L K;exact hs.inj a b C I o' ((q a).1 h1) ((q b).1 h2) h3 h4 L K
 .intro a C o' h1 h2;exact hs.lt a C o' h1 h2
 .intro a ha
  refine⟨(hs.nx a ha).1,?_⟩
  have:a≠i:=by rintro rfl;rw[(hs.nx a ha).2]at g;cases g
  rw[Tr.a8 _ _ this];exact(hs.nx a ha).2
 .intro o' f;refine⟨(hs.cW o' f).1,?_⟩;rw[c o' λe=>hF (e▸f)];exact(hs.cW o' f).2
 .intro o' E;have hn:h.next<=o':=E;rw[c o' (by omega)];exact hs.new o' hn
 .intro o' _ hn;exact c o' λe=>hn (e▸⟨i,k,m,hk,ho⟩)
 .rintro o'⟨j,D,h1,h2,h3⟩;exact .inr ⟨j,D,(q j).1 h1,h2,h3⟩
 .intro p hp
  rcases pV hp with e|rfl
  .exact .inl e
  .exact .inr (.inr (.inl ⟨i,k,m,hk,ho⟩))
 .exactλe=>p5 e
theorem bX.oM{w:Wd}{ls:List Lf}:∀{rs de:List (List AV)},rs.length=de.length->(∀(i:Nat)(r r':List AV),rs[i]?=some r->de[i]?=some r'->cF P w ls r r')->bX P w ls rs de|[],[],_,_=>.nil _|r::rs,r'::de,hl,h=>.cons (h 0 r r' rfl rfl) (bX.oM (by simpa using hl) λi a b h1 h2=>h (i+1) a b (by simpa using h1) (by simpa using h2))|[],_::_,hl,_=>by simp at hl|_::_,[],hl,_=>by simp at hl
theorem Bp(c new:List AV)(p q:Nat)(hp:p+new.length<=c.length):(cO c p new)[q]?=if p<=q/\q<p+new.length then new[q-p]? else c[q]?:=by
 unfold cO
 by_cases h1:q<p
 .rw[if_neg (by omega),List.getElem?_append_left (by rw[List.length_take];omega),List.getElem?_take,if_pos h1]
 .rw[List.getElem?_append_right (by rw[List.length_take];omega),List.length_take,Nat.min_eq_left (by omega)]
  by_cases h2:q<p+new.length
  .rw[if_pos ⟨by omega,h2⟩,List.getElem?_append_left (by omega)]
  .rw[if_neg (by omega),List.getElem?_append_right (by omega),List.getElem?_drop];congr 1;omega
theorem Bq(c new:List AV)(p:Nat)(hp:p+new.length<=c.length):(cO c p new).length=c.length:=by unfold cO;rw[List.length_append,List.length_append,List.length_take,List.length_drop];omega
theorem cF.oM{w:Wd}:∀{ls:List Lf}{r r':List AV},r.length=ls.length->r'.length=ls.length->(∀(j:Nat)(l:Lf)(c y:AV),ls[j]?=some l->r[j]?=some c->r'[j]?=some y->ku P w l c y)->cF P w ls r r'|[],[],[],_,_,_=>.nil|l::ls,c::r,y::r',h1,h2,h=>.cons (h 0 l c y rfl rfl rfl) (cF.oM (by simpa using h1) (by simpa using h2) λj l' c' e a b d=>h (j+1) l' c' e (by simpa using a) (by simpa using b) (by simpa using d))|[],_::_,_,h,_,_=>by simp at h|[],[],_::_,_,h,_=>by simp at h|_::_,[],_,h,_,_=>by simp at h|_::_,_::_,[],_,h,_=>by simp at h
theorem cF.cO{w:Wd}{ls:List Lf}{r r' new Bl:List AV}{off:Nat}(hr:cF P w ls r r')(hn:cF P w ((ls.drop off).take new.length) new Bl)(hl:off+new.length<=ls.length):cF P w ls (cO r off new) (cO r' off Bl):=by
 obtain⟨n,m⟩:=hr.length
 obtain⟨o,k⟩:=hn.length
 have i:((ls.drop off).take new.length).length=new.length:=by rw[List.length_take,List.length_drop];omega
 refine .oM (by rw[Bq _ _ _ (by omega)];exact n) (by rw[Bq _ _ _ (by omega)];exact m) λj l c y h1 h2 h3=>?_
 rw[Bp _ _ _ _ (by omega)]at h2 h3
 rw[k,i]at h3
 split at h2
 .rename_i hc;rw[if_pos hc]at h3;obtain⟨c',g,e,b,f⟩:=hn.get (j-off) l (by rw[List.getElem?_take,if_pos (by omega),List.getElem?_drop,show off+(j-off)=j by omega];exact h1);rw[h2]at e;rw[h3]at b;cases e;cases b;exact f
 .rename_i hc;rw[if_neg hc]at h3;obtain⟨c',g,e,b,f⟩:=hr.get j l h1;rw[h2]at e;rw[h3]at b;cases e;cases b;exact f
theorem bX.set{w:Wd}{ls:List Lf}{rows:List (List AV)}{c:List AV}{j:Nat}{dW:List AV}{p:Nat}{new:List AV}(hr:bX P w ls rows (chunks ls.length rows.length c))(hc:c.length=rows.length*ls.length)
 (hj:j<rows.length)(hp:j*ls.length<=p/\p+new.length<=(j+1)*ls.length)(hn:cF P w ls dW ((((cO c p new).drop (j*ls.length)).take ls.length))):bX P w ls (rows.set j dW) (chunks ls.length (rows.set j dW).length (cO c p new)):=by
 have f:(j+1)*ls.length<=rows.length*ls.length:=Nat.mul_le_mul_right _ hj
 refine .oM (by rw[xr]) λi r r' h1 h2=>?_
 have hi:i<rows.length:=by have:=uC h1;rwa[List.length_set]at this
 rw[List.length_set,pU _ _ _ hi]at h2
 cases h2
 by_cases e:i=j
 .subst e;rw[List.getElem?_set_self hj]at h1;cases h1;exact hn
 .rw[List.getElem?_set_ne (λg=>e g.symm)]at h1
  obtain⟨r',q1,q2⟩:=hr.get i r h1
  rw[pU _ _ _ hi]at q1
  cases q1
  have:((cO c p new).drop (i*ls.length)).take ls.length=(c.drop (i*ls.length)).take ls.length:=by
   apply List.ext_getElem?
   intro q
   rw[List.getElem?_take,List.getElem?_take]
   split
   .rename_i m
    rw[List.getElem?_drop,List.getElem?_drop,Bp _ _ _ _ (by omega),if_neg]
    rintro⟨l,k⟩
    rcases Nat.lt_or_ge i j with b|b
    .have:(i+1)*ls.length<=j*ls.length:=Nat.mul_le_mul_right _ b;rw[Nat.add_mul]at this;omega
    .have b:j+1<=i:=by omega
     have:(j+1)*ls.length<=i*ls.length:=Nat.mul_le_mul_right _ b;omega
   .rfl
  rw[this];exact q2
variable {ρ:Type}
def adH(P:Program)(w:Wd)(h:AHeap)(S:af)(k:SV->af->Option ρ)(r:ρ)(b:Option (dJ×AHeap))(c:Option AV):Prop:=∃w' ay bU h' v y,aj P w' ay bU h'/\bl w S.ob h w' ay h'/\k v {S with ob:=ay,nx:=bU}=some r/\b=some (match c with|none=>.skip|some _=>.val y,h')/\(c=none->y=dZ)/\RV P w' v y
theorem SB{S:af}(hs:aj P w S.ob S.nx h){t:TypeId}{a v:SV}{x y:AV}(hx:RV P w a x)(hy:RV P w v y){k:af->Option ρ}{r:ρ}(hr:D4 P S t a v k=some r):
 ∃w' ay h',aj P w' ay S.nx h'/\bl w S.ob h w' ay h'/\k {S with ob:=ay}=some r/\qh P h t x y=some h':=by
 unfold D4 at hr
 split at hr
 .rename_i s i off hz
  split at hr
  .rename_i t' cs hb
   split at hr
   .rename_i hc;obtain⟨o,c,sh,B,b2,O,b4,J⟩:=hs.box i t' cs hb;have b:=uB hy (EH hc.2.2);have hlen:=b.length;cases hx with|ref e=>rw[B]at e;simp only[ab,Lk.box.injEq]at e;obtain⟨rfl,rfl⟩:=e;have Y:=O.length;have E:(cO c off (bm y)).length=c.length:=Bq _ _ _ (by omega);obtain⟨q1,q2⟩:=hs.change (y:=.cells 0 0 (cO c off (bm y)) 0 t' true sh) (x:=.box t' (oy cs off (cj v))) hb (by simp) (by intro _ _ e;cases e;exact⟨_,rfl⟩) B rfl J rfl ⟨o,_,sh,by rw[E];exact B,by simp only[AHeap.get,AHeap.aQ,Tr.bS],(O.cO b off).mono (.aQ hs J (hs.qX ⟨_,hb,by simp⟩ B rfl) rfl) (λ_ _ e=>e),Qg off b4 hc.2.2,J⟩ (by simp);refine⟨_,_,_,q1,q2,hr,?_⟩;simp only[qh,hz];rw[if_pos (by rw[<-hlen];exact hc.1)];simp only[ll,b2];rw[if_pos ⟨trivial,ak _,by omega,Nat.zero_le _,b.cells hc.2.2⟩]
   .cases hr
  .cases hr
 .rename_i s i j off hz
  split at hr
  .rename_i t' rows hb
   unfold cL at hr
   split at hr
   .rename_i row g
    split at hr
    .rename_i hc
     split at hr
     .rename_i new n
      obtain⟨F,p1,p2,V,p3⟩:=sA hs (cj v)
      have hv:v≠.aO:=by rintro rfl;revert n;generalize((lay P t').drop off).take s=l;cases l<;>simp[cj,rowOf,cellOf]
      have b:=uB hy hv
      have f:=Dn p3 (λv hv=>hv) n b
      obtain⟨n1,n2⟩:=f.length
      have G:(((lay P t').drop off).take s).length=s:=by rw[List.length_take,List.length_drop];omega
      obtain⟨a1,a2,a3,a4⟩:=p1.arr i t' rows false hb
      have hj:=uC g
      rcases a4 with⟨_,rfl⟩|⟨o,ad,mv,c,ex,sh,cap,q1,q2,q3,U,M,L,q7,C⟩
      .simp at g
      .cases hx with
       |dU e _=>
        have I:(w.more F).s i=_:=e
        rw[q1]at I
        simp only[ab,Lk.sl.injEq]at I
        obtain⟨rfl,rfl,rfl,rfl,rfl,rfl⟩:=I
        have W:(j+1)*(lay P t').length<=rows.length*(lay P t').length:=Nat.mul_le_mul_right _ hj
        have N:(j+1)*(lay P t').length=j*(lay P t').length+(lay P t').length:=by rw[Nat.add_mul,Nat.one_mul]
        obtain⟨dW,K,T⟩:=L.get j row g
        rw[pU _ _ _ hj]at K
        cases K
        have D:cF P (w.more F) (lay P t') (cO row off new) (((cO c (j*(lay P t').length+off) (bm y)).drop (j*(lay P t').length)).take (lay P t').length):=by
         have Z:=T.cO (new:=new) (Bl:=bm y) (off:=off) (by rw[n1,G];exact f) (by omega)
         have e5:cO ((c.drop (j*(lay P t').length)).take (lay P t').length) off (bm y)=((cO c (j*(lay P t').length+off) (bm y)).drop (j*(lay P t').length)).take (lay P t').length:=by
          have X:((c.drop (j*(lay P t').length)).take (lay P t').length).length=(lay P t').length:=by rw[List.length_take,List.length_drop];omega
          apply List.ext_getElem?
          intro q
          rw[Bp _ _ _ _ (by omega),List.getElem?_take,List.getElem?_take,List.getElem?_drop,List.getElem?_drop,Bp _ _ _ _ (by omega)]
          by_cases z:q<(lay P t').length
          .rw[if_pos z,if_pos z]
           by_cases m:off<=q/\q<off+(bm y).length
           .rw[if_pos m,if_pos (by omega)];congr 1;omega
           .rw[if_neg m,if_neg (by omega)]
          .rw[if_neg z,if_neg z]
           by_cases m:off<=q/\q<off+(bm y).length
           .omega
           .rw[if_neg m]
         rw[<-e5];exact Z
        have u:=L.set (j:=j) (p:=j*(lay P t').length+off) (new:=bm y) M hj ⟨by omega,by omega⟩ D;obtain⟨R,Q⟩:=p1.change (y:=.cells ad ad (cO c (j*(lay P t').length+off) (bm y)) 0 t' ex sh) (x:=.arr t' (rows.set j (cO row off new)) false) hb (by simp) (by simp) q1 rfl (C rfl) rfl ⟨a1,a2,a3,.inr ⟨o,ad,ad,_,ex,sh,cap,by rw[List.length_set];exact q1,by rw[List.length_set];exact q2,by simp only[AHeap.get,AHeap.aQ,Tr.bS],ak _,by rw[Bq _ _ _ (by omega),List.length_set];exact M,u.mono (.aQ p1 (C rfl) (p1.qX ⟨_,hb,by simp⟩ q1 rfl) rfl),(λ_=>trivial),λ_=>C rfl⟩⟩ (by simp);refine⟨_,_,_,R,(bl.cv p2 V).trans Q,hr,?_⟩;simp only[qh,hz];rw[if_pos (by rw[<-b.length];exact hc.1)];simp only[ll,q3];rw[if_pos ⟨trivial,U,by omega,Nat.zero_le _,f.cells⟩]
     .cases hr
    .cases hr
   .cases hr
  .cases hr
 .cases hr
theorem aj.move(hs:aj P w ob nx h){i:Nat}{O x:au}{k lk:Lk}{g:Nat->Option b7}{h':AHeap}(z:ob.get i=some O)(U:O≠.gone)(S:∀t cs,O≠.box t cs)(hk:w.s i=some k)
 (hg:g=h'.get)(hn:h'.next=h.next)(V:h'.floor=h.floor)(Q:∀p,p∈h'.wr->p∈h.wr\/k.obj=some p)(R:(∀p,p∈h.wr->p<h.floor)->∀p,p∈h'.wr->p<h'.floor)
 (m:∀o,k.obj≠some o->h'.get o=h.get o)(D:∀o,lk.obj=some o->k.obj=some o)
 (T:∀o,w.F o->k.obj=some o->∀v mv c fz el ex sh,h.get o=some (.cells v mv c fz el ex sh)->∃v' d ik il iq hK,h'.get o=some (.cells v' mv (c++d) ik il iq hK)/\v<=v')
 (I:∀o,k.obj=some o->h'.get o≠none/\¬Lp h'.get o)
 (hx:bA w (w.put g nx lk)->(∀j l,w.s j=some l->(w.put g nx lk).s j=some l)->dn P (w.put g nx lk) h' nx x)(Gx:x≠.gone):
 aj P (w.put g nx lk) ((ob.put i .gone).put nx x) (nx+1) h'/\bl w ob h (w.put g nx lk) ((ob.put i .gone).put nx x) h':=by
 subst hg
 have u:live ob i:=⟨_,z,U⟩
 have adI:i≠nx:=by rintro rfl;rw[(hs.nx i (ak _)).2]at z;cases z
 have J:∀j l,w.s j=some l->(w.put h'.get nx lk).s j=some l:=by
  intro j l e
  have:j≠nx:=by rintro rfl;rw[(hs.nx j (ak _)).1]at e;cases e
  simp only[Wd.put];rw[if_neg this];exact e
 have K:bA w (w.put h'.get nx lk):=by
  refine⟨λ_ f=>f,λo x e i=>?_,λo e=>?_,λo f v mv c fz el ex sh e=>?_⟩
  .rw[hs.g]at e;show h'.get o=_;rw[m o λB=>hs.qX u hk B ⟨x,e,i⟩];exact e
  .show h'.get o≠none/\(Lp h'.get o->Lp w.g o)
   rw[hs.g]at e
   by_cases n:k.obj=some o
   .exact⟨(I o n).1,λq=>absurd q (I o n).2⟩
   .unfold Lp;rw[m o n,hs.g];exact⟨e,id⟩
  rw[hs.g]at e
  by_cases n:k.obj=some o
  .exact T o f n _ _ _ _ _ _ _ e
  .exact⟨v,[],fz,el,ex,sh,by simp only[Wd.put,List.append_nil];rw[m o n];exact e,ak _⟩
 have C:∀j,live ((ob.put i .gone).put nx x) j->j=nx\/(j≠nx/\j≠i/\live ob j):=by
  rintro j⟨y,h1,h2⟩
  by_cases e:j=nx
  .exact .inl e
  .rw[Tr.a8 _ _ e]at h1
   by_cases B:j=i
   .subst B;rw[Tr.bS]at h1;cases h1;exact absurd rfl h2
   .rw[Tr.a8 _ _ B]at h1;exact .inr ⟨e,B,y,h1,h2⟩
 have G:∀j y,((ob.put i .gone).put nx x).get j=some y->dn P (w.put h'.get nx lk) h' j y:=by
  intro j y hy
  by_cases e:j=nx
  .subst e;rw[Tr.bS]at hy;cases hy;exact hx K J
  .rw[Tr.a8 _ _ e]at hy
   by_cases B:j=i
   .subst B;rw[Tr.bS]at hy;cases hy;trivial
   .rw[Tr.a8 _ _ B]at hy;cases y with|gone=>trivial|_=>refine(hs.jP hy).move K J λl o h1 h2=>⟨m o λY=>?_,λf=>f⟩;exact B (hs.inj j i l k o ⟨_,hy,by simp⟩ u h1 hk h2 Y)
 refine⟨⟨λ_=>rfl,λi t cs e=>G i _ e,λi t rows l e=>G i _ e,λi s l e=>G i _ e,?_,?_,?_,?_,?_⟩,⟨K,J,by omega,V,?_,?_,λ_ f=>.inl f,?_,R,?_⟩⟩
 .intro a b M Z o h1 h2 h3 h4 X W
  simp only[Wd.put]at h3 h4
  rcases C a h1 with E|⟨E,a2,N⟩
  .rcases C b h2 with L|⟨L,b2,g2⟩
   .rw[E,L]
   .rw[if_pos E]at h3;rw[if_neg L]at h4;cases h3;exact absurd (hs.inj b i Z k o g2 u h4 hk W (D o X)) b2
  .rcases C b h2 with L|⟨L,b2,g2⟩
   .rw[if_neg E]at h3;rw[if_pos L]at h4;cases h4;exact absurd (hs.inj a i M k o N u h3 hk X (D o W)) a2
   .rw[if_neg E]at h3;rw[if_neg L]at h4;exact hs.inj a b M Z o N g2 h3 h4 X W
 .intro a M o h1 h2
  simp only[Wd.put]at h1
  split at h1
  .cases h1;rw[hn];exact hs.lt i k o hk (D o h2)
  .rw[hn];exact hs.lt a M o h1 h2
 .intro a ha
  constructor
  .simp only[Wd.put];rw[if_neg (by omega)];exact(hs.nx a (by omega)).1
  .rw[Tr.a8 _ _ (by omega),Tr.a8]
   .exact(hs.nx a (by omega)).2
   .rintro rfl;rw[(hs.nx a (by omega)).2]at z;cases z
 .intro o f
  refine⟨by rw[hn];exact(hs.cW o f).1,?_⟩
  by_cases n:k.obj=some o
  .exact(I o n).1
  .rw[m o n];exact(hs.cW o f).2
 .intro o ho;rw[hn]at ho;rw[m o λe=>by have:=hs.lt i k o hk e;omega];exact hs.new o ho
 .intro o _ h2;exact m o λe=>h2 ⟨i,k,u,hk,e⟩
 .rintro o⟨j,l,h1,h2,h3⟩
  right
  simp only[Wd.put]at h2
  rcases C j h1 with E|⟨E,a2,N⟩
  .rw[if_pos E]at h2;cases h2;exact⟨i,k,u,hk,D o h3⟩
  .rw[if_neg E]at h2;exact⟨j,l,N,h2,h3⟩
 .intro p hp
  rcases Q p hp with e|e
  .exact .inl e
  .exact .inr (.inr (.inl ⟨i,k,u,hk,e⟩))
 .intro j t cs e
  have B:j≠i:=by rintro rfl;rw[z]at e;cases e;exact S _ _ rfl
  have Y:j≠nx:=by rintro rfl;rw[(hs.nx _ (ak _)).2]at e;cases e
  exact⟨cs,by rw[Tr.a8 _ _ Y,Tr.a8 _ _ B];exact e⟩
theorem Rd.first{w:Wd}(hg:∀o,w.g o=h.get o){e:TypeId}{rows:List (List AV)}{x:AV}(hd:Rd P w e rows x):∃cells,gu h (lay P e).length rows.length x=some cells/\cells.length=rows.length*(lay P e).length/\bX P w (lay P e) rows (chunks (lay P e).length rows.length cells)/\cells.all ez=true:=by
 have i:∀{ls:List Lf}{a b:List (List AV)},bX P w ls a b->b.flatten.all ez=true/\(∀r,r∈b->r.length=ls.length):=by
  intro ls a b k
  induction b generalizing a with
  |nil=>exact⟨rfl,λr hr=>by cases hr⟩
  |cons x b ih=>cases k with
   |cons q1 q2=>
    obtain⟨i1,i2⟩:=ih q2
    refine⟨by rw[List.flatten_cons,List.all_append,q1.cells,i1];rfl,λr hr=>?_⟩
    rcases List.mem_cons.1 hr with rfl|hr
    .exact q1.length.2
    .exact i2 r hr
 cases hd with
 |nil=>exact⟨[],by simp[gu],by simp,.nil _,rfl⟩
 |cq=>exact⟨[],by simp[gu],by simp,.nil _,rfl⟩
 |aG q p a0 f=>rename_i rows';obtain⟨i1,i2⟩:=i f;have hl:=f.length;refine⟨rows'.flatten,?_,by rw[rU i2,hl],by rw[hl,Hi i2];exact f,i1⟩;simp only[gu];rw[if_pos ⟨trivial,by omega⟩,hl,List.take_length]
 |sl q p hF j h3 h4 m t l f=>
  rename_i o ad n off v mv fz c el ex sh cap
  obtain⟨i1,i2⟩:=i f
  have hl:((c.drop off).take (rows.length*(lay P e).length)).length=rows.length*(lay P e).length:=by rw[List.length_take,List.length_drop];omega
  have hc:chunks (lay P e).length rows.length ((c.drop off).take (rows.length*(lay P e).length))=chunks (lay P e).length rows.length (c.drop off):=by have:=ud (sz:=(lay P e).length) rows.length ((c.drop off).take (rows.length*(lay P e).length)) ((c.drop off).drop (rows.length*(lay P e).length)) (by omega);rw[List.take_append_drop]at this;exact this.symm
  refine⟨(c.drop off).take (rows.length*(lay P e).length),?_,hl,by rw[hc];exact f,?_⟩
  .simp only[gu];rw[if_pos ⟨trivial,ak _⟩];simp only[dp,<-hg,j];rw[if_pos ⟨h3,h4,m⟩]
  .rw[<-chunks_flatten (lay P e).length rows.length _ hl,hc];exact i1
end
end Go.AI
end

section
namespace Go.AI
section
variable {P:Program}{w:Wd}{ob:Tr au}{nx:Nat}{h h':AHeap}{ρ:Type}
theorem yX{e:TypeId}(hg:mh P e=true):bB P e=some (lay P e).length/\0<(lay P e).length/\∃z,fk P e=some z/\(bm z).length=(lay P e).length:=by
 unfold mh at hg
 split at hg
 .rename_i s z h1 h2;simp[Nat.blt_eq]at hg;obtain⟨⟨a,b⟩,c⟩:=hg;subst a;exact⟨h1,b,z,h2,c⟩
 .cases hg
theorem uW{n b:Nat}{k:Option ρ}{r:ρ}(h:fits n b k=some r):n*b<=140737488355328/\k=some r:=by
 unfold fits at h
 split at h
 .rename_i hd;exact⟨by simpa using hd,h⟩
 .cases h
theorem HD{st f e:TypeId}{g:TypeDesc}{s b n:Nat}{z x y:AV}{new:List AV}(j:P.underlying st=some (.slice e))(hx:P.underlying f=some g)(hi:isInt g=false)(hn:ft y=some n)(hs:bB P e=some s)(hb:nu P e=some b)(hz:fk P e=some z)(i:(bm z).length=s)(k:0<s)(hf:gu h s n y=some new)(aS:new.all ez=true):np P h st f x y=(match x with
 |.sc (.slice none 0 0)=>if n=0 then some (x,h)else if 0<b/\n*b<=140737488355328 then some (.sl h.next 0 (n*s) 0 s n none,h.alloc (.cells 0 0 new 0 e false false))else none
 |.sl o ad m off sz len cap=>if sz≠s then none else match cap with|some c=>if len+n<=c then(if n=0 then some (x,h)else match ll h o ad m (off+len*s) new with|some h'=>some (.sl o ad m off sz (len+n) (some c),h')|none=>none)else if 0<b/\(len+n)*b<=140737488355328 then match dp h o ad m off (len*s)with|some dC=>some (.sl h.next 0 ((len+n)*s) 0 s (len+n) none,h.alloc (.cells 0 0 (dC++new) 0 e false false))|none=>none else none|none=>if n=0 then some (x,h)else match h.get o with|some (.cells v mv c fz el _ sh)=>if ad=v/\mv<=v/\off=0/\len*s<=m/\fz<=len*s/\el=e/\0<b/\(len+n)*b<=140737488355328 then some (.sl o (v+1) ((len+n)*s) 0 s (len+n) none,h.aQ o (.cells (v+1) (if len*s=c.length then mv else v+1) (c.take (len*s)++new) fz el false sh))else none|_=>none
 |.b9 cells sz len (some c)=>if sz≠s\/cells.length≠len*s then none else if n=0 then some (x,h)else if c<len+n/\0<b/\(len+n)*b<=140737488355328 then some (.sl h.next 0 ((len+n)*s) 0 s (len+n) none,h.alloc (.cells 0 0 (cells++new) 0 e false false))else none|.b9 _ _ _ none=>if n=0 then some (x,h)else none|.aG _ _=>if n=0 then some (x,h)else none|.cq=>if n=0 then some (x,h)else none|_=>none):=by unfold np;simp only[j,hx,hn,hi,hs,hb,hz,hf,aS];rw[if_neg (by decide),if_neg (by omega)];simp only[Bool.not_true,Bool.false_eq_true,if_false];cases x<;>rfl
theorem CC{sz:Nat}:∀(a b:Nat)(x y:List AV),x.length=a*sz->chunks sz (a+b) (x++y)=chunks sz a x++chunks sz b y|0,b,x,y,h=>by have:x=[]:=List.eq_nil_of_length_eq_zero (by simpa using h);subst this;simp[chunks]|a+1,b,x,y,h=>by rw[Nat.add_mul,Nat.one_mul]at h;rw[show a+1+b=(a+b)+1 by omega];simp only[chunks,List.cons_append];rw[List.take_append_of_le_length (by omega),List.drop_append_of_le_length (by omega),CC a b (x.drop sz) y (by rw[List.length_drop];omega)]
theorem aj.drop(hs:aj P w ob nx h){i:Nat}(hi:i<nx)(m:∀t cs,ob.get i≠some (.box t cs)):aj P w (ob.put i .gone) nx h/\bl w ob h w (ob.put i .gone) h:=by
 have c:∀j x,x≠.gone->(ob.put i .gone).get j=some x->ob.get j=some x:=by
  intro j x hx hj
  by_cases e:j=i
  .subst e;rw[Tr.bS]at hj;cases hj;exact absurd rfl hx
  .rw[Tr.a8 _ _ e]at hj;exact hj
 have f:∀j,live (ob.put i .gone) j->live ob j:=λj⟨x,h1,h2⟩=>⟨x,c j x h2 h1,h2⟩;refine⟨⟨hs.g,λj t cs e=>hs.box j t cs (c _ _ (by simp) e),λj t rows l e=>hs.arr j t rows l (c _ _ (by simp) e),λj s l e=>hs.aK j s l (c _ _ (by simp) e),λa b k l o h1 h2=>hs.inj a b k l o (f _ h1) (f _ h2),hs.lt,?_,hs.cW,hs.new⟩,⟨.refl w,λ_ _ e=>e,Nat.le_refl _,rfl,λ_ _ _=>rfl,λo⟨j,k,h1,h2,h3⟩=>.inr ⟨j,k,f _ h1,h2,h3⟩,λ_ e=>.inl e,λ_ e=>.inl e,λe=>e,λj t cs e=>⟨cs,by rw[Tr.a8 _ _ (by rintro rfl;exact m _ _ e)];exact e⟩⟩⟩;intro j hj;exact⟨(hs.nx j hj).1,by rw[Tr.a8 _ _ (by omega)];exact(hs.nx j hj).2⟩
theorem aj.tj(hs:aj P w ob nx h){i:Nat}{x:au}(hx:ob.get i=some x):i<nx:=by
 rcases Nat.lt_or_ge i nx with a|a
 .exact a
 .rw[(hs.nx i a).2]at hx;cases hx
theorem aj.qo(hs:aj P w ob nx h){lk:Lk}{x:au}{y:b7}(hl:lk.obj=some h.next)(p:x≠.gone)
 (hx:∀w',bA w w'->w'.s nx=some lk->¬w'.F h.next->dn P w' (h.alloc y) nx x):∃w',w'.s nx=some lk/\aj P w' (ob.put nx x) (nx+1) (h.alloc y)/\bl w ob h w' (ob.put nx x) (h.alloc y):=by
 have b:∀o,lk.obj≠some o->(h.alloc y).get o=h.get o:=λo e=>by have:o≠h.next:=λi=>e (by rw[i];exact hl);simp only[AHeap.get,AHeap.alloc,Tr.a8 _ _ this]
 have l:(w.put (h.alloc y).get nx lk).s nx=some lk:=by simp[Wd.put]
 have m:¬w.F h.next:=λf=>by have:=(hs.cW _ f).1;omega
 obtain⟨q1,q2,q3⟩:=hs.fresh (h':=h.alloc y) (lk:=lk) (x:=x) (λa e=>by rw[hl]at e;cases e;exact⟨hs.new _ (Nat.le_refl _),Nat.lt_succ_self _⟩) b (Nat.le_succ _) (λo ho=>by have q:h.next+1<=o:=ho;rw[b o (by rw[hl];intro e;cases e;omega)];exact hs.new o (by omega)) (hx _ ⟨λ_ f=>f,λo x e _=>by rw[hs.g]at e;show(h.alloc y).get o=_;rw[b o (by rw[hl];intro i;cases i;rw[hs.new _ (Nat.le_refl _)]at e;cases e)];exact e,λo e=>by rw[hs.g]at e;have:(h.alloc y).get o=h.get o:=b o (by rw[hl];intro i;cases i;exact e (hs.new _ (Nat.le_refl _)));show(h.alloc y).get o≠none/\(Lp (h.alloc y).get o->Lp w.g o);unfold Lp;rw[this,hs.g];exact⟨e,id⟩,λo f v mv c fz el ex sh e=>⟨v,[],fz,el,ex,sh,by simp only[Wd.put,List.append_nil];rw[b o (by rw[hl];intro i;cases i;exact m f),<-hs.g];exact e,Nat.le_refl _⟩⟩ l m)
 refine⟨_,l,q1,⟨q2,q3,Nat.le_succ _,rfl,λo ho _=>b o (by rw[hl];intro e;cases e;omega),?_,λ_ f=>.inl f,λ_ e=>.inl e,λe=>e,EI (hs.nx _ (Nat.le_refl _)).2⟩⟩
 rintro o⟨j,k,h1,h2,h3⟩
 obtain⟨z,h1,h4⟩:=h1
 simp only[Wd.put]at h2
 split at h2
 .cases h2;rw[hl]at h3;cases h3;exact .inl (Nat.le_refl _)
 .rename_i n;rw[Tr.a8 _ _ n]at h1;exact .inr ⟨j,k,⟨z,h1,h4⟩,h2,h3⟩
theorem aj.sV(hs:aj P w ob nx h){x:au}(g:x≠.gone)(hx:∀w',w'.s nx=some .nil->dn P w' h nx x):∃w',w'.s nx=some .nil/\aj P w' (ob.put nx x) (nx+1) h/\bl w ob h w' (ob.put nx x) h:=by
 have b:(w.put h.get nx .nil).s nx=some .nil:=by simp[Wd.put]
 obtain⟨q1,q2,q3⟩:=hs.fresh (h':=h) (lk:=.nil) (x:=x) (λa e=>by cases e) (λ_ _=>rfl) (Nat.le_refl _) hs.new (hx _ b)
 refine⟨_,b,q1,⟨q2,q3,Nat.le_refl _,rfl,λ_ _ _=>rfl,?_,λ_ f=>.inl f,λ_ e=>.inl e,λe=>e,EI (hs.nx _ (Nat.le_refl _)).2⟩⟩
 rintro o⟨j,k,⟨z,h1,h4⟩,h2,h3⟩
 simp only[Wd.put]at h2
 split at h2
 .cases h2;cases h3
 .rename_i c;rw[Tr.a8 _ _ c]at h1;exact .inr ⟨j,k,⟨z,h1,h4⟩,h2,h3⟩
end
end Go.AI
namespace Go.AI
section
variable {P:Program}{w:Wd}{ob:Tr au}{nx:Nat}{h h':AHeap}{ρ:Type}
theorem aj.renamed(hs:aj P w ob nx h){i:Nat}{m x:au}{k:Lk}(b:ob.get i=some m)(j:m≠.gone)(q:∀t cs,m≠.box t cs)(hk:w.s i=some k)(n:x≠.gone)
 (hx:∀w',bA w w'->w'.s nx=some k->(∀o,w'.F o->w.F o)->dn P w' h nx x):∃w',w'.s nx=some k/\aj P w' ((ob.put i .gone).put nx x) (nx+1) h/\bl w ob h w' ((ob.put i .gone).put nx x) h:=by
 have l:(w.put h.get nx k).s nx=some k:=by simp[Wd.put]
 obtain⟨q1,q2⟩:=hs.move (lk:=k) (h':=h) (g:=h.get) b j q hk rfl rfl rfl (λp e=>.inl e) (λe=>e) (λ_ _=>rfl) (λo e=>e) (λo f _ v mv c fz el ex sh e=>⟨v,[],fz,el,ex,sh,by simpa using e,Nat.le_refl _⟩) (λo e=>⟨hs.there ⟨_,b,j⟩ hk e,hs.qX ⟨_,b,j⟩ hk e⟩) (λhl _=>hx _ hl l λ_ f=>f) n;exact⟨_,l,q1,q2⟩
theorem QK{S:af}(hs:aj P w S.ob S.nx h){st xt e:TypeId}{xd:TypeDesc}{a b:SV}{x y:AV}{k:SV->af->Option ρ}{r:ρ}(hu:P.underlying st=some (.slice e))(hxd:P.underlying xt=some xd)(hint:isInt xd=false)(q:isByte P e=false)
 (hx:RV P w a x)(hy:RV P w b y)(hr:p9 P S e a b k=some r):
 ∃w' ay bU h' v z,aj P w' ay bU h'/\bl w S.ob h w' ay h'/\k v {S with ob:=ay,nx:=bU}=some r/\np P h st xt x y=some (z,h')/\RV P w' v z:=by
 unfold p9 at hr
 split at hr
 case h_2=>cases hr
 rename_i Oi Q hbt
 obtain⟨M,g2,z,g3,g4⟩:=yX Q
 rw[q]at hr
 simp only at hr
 split at hr
 .cases hr
 rename_i new U
 obtain⟨F,p1,p2,p4,p3⟩:=sA hs [b]
 have hd:=Ie (by simp) p3 U hy
 obtain⟨cells,c1,Z,Y,c4⟩:=hd.first (h:=h) p1.g
 have hl:=hd.len.1
 have C:=λx=>HD (h:=h) (x:=x) hu hxd hint hl M hbt g3 g4 g2 c1 c4
 have j:=bl.cv (h:=h) p2 p4
 split at hr
 .cases hx
  obtain⟨N,hr⟩:=uW hr
  by_cases hn:new.length=0
  .have B:new=[]:=List.eq_nil_of_length_eq_zero hn;obtain⟨w',D,u,G⟩:=p1.sV (x:=.arr e new false) (by simp) λw' e=>⟨M,g2,q,.inl ⟨e,B⟩⟩;refine⟨w',_,_,h,_,_,u,j.trans G,hr,?_,.dh D⟩;rw[C];simp only[hn,if_true]
  .obtain⟨w',D,u,G⟩:=p1.qo (x:=.arr e new false) (lk:=.sl h.next 0 (new.length*(lay P e).length) (lay P e).length new.length none) (y:=.cells 0 0 cells 0 e false false) rfl (by simp) λw' l e hF=>⟨M,g2,q,.inr ⟨h.next,0,0,cells,false,false,none,e,(λk e=>by cases e),by simp[AHeap.get,AHeap.alloc,Tr.bS],Nat.le_refl _,Z,Y.mono l,(λ_=>trivial),λ_=>hF⟩⟩;refine⟨w',_,_,_,_,_,u,j.trans G,hr,?_,.cG D⟩;rw[C];simp only[hn,if_false];rw[if_pos ⟨Nat.succ_pos _,N⟩]
 .rename_i i
  split at hr
  case h_2=>cases hr
  rename_i t rows bE hb
  split at hr
  case isFalse=>cases hr
  rename_i R;subst R
  obtain⟨N,hr⟩:=uW hr
  obtain⟨_,_,_,a4⟩:=p1.arr i t rows bE hb
  have V:=p1.tj hb
  have L:RV P (w.more F) (.own i) x:=hx.mono (bA.more _ _) λ_ _ e=>e
  rcases a4 with⟨q1,rfl⟩|⟨o,ad,mv,c,ex,sh,cap,q1,q2,q3,q4,X,q6,q7,q8⟩
  .cases L with
   |cG e=>rw[q1]at e;cases e
   |dh e=>
    obtain⟨d1,d2⟩:=p1.drop V (by intro _ _;rw[hb];simp)
    simp only[List.length_nil,Nat.zero_add]at N
    by_cases hn:new.length=0
    .have B:new=[]:=List.eq_nil_of_length_eq_zero hn;obtain⟨w',D,u,G⟩:=d1.sV (x:=.arr t ([]++new) bE) (by simp) λw' e=>⟨M,g2,q,.inl ⟨e,by simp[B]⟩⟩;refine⟨w',_,_,h,_,_,u,(j.trans d2).trans G,hr,?_,.dh D⟩;rw[C];simp only[hn,if_true]
    .obtain⟨w',D,u,G⟩:=d1.qo (x:=.arr t ([]++new) bE) (lk:=.sl h.next 0 (new.length*(lay P t).length) (lay P t).length new.length none) (y:=.cells 0 0 cells 0 t false false) rfl (by simp) λw' l e hF=>⟨M,g2,q,.inr ⟨h.next,0,0,cells,false,false,none,e,(λk e=>by cases e),by simp[AHeap.get,AHeap.alloc,Tr.bS],Nat.le_refl _,Z,Y.mono l,(λ_=>trivial),λ_=>hF⟩⟩;refine⟨w',_,_,_,_,_,u,(j.trans d2).trans G,hr,?_,.cG D⟩;rw[C];simp only[hn,if_false];rw[if_pos ⟨Nat.succ_pos _,N⟩]
  .cases L with
   |dh e=>rw[q1]at e;cases e
   |cG e=>
    rw[q1]at e
    simp only[Option.some.injEq,Lk.sl.injEq]at e
    obtain⟨rfl,rfl,rfl,rfl,rfl,rfl⟩:=e
    have m:(c++cells).length=(rows++new).length*(lay P t).length:=by rw[List.length_append,List.length_append,X,Z,Nat.add_mul]
    have I:bX P (w.more F) (lay P t) (rows++new) (chunks (lay P t).length (rows++new).length (c++cells)):=by rw[List.length_append,CC _ _ _ _ X];exact q6.append Y
    by_cases hn:new.length=0
    .have B:new=[]:=List.eq_nil_of_length_eq_zero hn;obtain⟨w',D,u,G⟩:=p1.renamed (x:=.arr t (rows++new) bE) hb (by simp) (by simp) q1 (by simp) λw' l e hF=>⟨M,g2,q,.inr ⟨o,ad,mv,c,ex,sh,cap,by rw[B,List.append_nil];exact e,by rw[B,List.append_nil];exact q2,q3,q4,by rw[B,List.append_nil];exact X,by rw[B,List.append_nil];exact q6.mono l,q7,λe f=>q8 e (hF _ f)⟩⟩;refine⟨w',_,_,h,_,_,u,j.trans G,hr,?_,.cG D⟩;rw[C];simp only[ne_eq,not_true_eq_false,if_false];cases cap with|none=>simp only[hn,if_true]|some cp=>have:=q2 cp rfl;simp only[hn,if_true];rw[if_pos (by omega)]
    .cases cap with
     |some cp=>
      have hcp:=q2 cp rfl
      obtain⟨d1,d2⟩:=p1.drop V (by intro _ _;rw[hb];simp)
      obtain⟨w',D,u,G⟩:=d1.qo (x:=.arr t (rows++new) bE) (lk:=.sl h.next 0 ((rows.length+new.length)*(lay P t).length) (lay P t).length (rows.length+new.length) none) (y:=.cells 0 0 (c++cells) 0 t false false) rfl (by simp) λw' l e hF=>⟨M,g2,q,.inr ⟨h.next,0,0,c++cells,false,false,none,by rw[List.length_append];exact e,(λk e=>by cases e),by simp[AHeap.get,AHeap.alloc,Tr.bS],Nat.le_refl _,m,I.mono l,(λ_=>trivial),λ_=>hF⟩⟩
      refine⟨w',_,_,_,_,_,u,(j.trans d2).trans G,hr,?_,.cG D⟩
      rw[C]
      simp only[ne_eq,not_true_eq_false,if_false]
      rw[if_neg (by omega),if_pos ⟨Nat.succ_pos _,N⟩]
      have K:dp h o ad (rows.length*(lay P t).length) 0 (rows.length*(lay P t).length)=some c:=by simp only[dp,q3];rw[if_pos ⟨q4,Nat.le_refl _,by omega⟩,List.drop_zero,List.take_of_length_le (by omega)]
      simp only[K]
     |none=>
      have T:∀g,((w.more F).put g S.nx (.sl o (ad+1) ((rows.length+new.length)*(lay P t).length) (lay P t).length (rows.length+new.length) none)).s S.nx=some (.sl o (ad+1) ((rows.length+new.length)*(lay P t).length) (lay P t).length (rows.length+new.length) none):=by simp[Wd.put]
      have J:(h.aQ o (.cells (ad+1) mv (c++cells) 0 t false sh)).get o=some (.cells (ad+1) mv (c++cells) 0 t false sh):=by simp[AHeap.get,AHeap.aQ,Tr.bS]
      obtain⟨u,G⟩:=p1.move (x:=.arr t (rows++new) bE) (lk:=.sl o (ad+1) ((rows.length+new.length)*(lay P t).length) (lay P t).length (rows.length+new.length) none) (h':=h.aQ o (.cells (ad+1) mv (c++cells) 0 t false sh)) hb (by simp) (by simp) q1 rfl rfl rfl (λp hp=>by rcases pV hp with e|rfl;exact .inl e;exact .inr rfl) (λe=>p5 e) (λo' e=>by have:o'≠o:=λu=>e (by rw[u];rfl);simp only[AHeap.get,AHeap.aQ,Tr.a8 _ _ this]) (λo' e=>e) (λo' f ho v' mv' c' ik il iq hK hg=>by cases ho;rw[q3]at hg;cases hg;exact⟨ad+1,cells,0,t,false,sh,J,Nat.le_succ _⟩) (λo' ho=>by cases ho;rw[J];exact⟨by simp,by rintro⟨x,D,u⟩;rw[J]at D;cases D;cases u⟩) (λl _=>⟨M,g2,q,.inr ⟨o,ad+1,mv,c++cells,false,sh,none,by rw[List.length_append];exact T _,(λk e=>by cases e),J,by omega,m,I.mono l,(λ_=>trivial),λe=>q8 e⟩⟩) (by simp);refine⟨_,_,_,_,_,_,u,j.trans G,hr,?_,.cG (T _)⟩;rw[C];simp only[ne_eq,not_true_eq_false,if_false,hn,q3];rw[if_pos ⟨trivial,q4,trivial,Nat.le_refl _,Nat.zero_le _,trivial,Nat.succ_pos _,N⟩,if_pos X.symm,List.take_of_length_le (by omega)]
 .rename_i t rows
  split at hr
  .cases hr
  rename_i O E
  split at hr
  case isFalse=>cases hr
  rename_i R;subst R
  obtain⟨N,hr⟩:=uW hr
  have L:RV P (w.more F) (.cl t rows) x:=hx.mono (bA.more _ _) λ_ _ e=>e
  cases L with
  |@cl _ _ o ad n off ND rk=>
   cases rk with
   |@sl _ _ _ _ _ _ v mv fz c el ex sh _ k1 k2 k3 k4 k5 k6 k7 k8 k9 Gy=>
    have hn:(O::E).length≠0:=by simp
    have hold:((c.drop off).take (rows.length*(lay P t).length)).length=rows.length*(lay P t).length:=by rw[List.length_take,List.length_drop];omega
    have m:(((c.drop off).take (rows.length*(lay P t).length))++cells).length=(rows++O::E).length*(lay P t).length:=by rw[List.length_append,List.length_append,hold,Z,Nat.add_mul]
    have I:bX P (w.more F) (lay P t) (rows++O::E) (chunks (lay P t).length (rows++O::E).length (((c.drop off).take (rows.length*(lay P t).length))++cells)):=by rw[List.length_append,CC _ _ _ _ hold];refine bX.append ?_ Y;have:=ud (sz:=(lay P t).length) rows.length ((c.drop off).take (rows.length*(lay P t).length)) ((c.drop off).drop (rows.length*(lay P t).length)) (by omega);rw[List.take_append_drop]at this;rw[<-this];exact Gy
    obtain⟨w',D,u,G⟩:=p1.qo (x:=.arr t (rows++O::E) false) (lk:=.sl h.next 0 ((rows.length+(O::E).length)*(lay P t).length) (lay P t).length (rows.length+(O::E).length) none) (y:=.cells 0 0 (((c.drop off).take (rows.length*(lay P t).length))++cells) 0 t false false) rfl (by simp) λw' l e hF=>⟨M,g2,q,.inr ⟨h.next,0,0,_,false,false,none,by rw[List.length_append];exact e,(λk e=>by cases e),by simp[AHeap.get,AHeap.alloc,Tr.bS],Nat.le_refl _,m,I.mono l,(λ_=>trivial),λ_=>hF⟩⟩
    refine⟨w',_,_,_,_,_,u,j.trans G,hr,?_,.cG D⟩
    rw[C]
    simp only[ne_eq,not_true_eq_false,if_false]
    rw[if_neg (by simp),if_pos ⟨Nat.succ_pos _,N⟩]
    have K:dp h o ad n off (rows.length*(lay P t).length)=some ((c.drop off).take (rows.length*(lay P t).length)):=by
     have W:h.get o=some (.cells v mv c fz el ex sh):=by rw[<-hs.g];exact k4
     simp only[dp,W];rw[if_pos (by omega)]
    simp only[K]
 .cases hr
end
end Go.AI
namespace Go.AI
section
variable {P:Program}{w:Wd}{ob:Tr au}{nx:Nat}{h h':AHeap}{ρ:Type}
theorem HE(s:ByteArray):(cw s).length=s.size:=by simp[cw]
theorem Ce(s t:ByteArray):cw (s++t)=cw s++cw t:=by simp[cw,ByteArray.data_append]
theorem P3(s:ByteArray):(cw s).all ez=true:=by rw[List.all_eq_true];intro x hx;unfold cw at hx;obtain⟨b,_,rfl⟩:=List.mem_map.1 hx;rfl
theorem Ub{S:af}(hs:aj P w S.ob S.nx h){b:SV}{y:AV}(hy:RV P w b y){new:ByteArray}
 (c:Fb S.ob b=some new):ft y=some new.size/\gu h 1 new.size y=some (cw new):=by
 unfold Fb at c
 split at c
 .cases c;cases hy;refine⟨rfl,?_⟩;simp only[gu];rw[if_pos ⟨trivial,Nat.le_refl _⟩,List.take_of_length_le (by simp)];rfl
 .rename_i j
  split at c
  .rename_i s t hb;cases c;obtain⟨q1,q2,q3⟩:=Ij (h1:=h) hs hb hy λ_ _=>rfl;exact⟨q1,q3⟩
  .cases c
 .cases c;cases hy;exact⟨rfl,by simp[gu,cw]⟩
 .cases c
theorem QL{S:af}(hs:aj P w S.ob S.nx h){st W e:TypeId}{X:TypeDesc}{a b:SV}{x y:AV}{k:SV->af->Option ρ}{r:ρ}(hu:P.underlying st=some (.slice e))(Q:P.underlying W=some X)(hint:isInt X=false)(j:isByte P e=true)
 (hx:RV P w a x)(hy:RV P w b y)(hr:p9 P S e a b k=some r):
 ∃w' ay bU h' v z,aj P w' ay bU h'/\bl w S.ob h w' ay h'/\k v {S with ob:=ay,nx:=bU}=some r/\np P h st W x y=some (z,h')/\RV P w' v z:=by
 unfold p9 at hr
 split at hr
 case h_2=>cases hr
 rename_i Oi E U
 obtain⟨g1,g2,z,g3,g4⟩:=yX E
 rw[j]at hr
 simp only at hr
 split at hr
 case h_2=>cases hr
 rename_i D
 have L:(lay P e).length=1:=by rw[g1]at D;simpa using D
 split at hr
 .cases hr
 rename_i new M
 obtain⟨c1,c2⟩:=Ub hs hy M
 have n:=λx=>HD (h:=h) (x:=x) hu Q hint c1 D U g3 (by rw[g4];exact L) (Nat.zero_lt_one) c2 (P3 new)
 split at hr
 .cases hx
  obtain⟨F,hr⟩:=uW hr
  by_cases hn:new.size=0
  .obtain⟨w',q,m,u⟩:=hs.sV (x:=.aK new e) (by simp) λw' e=>⟨j,.inl ⟨e,hn⟩⟩;refine⟨w',_,_,h,_,_,m,u,hr,?_,.dh q⟩;rw[n];simp only[hn,if_true]
  .obtain⟨w',q,m,u⟩:=hs.qo (x:=.aK new e) (lk:=.sl h.next 0 (new.size*1) 1 new.size none) (y:=.cells 0 0 (cw new) 0 e false false) rfl (by simp) λw' C e hF=>⟨j,.inr ⟨h.next,0,0,false,0,none,by omega,by rw[Nat.mul_one]at e;exact e,(λk e=>by cases e),by simp[AHeap.get,AHeap.alloc,Tr.bS],Nat.le_refl _,Nat.zero_le _,hF⟩⟩;refine⟨w',_,_,_,_,_,m,u,hr,?_,.cG q⟩;rw[n];simp only[hn,if_false];rw[if_pos ⟨Nat.succ_pos _,F⟩]
 .rename_i i
  split at hr
  case h_2=>cases hr
  rename_i s t hb
  split at hr
  case isFalse=>cases hr
  rename_i T;subst T
  obtain⟨F,hr⟩:=uW hr
  obtain⟨_,a4⟩:=hs.aK i s t hb
  have K:=hs.tj hb
  rcases a4 with⟨q1,G⟩|⟨o,ad,mv,ex,fz,cap,G,q1,q2,q3,O,Y,N⟩
  .have R:s=.empty:=by cases s with|mk d=>cases d with|mk l=>cases l with|nil=>rfl|cons _ _=>simp[ByteArray.size]at G
   cases hx with
   |cG e=>rw[q1]at e;cases e
   |dh e=>
    obtain⟨d1,d2⟩:=hs.drop K (by intro _ _;rw[hb];simp)
    rw[G,Nat.zero_add]at F
    by_cases hn:new.size=0
    .obtain⟨w',q,m,u⟩:=d1.sV (x:=.aK (s++new) t) (by simp) λw' e=>⟨j,.inl ⟨e,by rw[ByteArray.size_append];omega⟩⟩;refine⟨w',_,_,h,_,_,m,d2.trans u,hr,?_,.dh q⟩;rw[n];simp only[hn,if_true]
    .obtain⟨w',q,m,u⟩:=d1.qo (x:=.aK (s++new) t) (lk:=.sl h.next 0 (new.size*1) 1 new.size none) (y:=.cells 0 0 (cw new) 0 t false false) rfl (by simp) λw' C e hF=>⟨j,.inr ⟨h.next,0,0,false,0,none,by rw[ByteArray.size_append];omega,by rw[ByteArray.size_append,G,Nat.zero_add];rw[Nat.mul_one]at e;exact e,(λk e=>by cases e),by rw[Ce,R];simp[AHeap.get,AHeap.alloc,Tr.bS,cw],Nat.le_refl _,Nat.zero_le _,hF⟩⟩;refine⟨w',_,_,_,_,_,m,d2.trans u,hr,?_,.cG q⟩;rw[n];simp only[hn,if_false];rw[if_pos ⟨Nat.succ_pos _,F⟩]
  .cases hx with
   |dh e=>rw[q1]at e;cases e
   |cG e=>
    rw[q1]at e
    simp only[Option.some.injEq,Lk.sl.injEq]at e
    obtain⟨rfl,rfl,rfl,rfl,rfl,rfl⟩:=e
    have hbl:=HE s
    by_cases hn:new.size=0
    .have c:s++new=s:=by
      apply ByteArray.ext
      rw[ByteArray.data_append]
      have:new.data=#[]:=by have h0:new.data.size=0:=hn;exact Array.eq_empty_of_size_eq_zero h0
      rw[this,Array.append_empty]
     obtain⟨w',q,m,u⟩:=hs.renamed (x:=.aK (s++new) t) hb (by simp) (by simp) q1 (by simp) λw' C e hF=>⟨j,.inr ⟨o,ad,mv,ex,fz,cap,by rw[c];exact G,by rw[c];exact e,by rw[c];exact q2,by rw[c];exact q3,O,by rw[c];exact Y,λf=>N (hF _ f)⟩⟩;refine⟨w',_,_,h,_,_,m,u,hr,?_,.cG q⟩;rw[n];simp only[ne_eq,not_true_eq_false,if_false];cases cap with|none=>simp only[hn,if_true]|some V=>have:=q2 V rfl;simp only[hn,if_true];rw[if_pos (by omega)]
    .have I:(s++new).size=s.size+new.size:=ByteArray.size_append
     cases cap with
     |some V=>
      have hcp:=q2 V rfl
      obtain⟨d1,d2⟩:=hs.drop K (by intro _ _;rw[hb];simp)
      obtain⟨w',q,m,u⟩:=d1.qo (x:=.aK (s++new) t) (lk:=.sl h.next 0 ((s.size+new.size)*1) 1 (s.size+new.size) none) (y:=.cells 0 0 (cw s++cw new) 0 t false false) rfl (by simp) λw' C e hF=>⟨j,.inr ⟨h.next,0,0,false,0,none,by omega,by rw[I];rw[Nat.mul_one]at e;exact e,(λk e=>by cases e),by rw[Ce];simp[AHeap.get,AHeap.alloc,Tr.bS],Nat.le_refl _,Nat.zero_le _,hF⟩⟩
      refine⟨w',_,_,_,_,_,m,d2.trans u,hr,?_,.cG q⟩
      rw[n]
      simp only[ne_eq,not_true_eq_false,if_false]
      rw[if_neg (by omega),if_pos ⟨Nat.succ_pos _,F⟩]
      have J:dp h o ad s.size 0 (s.size*1)=some (cw s):=by simp only[dp,q3];rw[if_pos ⟨O,Nat.le_refl _,by omega⟩,List.drop_zero,List.take_of_length_le (by omega)]
      simp only[J]
     |none=>
      have c:∀g,(w.put g S.nx (.sl o (ad+1) ((s.size+new.size)*1) 1 (s.size+new.size) none)).s S.nx=some (.sl o (ad+1) ((s.size+new.size)*1) 1 (s.size+new.size) none):=by simp[Wd.put]
      have B:(h.aQ o (.cells (ad+1) mv (cw s++cw new) fz t false false)).get o=some (.cells (ad+1) mv (cw s++cw new) fz t false false):=by simp[AHeap.get,AHeap.aQ,Tr.bS]
      obtain⟨m,u⟩:=hs.move (x:=.aK (s++new) t) (lk:=.sl o (ad+1) ((s.size+new.size)*1) 1 (s.size+new.size) none) (h':=h.aQ o (.cells (ad+1) mv (cw s++cw new) fz t false false)) hb (by simp) (by simp) q1 rfl rfl rfl (λp hp=>by rcases pV hp with e|rfl;exact .inl e;exact .inr rfl) (λe=>p5 e) (λo' e=>by have:o'≠o:=λm=>e (by rw[m];rfl);simp only[AHeap.get,AHeap.aQ,Tr.a8 _ _ this]) (λo' e=>e) (λo' f ho v' Z c' ik il iq hK hg=>by cases ho;exact absurd f N) (λo' ho=>by cases ho;rw[B];exact⟨by simp,by rintro⟨x,q,m⟩;rw[B]at q;cases q;cases m⟩) (λC _=>⟨j,.inr ⟨o,ad+1,mv,false,fz,none,by omega,by have:=c (h.aQ o (.cells (ad+1) mv (cw s++cw new) fz t false false)).get;rw[I];rw[Nat.mul_one]at this;rw[Nat.mul_one];exact this,(λk e=>by cases e),by rw[Ce];exact B,by omega,by omega,N⟩⟩) (by simp);refine⟨_,_,_,_,_,_,m,u,hr,?_,.cG (c _)⟩;rw[n];simp only[ne_eq,not_true_eq_false,if_false,hn,q3];rw[if_pos ⟨trivial,O,trivial,by omega,by omega,trivial,Nat.succ_pos _,F⟩,if_pos (by omega),List.take_of_length_le (by omega)]
 .cases hr
end
end Go.AI
end

section
namespace Go.AI
section
variable {P:Program}{w:Wd}{ob:Tr au}{nx:Nat}{h h':AHeap}{ρ:Type}
theorem Uc{s:ByteArray}{n:Int}{k:ByteArray->Option ρ}{r:ρ}(h:head s n k=some r):0<n/\n<=s.size/\n<=9223372036854775807/\k (s.extract 0 n.toNat)=some r:=by
 unfold head at h
 split at h
 .rename_i hd;simp only[decide_eq_true_eq]at hd;exact⟨hd.1,hd.2.1,hd.2.2,h⟩
 .cases h
theorem PN(s:ByteArray)(n:Nat):jt ((cw s).take n)=some (s.data.toList.take n):=by unfold cw;rw[<-List.map_take];generalize s.data.toList.take n=l;induction l with|nil=>rfl|cons b bs ih=>simp only[List.map_cons,jt,ih,Option.map_some];congr 2;simp
theorem Ud{S:af}(hs:aj P w S.ob S.nx h){i:Nat}{s:ByteArray}{t:TypeId}{x:AV}{kd:IntKind}{n:Int}{pt:TypeId}(hb:S.ob.get i=some (.aK s t))(hx:RV P w (.h8 i) x)(G:P.underlying pt=some (.pointer t))(hz:bB P t=some 1)
 (h0:0<n)(h1:n<=s.size)(h2:n<=9223372036854775807):
 ∃w' h',aj P w' S.ob S.nx h'/\bl w S.ob h w' S.ob h'/\rq P h pt x (.sc (.int kd n))=some (.sc (.string (s.extract 0 n.toNat)),h'):=by
 obtain⟨B,J⟩:=hs.aK i s t hb
 cases hx with
 |h8 e=>
  rcases J with⟨q1,_⟩|⟨o,ad,mv,ex,fz,cap,E,q1,q2,q3,D,K,C⟩
  .rw[q1]at e;cases e
  .rw[q1]at e
   simp only[ab,Lk.sl.injEq]at e
   obtain⟨rfl,rfl,rfl,rfl,rfl,rfl⟩:=e
   obtain⟨m,hm⟩:∃m,n.toNat=m+1:=⟨n.toNat-1,by omega⟩
   have I:=HE s
   obtain⟨p,f⟩:=hs.change (x:=.aK s t) (y:=.cells ad ad (cw s) (max fz (0+(m+1))) t ex false) hb (by simp) (by simp) q1 rfl C rfl ⟨B,.inr ⟨o,ad,ad,ex,max fz (0+(m+1)),cap,E,q1,q2,by simp only[AHeap.get,AHeap.aQ,Tr.bS],ak _,by omega,C⟩⟩ (by simp)
   have q:aj P (w.heap (h.aQ o (.cells ad ad (cw s) (max fz (0+(m+1))) t ex false)).get) S.ob S.nx (h.aQ o (.cells ad ad (cw s) (max fz (0+(m+1))) t ex false))/\bl w S.ob h (w.heap (h.aQ o (.cells ad ad (cw s) (max fz (0+(m+1))) t ex false)).get) S.ob (h.aQ o (.cells ad ad (cw s) (max fz (0+(m+1))) t ex false)):=by
    have c:∀j,(S.ob.put i (.aK s t)).get j=S.ob.get j:=by
     intro j
     by_cases e:j=i
     .subst e;rw[Tr.bS,hb]
     .rw[Tr.a8 _ _ e]
    have u:∀j,live S.ob j->live (S.ob.put i (.aK s t)) j:=λj⟨z,a,b⟩=>⟨z,by rw[c];exact a,b⟩;refine⟨⟨p.g,λj t cs e=>p.box j t cs (by rw[c];exact e),λj t rows l e=>p.arr j t rows l (by rw[c];exact e),λj s l e=>p.aK j s l (by rw[c];exact e),λa b k l o p1 p2=>p.inj a b k l o (u _ p1) (u _ p2),p.lt,?_,p.cW,p.new⟩,⟨f.le,f.s,f.next,f.floor,f.cb,λo⟨j,k,p1,p2,p3⟩=>f.own o ⟨j,k,u _ p1,p2,p3⟩,f.F,f.wr,f.et,λj t cs e=>⟨cs,e⟩⟩⟩;intro j hj;have:=p.nx j hj;rw[c]at this;exact this
   refine⟨_,_,q.1,q.2,?_⟩
   simp only[rq,om (show 0<=n by omega),hm,G,q3]
   rw[if_pos ⟨trivial,D,trivial,hz,by omega⟩]
   have v:dp h o ad s.size 0 (m+1)=some ((cw s).take (m+1)):=by simp only[dp,q3];rw[if_pos ⟨D,ak _,by omega⟩,List.drop_zero]
   simp only[v,PN,Option.map_some]
   congr 3
   have:(⟨(s.data.toList.take (m+1)).toArray⟩:ByteArray)=s.extract 0 (m+1):=by apply ByteArray.ext;apply Array.ext';simp
   rw[this]
variable {A:dX}{R:eD A.pn}{kp:TypeId->List AV->af->Option ρ}
def we:Op->Bool|.call c=>(match c.callee with|.value _=>true|_=>false)|_=>false
theorem Ue{S:af}(hs:aj P w S.ob S.nx h){o:Oper}{aI:Operand->AV}(G:∀x,x∈o.op.operands.toList->RV P w (bK S.tm x) (aI x))(hA:a6 o.op=false)(hF:bT o.op=false)(hC:we o.op=false){k:SV->af->Option ρ}{r:ρ}(hr:iD P A R kp o S k=some r):
 ∃w' ay bU h' v y,aj P w' ay bU h'/\bl w S.ob h w' ay h'/\k v {S with ob:=ay,nx:=bU}=some r/\(aU P aI o h=some (.val y,h')\/aU P aI o h=some (.skip,h')/\y=dZ)/\RV P w' v y:=by
 unfold iD at hr
 simp only at hr
 split at hr
 case h_1=>simp_all[a6]
 case h_2=>simp_all[a6]
 case h_3=>simp_all[bT]
 case h_4=>simp_all[a6]
 case h_5=>simp_all[bT]
 case h_6=>rename_i t a x j;obtain⟨w',ay,h',q1,q2,q3,M⟩:=SB hs (G a (by rw[j];simp[Op.operands])) (G x (by rw[j];simp[Op.operands])) hr;exact⟨w',ay,_,h',_,dZ,q1,q2,q3,.inr ⟨by simp only[aU,j];rw[M];rfl,rfl⟩,.aR .nil⟩
 case h_19=>
  rename_i c j
  obtain⟨callee,args,K⟩:=c
  cases callee with
  |invoke x m=>cases hr
  |value f=>rw[j]at hC;cases hC
  |builtin b=>
   simp only at hr
   have g:∀a,a∈args.toList->RV P w (bK S.tm a) (aI a):=λa ha=>G a (by rw[j];simp only[Op.operands,Call.operands];simpa using ha)
   have B:∀x y,args.toList.map (bK S.tm)=[x,y]->∃a b,args.toList=[a,b]/\bK S.tm a=x/\bK S.tm b=y:=by intro x y hl;cases h0:args.toList with|nil=>rw[h0]at hl;cases hl|cons a l=>cases l with|nil=>rw[h0]at hl;cases hl|cons b l=>cases l with|nil=>rw[h0]at hl;simp only[List.map_cons,List.map_nil,List.cons.injEq,and_true]at hl;exact⟨a,b,rfl,hl.1,hl.2⟩|cons _ _=>rw[h0]at hl;simp at hl
   unfold x3 at hr
   split at hr
   .rename_i x y hl
    obtain⟨a,b,p,hx,hy⟩:=B x y hl
    have h1:=g a (by rw[p];simp)
    have h2:=g b (by rw[p];simp)
    rw[hx]at h1;rw[hy]at h2
    have fin:∀e t t' d,K[0]?=some t->K[1]?=some t'->P.underlying t=some (.slice e)->P.underlying t'=some d->isInt d=false->p9 P S e x y k=some r->
     ∃w' ay bU h' v z,aj P w' ay bU h'/\bl w S.ob h w' ay h'/\k v {S with ob:=ay,nx:=bU}=some r/\(aU P aI o h=some (.val z,h')\/aU P aI o h=some (.skip,h')/\z=dZ)/\RV P w' v z:=by
     intro e t t' d L E F q hi hr
     have key:∃w' ay bU h' v z,aj P w' ay bU h'/\bl w S.ob h w' ay h'/\k v {S with ob:=ay,nx:=bU}=some r/\np P h t t' (aI a) (aI b)=some (z,h')/\RV P w' v z:=by cases J:isByte P e with|true=>exact QL hs F q hi J h1 h2 hr|false=>exact QK hs F q hi J h1 h2 hr
     obtain⟨w',ay,bU,h',v,z,q1,q2,q3,M,O⟩:=key;refine⟨w',ay,bU,h',v,z,q1,q2,q3,.inl ?_,O⟩;simp only[aU,j,iB,iW,p,List.map_cons,List.map_nil,L,E];rw[P7 M];rfl
    split at hr
    .rename_i t t' L E
     split at hr
     .rename_i e d F q;exact fin e t t' _ L E F q rfl hr
     .rename_i e F q;exact fin e t t' _ L E F q rfl hr
     .cases hr
    .cases hr
   .rw[j]at hF;cases hF
   .rw[j]at hF;cases hF
   .rw[j]at hF;cases hF
   .rename_i kd n hl
    obtain⟨a,b,p,hx,hy⟩:=B _ _ hl
    obtain⟨N,D⟩:∃y,aI a=y:=⟨_,rfl⟩
    obtain⟨y1,C⟩:∃y,aI b=y:=⟨_,rfl⟩
    have h1:=g a (by rw[p];simp)
    have h2:=g b (by rw[p];simp)
    rw[hx,D]at h1;rw[hy,C]at h2
    cases h1;cases h2
    rcases yW hr with⟨hn,hr⟩|⟨_,hr⟩
    .have hn:n=0:=by simpa using hn
     subst hn
     split at hr
     .rename_i pt I;refine⟨w,S.ob,S.nx,h,_,_,hs,.refl _ _ _,hr,.inl ?_,.sc rfl⟩;simp only[aU,j,iB,iW,p,List.map_cons,List.map_nil,D,C,I,rq,gb];rfl
     .cases hr
    .cases hr
   .rename_i i kd n hl
    obtain⟨a,b,p,hx,hy⟩:=B _ _ hl
    obtain⟨N,D⟩:∃y,aI a=y:=⟨_,rfl⟩
    obtain⟨y1,C⟩:∃y,aI b=y:=⟨_,rfl⟩
    have h1:=g a (by rw[p];simp)
    have h2:=g b (by rw[p];simp)
    rw[hx,D]at h1;rw[hy,C]at h2
    cases h2
    split at hr
    .rename_i s t pt hb I
     split at hr
     .rename_i u F
      split at hr
      .rename_i hz
       split at hr
       .rename_i e;subst e;obtain⟨U,T,Q,hr⟩:=Uc hr;obtain⟨w',h',q1,q2,q3⟩:=Ud (kd:=kd) hs hb h1 F hz U T Q;refine⟨w',S.ob,S.nx,h',_,_,q1,q2,hr,.inl ?_,.sc rfl⟩;simp only[aU,j,iB,iW,p,List.map_cons,List.map_nil,D,C,I,q3];rfl
       .cases hr
      .cases hr
     .cases hr
    .cases hr
   .cases hr
 all_goals first|(simp_all[bT];done)|cases hr
end
end Go.AI
end

section
namespace Go.AI
def Wd.sub(w:Wd)(L:List Nat):Wd:={g:=w.g,F:=w.F,s:=λj=>(L[j]?).bind w.s}
theorem zL:∀{L:List Nat}{i j:Nat},idx L i=some j->L[j]?=some i
 |[],_,_,h=>by cases h
 |y::ys,i,j,h=>by
  simp only[idx]at h
  split at h
  .rename_i hb;cases h;simp[Nat.eq_of_beq_eq_true hb]
  .cases hi:idx ys i with|none=>rw[hi]at h;cases h|some k=>rw[hi]at h;cases h;simpa using zL hi
theorem DV:∀{L:List Nat}{x:Nat},o3 L x=false->x∉L|[],_,_=>by simp|y::ys,x,h=>by simp only[o3,Bool.or_eq_false_iff]at h;simp only[List.mem_cons,not_or];exact⟨Nat.ne_of_beq_eq_false h.1,DV h.2⟩
theorem Js:∀{L:List Nat},nodup L=true->∀(i j x:Nat),L[i]?=some x->L[j]?=some x->i=j
 |[],_,i,j,x,h,_=>by simp at h
 |y::ys,hn,i,j,x,h1,h2=>by
  simp only[nodup,aX,Bool.not_eq_true']at hn
  have b:=DV hn.1
  cases i with
  |zero=>cases j with|zero=>rfl|succ j=>simp at h1 h2;subst h1;exact absurd (List.mem_of_getElem? h2) b
  |succ i=>cases j with|zero=>simp at h1 h2;subst h2;exact absurd (List.mem_of_getElem? h1) b|succ j=>simp at h1 h2;rw[Js hn.2 i j x h1 h2]
theorem Ho{α:Type}:∀(xs:List α)(i:Nat)(t:Tr α)(k:Nat),(bJ xs i t).get k=if i<=k/\k<i+xs.length then xs[k-i]? else t.get k
 |[],i,t,k=>by simp[bJ];intro h1 h2;omega
 |x::xs,i,t,k=>by
  simp only[bJ]
  rw[Ho xs (i+1) (t.put i x) k]
  by_cases h1:k=i
  .subst h1;rw[if_neg (by omega),if_pos (by simp),Tr.bS];simp
  .rw[Tr.a8 _ _ h1]
   by_cases h2:i+1<=k/\k<i+1+xs.length
   .rw[if_pos h2,if_pos (by simp;omega),show k-i=(k-(i+1))+1 by omega];simp
   .rw[if_neg h2,if_neg (by simp;omega)]
theorem p6{α:Type}(xs:List α)(k:Nat):(bJ xs 0 .leaf).get k=xs[k]?:=by
 rw[Ho]
 split
 .simp
 .rename_i h;rw[List.getElem?_eq_none (by omega)];rfl
section
variable {P:Program}{w w':Wd}{ob ay:Tr au}{nx:Nat}{h h':AHeap}{ρ:Type}
theorem bA.sub(w:Wd)(L:List Nat):bA w (w.sub L):=.imp rfl λ_ f=>f
mutual
theorem RV.jQ(L:List Nat):∀{v:SV}{x:AV},RV P w v x->RV P (w.sub L) (qI L v) x
 |_,_,.aO x=>.aO x
 |_,_,.sc h=>.sc h
 |_,_,.agg h=>.agg (aC.jQ L h)
 |_,_,.dl h=>.dl (h.mono (.sub w L))
 |_,_,.dh (i:=i) h=>by
  simp only[qI]
  split
  .rename_i j hj;exact .dh (by simp only[Wd.sub,zL hj,Option.bind_some];exact h)
  .exact .aO _
 |_,_,.cG (i:=i) h=>by
  simp only[qI]
  split
  .rename_i j hj;exact .cG (by simp only[Wd.sub,zL hj,Option.bind_some];exact h)
  .exact .aO _
 |_,_,.ref (i:=i) h=>by
  simp only[qI]
  split
  .rename_i j hj;exact .ref (by simp only[Wd.sub,zL hj,Option.bind_some];exact h)
  .exact .aO _|_,_,.dU _ _=>.aO _|_,_,.dN h=>.dN (h.mono (.sub w L))|_,_,.h8 _=>.aO _|_,_,.iG h a=>.iG (RV.jQ L h) a|_,_,.kU=>.kU|_,_,.fn h=>.fn (aC.jQ L h)|_,_,.iP=>.iP|_,_,.aR h=>.aR (aC.jQ L h)|_,_,.eI h=>.eI (RV.jQ L h)|_,_,.n4=>.n4|_,_,.n5=>.n5|_,_,.cV h=>.cV h|_,_,.cl a h=>.cl a (h.mono (.sub w L))|_,_,.yl a b h=>.yl a b (aC.jQ L h)theorem aC.jQ(L:List Nat):∀{vs:List SV}{xs:List AV},aC P w vs xs->aC P (w.sub L) (kG L vs) xs|_,_,.nil=>.nil|_,_,.cons a b=>.cons (RV.jQ L a) (aC.jQ L b)end
def kV(ob:Tr au)(L:List Nat)(i:Nat):au:=match ob.get i with|some (.box t cs)=>.box t (kG L cs)|some x=>x|none=>.gone
theorem rP(ob:Tr au)(L:List Nat):∀(M:List Nat)(j:Nat),(bZ ob L M)[j]?=(M[j]?).map (kV ob L)|[],j=>by simp[bZ]|i::is,0=>by simp only[bZ,List.getElem?_cons_zero,Option.map_some];rfl|i::is,j+1=>by simp[bZ,rP ob L is j]
theorem xW(ob:Tr au)(L:List Nat):∀(M:List Nat),(bZ ob L M).length=M.length|[]=>rfl|i::is=>by simp[bZ,xW ob L is]
theorem uM:∀{os:List au},kH os=true->∀(j:Nat)(t:TypeId)(cs:List SV),os[j]?=some (.box t cs)->cK cs=true|[],_,j,t,cs,h=>by simp at h|.box t' aP::os,h,0,t,cs,e=>by simp only[kH,aX]at h;simp at e;rw[<-e.2];exact h.1|.box t' aP::os,h,j+1,t,cs,e=>by simp only[kH,aX]at h;exact uM h.2 j t cs (by simpa using e)|.arr _ _ _::os,h,0,t,cs,e=>by simp at e|.arr _ _ _::os,h,j+1,t,cs,e=>uM (by simpa[kH]using h) j t cs (by simpa using e)|.aK _ _::os,h,0,t,cs,e=>by simp at e|.aK _ _::os,h,j+1,t,cs,e=>uM (by simpa[kH]using h) j t cs (by simpa using e)|.gone::os,h,0,t,cs,e=>by simp at e|.gone::os,h,j+1,t,cs,e=>uM (by simpa[kH]using h) j t cs (by simpa using e)
theorem aj.sub(hs:aj P w ob nx h){L:List Nat}(hn:nodup L=true)(aS:kH (bZ ob L L)=true):aj P (w.sub L) (bJ (bZ ob L L) 0 .leaf) L.length h:=by
 have m:∀j y,(bJ (bZ ob L L) 0 .leaf).get j=some y->∃i,L[j]?=some i/\y=kV ob L i:=by intro j y e;rw[p6,rP]at e;cases hL:L[j]? with|none=>rw[hL]at e;cases e|some i=>rw[hL]at e;cases e;exact⟨i,rfl,rfl⟩
 have f:∀j i,L[j]?=some i->(w.sub L).s j=w.s i:=λj i e=>by simp only[Wd.sub,e,Option.bind_some]
 have p:∀j,live (bJ (bZ ob L L) 0 .leaf) j->∃i,L[j]?=some i/\live ob i:=by rintro j⟨y,h1,h2⟩;obtain⟨i,e,rfl⟩:=m j y h1;refine⟨i,e,?_⟩;unfold kV at h2;cases hi:ob.get i with|none=>rw[hi]at h2;exact absurd rfl h2|some z=>refine⟨z,hi,?_⟩;rintro rfl;rw[hi]at h2;exact absurd rfl h2
 have n:∀j y,(bJ (bZ ob L L) 0 .leaf).get j=some y->dn P (w.sub L) h j y:=by
  intro j y e
  have q:=e
  obtain⟨i,hi,rfl⟩:=m j y e
  rw[p6]at q
  unfold kV at q⊢
  cases hz:ob.get i with
  |none=>trivial
  |some z=>
   rw[hz]at q
   have ho:=hs.jP hz
   cases z with
   |box t cs=>obtain⟨o,c,sh,S,R,Q,V,O⟩:=ho;exact⟨o,c,sh,by rw[f j i hi];exact S,R,Q.jQ L,uM aS j t _ q,O⟩
   |arr t rows bE=>
    obtain⟨D,U,T,C⟩:=ho
    refine⟨D,U,T,?_⟩
    rcases C with⟨q1,q2⟩|⟨o,ad,mv,c,ex,sh,cap,q1,q2,q3,B,v,I,u,G⟩
    .exact .inl ⟨by rw[f j i hi];exact q1,q2⟩
    .exact .inr ⟨o,ad,mv,c,ex,sh,cap,by rw[f j i hi];exact q1,q2,q3,B,v,I.mono (.sub w L),u,G⟩
   |aK s t=>
    obtain⟨D,C⟩:=ho
    refine⟨D,?_⟩
    rcases C with⟨q1,q2⟩|⟨o,ad,mv,ex,fz,cap,J,q1,q2,q3,B,v,u⟩
    .exact .inl ⟨by rw[f j i hi];exact q1,q2⟩
    .exact .inr ⟨o,ad,mv,ex,fz,cap,J,by rw[f j i hi];exact q1,q2,q3,B,v,u⟩|gone=>trivial
 refine⟨hs.g,λi t cs e=>n i _ e,λi t rows l e=>n i _ e,λi s l e=>n i _ e,?_,?_,?_,hs.cW,hs.new⟩
 .intro a b k l o h1 h2 h3 h4 M K;obtain⟨i,F,N⟩:=p a h1;obtain⟨j,E,g2⟩:=p b h2;rw[f a i F]at h3;rw[f b j E]at h4;have:=hs.inj i j k l o N g2 h3 h4 M K;subst this;exact Js hn a b i F E
 .intro a k o h1 h2;cases hL:L[a]? with|none=>simp only[Wd.sub,hL]at h1;cases h1|some i=>rw[f a i hL]at h1;exact hs.lt i k o h1 h2
 .intro a ha;have hL:L[a]?=none:=List.getElem?_eq_none ha;exact⟨by simp only[Wd.sub,hL];rfl,by rw[p6,rP,hL];rfl⟩
theorem Ow.sub{L:List Nat}{o:Nat}(h:Ow (w.sub L) (bJ (bZ ob L L) 0 .leaf) o):∃(j i:Nat)(k:Lk),L[j]?=some i/\live ob i/\w.s i=some k/\k.obj=some o:=by obtain⟨j,k,⟨y,h1,h2⟩,h3,h4⟩:=h;rw[p6,rP]at h1;cases hL:L[j]? with|none=>rw[hL]at h1;cases h1|some i=>rw[hL]at h1;cases h1;simp only[Wd.sub,hL,Option.bind_some]at h3;refine⟨j,i,k,hL,?_,h3,h4⟩;unfold kV at h2;cases hi:ob.get i with|none=>rw[hi]at h2;exact absurd rfl h2|some z=>refine⟨z,hi,?_⟩;rintro rfl;rw[hi]at h2;exact absurd rfl h2
theorem aj.said(hs:aj P w ob nx h){i:Nat}{n x:au}(c:ob.get i=some n)(p:n≠.gone)(q:∀t cs,n=.box t cs->∃aP,x=.box t aP)(hx:dn P w h i x)(hg:x≠.gone):aj P w (ob.put i x) nx h/\bl w ob h w (ob.put i x) h:=by
 have m:∀j,live (ob.put i x) j↔live ob j:=λj=>yk c p hg
 have f:∀j y,(ob.put i x).get j=some y->dn P w h j y:=by
  intro j y e
  by_cases u:j=i
  .subst u;rw[Tr.bS]at e;cases e;exact hx
  .rw[Tr.a8 _ _ u]at e;exact hs.jP e
 refine⟨⟨hs.g,λi t cs e=>f i _ e,λi t rows l e=>f i _ e,λi s l e=>f i _ e,λa b k l o h1 h2=>hs.inj a b k l o ((m a).1 h1) ((m b).1 h2),hs.lt,?_,hs.cW,hs.new⟩,⟨.refl w,λ_ _ e=>e,ak _,rfl,λ_ _ _=>rfl,λo⟨j,k,h1,h2,h3⟩=>.inr ⟨j,k,(m j).1 h1,h2,h3⟩,λ_ e=>.inl e,λ_ e=>.inl e,λe=>e,L1 c q⟩⟩
 intro j hj
 refine⟨(hs.nx j hj).1,?_⟩
 have:j≠i:=by rintro rfl;rw[(hs.nx j hj).2]at c;cases c
 rw[Tr.a8 _ _ this];exact(hs.nx j hj).2
def kL(P:Program)(w:Wd)(h:AHeap)(st ah:af)(w':Wd):Prop:=aj P w' ah.ob ah.nx h/\bl w st.ob h w' ah.ob h/\ah.tm=st.tm/\ah.r=st.r/\(∀j t cs,ah.ob.get j=some (.box t cs)↔st.ob.get j=some (.box t cs))
theorem kL.refl{st:af}(hs:aj P w st.ob st.nx h):kL P w h st st w:=⟨hs,.refl _ _ _,rfl,rfl,λ_ _ _=>Iff.rfl⟩
theorem kL.trans{e:Wd}{st ah c:af}(a:kL P w h st ah w')(b:kL P w' h ah c e):kL P w h st c e:=⟨b.1,a.2.1.trans b.2.1,b.2.2.1.trans a.2.2.1,b.2.2.2.1.trans a.2.2.2.1,λj t cs=>(b.2.2.2.2 j t cs).trans (a.2.2.2.2 j t cs)⟩
theorem Im{st:af}(hs:aj P w st.ob st.nx h)(e:TypeId):∃w',kL P w h st (u4 P st e).2 w'/\RV P w' (u4 P st e).1 (.sc (.slice none 0 0)):=by
 have g:∀(x:au),(∀t cs,x≠.box t cs)->∀j t cs,(st.ob.put st.nx x).get j=some (.box t cs)↔st.ob.get j=some (.box t cs):=by
  intro x hx j t cs
  by_cases f:j=st.nx
  .subst f;rw[Tr.bS,(hs.nx _ (ak _)).2];simp[hx t cs]
  .rw[Tr.a8 _ _ f]
 unfold u4
 split
 .rename_i c;obtain⟨w',k,f,i⟩:=hs.sV (x:=.aK .empty e) (by simp) λw' e=>⟨c,.inl ⟨e,rfl⟩⟩;exact⟨w',⟨f,i,rfl,rfl,g _ (by simp)⟩,.dh k⟩
 .rename_i c b;obtain⟨l,g2,_⟩:=yX b;obtain⟨w',k,f,i⟩:=hs.sV (x:=.arr e [] false) (by simp) λw' e=>⟨l,g2,c,.inl ⟨e,rfl⟩⟩;exact⟨w',⟨f,i,rfl,rfl,g _ (by simp)⟩,.dh k⟩
 .exact⟨w,.refl hs,.aO _⟩
theorem zO{F:Nat->Prop}{vs:List SV}(h3:∀i,SV.own i∈vs->∀t rows l x,ob.get i=some (.arr t rows l)->RV P w (.own i) x->Rd P (w.more F) t rows x){v:SV}{x:AV}(hv:v∈vs)(hx:RV P w v x):RV P (w.more F) (cW ob v) x:=by
 unfold cW
 split
 .rename_i i
  split
  .rename_i t r l hb;exact .dl (h3 i hv _ _ _ _ hb hx)
  .exact .aO _
 .exact hx.mono (bA.more _ _) λ_ _ e=>e
theorem rH{st:af}(hs:aj P w st.ob st.nx h)(vs:List SV):∃F,kL P w h st {st with ob:=cv st.ob vs} (w.more F)/\∀i,SV.own i∈vs->∀t rows l x,st.ob.get i=some (.arr t rows l)->RV P w (.own i) x->Rd P (w.more F) t rows x:=by obtain⟨F,p1,p2,b,p3⟩:=sA hs vs;exact⟨F,⟨p1,.cv p2 b,rfl,rfl,p2.box⟩,p3⟩
theorem Ry{st:af}(hs:aj P w st.ob st.nx h){m i:Nat}{l:Lf}{v:SV}{x:AV}(hi:∃o n,w.s i=some (.box o n))(hx:RV P w v x):∃w',kL P w h st (sG P m i l v st).2 w'/\RV P w' (sG P m i l v st).1 x:=by
 unfold sG
 split
 .split
  .cases hx;exact⟨w,.refl hs,.dl (.nil _)⟩
  .cases hx;exact Im hs _
 .split
  .obtain⟨F,q1,q2⟩:=rH hs [SV.own _];exact⟨_,q1,zO q2 (by simp) hx⟩
  .exact⟨w,.refl hs,hx⟩
 .split
  .cases hx;exact⟨w,.refl hs,.kU⟩
  .exact⟨w,.refl hs,hx⟩
 .split
  .cases hx with|ref e=>exact⟨w,.refl hs,.iG (.ref e) rfl⟩
  .exact⟨w,.refl hs,hx⟩
 .exact⟨w,.refl hs,hx⟩
theorem Jt{m i:Nat}:∀{ls:List Lf}{vs:List SV}{xs:List AV}{st:af}{w:Wd},aj P w st.ob st.nx h->(∃o n,w.s i=some (.box o n))->aC P w vs xs->∃w',kL P w h st (lD P m i ls vs st).2 w'/\aC P w' (lD P m i ls vs st).1 xs
 |[],vs,xs,st,w,hs,_,hx=>by
  have:lD P m i [] vs st=(vs,st):=by cases vs<;>rfl
  rw[this];exact⟨w,.refl hs,hx⟩|l::ls,[],xs,st,w,hs,_,hx=>⟨w,.refl hs,hx⟩|l::ls,v::vs,_,st,w,hs,hi,.cons a b=>by obtain⟨w1,q1,q2⟩:=Ry (m:=m) (l:=l) hs hi a;obtain⟨o,n,hi⟩:=hi;obtain⟨e,c,f⟩:=Jt (ls:=ls) q1.1 ⟨o,n,q1.2.1.s _ _ hi⟩ (b.mono q1.2.1.le q1.2.1.s);exact⟨e,q1.trans c,.cons (q2.mono c.2.1.le c.2.1.s) f⟩
variable {bx:TypeId->Nat}
theorem ux:∀(is:List Nat){st:af}{w:Wd},aj P w st.ob st.nx h->∃w',aj P w' (nq P bx is st).ob (nq P bx is st).nx h/\bl w st.ob h w' (nq P bx is st).ob h/\(nq P bx is st).tm=st.tm/\(nq P bx is st).r=st.r
 |[],st,w,hs=>⟨w,hs,.refl _ _ _,rfl,rfl⟩
 |i::is,st,w,hs=>by
  simp only[nq]
  split
  .rename_i t cs hb
   obtain⟨o,c,sh,p,B,z,D,C⟩:=hs.box i t cs hb
   obtain⟨w1,q1,q2⟩:=Jt (m:=bx t) (i:=i) (ls:=lay P t) hs ⟨o,_,p⟩ z
   cases aS:cK (lD P (bx t) i (lay P t) cs st).1 with
   |false=>obtain⟨g,n,l,k,j⟩:=ux is q1.1;exact⟨g,n,q1.2.1.trans l,k.trans q1.2.2.1,j.trans q1.2.2.2.1⟩
   |true=>
    have b:=(q1.2.2.2.2 i t cs).2 hb
    have hF:¬w1.F o:=λf=>by obtain⟨o',c',hK,d1,_,_,_,q⟩:=q1.1.box i t cs b;have:=q1.2.1.s _ _ p;rw[d1]at this;simp only[ab,Lk.box.injEq]at this;rw[this.1]at q;exact q f
    obtain⟨v,u⟩:=q1.1.said (x:=.box t (lD P (bx t) i (lay P t) cs st).1) b (by simp) (by intro _ _ e;cases e;exact⟨_,rfl⟩) ⟨o,c,sh,q1.2.1.s _ _ p,B,q2,aS,hF⟩ (by simp);obtain⟨g,n,l,k,j⟩:=ux is (st:={(lD P (bx t) i (lay P t) cs st).2 with ob:=(lD P (bx t) i (lay P t) cs st).2.ob.put i (.box t (lD P (bx t) i (lay P t) cs st).1)}) v;exact⟨g,n,(q1.2.1.trans u).trans l,k.trans q1.2.2.1,j.trans q1.2.2.2.1⟩
  .exact ux is hs
theorem Dp{st b:af}(hs:aj P w st.ob st.nx h){cB c:List SV}{xs:List AV}(hx:aC P w cB xs){pre L:List Nat}{aA:List au}(hc:l9 P bx st cB pre=some (c,aA,L,b)):
 ∃e,aj P e b.ob b.nx h/\bl w st.ob h e b.ob h/\b.tm=st.tm/\b.r=st.r/\aj P (e.sub L) (bJ aA 0 .leaf) aA.length h/\aC P (e.sub L) c xs/\aA=bZ b.ob L L/\nodup L=true:=by
 unfold l9 at hc
 simp only at hc
 split at hc
 .rename_i aS;simp only[aX]at aS;simp only[ab,an]at hc;obtain⟨rfl,rfl,rfl,rfl⟩:=hc;obtain⟨e,g,f,j,i⟩:=ux (bx:=bx) (sF st.ob 200 (pre++j7 cB) []) hs;refine⟨e,g,f,j,i,?_,(hx.mono f.le f.s).jQ _,rfl,aS.1⟩;rw[xW];exact g.sub aS.1 aS.2
 .cases hc
end
end Go.AI
end

section
namespace Go.AI
structure fH(X:Nat->Prop)(nb:Nat)(w:Wd)(ob:Tr au)(h:AHeap)(w':Wd)(ay:Tr au)(h':AHeap):Prop where
 le:bA w w'
 s:∀i k,i<nb->w.s i=some k->w'.s i=some k
 next:h.next<=h'.next
 floor:h'.floor=h.floor
 cb:∀o,o<h.next->¬Ow w ob o->¬X o->h'.get o=h.get o
 own:∀o,Ow w' ay o->h.next<=o\/Ow w ob o
 F:∀o,w'.F o->w.F o\/h.next<=o\/Ow w ob o
 wr:∀o,o∈h'.wr->o∈h.wr\/h.next<=o\/Ow w ob o\/Lp h.get o\/X o
 et:(∀o,o∈h.wr->o<h.floor)->∀o,o∈h'.wr->o<h'.floor
 bx:∀i t cs,i<nb->ob.get i=some (.box t cs)->∃aP,ay.get i=some (.box t aP)
abbrev gj(nb:Nat):=fH (λ_=>False) nb
def XW(h:AHeap)(o:Nat):Prop:=h.floor<=o/\h.get o=some (.cf (some []))
section
variable {P:Program}{w w':Wd}{ob ay:Tr au}{nx:Nat}{h h':AHeap}{ρ:Type}
theorem fH.of{X:Nat->Prop}{nb:Nat}(a:bl w ob h w' ay h'):fH X nb w ob h w' ay h':=⟨a.le,λi k _ e=>a.s i k e,a.next,a.floor,λo h1 h2 _=>a.cb o h1 h2,a.own,a.F,λo e=>(a.wr o e).imp id (.imp id (.imp id .inl)),a.et,λi t cs _ e=>a.bx i t cs e⟩
theorem gj.of{nb:Nat}(a:bl w ob h w' ay h'):gj nb w ob h w' ay h':=fH.of a
theorem fH.trans{X l:Nat->Prop}{nb:Nat}{f:Wd}{c:Tr au}{g:AHeap}(a:fH X nb w ob h w' ay h')(b:fH l nb w' ay h' f c g)(j:∀o,l o->o<h.next->¬Ow w ob o->X o):fH X nb w ob h f c g where
 le:=a.le.trans b.le
 s:=λi k hi e=>b.s i k hi (a.s i k hi e)
 next:=Nat.le_trans a.next b.next
 floor:=b.floor.trans a.floor
 cb:=λo h1 h2 hx=>by rw[b.cb o (Nat.lt_of_lt_of_le h1 a.next) (λh3=>(a.own o h3).elim (λh4=>absurd h1 (by omega)) h2) λe=>hx (j o e h1 h2)];exact a.cb o h1 h2 hx
 own:=λo e=>by
  rcases b.own o e with h1|h1
  .exact .inl (Nat.le_trans a.next h1)
  .exact a.own o h1
 F:=λo e=>by
  rcases b.F o e with h1|h1|h1
  .exact a.F o h1
  .exact .inr (.inl (Nat.le_trans a.next h1))
  .exact .inr (a.own o h1)
 wr:=λo e=>by
  rcases Nat.lt_or_ge o h.next with q|q
  .by_cases h2:Ow w ob o
   .exact .inr (.inr (.inl h2))
   .by_cases h3:X o
    .exact .inr (.inr (.inr (.inr h3)))
    .rcases b.wr o e with h1|h1|h1|h1|h1
     .exact a.wr o h1
     .exact absurd (Nat.le_trans a.next h1) (by omega)
     .exact .inr ((a.own o h1).imp id .inl)
     .obtain⟨x,n,m⟩:=h1;exact .inr (.inr (.inr (.inl ⟨x,by rw[<-a.cb o q h2 h3];exact n,m⟩)))
     .exact absurd (j o h1 q h2) h3
  .exact .inr (.inl q)
 et:=λe=>b.et (a.et e);bx:=λi t cs hi e=>let⟨u,p⟩:=a.bx i t cs hi e;b.bx i t u hi p
theorem gj.trans{nb:Nat}{f:Wd}{c:Tr au}{g:AHeap}(a:bl w ob h w' ay h')(b:gj nb w' ay h' f c g):gj nb w ob h f c g:=fH.trans (.of a) b λ_ e _ _=>e
theorem gj.NU{X:Nat->Prop}{nb:Nat}(a:gj nb w ob h w' ay h'):fH X nb w ob h w' ay h':=⟨a.le,a.s,a.next,a.floor,λo h1 h2 _=>a.cb o h1 h2 id,a.own,a.F,λo e=>(a.wr o e).imp id (.imp id (.imp id (.imp id False.elim))),a.et,a.bx⟩
theorem fH.Vz{X:Nat->Prop}{nb:Nat}(b:∀o,o<h.next->¬X o)(a:fH X nb w ob h w' ay h'):gj nb w ob h w' ay h':=
 ⟨a.le,a.s,a.next,a.floor,λo h1 h2 _=>a.cb o h1 h2 (b o h1),a.own,a.F,λo e=>by
  rcases Nat.lt_or_ge o h.next with q|q
  .exact(a.wr o e).imp id (.imp id (.imp id (.imp id (b o q))))
  .exact .inr (.inl q),a.et,a.bx⟩
theorem gj.xw{nb:Nat}(a:gj nb w ob h w' ay h'):∀o,XW h' o->o<h.next->¬Ow w ob o->XW h o:=λo e h1 h2=>⟨by rw[<-a.floor];exact e.1,by rw[<-a.cb o h1 h2 id];exact e.2⟩
def wP:List AV->AV|[y]=>y|ys=>.tuple ys
def qD(P:Program)(X:Nat->Prop)(w:Wd)(ob:Tr au)(nb:Nat)(h:AHeap)(ts:List TypeId)(aq:List Sh)(r:RT (bC aq))(v:AV)(h':AHeap):Prop:=∃w' ay bU vs ys,aj P w' ay bU h'/\fH X nb w ob h w' ay h'/\aC P w' vs ys/\v=wP ys/\nodup ((lj P ts vs++nh ay (upto nb)).flatMap nE)=true/\nH P ts vs=true/\bY P ay aq (lj P ts vs++nh ay (upto nb))=some r
abbrev eF(P:Program)(w:Wd)(ob:Tr au)(nb:Nat)(h:AHeap):=qD P (XW h) w ob nb h
theorem aj.MU(hs:aj P w ob nx h){i bU:Nat}{x:au}{k:Lk}(hg:w'.g=w.g)(hF:w'.F=w.F)(c:∀j,j≠i->w'.s j=w.s j)(n:w'.s i=some k)(hold:w.s i=none\/w.s i=some k)
 (D:¬live ob i)(m:∀o,k.obj=some o->¬Ow w ob o/\o<h.next)(hx:dn P w' h i x)(hi:i<bU)(M:nx<=bU):aj P w' (ob.put i x) bU h/\(∀j l,w.s j=some l->w'.s j=some l):=by
 have v:∀j l,w.s j=some l->w'.s j=some l:=by
  intro j l e
  by_cases z:j=i
  .subst z
   rcases hold with I|I
   .rw[I]at e;cases e
   .rw[I]at e;cases e;exact n
  .rw[c j z];exact e
 have q:∀j,live (ob.put i x) j->j=i\/(j≠i/\live ob j):=by
  rintro j⟨y,h1,h2⟩
  by_cases e:j=i
  .exact .inl e
  .rw[Tr.a8 _ _ e]at h1;exact .inr ⟨e,y,h1,h2⟩
 have p:∀j y,(ob.put i x).get j=some y->dn P w' h j y:=by
  intro j y e
  by_cases z:j=i
  .subst z;rw[Tr.bS]at e;cases e;exact hx
  .rw[Tr.a8 _ _ z]at e;exact(hs.jP e).move (.imp hg (λo f=>by rw[hF];exact f)) v λ_ _ _ _=>⟨rfl,λf=>by rw[hF]at f;exact f⟩
 refine⟨⟨λo=>by rw[hg];exact hs.g o,λi t cs e=>p i _ e,λi t rows l e=>p i _ e,λi s l e=>p i _ e,?_,?_,?_,λo f=>hs.cW o (by rw[hF]at f;exact f),hs.new⟩,v⟩
 .intro a b C K o h1 h2 h3 h4 G E
  rcases q a h1 with B|⟨B,L⟩
  .rcases q b h2 with u|⟨u,J⟩
   .rw[B,u]
   .subst B;rw[n]at h3;cases h3;rw[c b u]at h4;exact absurd ⟨b,K,J,h4,E⟩ (m o G).1
  .rcases q b h2 with u|⟨u,J⟩
   .subst u;rw[n]at h4;cases h4;rw[c a B]at h3;exact absurd ⟨a,C,L,h3,G⟩ (m o E).1
   .rw[c a B]at h3;rw[c b u]at h4;exact hs.inj a b C K o L J h3 h4 G E
 .intro a C o h1 h2
  by_cases e:a=i
  .subst e;rw[n]at h1;cases h1;exact(m o h2).2
  .rw[c a e]at h1;exact hs.lt a C o h1 h2
 .intro a ha
  have e:a≠i:=by omega
  rw[c a e,Tr.a8 _ _ e];exact hs.nx a (by omega)
theorem aj.congr(hs:aj P w ob nx h)(f:∀i,ay.get i=ob.get i):aj P w ay nx h:=by have c:∀j,live ay j->live ob j:=λj⟨y,a,b⟩=>⟨y,by rw[<-f];exact a,b⟩;exact⟨hs.g,λi t cs e=>hs.box i t cs (by rw[<-f];exact e),λi t rows l e=>hs.arr i t rows l (by rw[<-f];exact e),λi s l e=>hs.aK i s l (by rw[<-f];exact e),λa b k l o h1 h2=>hs.inj a b k l o (c _ h1) (c _ h2),hs.lt,λj hj=>by rw[f];exact hs.nx j hj,hs.cW,hs.new⟩
theorem pP(j:Nat):∀(L:List Nat)(ob:Tr au),(hQ ob L).get j=if j∈L then some .gone else ob.get j
 |[],ob=>by simp[hQ]
 |i::is,ob=>by
  simp only[hQ]
  rw[pP j is]
  by_cases h1:j∈is
  .rw[if_pos h1,if_pos (by simp[h1])]
  .rw[if_neg h1]
   by_cases h2:j=i
   .subst h2;rw[Tr.bS,if_pos (by simp)]
   .rw[Tr.a8 _ _ h2,if_neg (by simp[h1,h2])]
theorem Uf{wE:Wd}{L:List Nat}{u:Tr au}{v:Nat}(hs:aj P w ob nx h)(D:aj P wE u v h')(z:h.next<=h'.next)
 (n:∀o,o<h.next->¬Ow (w.sub L) (bJ (bZ ob L L) 0 .leaf) o->h'.get o=h.get o)(B:bA w wE)(hF:∀o,wE.F o->w.F o\/h.next<=o\/Ow (w.sub L) (bJ (bZ ob L L) 0 .leaf) o)(hL:∀j,j∈L->j<nx):
 aj P {g:=h'.get,F:=wE.F,s:=w.s} (hQ ob L) nx h':=by
 have m:∀j,live (hQ ob L) j->j∉L/\live ob j:=by
  rintro j⟨y,h1,h2⟩
  rw[pP]at h1
  split at h1
  .cases h1;exact absurd rfl h2
  .rename_i hj;exact⟨hj,y,h1,h2⟩
 have q:∀j,j∉L->live ob j->∀k o,w.s j=some k->k.obj=some o->¬Ow (w.sub L) (bJ (bZ ob L L) 0 .leaf) o:=by intro j hj hl k o h1 h2 how;obtain⟨a,i,I,p,M,K,J⟩:=Ow.sub how;have:=hs.inj i j I k o M hl K h1 J h2;subst this;exact hj (List.mem_of_getElem? p)
 have C:wE.g=h'.get:=funext D.g
 have c:∀j y,(hQ ob L).get j=some y->dn P {g:=h'.get,F:=wE.F,s:=w.s} h' j y:=by
  intro j y e
  cases y with
  |gone=>trivial
  |_=>
   obtain⟨E,G⟩:=m j ⟨_,e,by simp⟩
   rw[pP,if_neg E]at e
   refine(hs.jP e).move (B.trans (.imp (by rw[C]) λ_ f=>f)) (λ_ _ e=>e) λk o h1 h2=>⟨n o (hs.lt j k o h1 h2) (q j E G k o h1 h2),λf=>?_⟩
   rcases hF o f with p|p|p
   .exact p
   .have:=hs.lt j k o h1 h2;omega
   .exact absurd p (q j E G k o h1 h2)
 refine⟨λ_=>rfl,λi t cs e=>c i _ e,λi t rows l e=>c i _ e,λi s l e=>c i _ e,λa b k l o h1 h2=>hs.inj a b k l o (m a h1).2 (m b h2).2,λi k o h1 h2=>Nat.lt_of_lt_of_le (hs.lt i k o h1 h2) z,?_,D.cW,D.new⟩;intro a ha;refine⟨(hs.nx a ha).1,?_⟩;rw[pP,if_neg λe=>absurd (hL a e) (by omega)];exact(hs.nx a ha).2
def ir:List Sh->List SV->List SV|.dl _::ss,v::vs=>v::ir ss vs|_::ss,_::vs=>ir ss vs|_,_=>[]
theorem DX:∀{ss:List Sh}{vs:List SV}{v:SV},v∈ir ss vs->v∈vs|[],vs,v,h=>by cases vs<;>simp[ir]at h|s::ss,[],v,h=>by simp[ir]at h|s::ss,u::vs,v,h=>by cases s<;>simp only[ir]at h<;>first
 |exact List.mem_cons_of_mem _ (DX h)
 |(rcases List.mem_cons.1 h with rfl|h
   .exact List.mem_cons_self ..
   .exact List.mem_cons_of_mem _ (DX h))
theorem xM:∀{vs:List SV}{ob:Tr au}{j:Nat},SV.own j∉vs->(cv ob vs).get j=ob.get j
 |[],_,_,_=>rfl
 |v::vs,ob,j,h=>by
  simp only[List.mem_cons,not_or]at h
  unfold cv
  split
  .rename_i e;cases e
  .rename_i i b e
   simp only[List.cons.injEq]at e
   obtain⟨rfl,rfl⟩:=e
   split
   .rw[xM h.2,Tr.a8];rintro rfl;exact h.1 rfl
   .exact xM h.2
  .rename_i e;simp only[List.cons.injEq]at e;obtain⟨_,rfl⟩:=e;exact xM h.2
theorem ads{v u:SV}(h:eqv v u=true):v=u:=by unfold eqv at h;split at h<;>first|rfl|(cases h;done)|(simp only[aX]at h;rw[Nat.eq_of_beq_eq_true h.1,Nat.eq_of_beq_eq_true h.2])|rw[Nat.eq_of_beq_eq_true h]
theorem DY{v u:SV}{y:AV}{L:List Nat}(h:eqv v u=true)(hL:∀i j k,L[i]?=some j->w.s i=some k->w'.s j=some k)(hy:RV P w v y):RV P w' (qj L u) y:=by
 unfold eqv at h
 split at h
 .simp only[aX]at h
  have b:=Nat.eq_of_beq_eq_true h.1
  have c:=Nat.eq_of_beq_eq_true h.2
  subst b;subst c
  simp only[qj]
  cases hy with
  |ref e=>
   split
   .rename_i j hj;exact .ref (hL _ _ _ hj e)
   .exact .aO _
 .have b:=Nat.eq_of_beq_eq_true h;subst b;cases hy with|fn a=>cases a;exact .fn .nil|iP=>exact .iP
 .cases hy;exact .sc rfl
 .cases hy;exact .sc rfl
 .cases hy;exact .sc rfl
 .exact .aO _
 .cases h
end
end Go.AI
end
