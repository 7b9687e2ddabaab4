/-
  A part of the proof: Q21 Q22 Q19 Q20.
-/
import Derived.Test.YtidicphjlgjajaaGreatDoorQa
import Derived.Test.YtidicphjlgjajaaGreatDoorPb
import Derived.Test.YtidicphjlgjajaaGreatDoorPa
import Derived.Test.YtidicphjlgjajaaGreatDoorQb
import Derived.Test.YtidicphjlgjajaaGreatDoorQc
import Derived.Test.YtidicphjlgjajaaGreatDoorPt
set_option linter.all false

section
namespace Go.AI
open Go
def rS(l:List UInt8):List AV:=[.sc (.string (bs l))]
section
open Lib
theorem uu{s p:List UInt8}(h:index s p=-1):split s p=[s]:=by unfold split;rw[count_miss h];rfl
theorem uz{s p:List UInt8}{i:Nat}(hp:p≠[])(h:index s p=i):split s p=s.take i::split (s.drop (i+p.length)) p:=by unfold split;rw[count_hit hp h,Nat.add_comm];show(if index s p==-1 then _ else _)=_;rw[if_neg (by intro e;have:=beq_iff_eq.1 e;omega),h];rfl
end
theorem Av{s:ByteArray}{a b:Nat}:s.extract a b=bs ((s.data.toList.drop a).take (b-a)):=ByteArray.ext (Array.ext' (by rw[iw]))
theorem adF(s:ByteArray):bs s.data.toList=s:=rfl
theorem Aw{s p:ByteArray}(hs:s.size<=1000000)(hp:1<=p.size)(o:p.size<=1000000):Ev (λn=>re n s p) (splitB s p):=by
 have hl:=bV s
 have b:=bV p
 have k:p.data.toList≠[]:=λe=>by rw[e]at b;simp at b;omega
 have go:∀(d a i:Nat)(out:Rows),s.size-i=d->a<=i->i<=s.size->out.length<=a->(∀j,j<i-a->Lib.occAt (s.data.toList.drop a) p.data.toList j=false)->
  Ev (λn=>vB n s p (a:Int) (i:Int) out) (out++(Lib.split (s.data.toList.drop a) p.data.toList).map rS):=by
  intro d
  induction d using Nat.strongRecOn with
  |ind d ih=>
   intro a i out hd ha hi ho f
   have w:∀x:Nat,x<=3000000->IntKind.i64.wrap (x:Int)=x:=λx hx=>by rw[IntWalk.i64_in _ (by omega)]
   have q:IntKind.i64.wrap ((i:Int)+(p.size:Int))=((i+p.size:Nat):Int):=by rw[show(i:Int)+(p.size:Int)=((i+p.size:Nat):Int)by omega];exact w _ (by omega)
   refine .step (λn=>UH n _ _ _ _ _) ?_
   rw[q]
   have g:(s.data.toList.drop a).length=s.size-a:=by rw[List.length_drop,hl]
   by_cases hr:i+p.size<=s.size
   .refine .pos (ax (by omega)) (.cn (by omega) ?_)
    simp only[Int.toNat_natCast]
    have c:Lib.occAt (s.data.toList.drop a) p.data.toList (i-a)=ao (s.extract i (i+p.size)) p:=by rw[Lib.occAt_iff_take _ _ _ (by rw[g,b];omega),List.drop_drop,show a+(i-a)=i by omega,fh,Av,b,show i+p.size-i=p.size by omega];rw[Bool.eq_iff_iff,beq_iff_eq,decide_eq_true_iff];exact⟨λh=>by rw[h],λh=>congrArg (λx=>x.data.toList) h⟩
    cases hb:ao (s.extract i (i+p.size)) p with
    |false=>
     refine .pos rfl ?_
     rw[show IntKind.i64.wrap ((i:Int)+1)=((i+1:Nat):Int)from w (i+1) (by omega)]
     refine ih (s.size-(i+1)) (by omega) a (i+1) out rfl (by omega) (by omega) ho λj hj=>?_
     by_cases e:j=i-a
     .rw[e,c,hb]
     .exact f j (by omega)
    |true=>
     refine .neg rfl (.cn (by omega) (.fits (by simp only[List.length_singleton];omega) ?_))
     have l:=Lib.index_first (i:=i-a) (by rw[g];omega) (by rw[c,hb]) f
     rw[uz k l,List.drop_drop,b,show a+(i-a+p.size)=i+p.size by omega]
     have:=ih (s.size-(i+p.size)) (by omega) (i+p.size) (i+p.size) (out++[rS ((s.data.toList.drop a).take (i-a))]) rfl (ak _) hr (by rw[List.length_append,List.length_singleton];omega) λj hj=>by omega
     rw[List.append_assoc]at this;simp only[Int.toNat_natCast,Av];exact this
   .refine .neg (aH (by omega)) (.cn (by omega) (.fits (by simp only[List.length_singleton];omega) ?_))
    rw[uu (Lib.index_none λj hj=>?_)]
    .simp only[Int.toNat_natCast,Av];rw[List.take_of_length_le (by rw[List.length_drop,hl];omega)];exact .ret _
    .by_cases e:j<i-a
     .exact f j e
     .cases m:Lib.occAt (s.data.toList.drop a) p.data.toList j with
      |false=>rfl
      |true=>
       rcases Lib.occAt_room m with h|h
       .rw[g,b]at h;omega
       .exact absurd h k
 exact .step (λn=>XH n _ _) (go _ 0 0 [] rfl (ak _) (Nat.zero_le _) (ak _) λj hj=>by omega)
theorem I3:∀(l m:List UInt8)(a:Nat),ef (l++m) a=(ef l a).bind (ef m)
 |[],_,_=>rfl
 |c::l,m,a=>by
  simp only[List.cons_append,ef]
  split
  .exact I3 l m _
  .rfl
theorem Dh(u:Nat):ef (Lib.decDigits u) 0=some u:=by
 induction u using Nat.strongRecOn with
 |ind u ih=>
  have hd:∀k,k<10->(UInt8.ofNat (48+k)).toNat=48+k:=λk hk=>by show(48+k)%256=_;omega
  have one:∀k a,k<10->ef [UInt8.ofNat (48+k)] a=some (10*a+k):=λk a hk=>by simp only[ef,hd k hk,(lZ _).2 (by rw[hd k hk];omega),if_true];rw[show fi ((48+k:Nat):Int)=true by simp only[fi,aX,decide_eq_true_eq];omega];simp only[if_true,ab];omega
  by_cases h:u<10
  .rw[Lib.decDigits_one h,one u 0 h];simp
  .rw[Lib.decDigits,dif_neg h,I3,ih (u/10) (by omega)];show ef _ _=_;rw[one _ _ (by omega)];congr 1;omega
theorem sv{u:Nat}(h:u<=9223372036854775808):(Lib.decDigits u).length<=19:=by
 rw[Lib.decDigits_length];exact xU 18 u (by have:(10:Nat)^(18+1)=10000000000000000000:=by decide
                                            omega)
theorem LI(u:Nat):Lib.decDigits u≠[]:=λe=>by have:=Lib.decDigits_length u;have h2:=Lib.nDigits_pos u;rw[e]at this;simp at this;omega
theorem FX:∀(N m:Nat),m<N->m<=9223372036854775807->Ev (λl=>kO l (m:Int)) (bs (Lib.decDigits m))
 |0,_,h,_=>by omega
 |N+1,m,g,hm=>by
  refine .step (λl=>As l _) (.neg (by rw[beq_eq_false_iff_ne];omega) (.neg (aH (by omega)) ?_))
  have b:∀k:Nat,k<100->IntKind.u8.wrap (IntKind.i64.wrap (48+(k:Int)))=((48+k:Nat):Int):=by intro k hk;rw[IntWalk.i64_in _ (by omega),show((48:Int)+(k:Int))=((48+k:Nat):Int)by omega];show((48+k:Nat):Int)%256=_;omega
  by_cases h:m<10
  .refine .pos (by simp;omega) (.jH (b m (by omega)) (by omega) ?_);rw[Lib.decDigits_one h];exact .ret _
  .refine .neg (by simp;omega) ?_
   have f:IntKind.i64.wrap (Int.tdiv (m:Int) 10)=((m/10:Nat):Int):=by rw[show Int.tdiv (m:Int) 10=((m/10:Nat):Int)by rw[Int.tdiv_eq_ediv_of_nonneg (by omega)];omega,IntWalk.i64_in _ (by omega)]
   have e:Int.tmod (m:Int) 10=((m%10:Nat):Int):=by rw[Int.tmod_eq_emod_of_nonneg (by omega)];omega
   rw[f,e]
   have hs:=sv (u:=m/10) (by omega)
   refine .ask (FX N (m/10) (by omega) (by omega)) (.jH (b _ (by omega)) (by omega) (.ai (by simp only[ba,aN,List.length_nil];omega) ?_))
   have:bs (Lib.decDigits (m/10))++bs [UInt8.ofNat (48+m%10)]=bs (Lib.decDigits m):=by
    have c:Lib.decDigits m=Lib.decDigits (m/10)++[UInt8.ofNat (48+m%10)]:=by conv=>lhs;rw[Lib.decDigits,dif_neg h]
    rw[c];exact ByteArray.ext (Array.ext' (by simp))
   rw[this];exact .ret _
abbrev cX(n:Int):Prop:=-9223372036854775808<=n/\n<=9223372036854775807
theorem Ax{n:Int}(h:cX n):Ev (λl=>kO l n) (aY n):=by
 unfold aY Lib.itoa
 by_cases h0:n<0
 .rw[if_pos h0]
  by_cases hm:n=-9223372036854775808
  .subst hm
   refine .step (λl=>As l _) (.pos rfl (.c7 ?_))
   have:Lib.decDigits 9223372036854775808=[57,50,50,51,51,55,50,48,51,54,56,53,52,55,55,53,56,48,56]:=by rw[Lib.decDigits_eq,Lib.nDigits_unique 18 _ (by decide) (by decide)];decide
   rw[show(-9223372036854775808:Int).natAbs=9223372036854775808 from rfl,this]
  .obtain⟨m,b⟩:∃m:Nat,n=-(m:Int):=⟨n.natAbs,by omega⟩;subst b;refine .step (λl=>As l _) (.neg (beq_eq_false_iff_ne.2 hm) (.pos (ax h0) ?_));rw[show(0:Int)- -(m:Int)=m by omega,IntWalk.i64_in _ (by omega),show(-(m:Int)).natAbs=m by omega];refine .ask (FX _ m (Nat.lt_succ_self _) (by omega)) (.ai (by have:=sv (u:=m) (by omega);simp only[ba,aN,List.length_nil];omega) (.c7 ?_));exact ByteArray.ext (Array.ext' (by simp))
 .rw[if_neg h0];obtain⟨m,rfl⟩:∃m:Nat,n=(m:Int):=⟨n.toNat,by omega⟩;exact FX _ m (Nat.lt_succ_self _) (by omega)
theorem I4{c:UInt8}{u:Nat}{r:List UInt8}(h:Lib.decDigits u=c::r):48<=c.toNat/\c.toNat<=57:=by
 have:=Dh u
 rw[h]at this
 simp only[ef]at this
 split at this
 .rename_i hc;exact(lZ c).1 hc
 .cases this
theorem xV{n:Int}(h:cX n):Lib.atoiAll (Lib.itoa n)=.ok n:=by
 unfold Lib.itoa
 have key:∀u:Nat,u<=9223372036854775808->Lib.parseMag (Lib.decDigits u)=.ok u:=λu b=>by unfold Lib.parseMag;rw[if_neg (LI u),CQ (Dh u) (by omega)]
 by_cases h0:n<0
 .rw[if_pos h0];unfold Lib.atoiAll;simp only[show(45:UInt8).toNat=45 from rfl,or_true,if_true];rw[key _ (by omega)];simp only[not_true,false_and,if_false,true_and];rw[if_neg (by omega)];congr 1;omega
 .rw[if_neg h0];have hk:=key n.toNat (by omega);cases hd:Lib.decDigits n.toNat with|nil=>exact absurd hd (LI _)|cons c r=>rw[hd]at hk;have:=I4 hd;unfold Lib.atoiAll;simp only[show¬c.toNat=43 by omega,show¬c.toNat=45 by omega,or_self,if_false];rw[hk];simp only[not_false_eq_true,true_and,false_and,if_false];rw[if_neg (by omega)];congr 1;omega
def kR:List UInt8->Int->Option Int|[],a=>some a|c::r,a=>match fi (c.toNat:Int)with|true=>kR r (IntKind.i64.wrap (IntKind.i64.wrap (10*a)-((c.toNat:Int)-48)))|false=>none
theorem H9:∀(l:List UInt8)(a u:Nat),ef l a=some u->u<=9223372036854775808->kR l (-(a:Int))=some (-(u:Int))
 |[],a,u,h,_=>by simp only[ef,ab]at h;subst h;rfl
 |c::r,a,u,h,b=>by
  simp only[ef]at h
  split at h
  .rename_i hc;have e:=(lZ c).1 hc;have h1:=yN h;have h2:1<=10^r.length:=Nat.one_le_pow _ _ (by omega);have h3:(10*a+(c.toNat-48))*1<=(10*a+(c.toNat-48))*10^r.length:=Nat.mul_le_mul_left _ h2;unfold kR;rw[hc];show kR r _=_;rw[IntWalk.i64_in (10*-(a:Int)) (by omega),IntWalk.i64_in _ (by omega),show 10*-(a:Int)-((c.toNat:Int)-48)=-((10*a+(c.toNat-48):Nat):Int)by omega];exact H9 r _ u h b
  .cases h
theorem Ay(x:Int):cX (IntKind.i64.wrap x):=by show _<=_/\_<=_;rw[IntKind.wrap_i64];omega
theorem Sl:∀(l:List UInt8)(a v:Int),cX a->kR l a=some v->cX v
 |[],a,v,h,e=>by cases e;exact h
 |c::r,a,v,h,e=>by
  unfold kR at e
  split at e
  .exact Sl r _ v (Ay _) e
  .cases e
theorem Sm{s w:ByteArray}(hw:w.size<=19)(l:w=s\/w≠s):∀(d i:Nat)(a:Int),w.size-i=d->i<=w.size->cX a->
 ∃v b,Ev (λn=>zg n s w a (i:Int)) (v,b)/\(b=true->cX v/\aY v=s)/\∀x,kR (w.data.toList.drop i) a=some x->aY (if w=s then IntKind.i64.wrap (0-x)else x)=s->b=true:=by
 intro d
 induction d with
 |zero=>
  intro i a hd hi ha
  have f:w.data.toList.drop i=[]:=List.drop_eq_nil_of_le (by rw[bV];omega)
  have fin:∀y:Int,cX y->Ev (λn=>yG n s y) (y,ao (aY y) s):=λy hy=>.step (λn=>RY n _ _) (.ask (Ax hy) (.ret _))
  by_cases e:w=s
  .refine⟨_,_,.step (λn=>yJ n _ _ _ _) (.neg (aH (by omega)) (.pos (by rw[e];exact gQ.2 rfl) (fin _ (Ay _)))),λh=>⟨Ay _,gQ.1 h⟩,λx hx h=>?_⟩;rw[f]at hx;cases hx;rw[if_pos e]at h;exact gQ.2 h
  .refine⟨_,_,.step (λn=>yJ n _ _ _ _) (.neg (aH (by omega)) (.neg (by rw[fh];exact aH e) (fin _ ha))),λh=>⟨ha,gQ.1 h⟩,λx hx h=>?_⟩;rw[f]at hx;cases hx;rw[if_neg e]at h;exact gQ.2 h
 |succ d ih=>
  intro i a hd hi ha
  have j:i<w.data.toList.length:=by rw[bV];omega
  have hx:=List.getElem?_eq_getElem j
  have g:=List.drop_eq_getElem_cons j
  generalize w.data.toList[i]=c at hx g
  cases hc:fi (c.toNat:Int)with
  |false=>
   refine⟨0,false,.step (λn=>yJ n _ _ _ _) (.pos (ax (by omega)) (.aV rfl hx ?_)),(λh=>nomatch h),λx h=>?_⟩
   .by_cases k:(c.toNat:Int)<48
    .exact .pos (ax k) (.ret _)
    .refine .neg (aH k) (.aV rfl hx (.pos (ax ?_) (.ret _)))
     have:¬(48<=c.toNat/\c.toNat<=57):=λh=>by rw[(lZ c).2 h]at hc;cases hc
     omega
   .rw[g]at h;unfold kR at h;rw[hc]at h;cases h
  |true=>
   have m:=(lZ c).1 hc
   have o:IntKind.i64.wrap (IntKind.u8.wrap ((c.toNat:Int)-48))=(c.toNat:Int)-48:=by rw[show IntKind.u8.wrap ((c.toNat:Int)-48)=(c.toNat:Int)-48 by show((c.toNat:Int)-48)%256=_;omega,IntWalk.i64_in _ (by omega)]
   obtain⟨v,b,h1,h2,h3⟩:=ih (i+1) (IntKind.i64.wrap (IntKind.i64.wrap (10*a)-((c.toNat:Int)-48))) (by omega) (by omega) (Ay _)
   refine⟨v,b,.step (λn=>yJ n _ _ _ _) (.pos (ax (by omega)) (.aV rfl hx (.neg (aH (by omega)) (.aV rfl hx (.neg (aH (by omega)) (.aV rfl hx ?_)))))),h2,λx h=>h3 x ?_⟩
   .rw[o,IntWalk.i64_in ((i:Int)+1) (by omega)];exact h1
   .rw[g]at h;unfold kR at h;rw[hc]at h;exact h
theorem NI(s:ByteArray)(hs:s.size<=1000000):∃v b,Ev (λn=>kZ n s) (v,b)/\(b=true->cX v/\aY v=s)/\∀x,cX x->aY x=s->b=true:=by
 have aS:sI s=true:=ax (by omega)
 have e:∀x,cX x->aY x=s->Lib.atoiAll s.data.toList=.ok x:=λx hx h=>by rw[<-h];exact xV hx
 cases h:Lib.atoiAll s.data.toList with
 |ok v=>
  have hr:cX v:=by
   unfold Lib.atoiAll at h
   split at h
   .cases h
   .dsimp only at h
    split at h
    .cases h
    .cases h
    .split at h
     .cases h
     .split at h
      .cases h
      .injection h with h;split at h<;>(show _<=_/\_<=_;omega)
  have f:gR s=false:=by unfold gR;rw[h]
  have g:fp s=v:=by unfold fp;rw[h]
  refine⟨v,ao (aY v) s,.step (λn=>NC n _) (.pos aS (.pos (by rw[f];rfl) (by rw[g];exact .pos (ax hr) (.ret _)))),λhb=>⟨hr,gQ.1 hb⟩,λx hx c=>?_⟩;have:=e x hx c;rw[h]at this;injection this with this;rw[this];exact gQ.2 c
 |_=>
  have f:gR s=true:=by unfold gR;rw[h]
  exact⟨_,false,.step (λn=>NC n _) (.pos aS (.neg (by rw[f];rfl) (.ret _))),(λh=>nomatch h),λx hx c=>by have:=e x hx c;rw[h]at this;cases this⟩
theorem Z2(s:ByteArray)(hs:s.size<=1000000):∃v b,Ev (λn=>lL n s) (v,b)/\(b=true->cX v/\aY v=s)/\∀x,cX x->aY x=s->b=true:=by
 have g:∀w:ByteArray,(∀x,cX x->aY x=s->1<=w.size/\w.size<=19/\∃y,kR w.data.toList 0=some y/\(if w=s then IntKind.i64.wrap (0-y)else y)=x)->
  ∃v b,Ev (λn=>vh n s w) (v,b)/\(b=true->cX v/\aY v=s)/\∀x,cX x->aY x=s->b=true:=λw hw=>by
  by_cases h1:w.size<1
  .exact⟨0,false,.step (λn=>DD n _ _) (.pos (ax (by omega)) (.ret _)),(λh=>nomatch h),λx hx h=>by have:=(hw x hx h).1;omega⟩
  .by_cases h2:w.size>19
   .exact⟨0,false,.step (λn=>DD n _ _) (.neg (aH (by omega)) (.pos (ax (by omega)) (.ret _))),(λh=>nomatch h),λx hx h=>by have:=(hw x hx h).2.1;omega⟩
   .obtain⟨v,b,q1,q2,q3⟩:=Sm (s:=s) (w:=w) (by omega) (Decidable.em _) _ 0 0 rfl (Nat.zero_le _) (by decide);exact⟨v,b,.step (λn=>DD n _ _) (.neg (aH (by omega)) (.neg (aH (by omega)) q1)),q2,λx hx h=>by obtain⟨_,_,y,h3,h4⟩:=hw x hx h;exact q3 y h3 (by rw[h4];exact h)⟩
 have hl:=bV s
 have k:∀u:Nat,u<=9223372036854775808->kR (Lib.decDigits u) 0=some (-(u:Int)):=λu p=>H9 _ 0 u (Dh u) p
 have h1:∀u:Nat,1<=(Lib.decDigits u).length:=λu=>by rw[Lib.decDigits_length];exact Lib.nDigits_pos u
 have pos:∀x,cX x->aY x=s->(s.data.toList.head?≠some 45)->1<=s.size/\s.size<=19/\∃y,kR s.data.toList 0=some y/\(if s=s then IntKind.i64.wrap (0-y)else y)=x:=λx hx h t=>by
  subst h
  have h0:¬x<0:=λh0=>t (by unfold aY Lib.itoa;rw[if_pos h0];rfl)
  obtain⟨u,rfl⟩:∃u:Nat,x=(u:Int):=⟨x.toNat,by omega⟩
  have e:aY (u:Int)=bs (Lib.decDigits u):=by unfold aY Lib.itoa;rw[if_neg h0,Int.toNat_natCast]
  have l:(u:Int)<=9223372036854775807:=hx.2;rw[e,ba];exact⟨h1 u,sv (by omega),-(u:Int),k u (by omega),by rw[if_pos rfl,show(0:Int)- -(u:Int)=u by omega,IntWalk.i64_in _ (by omega)]⟩
 refine Exists.imp (λv=>Exists.imp λb=>And.imp_left (.step (λn=>WA n _))) ?_
 cases hd:s.data.toList with
 |nil=>
  have h0:s.size=0:=by rw[<-hl,hd];rfl
  obtain⟨v,b,q1,q2,q3⟩:=g s λx hx h=>pos x hx h (by rw[hd];simp);exact⟨v,b,.neg (aH (by omega)) q1,q2,q3⟩
 |cons c r=>
  have h0:0<s.size:=by rw[<-hl,hd];simp
  have hg:s.data.toList[0]?=some c:=by rw[hd];rfl
  by_cases hc:c.toNat=45
  .have j:c=45:=UInt8.toNat_inj.1 hc
   subst j
   have i:s.extract 1 s.size≠s:=λe=>by have h2:=congrArg (λx=>x.data.toList.length) e;simp only[iw,List.length_take,List.length_drop,bV]at h2;omega
   obtain⟨v,b,q1,q2,q3⟩:=g (s.extract 1 s.size) λx hx h=>by
    have f:x<0:=by
     rcases Int.lt_or_le x 0 with q|q
     .exact q
     .subst h;unfold aY Lib.itoa at hd;rw[if_neg (by omega)]at hd;have:=I4 hd;exact absurd this (by decide)
    obtain⟨u,rfl⟩:∃u:Nat,x=-(u:Int):=⟨x.natAbs,by omega⟩
    have o:-9223372036854775808<=-(u:Int):=hx.1
    have e:(s.extract 1 s.size)=bs (Lib.decDigits u):=by rw[Av,<-hl,hd];subst h;unfold aY Lib.itoa at hd;rw[if_pos f]at hd;injection hd with _ hd;rw[<-hd,show(-(u:Int)).natAbs=u by omega];simp
    exact⟨by rw[e,ba];exact h1 u,by rw[e,ba];exact sv (by omega),-(u:Int),by rw[e];exact k u (by omega),if_neg i⟩
   exact⟨v,b,.pos (ax (by omega)) (.aV (m:=0) rfl hg (.pos rfl (.cn (by omega) q1))),q2,q3⟩
  .obtain⟨v,b,q1,q2,q3⟩:=g s λx hx h=>pos x hx h (by rw[hd];intro e;injection e with e;exact hc (by rw[e];rfl));exact⟨v,b,.pos (ax (by omega)) (.aV (m:=0) rfl hg (.neg (beq_eq_false_iff_ne.2 (by omega)) q1)),q2,q3⟩
theorem num(s:ByteArray)(hs:s.size<=1000000):(∃v,cX v/\aY v=s/\Ev (λn=>kZ n s) (v,true)/\Ev (λn=>lL n s) (v,true))\/((∃v,Ev (λn=>kZ n s) (v,false))/\∃v,Ev (λn=>lL n s) (v,false)):=by
 obtain⟨v,b,h1,h2,h3⟩:=NI s hs
 obtain⟨w,c,k,j,l⟩:=Z2 s hs
 cases b with
 |true=>
  obtain⟨i,h⟩:=h2 rfl
  have:=l v i h
  subst this
  obtain⟨g,f⟩:=j rfl
  have e:v=w:=by have:=xV i;have h4:Lib.itoa v=Lib.itoa w:=congrArg (λx=>x.data.toList) (h.trans f.symm);rw[h4,xV g]at this;injection this with this;exact this.symm
  subst e;exact .inl ⟨v,i,h,h1,k⟩|false=>cases c with|true=>obtain⟨g,f⟩:=j rfl;have:=h3 w g f;cases this|false=>exact .inr ⟨⟨v,h1⟩,w,k⟩
end Go.AI
end

section
namespace Go.AI
open Go
def ke(s:ByteArray):Option Int:=match Lib.atoiAll s.data.toList with|.ok v=>if aY v=s/\cX v then some v else none|_=>none
theorem yO{s:ByteArray}{v:Int}(h:ke s=some v):cX v/\aY v=s:=by
 unfold ke at h
 split at h
 .split at h
  .cases h;rename_i h;exact⟨h.2,h.1⟩
  .cases h
 .cases h
theorem TN{s:ByteArray}{v:Int}(h1:cX v)(h2:aY v=s):ke s=some v:=by
 unfold ke
 have:Lib.atoiAll s.data.toList=.ok v:=by rw[<-h2];exact xV h1
 rw[this];exact if_pos ⟨h2,h1⟩
theorem uV(s:ByteArray)(hs:s.size<=1000000):match ke s with
 |some v=>Ev (λn=>kZ n s) (v,true)/\Ev (λn=>lL n s) (v,true)
 |none=>(∃v,Ev (λn=>kZ n s) (v,false))/\∃v,Ev (λn=>lL n s) (v,false):=by
 rcases num s hs with⟨v,h1,h2,h3,h4⟩|h
 .rw[TN h1 h2];exact⟨h3,h4⟩
 .cases hn:ke s with|none=>exact h|some v=>obtain⟨h1,h2⟩:=yO hn;obtain⟨w,b,q1,_,q3⟩:=NI s hs;have:=q3 v h1 h2;subst this;obtain⟨⟨x,hx⟩,_⟩:=h;have:=Ev.xa q1 hx;cases this
theorem uA(s p:List UInt8):(Lib.split s p).length<=s.length+2:=by have:=Lib.splitB_length_le (bs p) 0 (Lib.count s p) (bs s);have h2:=congrArg List.length (Lib.splitB_data (bs p) 0 (Lib.count s p) (bs s));rw[List.length_map]at h2;have h3:=Lib.count_le s p;show(Lib.splitK p 0 (Lib.count s p) s).length<=_;rw[<-show _=(Lib.splitK p 0 (Lib.count s p) s).length from h2];omega
theorem xD{p:List UInt8}(hp:p≠[]):∀(k:Nat)(s:List UInt8),s.length<=k->∀x∈Lib.split s p,x.length<=s.length:=by
 intro k
 induction k using Nat.strongRecOn with
 |ind k ih=>
  intro s hk x hx
  rcases Lib.index_spec s p with⟨h,_⟩|⟨i,h,hi,ho,_⟩
  .rw[uu h]at hx;rw[List.mem_singleton.1 hx];exact ak _
  .rw[uz hp h]at hx
   have b:0<p.length:=List.length_pos_iff.2 hp
   rcases List.mem_cons.1 hx with rfl|hx
   .rw[List.length_take];omega
   .have hr:=Lib.occAt_room ho;have hr:=hr.resolve_right hp;have hl:(s.drop (i+p.length)).length=s.length-(i+p.length):=List.length_drop;have:=ih (s.drop (i+p.length)).length (by omega) _ (ak _) x hx;omega
theorem uv{s p:List UInt8}(hp:p≠[]):∃x l,Lib.split s p=x::l:=by
 rcases Lib.index_spec s p with⟨h,_⟩|⟨i,h,_⟩
 .exact⟨_,_,uu h⟩
 .exact⟨_,_,uz hp h⟩
def iR(v:Int):List AV:=[.sc (.int .i64 v)]
def lS:List (List UInt8)->Option (List Int)|[]=>some []|w::l=>match ke (bs w),lS l with|some v,some r=>some (v::r)|_,_=>none
theorem Kp:∀{l:List (List UInt8)}{r:List Int},lS l=some r->r.length=l.length
 |[],r,h=>by cases h;rfl
 |w::l,r,h=>by
  unfold lS at h
  split at h
  .rename_i h2;cases h;rw[aN,aN,Kp h2]
  .cases h
def pE(l:List (List UInt8))(acc:Rows):Rows×Bool:=match lS l with|some r=>(acc++r.map iR,true)|none=>([],false)
theorem DM{l:List (List UInt8)}(hl:l.length<=1000000)(hz:∀x∈l,x.length<=1000000){J:Nat->Int->Rows->Option (Rows×Bool)}{N:Nat->ByteArray->Option (Int×Bool)}
 (hJ:∀n i acc,J (n+1) i acc=aa (decide (i<((l.map rS).length:Int))) (ae (l.map rS) i λe=>ask (N n (gS e 0)) λb=>aa (!b.2) (some ([],false)) (fits (acc.length+([[.sc (.int .i64 b.1)]]:List (List AV)).length) 8 (J n (IntKind.i64.wrap (i+1)) (acc++[[.sc (.int .i64 b.1)]])))) (some (acc,true)))
 (c:∀s:ByteArray,s.size<=1000000->match ke s with|some v=>Ev (λn=>N n s) (v,true)|none=>∃v,Ev (λn=>N n s) (v,false)):∀(d i:Nat)(acc:Rows),l.length-i=d->acc.length<=i->Ev (λn=>J n (i:Int) acc) (pE (l.drop i) acc)
 |0,i,acc,hd,_=>by rw[List.drop_eq_nil_of_le (by omega)];refine .step (λn=>hJ n _ _) (.neg (aH (by rw[List.length_map];omega)) (.c7 ?_));show _=(acc++[],true);rw[List.append_nil]
 |d+1,i,acc,hd,ha=>by
  have hi:i<l.length:=by omega
  have hg:(l.map rS)[i]?=some (rS l[i]):=by rw[List.getElem?_map,List.getElem?_eq_getElem hi];rfl
  rw[List.drop_eq_getElem_cons hi];have hn:=c (bs l[i]) (by rw[ba];exact hz _ (List.getElem_mem hi));refine .step (λn=>hJ n _ _) (.pos (ax (by rw[List.length_map];omega)) (.ae rfl hg ?_));unfold pE lS;cases hv:ke (bs l[i])with|none=>rw[hv]at hn;obtain⟨v,hn⟩:=hn;exact .ask hn (.pos rfl (.ret _))|some v=>rw[hv]at hn;have ih:=DM hl hz hJ c d (i+1) (acc++[iR v]) (by omega) (by rw[List.length_append,List.length_singleton];omega);refine .ask hn (.neg rfl (.fits (by simp only[List.length_singleton];omega) ?_));rw[IntWalk.i64_in _ (by omega)];unfold pE at ih;cases hr:lS (l.drop (i+1))with|none=>rw[hr]at ih;exact ih|some r=>rw[hr]at ih;have ih:Ev (λn=>J n ((i+1:Nat):Int) (acc++[iR v])) ((acc++[iR v])++r.map iR,true):=ih;rw[List.append_assoc]at ih;exact ih
def wL(s p:ByteArray):Option (List Int):=lS (Lib.split s.data.toList p.data.toList)
theorem I5(s p:ByteArray)(hs:s.size<=500000)(hp:p.size=1):Ev (λn=>w7 n s p) (pE (Lib.split s.data.toList p.data.toList) [])/\Ev (λn=>wI n s p) (pE (Lib.split s.data.toList p.data.toList) []):=by
 have b:p.data.toList≠[]:=λe=>by rw[<-bV,e]at hp;cases hp
 have hl:=uA s.data.toList p.data.toList
 rw[bV]at hl
 have hz:∀x∈Lib.split s.data.toList p.data.toList,x.length<=1000000:=λx hx=>by have:=xD b _ _ (ak _) x hx;rw[bV]at this;omega
 constructor
 .refine .step (λn=>X1 n _ _) (.pos (ax (by omega)) ?_);exact DM (J:=λn i acc=>Af n (splitB s p) ((splitB s p).length:Int) i acc) (N:=kZ) (by omega) hz (λn i acc=>UT n _ _ _ _) (λs hs=>by have:=uV s hs;split at this<;>simp_all) _ 0 [] rfl (ak _)
 .refine .step (λn=>WU n _ _) (.ask (Aw (by omega) (by omega) (by omega)) ?_);exact DM (J:=λn i acc=>zk n (splitB s p) i acc) (N:=lL) (by omega) hz (λn i acc=>Ti n _ _ _) (λs hs=>by have:=uV s hs;split at this<;>simp_all) _ 0 [] rfl (ak _)
theorem TO(s:ByteArray)(hs:s.size<=1000000):Ev (λn=>BQ n s) (jy s):=by
 refine .step (λn=>X0 n _) (.ask (lx s) ?_)
 unfold jy
 cases bF s with
 |true=>exact .pos rfl (.ret _)
 |false=>
  refine .neg rfl ?_
  rw[Bool.false_or]
  by_cases h:0<s.size
  .refine .pos (ax (by omega)) ?_
   rw[CN (by omega) (by omega)]
   obtain⟨b,hb⟩:∃b,s.data.toList[s.size-1]?=some b:=⟨_,List.getElem?_eq_getElem (by rw[bV];omega)⟩
   have hl:s.data.toList.getLast?=some b:=by rw[List.getLast?_eq_getElem?,bV];exact hb
   refine .aV rfl hb (.ite (λh2=>?_) (λh2=>?_))
   .refine .cn ⟨by omega,by omega,by omega⟩ (.ask (lx _) ?_)
    have h3:fQ s=true:=by
     unfold fQ
     rw[hl]
     have:((b.toNat:Nat):Int)=39:=by simpa using h2
     have:b.toNat=39:=by omega
     show(b==39)=true;rw[beq_iff_eq];exact UInt8.toNat_inj.1 this
    have:eK s=bF (s.extract (0:Int).toNat ((s.size-1:Nat):Int).toNat):=by
     show eK s=bF (kQ s)
     unfold eK
     rw[h3,Bool.and_true]
     by_cases h1:1<s.size
     .rw[ax h1,Bool.true_and]
     .rw[aH h1,Bool.false_and];have:kQ s=bs []:=ByteArray.ext (Array.ext' (by unfold kQ;rw[iw,show s.size-1=0 by omega];rfl));rw[this];decide
    rw[this];exact .ret _
   .have:eK s=false:=by
     unfold eK fQ
     rw[hl]
     have h3:(b==39)=false:=by
      have:¬((b.toNat:Nat):Int)=39:=by simpa using h2
      rw[beq_eq_false_iff_ne];rintro rfl;exact this rfl
     simp[h3]
    rw[this];exact .ret _
  .have:eK s=false:=by unfold eK;rw[aH (show¬1<s.size by omega)];rfl
   rw[this];exact .neg (aH (by omega)) (.ret _)
abbrev Hd:=Int×Int×ByteArray
def gZ:List (List UInt8)->Hd×Rows×Rows->Option (Hd×Rows×Rows)|[],st=>some st|[_],_=>none|k::v::l,(h,p,q)=>match decide (bs k=bs [98]),decide (bs k=bs [110]),decide (bs k=bs [112]),decide (bs k=bs [107])with|true,_,_,_=>(match ke (bs v)with|some x=>gZ l ((h.1,x,h.2.2),p,q)|none=>none)|false,true,_,_=>(match jy (bs v)with|true=>gZ l ((h.1,h.2.1,bs v),p,q)|false=>none)|false,false,true,_=>(match wL (bs v) (bs [46])with|some x=>gZ l (h,x.map iR,q)|none=>none)|false,false,false,true=>(match wL (bs v) (bs [44])with|some x=>gZ l (h,p,x.map iR)|none=>none)|false,false,false,false=>none
theorem I6:∀{l:List (List UInt8)}{st r:Hd×Rows×Rows},gZ l st=some r->l.length%2=0
 |[],_,_,_=>rfl
 |[_],_,_,h=>by unfold gZ at h;cases h
 |k::v::l,(hd,p,q),r,h=>by
  have key:∀{st},gZ l st=some r->(k::v::l).length%2=0:=λh=>by have:=I6 h;simp only[aN];omega
  unfold gZ at h;repeat'(first|exact key h|(cases h;done)|split at h)
abbrev WR:=Int×Int×ByteArray×Rows×Rows×Rows×Bool
def Pw(C:Hd->Rows->Rows->Nat->Option WR)(X:Option (Hd×Rows×Rows))(F:Nat->Option WR):Prop:=match X with|some (h,p,q)=>∀v,Ev (C h p q) v->Ev F v|none=>∃v,Ev F v/\v.2.2.2.2.2.2=false
theorem Pw.imp{C:Hd->Rows->Rows->Nat->Option WR}{X:Option (Hd×Rows×Rows)}{F G:Nat->Option WR}(h:Pw C X G)(h1:∀v,Ev G v->Ev F v):Pw C X F:=by cases X with|none=>obtain⟨v,h2,h3⟩:=h;exact⟨v,h1 v h2,h3⟩|some X=>exactλv hv=>h1 v (h v hv)
theorem Kq{C:Hd->Rows->Rows->Nat->Option WR}{k v:List UInt8}{l:List (List UInt8)}{h:Hd}{p q:Rows}{K:Nat->Bool->Hd->Rows->Rows->Option WR}{N:Nat->ByteArray->Option (Int×Bool)}{M:Nat->ByteArray->Option Bool}{L:Nat->ByteArray->ByteArray->Option (Rows×Bool)}
 (hv:v.length<=500000)(g:∀s:ByteArray,s.size<=1000000->match ke s with|some v=>Ev (λn=>N n s) (v,true)|none=>∃v,Ev (λn=>N n s) (v,false))
 (i:∀s:ByteArray,s.size<=1000000->Ev (λn=>M n s) (jy s))
 (hL:∀s p:ByteArray,s.size<=500000->p.size=1->Ev (λn=>L n s p) (pE (Lib.split s.data.toList p.data.toList) []))
 (hb:∀h p q,Pw C none λn=>K n false h p q)(hg:∀h p q,Pw C (gZ l (h,p,q)) λn=>K n true h p q):
 Pw C (gZ (k::v::l) (h,p,q)) λn=>aa (ao (bs k) (bs [98])) (ask (N n (bs v)) λe=>K n e.2 (h.1,e.1,h.2.2) p q) (aa (ao (bs k) (bs [110])) (ask (M n (bs v)) λf=>K n f (h.1,h.2.1,bs v) p q) (aa (ao (bs k) (bs [112])) (ask (L n (bs v) (bs [46])) λc=>K n c.2 h c.1 q) (aa (ao (bs k) (bs [107])) (ask (L n (bs v) (bs [44])) λb=>K n b.2 h p b.1) (K n false h p q)))):=by
 have hz:(bs v).size<=500000:=by rw[ba];exact hv
 unfold gZ
 simp only[fh]
 cases decide (bs k=bs [98])with
 |true=>have:=g (bs v) (by omega);cases hn:ke (bs v)with|none=>rw[hn]at this;obtain⟨x,hx⟩:=this;exact(hb _ _ _).imp λ_ h=>.pos rfl (.ask hx h)|some x=>rw[hn]at this;exact(hg _ _ _).imp λ_ h=>.pos rfl (.ask this h)
 |false=>
  cases decide (bs k=bs [110])with
  |true=>have:=i (bs v) (by omega);cases hn:jy (bs v)with|false=>rw[hn]at this;exact(hb _ _ _).imp λ_ h=>.neg rfl (.pos rfl (.ask this h))|true=>rw[hn]at this;exact(hg _ _ _).imp λ_ h=>.neg rfl (.pos rfl (.ask this h))
  |false=>
   cases decide (bs k=bs [112])with
   |true=>have:=hL (bs v) (bs [46]) hz rfl;unfold pE at this;unfold wL;cases hn:lS (Lib.split (bs v).data.toList (bs [46]).data.toList)with|none=>rw[hn]at this;exact(hb _ _ _).imp λ_ h=>.neg rfl (.neg rfl (.pos rfl (.ask this h)))|some x=>rw[hn]at this;exact(hg _ _ _).imp λ_ h=>.neg rfl (.neg rfl (.pos rfl (.ask this h)))
   |false=>
    cases decide (bs k=bs [107])with
    |true=>have:=hL (bs v) (bs [44]) hz rfl;unfold pE at this;unfold wL;cases hn:lS (Lib.split (bs v).data.toList (bs [44]).data.toList)with|none=>rw[hn]at this;exact(hb _ _ _).imp λ_ h=>.neg rfl (.neg rfl (.neg rfl (.pos rfl (.ask this h))))|some x=>rw[hn]at this;exact(hg _ _ _).imp λ_ h=>.neg rfl (.neg rfl (.neg rfl (.pos rfl (.ask this h))))
    |false=>exact(hb _ _ _).imp λ_ h=>.neg rfl (.neg rfl (.neg rfl (.neg rfl h)))
section
variable {W:List (List UInt8)}(hW:W.length<=1000000)(hz:∀x∈W,x.length<=500000){s:ByteArray}{pr:Rows}{j:Int×Int×ByteArray}{j1 j2 j3:Rows}
include hW hz
theorem Z3:∀(d i:Nat)(h:Hd)(p q:Rows),W.length-i=d->
 Pw (λh' l k n=>vb n s pr true j h' j1 j2 j3 l [] k) (gZ (W.drop i) (h,p,q)) λn=>s8 n s pr (W.map rS) true (i:Int) j h j1 j2 j3 p [] q:=by
 intro d
 induction d using Nat.strongRecOn with
 |ind d ih=>
  intro i h p q hd
  have f:(W.map rS).length=W.length:=List.length_map ..
  by_cases hi:i<W.length
  .rw[List.drop_eq_getElem_cons hi]
   by_cases c:i+1<W.length
   .rw[List.drop_eq_getElem_cons c]
    have g0:(W.map rS)[i]?=some (rS W[i]):=by rw[List.getElem?_map,List.getElem?_eq_getElem hi];rfl
    have m:(W.map rS)[i+1]?=some (rS W[i+1]):=by rw[List.getElem?_map,List.getElem?_eq_getElem c];rfl
    have w1:IntKind.i64.wrap ((i:Int)+1)=((i+1:Nat):Int):=by rw[IntWalk.i64_in _ (by omega)];rfl
    have g:IntKind.i64.wrap ((i:Int)+2)=((i+2:Nat):Int):=by rw[IntWalk.i64_in _ (by omega)];rfl
    refine(Kq (K:=λn b h p q=>qv n s pr (W.map rS) b i j h j1 j2 j3 p [] q) (N:=kZ) (M:=BQ) (L:=w7) (hz _ (List.getElem_mem c)) (λs hs=>?_) TO (λs p hs hp=>(I5 s p hs hp).1) (λh p q=>?_) λh p q=>?_).imp λr hr=>.step (λn=>vk n _ _ _ _ _ _ _ _ _ _ _ _ _) (.pos rfl (.pos (ax (by omega)) (.neg (by rw[w1,f];exact beq_eq_false_iff_ne.2 (by omega)) (.ae w1 m (.ae rfl g0 hr)))))
    .have:=uV s hs;split at this<;>simp_all
    .exact⟨(0,0,bs [],[],[],[],false),.step (λn=>Lc n _ _ _ _ _ _ _ _ _ _ _ _ _) (.step (λn=>vk n _ _ _ _ _ _ _ _ _ _ _ _ _) (.neg rfl (.step (λn=>DB n _ _ _ _ _ _ _ _ _ _ _) (.pos rfl (.ret _))))),rfl⟩
    .exact(ih (W.length-(i+2)) (by omega) (i+2) h p q rfl).imp λr hr=>.step (λn=>Lc n _ _ _ _ _ _ _ _ _ _ _ _ _) (by rw[g];exact hr)
   .have e:W.drop (i+1)=[]:=List.drop_eq_nil_of_le (by omega);rw[e];exact⟨(0,0,bs [],[],[],[],false),.step (λn=>vk n _ _ _ _ _ _ _ _ _ _ _ _ _) (.pos rfl (.pos (ax (by omega)) (.pos (by rw[IntWalk.i64_in _ (by omega),f];exact beq_iff_eq.2 (by omega)) (.ret _)))),rfl⟩
  .rw[List.drop_eq_nil_of_le (by omega)];exactλv hv=>.step (λn=>vk n _ _ _ _ _ _ _ _ _ _ _ _ _) (.pos rfl (.neg (aH (by omega)) hv))
theorem Z4:∀(d i:Nat)(h:Hd)(p q:Rows),W.length-i=d->(W.length-i)%2=0->
 Pw (λh' g f _=>some (fW h' (g,[],f,true))) (gZ (W.drop i) (h,p,q)) λn=>vM n (W.map rS) (i:Int) j h j1 j2 j3 p [] q:=by
 intro d
 induction d using Nat.strongRecOn with
 |ind d ih=>
  intro i h p q hd t
  have o:(W.map rS).length=W.length:=List.length_map ..
  by_cases hi:i<W.length
  .have c:i+1<W.length:=by omega
   rw[List.drop_eq_getElem_cons hi,List.drop_eq_getElem_cons c]
   have g0:(W.map rS)[i]?=some (rS W[i]):=by rw[List.getElem?_map,List.getElem?_eq_getElem hi];rfl
   have e:(W.map rS)[i+1]?=some (rS W[i+1]):=by rw[List.getElem?_map,List.getElem?_eq_getElem c];rfl
   have w1:IntKind.i64.wrap ((i:Int)+1)=((i+1:Nat):Int):=by rw[IntWalk.i64_in _ (by omega)];rfl
   have m:IntKind.i64.wrap ((i:Int)+2)=((i+2:Nat):Int):=by rw[IntWalk.i64_in _ (by omega)];rfl
   have hw:=Kq (C:=λh' g f _=>some (fW h' (g,[],f,true))) (k:=W[i]) (v:=W[i+1]) (l:=W.drop (i+1+1)) (h:=h) (p:=p) (q:=q) (K:=λn b h p q=>qk n (W.map rS) b i j h j1 j2 j3 p [] q) (N:=lL) (M:=wz) (L:=wI) (hz _ (List.getElem_mem c)) (λs hs=>by have:=uV s hs;split at this<;>simp_all) (λs hs=>Km s (by show _<=_;omega)) (λs p hs hp=>(I5 s p hs hp).2) (λh p q=>⟨_,.step (λn=>J2 n _ _ _ _ _ _ _ _ _ _ _) (.pos rfl (.ret _)),rfl⟩) λh p q=>(ih (W.length-(i+2)) (by omega) (i+2) h p q rfl (by omega)).imp λr hr=>.step (λn=>J2 n _ _ _ _ _ _ _ _ _ _ _) (.neg rfl (by rw[m];exact hr));refine hw.imp λr hr=>.step (λn=>Ld n _ _ _ _ _ _ _ _ _ _) (.pos (ax (by omega)) (.ae rfl g0 ?_));have hr:=hr;cases h1:ao (bs W[i]) (bs [98])with|true=>rw[h1]at hr;exact .pos h1 (.ae w1 e hr)|false=>rw[h1]at hr;refine .neg h1 ?_;cases h2:ao (bs W[i]) (bs [110])with|true=>rw[h2]at hr;exact .pos h2 (.ae w1 e (.ae w1 e hr))|false=>rw[h2]at hr;refine .neg h2 ?_;cases h3:ao (bs W[i]) (bs [112])with|true=>rw[h3]at hr;exact .pos h3 (.ae w1 e hr)|false=>rw[h3]at hr;refine .neg h3 ?_;cases h4:ao (bs W[i]) (bs [107])with|true=>rw[h4]at hr;exact .pos h4 (.ae w1 e hr)|false=>rw[h4]at hr;exact .neg h4 hr
  .rw[List.drop_eq_nil_of_le (by omega)];exactλv hv=>.step (λn=>Ld n _ _ _ _ _ _ _ _ _ _) (.neg (aH (by omega)) hv)
end
end Go.AI
end

section
namespace Go.AI
open Go
inductive WY:Rows->Prop|nil:WY []|cons{k:Int}{x:ByteArray}{ks rest:Rows}:WY ks->WY rest->WY (gU (k,x,ks)::rest)
inductive WT:Rows->Prop|nil:WT []|cons{a:TM}{rest:Rows}:WY a.2.2.2.2.2.1->WT a.2.2.2.2.2.2->WT rest->WT (av a::rest)
def Wa(a:TM):Int:=(fM (av a):Int)
theorem WT.one{a:TM}(h:WT [av a]):WY a.2.2.2.2.2.1/\WT a.2.2.2.2.2.2:=by generalize e:[av a]=l at h;cases h with|nil=>cases e|@cons b _ h1 h2 _=>obtain⟨D,C,z,w,v,u,q⟩:=a;obtain⟨p,o,n,m,k,j,i⟩:=b;injection e with e _;injection e with _ e;injection e with _ e;injection e with _ e;injection e with _ e;injection e with _ e;injection e with g e;injection e with c _;injection g with g;injection c with c;subst g;subst c;exact⟨h1,h2⟩
theorem WT.app:∀{l m:Rows},WT l->WT m->WT (l++m)|_,_,.nil,h=>h|_,_,.cons h1 h2 h3,h=>.cons h1 h2 (h3.app h)
theorem WT.two{a b:TM}(h:WT [av a])(h':WT [av b]):WT [av a,av b]:=h.app h'
theorem WT.node{o:Int}{x:ByteArray}{ks:Rows}(h:WT ks):WT [av (nm o x ks)]:=.cons .nil h .nil
theorem ti(o:Int)(x:ByteArray)(ks:Rows):Wa (nm o x ks)=x.size+cd ks+7:=by show(((1+(x.size+1+(1+(1+(0+1+(0+1+(cd ks+1+0))))))):Nat):Int)=_;omega
theorem Ex(a:TM):(cd [av a]:Int)=Wa a+1:=rfl
theorem Vl(a b:TM):(cd [av a,av b]:Int)=Wa a+Wa b+2:=by show((fM (av a)+1+(fM (av b)+1+0):Nat):Int)=_;unfold Wa;omega
theorem LP:∀l m:Rows,cd (l++m)=cd l+cd m|[],m=>(Nat.zero_add _).symm|r::l,m=>by show fM r+1+cd (l++m)=fM r+1+cd l+cd m;rw[LP l m];omega
section
variable {s:ByteArray}{α β γ:Type}{t:Tk}{d:Int}
abbrev Bx(s:ByteArray)(a:TM)(t:Tk)(d:Int)(B:Int):Prop:=aT s t d/\Wa a+100000*mu s t<=B
def Good(s:ByteArray)(B:Int)(x:AO TM):Prop:=∀a t d,x=some (some (a,t,d))->Bx s a t d B/\WT [av a]
def mr(s:ByteArray)(B:Int)(x:AO TM):Prop:=∀a t d,x=some (some (a,t,d))->Bx s a t d B/\WY a.2.2.2.2.2.2
def B2:jl->Int|.M a _=>Wa a|.F a=>Wa a|.E acc=>cd acc|.N _=>100000|.B=>100000|_=>0
def cmW:jl->Prop|.M a _=>WT [av a]|.F a=>WT [av a]|.E acc=>WT acc|_=>True
def Xn(s:ByteArray)(c:jl)(B:Int)(x:AO TM):Prop:=match c with|.Y=>mr s B x|_=>Good s B x
theorem Good.no{B:Int}:Good s B no:=λ_ _ _ e=>by cases e
theorem mr.no{B:Int}:mr s B no:=λ_ _ _ e=>by cases e
theorem Good.ok{B:Int}{a:TM}(h:Bx s a t d B)(hw:WT [av a]):Good s B (Go.AI.ok a t d):=λ_ _ _ e=>by cases e;exact⟨h,hw⟩
theorem mr.ok{B:Int}{a:TM}(h:Bx s a t d B)(hw:WY a.2.2.2.2.2.2):mr s B (Go.AI.ok a t d):=λ_ _ _ e=>by cases e;exact⟨h,hw⟩
theorem Good.bd{B:Int}{x:AO α}{k:α->Tk->Int->AO TM}(h:∀a t d,x=some (some (a,t,d))->Good s B (k a t d)):Good s B (Go.AI.bd x k):=λa t d e=>by
 unfold Go.AI.bd at e
 split at e
 .cases e
 .cases e
 .exact h _ _ _ rfl _ _ _ e
theorem mr.bd{B:Int}{x:AO α}{k:α->Tk->Int->AO TM}(h:∀a t d,x=some (some (a,t,d))->mr s B (k a t d)):mr s B (Go.AI.bd x k):=λa t d e=>by
 unfold Go.AI.bd at e
 split at e
 .cases e
 .cases e
 .exact h _ _ _ rfl _ _ _ e
theorem Good.le{B C:Int}{x:AO TM}(h:Good s B x)(hl:B<=C):Good s C x:=λa t d e=>⟨⟨(h a t d e).1.1,by have:=(h a t d e).1.2;omega⟩,(h a t d e).2⟩
theorem zC(h:aT s t d)(hs:s.size<=65536):t.x.size<=65536:=by obtain⟨i,h⟩:=h.ok;have:=h.x;have:=h.e;omega
theorem Xo(hs:s.size<=65536)(h:aT s t d):fN (kq s t d) λx _=>x.size<=65536:=by
 unfold kq
 split
 .exact .bd .tt λ_ _ _ _=>.ok (zC h hs)
 .exact .no
theorem oX(a:TM):(a.2.1.size:Int)+cd a.2.2.2.2.2.2+5<=Wa a:=by unfold Wa;show _<=(((1+(a.2.1.size+1+(1+(1+(a.2.2.2.2.1.size+1+(cd a.2.2.2.2.2.1+1+(cd a.2.2.2.2.2.2+1+0))))))):Nat):Int);omega
abbrev yr(a:TM):List AV:=gU (a.1,a.2.1,a.2.2.2.2.2.2)
theorem E2(a:TM):(fM (yr a):Int)+2<=Wa a:=by have:=oX a;show(((1+(a.2.1.size+1+(cd a.2.2.2.2.2.2+1+0))):Nat):Int)+2<=_;omega
theorem b0:((bs []).size:Int)=0:=rfl
theorem n0{o:Int}{x:ByteArray}:Wa (nm o x [])=x.size+7:=by rw[ti];show _+(0:Int)+7=_;omega
theorem n2{o:Int}{x:ByteArray}{a b:TM}:Wa (nm o x [av a,av b])=x.size+Wa a+Wa b+9:=by rw[ti,Vl];omega
theorem d0{o:Int}:Wa (nd o [])=7:=rfl
theorem d1{o:Int}{a:TM}:Wa (nd o [av a])=Wa a+8:=by show Wa (nm o (bs []) [av a])=_;rw[ti,Ex,b0];omega
theorem d2{o:Int}{a b:TM}:Wa (nd o [av a,av b])=Wa a+Wa b+9:=by show Wa (nm o (bs []) [av a,av b])=_;rw[n2,b0];omega
theorem dv{v:Int}:Wa (19,bs [],v,0,bs [],[],[])=7:=rfl
theorem dd{acc:Rows}:Wa (nd 28 acc)=cd acc+7:=by show Wa (nm 28 (bs []) acc)=_;rw[ti,b0];omega
theorem y1{o:Int}{a:TM}:Wa (nd o [yr a])<=Wa a+9:=by show Wa (nm o (bs []) [yr a])<=_;have:=E2 a;rw[ti];show(0:Int)+((fM (yr a)+1+0:Nat):Int)+7<=_;omega
theorem y2{o:Int}{a b:TM}:Wa (nd o [yr a,yr b])<=Wa a+Wa b+10:=by show Wa (nm o (bs []) [yr a,yr b])<=_;have:=E2 a;have:=E2 b;rw[ti];show(0:Int)+((fM (yr a)+1+(fM (yr b)+1+0):Nat):Int)+7<=_;omega
theorem ye(a:TM):Wa (29,bs [],0,a.1,a.2.1,a.2.2.2.2.2.2,[])<=Wa a+10:=by have:=oX a;show(((1+(0+1+(1+(1+(a.2.1.size+1+(cd a.2.2.2.2.2.2+1+(0+1+0)))))):Nat):Int))<=_;omega
theorem pF{a:Unit}{t':Tk}{d':Int}(h:aT s t d)(e:bz s t d=some (some (a,t',d'))):aT s t' d'/\mu s t'<=mu s t/\(t.k≠0->mu s t'<mu s t):=ly h _ _ _ e
theorem pG{b:List UInt8}{a:Unit}{t':Tk}{d':Int}(h:aT s t d)(e:cD s b t d=some (some (a,t',d'))):aT s t' d'/\mu s t'<mu s t:=gq h _ _ _ e
abbrev IW(s:ByteArray)(f:Nat):Prop:=∀(c:jl)(t:Tk)(d:Int),aT s t d->cmW c->Xn s c (B2 c+100000*mu s t) (sp s f c t d)
section
variable {f l:Nat}{B:Int}{a:TM}{t':Tk}{d':Int}(ih:IW s f)(h:aT s t d)
include ih h
theorem iT(e:sp s f (.T l) t d=some (some (a,t',d'))):(aT s t' d'/\Wa a+100000*mu s t'<=100000*mu s t)/\WT [av a]:=by have:=ih (.T l) t d h trivial a t' d' e;rwa[show B2 (.T l)=0 from rfl,Int.zero_add]at this
theorem iA(e:sp s f .A t d=some (some (a,t',d'))):(aT s t' d'/\Wa a+100000*mu s t'<=100000*mu s t)/\WT [av a]:=by have:=ih .A t d h trivial a t' d' e;rwa[show B2 .A=0 from rfl,Int.zero_add]at this
theorem iY(e:sp s f .Y t d=some (some (a,t',d'))):(aT s t' d'/\Wa a+100000*mu s t'<=100000*mu s t)/\WY a.2.2.2.2.2.2:=by have:=ih .Y t d h trivial a t' d' e;rwa[show B2 .Y=0 from rfl,Int.zero_add]at this
theorem iM{b:TM}(hw:WT [av b])(e:sp s f (.M b l) t d=some (some (a,t',d'))):(aT s t' d'/\Wa a+100000*mu s t'<=Wa b+100000*mu s t)/\WT [av a]:=ih (.M b l) t d h hw a t' d' e
theorem gM(hw:WT [av a])(hB:Wa a+100000*mu s t<=B):Good s B (sp s f (.M a l) t d):=Good.le (ih (.M a l) t d h hw) hB
theorem gF(hw:WT [av a])(hB:Wa a+100000*mu s t<=B):Good s B (sp s f (.F a) t d):=Good.le (ih (.F a) t d h hw) hB
theorem gE{acc:Rows}(hw:WT acc)(hB:(cd acc:Int)+100000*mu s t<=B):Good s B (sp s f (.E acc) t d):=Good.le (ih (.E acc) t d h hw) hB
theorem gN{o:Int}(hB:100000+100000*mu s t<=B):Good s B (sp s f (.N o) t d):=Good.le (ih (.N o) t d h trivial) hB
theorem pH(hB:100000+100000*mu s t<=B):Good s B (sp s f .B t d):=Good.le (ih .B t d h trivial) hB
theorem gT(hB:100000*mu s t<=B):Good s B (sp s f (.T l) t d):=Good.le (ih (.T l) t d h trivial) (by show 0+_<=_;omega)
end
variable {f:Nat}(hs:s.size<=65536)(ih:IW s f)(h:aT s t d)
include hs ih h
theorem wY:mr s (100000*mu s t) (sp s (f+1) .Y t d):=by
 have hx:=zC h hs
 unfold sp
 repeat'(first|with_reducible exact .no|(with_reducible refine .bd λ_ _ _ e=>?_;first|(with_reducible have b:=pF (by assumption) e;obtain⟨_,_,c⟩:=b;first|have:=c (kK (by assumption))|have:=c (nW (by assumption) (by decide))|have:=c (mN (by assumption) (by decide))|have:=c (mn (by assumption))|skip)|(with_reducible have b:=pG (by assumption) e;obtain⟨_,_⟩:=b)|(with_reducible have b:=iT (by assumption) (by assumption) e;obtain⟨⟨_,_⟩,_⟩:=b)|(with_reducible have b:=iA (by assumption) (by assumption) e;obtain⟨⟨_,_⟩,_⟩:=b)|(with_reducible have b:=iY (by assumption) (by assumption) e;obtain⟨⟨_,_⟩,_⟩:=b))|with_reducible exact gT (by assumption) (by assumption) (by omega)|with_reducible exact pH (by assumption) (by assumption) (by omega)|with_reducible exact gN (by assumption) (by assumption) (by omega)|split)
 .exact .ok ⟨by assumption,by rw[n0];omega⟩ .nil
 .exact .ok ⟨by assumption,by rw[d0];omega⟩ .nil
 .refine .ok ⟨by assumption,?_⟩ (.cons (by assumption) .nil);refine Int.le_trans (Int.add_le_add_right y1 _) ?_;omega
 .refine .ok ⟨by assumption,?_⟩ (.cons (by assumption) (.cons (by assumption) .nil));refine Int.le_trans (Int.add_le_add_right y2 _) ?_;omega
theorem wT(l:Nat):Good s (100000*mu s t) (sp s (f+1) (.T l) t d):=by
 unfold sp
 repeat'(first|with_reducible exact .no|(with_reducible refine .bd λ_ _ _ e=>?_;first|(with_reducible have b:=pF (by assumption) e;obtain⟨_,_,c⟩:=b;first|have:=c (kK (by assumption))|have:=c (nW (by assumption) (by decide))|have:=c (mN (by assumption) (by decide))|have:=c (mn (by assumption))|skip)|(with_reducible have b:=pG (by assumption) e;obtain⟨_,_⟩:=b)|(with_reducible have b:=iT (by assumption) (by assumption) e;obtain⟨⟨_,_⟩,_⟩:=b)|(with_reducible have b:=iA (by assumption) (by assumption) e;obtain⟨⟨_,_⟩,_⟩:=b)|(with_reducible have b:=iY (by assumption) (by assumption) e;obtain⟨⟨_,_⟩,_⟩:=b))|with_reducible exact gT (by assumption) (by assumption) (by omega)|with_reducible exact pH (by assumption) (by assumption) (by omega)|with_reducible exact gN (by assumption) (by assumption) (by omega)|split)
 .exact .ok ⟨by assumption,by rw[d1];omega⟩ (.node (by assumption))
 .exact .ok ⟨by assumption,by rw[d1];omega⟩ (.node (by assumption))
 .exact gF ih (by assumption) (by assumption) (by omega)
 .exact gM ih (by assumption) (by assumption) (by omega)
theorem wM(a:TM)(l:Nat)(hc:WT [av a]):Good s (Wa a+100000*mu s t) (sp s (f+1) (.M a l) t d):=by
 unfold sp
 repeat'(first|with_reducible exact .no|(with_reducible refine .bd λ_ _ _ e=>?_;first|(with_reducible have b:=pF (by assumption) e;obtain⟨_,_,c⟩:=b;first|have:=c (kK (by assumption))|have:=c (nW (by assumption) (by decide))|have:=c (mN (by assumption) (by decide))|have:=c (mn (by assumption))|skip)|(with_reducible have b:=pG (by assumption) e;obtain⟨_,_⟩:=b)|(with_reducible have b:=iT (by assumption) (by assumption) e;obtain⟨⟨_,_⟩,_⟩:=b)|(with_reducible have b:=iA (by assumption) (by assumption) e;obtain⟨⟨_,_⟩,_⟩:=b)|(with_reducible have b:=iY (by assumption) (by assumption) e;obtain⟨⟨_,_⟩,_⟩:=b))|with_reducible exact gT (by assumption) (by assumption) (by omega)|with_reducible exact pH (by assumption) (by assumption) (by omega)|with_reducible exact gN (by assumption) (by assumption) (by omega)|split)
 .exact .ok ⟨h,Int.le_refl _⟩ hc
 .exact gM ih (by assumption) (.node (.two hc (by assumption))) (by rw[d2];omega)
 .exact .ok ⟨by assumption,by rw[d2];omega⟩ (.node (.two hc (by assumption)))
theorem wF(a:TM)(hc:WT [av a]):Good s (Wa a+100000*mu s t) (sp s (f+1) (.F a) t d):=by
 unfold sp
 repeat'(first|with_reducible exact .no|(with_reducible refine .bd λ_ _ _ e=>?_;first|(with_reducible have b:=pF (by assumption) e;obtain⟨_,_,c⟩:=b;first|have:=c (kK (by assumption))|have:=c (nW (by assumption) (by decide))|have:=c (mN (by assumption) (by decide))|have:=c (mn (by assumption))|skip)|(with_reducible have b:=pG (by assumption) e;obtain⟨_,_⟩:=b)|(with_reducible have b:=iT (by assumption) (by assumption) e;obtain⟨⟨_,_⟩,_⟩:=b)|(with_reducible have b:=iA (by assumption) (by assumption) e;obtain⟨⟨_,_⟩,_⟩:=b)|(with_reducible have b:=iY (by assumption) (by assumption) e;obtain⟨⟨_,_⟩,_⟩:=b))|with_reducible exact gT (by assumption) (by assumption) (by omega)|with_reducible exact pH (by assumption) (by assumption) (by omega)|with_reducible exact gN (by assumption) (by assumption) (by omega)|split)
 .exact gF ih (by assumption) (.node (.two hc (by assumption))) (by rw[d2];omega)
 .exact gF ih (by assumption) (.node (.two hc (by assumption))) (by rw[d2];omega)
 .exact gF ih (by assumption) (.node hc) (by rw[d1];omega)
 .exact .ok ⟨h,Int.le_refl _⟩ hc
theorem wA:Good s (100000*mu s t) (sp s (f+1) .A t d):=by
 have hx:=zC h hs
 unfold sp
 repeat'(first|with_reducible exact .no|(with_reducible refine .bd λ_ _ _ e=>?_;first|(with_reducible have b:=pF (by assumption) e;obtain⟨_,_,c⟩:=b;first|have:=c (kK (by assumption))|have:=c (nW (by assumption) (by decide))|have:=c (mN (by assumption) (by decide))|have:=c (mn (by assumption))|skip)|(with_reducible have b:=pG (by assumption) e;obtain⟨_,_⟩:=b)|(with_reducible have b:=iT (by assumption) (by assumption) e;obtain⟨⟨_,_⟩,_⟩:=b)|(with_reducible have b:=iA (by assumption) (by assumption) e;obtain⟨⟨_,_⟩,_⟩:=b)|(with_reducible have b:=iY (by assumption) (by assumption) e;obtain⟨⟨_,_⟩,_⟩:=b))|with_reducible exact gT (by assumption) (by assumption) (by omega)|with_reducible exact pH (by assumption) (by assumption) (by omega)|with_reducible exact gN (by assumption) (by assumption) (by omega)|split)
 .exact .ok ⟨by assumption,by rw[n0];omega⟩ (.node .nil)
 .exact .ok ⟨by assumption,by rw[dv];omega⟩ (.cons .nil .nil .nil)
 .exact .ok ⟨by assumption,by rw[d0];omega⟩ (.node .nil)
 .exact .ok ⟨by assumption,by rw[d0];omega⟩ (.node .nil)
 .exact .ok ⟨by assumption,by omega⟩ (by assumption)
 .exact .ok ⟨by assumption,by rw[d1];omega⟩ (.node (by assumption))
theorem wE(acc:Rows)(hc:WT acc):Good s (cd acc+100000*mu s t) (sp s (f+1) (.E acc) t d):=by
 unfold sp
 repeat'(first|with_reducible exact .no|(with_reducible refine .bd λ_ _ _ e=>?_;first|(with_reducible have b:=pF (by assumption) e;obtain⟨_,_,c⟩:=b;first|have:=c (kK (by assumption))|have:=c (nW (by assumption) (by decide))|have:=c (mN (by assumption) (by decide))|have:=c (mn (by assumption))|skip)|(with_reducible have b:=pG (by assumption) e;obtain⟨_,_⟩:=b)|(with_reducible have b:=iT (by assumption) (by assumption) e;obtain⟨⟨_,_⟩,_⟩:=b)|(with_reducible have b:=iA (by assumption) (by assumption) e;obtain⟨⟨_,_⟩,_⟩:=b)|(with_reducible have b:=iY (by assumption) (by assumption) e;obtain⟨⟨_,_⟩,_⟩:=b))|with_reducible exact gT (by assumption) (by assumption) (by omega)|with_reducible exact pH (by assumption) (by assumption) (by omega)|with_reducible exact gN (by assumption) (by assumption) (by omega)|split)
 .exact gE ih (by assumption) (hc.app (by assumption)) (by rw[LP,Int.natCast_add,Ex];omega)
 .exact .ok ⟨by assumption,by rw[dd];omega⟩ (.node hc)
theorem wN(o:Int):Good s (100000+100000*mu s t) (sp s (f+1) (.N o) t d):=by
 unfold sp
 refine .bd λx t1 d1 e=>?_
 have h1:=yQ h _ _ _ e
 have hx:=Xo hs h _ _ _ e
 obtain⟨h1,_⟩:=h1
 clear h
 repeat'(first|with_reducible exact .no|(with_reducible refine .bd λ_ _ _ e=>?_;first|(with_reducible have b:=pF (by assumption) e;obtain⟨_,_,c⟩:=b;first|have:=c (kK (by assumption))|have:=c (nW (by assumption) (by decide))|have:=c (mN (by assumption) (by decide))|have:=c (mn (by assumption))|skip)|(with_reducible have b:=pG (by assumption) e;obtain⟨_,_⟩:=b)|(with_reducible have b:=iT (by assumption) (by assumption) e;obtain⟨⟨_,_⟩,_⟩:=b)|(with_reducible have b:=iA (by assumption) (by assumption) e;obtain⟨⟨_,_⟩,_⟩:=b)|(with_reducible have b:=iY (by assumption) (by assumption) e;obtain⟨⟨_,_⟩,_⟩:=b))|with_reducible exact gT (by assumption) (by assumption) (by omega)|with_reducible exact pH (by assumption) (by assumption) (by omega)|with_reducible exact gN (by assumption) (by assumption) (by omega)|split)
 exact .ok ⟨by assumption,by rw[n2];omega⟩ (.node (.two (by assumption) (by assumption)))
theorem wB:Good s (100000+100000*mu s t) (sp s (f+1) .B t d):=by
 have hx:=zC h hs
 have hn:WT [av (nm 20 t.x [])]:=.node .nil
 have go:∀{t' d'}{a:TM},aT s t' d'->WT [av a]->Wa a+100000*mu s t'<=100000+100000*mu s t-1->Good s (100000+100000*mu s t) (sp s f (.E [av a]) t' d'):=λ{t' d' a}h hw hB=>gE ih h hw (by rw[Ex];omega)
 unfold sp
 repeat'(first|with_reducible exact .no|(with_reducible refine .bd λ_ _ _ e=>?_;first|(with_reducible have b:=pF (by assumption) e;obtain⟨_,_,c⟩:=b;first|have:=c (kK (by assumption))|have:=c (nW (by assumption) (by decide))|have:=c (mN (by assumption) (by decide))|have:=c (mn (by assumption))|skip)|(with_reducible have b:=pG (by assumption) e;obtain⟨_,_⟩:=b)|(with_reducible have b:=iT (by assumption) (by assumption) e;obtain⟨⟨_,_⟩,_⟩:=b)|(with_reducible have b:=iA (by assumption) (by assumption) e;obtain⟨⟨_,_⟩,_⟩:=b)|(with_reducible have b:=iY (by assumption) (by assumption) e;obtain⟨⟨_,_⟩,_⟩:=b))|with_reducible exact gT (by assumption) (by assumption) (by omega)|with_reducible exact pH (by assumption) (by assumption) (by omega)|with_reducible exact gN (by assumption) (by assumption) (by omega)|split)
 .refine .ok ⟨by assumption,?_⟩ (.cons (by assumption) .nil .nil);have:=ye ‹TM›;omega
 .exact .ok ⟨by assumption,by rw[n2];omega⟩ (.node (.two (by assumption) (by assumption)))
 .refine .bd λJ t1 d1 e=>?_;obtain⟨⟨q,p⟩,o⟩:=iM ih (by assumption) (.node (.two hn (by assumption))) e;rw[n2,n0,b0]at p;refine .bd λI t2 d2 e=>?_;obtain⟨⟨n,k5⟩,m⟩:=iM ih q o e;refine .bd λG v D e=>?_;obtain⟨⟨k,z⟩,j⟩:=iM ih n m e;refine .bd λF u C e=>?_;obtain⟨⟨i,w⟩,g⟩:=iM ih k j e;exact go i g (by omega)
 .exact go (by assumption) (by assumption) (by omega)
omit ih h in
theorem nX:∀f,IW s f|0=>λc t d _ _=>by cases c<;>exactλ_ _ _ e=>by cases e|f+1=>λc t d h hc=>by cases c with|T l=>show Good s (0+_) _;rw[Int.zero_add];exact wT hs (nX f) h l|M a l=>exact wM hs (nX f) h a l hc|F a=>exact wF hs (nX f) h a hc|A=>show Good s (0+_) _;rw[Int.zero_add];exact wA hs (nX f) h|B=>exact wB hs (nX f) h|E acc=>exact wE hs (nX f) h acc hc|Y=>show mr s (0+_) _;rw[Int.zero_add];exact wY hs (nX f) h|N o=>exact wN hs (nX f) h o
end
theorem Ev.step2{β:Type}{r:β}{F G:Nat->Option β}(h:∀n,F (n+1+1)=G n)(b:Ev G r):Ev F r:=by obtain⟨m,hm⟩:=b;refine⟨m+2,λn hn=>?_⟩;obtain⟨k,rfl⟩:∃k,n=k+1+1:=⟨n-2,by omega⟩;rw[h];exact hm k (by omega)
theorem Ev.sh{β:Type}{r:β}{F:Nat->Option β}(h:Ev F r):Ev (λn=>F (n+1)) r:=let⟨m,hm⟩:=h;⟨m,λn hn=>hm (n+1) (by omega)⟩
theorem I8{l:Rows}{i:Nat}{r:List AV}(h:l[i]?=some r):l.set i r=l:=by
 refine List.ext_getElem? λj=>?_
 rw[List.getElem?_set]
 split
 .rename_i e;subst e
  split
  .exact h.symm
  .rename_i hl;exact absurd (List.getElem?_eq_some_iff.1 h).1 hl
 .rfl
theorem LQ{l:Rows}(h:l.length*104<=140737488355328){b:Nat}(hb:b<=104):Ev (λ_:Nat=>emp l (both (some []) (fits (([]:Rows).length+l.length) b (some ([]++l)))) (fits (([]:Rows).length+l.length) b (some ([]++l)))) l:=by have hf:l.length*b<=140737488355328:=Nat.le_trans (Nat.mul_le_mul_left _ hb) h;cases l with|nil=>refine⟨0,λ_ _=>?_⟩;show both (some []) (fits (0+0) b (some []))=_;unfold both fits;rw[ax (by omega)];exact if_pos rfl|cons r l=>exact .fits (by rw[List.length_nil,Nat.zero_add];exact hf) (.ret _)
theorem OA{ks:Rows}(hw:cd ks<=1000000000000)(ih:∀(i:Nat)(r:List AV),ks[i]?=some r->∃a:Int×ByteArray×Rows,r=gU a/\Ev (λn=>qO n a) a)(k:Int)(x:ByteArray):Ev (λn=>qO n (k,x,ks)) (k,x,ks):=by
 have hl:=qm ks
 refine .step2 (λn=>V0 n _) (.ask (Ev.sh (F:=λn=>Ft n ks) (.step (λn=>Wb n _) (LQ (by omega) (by decide)))) (.pos (ax ⟨rfl,rfl⟩) ?_))
 have go:∀(j i:Nat),i+j=ks.length->Ev (λn=>sM n (ks.length:Int) (i:Int) (k,x) (0,bs []) ks []) (k,x,ks):=by
  intro j
  induction j with
  |zero=>intro i e;exact .step (λn=>JR n _ _ _ _ _ _) (.neg (aH (by omega)) (.ret _))
  |succ j b=>
   intro i e
   have hi:i<ks.length:=by omega
   have hx:=List.getElem?_eq_getElem hi;obtain⟨a,ha,c⟩:=ih i _ hx;refine .step (λn=>JR n _ _ _ _ _ _) (.pos (ax (by omega)) (.ae rfl hx (.cL (m:=i) hx (.ask (a:=a) (by rw[ha];exact c) (.ae rfl hx (.cL (m:=i) hx ?_))))));show Ev (λn=>sM n (ks.length:Int) (IntKind.i64.wrap ((i:Int)+1)) (k,x) (0,bs []) (ks.set i (cO ks[i] 0 (gU a))) []) _;rw[show cO ks[i] 0 (gU a)=ks[i]by rw[ha];rfl,I8 hx,kx i (by omega)];exact b (i+1) (by omega)
 exact Ev.sh (F:=λn=>sM n (ks.length:Int) 0 (k,x) (0,bs []) ks []) (go ks.length 0 (by omega))
theorem Vm{rows:Rows}(h:WY rows):cd rows<=1000000000000->∀(i:Nat)(r:List AV),rows[i]?=some r->∃a:Int×ByteArray×Rows,r=gU a/\Ev (λn=>qO n a) a:=by induction h with|nil=>intro _ i r e;cases e|@cons k x ks rest h1 h2 c b=>intro hw i r e;have hw:(1+(x.size+1+(cd ks+1+0)))+1+cd rest<=1000000000000:=hw;cases i with|succ i=>exact b (by omega) i r e|zero=>cases e;exact⟨(k,x,ks),rfl,OA (by omega) (c (by omega)) k x⟩
theorem OB{a:TM}(hy:WY a.2.2.2.2.2.1)(hw:fM (av a)<=1000000000000)(ih:∀(i:Nat)(r:List AV),a.2.2.2.2.2.2[i]?=some r->∃b:TM,r=av b/\Ev (λn=>qL n b) b):Ev (λn=>qL n a) a:=by
 have hw:(1+(a.2.1.size+1+(1+(1+(a.2.2.2.2.1.size+1+(cd a.2.2.2.2.2.1+1+(cd a.2.2.2.2.2.2+1+0)))))))<=1000000000000:=hw
 obtain⟨o,x,N,tk,tn,ts,ks⟩:=a
 dsimp only at hy hw ih
 have hl:=qm ks
 refine .step2 (λn=>VV n _) (.ask (Ev.sh (F:=λn=>qO n (tk,tn,ts)) (OA (by omega) (Vm hy (by omega)) tk tn)) (.ask (Ev.sh (F:=λn=>Fp n ks) (.step (λn=>V1 n _) (LQ (by omega) (by decide)))) (.pos (ax ⟨rfl,rfl⟩) ?_)))
 have go:∀(j i:Nat),i+j=ks.length->Ev (λn=>sK n (ks.length:Int) (i:Int) (o,x,N,tk,tn,ts) (0,bs [],0,0,bs []) ks [] []) (o,x,N,tk,tn,ts,ks):=by
  intro j
  induction j with
  |zero=>intro i e;exact .step (λn=>JQ n _ _ _ _ _ _ _) (.neg (aH (by omega)) (.ret _))
  |succ j c=>
   intro i e
   have hi:i<ks.length:=by omega
   have hx:=List.getElem?_eq_getElem hi;obtain⟨b,hb,g⟩:=ih i _ hx;refine .step (λn=>JQ n _ _ _ _ _ _ _) (.pos (ax (by omega)) (.ae rfl hx (.cL (m:=i) hx (.ask (a:=b) (by rw[hb];exact g) (.ae rfl hx (.cL (m:=i) hx ?_))))));show Ev (λn=>sK n (ks.length:Int) (IntKind.i64.wrap ((i:Int)+1)) (o,x,N,tk,tn,ts) (0,bs [],0,0,bs []) (ks.set i (cO ks[i] 0 (av b))) [] []) _;rw[show cO ks[i] 0 (av b)=ks[i]by rw[hb];rfl,I8 hx,kx i (by omega)];exact c (i+1) (by omega)
 exact Ev.sh (F:=λn=>sK n (ks.length:Int) 0 (o,x,N,tk,tn,ts) (0,bs [],0,0,bs []) ks [] []) (go ks.length 0 (by omega))
theorem Vn{rows:Rows}(h:WT rows):cd rows<=1000000000000->∀(i:Nat)(r:List AV),rows[i]?=some r->∃a:TM,r=av a/\Ev (λn=>qL n a) a:=by induction h with|nil=>intro _ i r e;cases e|@cons a rest hy h1 h2 c b=>intro hw i r e;have hw:fM (av a)+1+cd rest<=1000000000000:=hw;have ha:=oX a;unfold Wa at ha;cases i with|succ i=>exact b (by omega) i r e|zero=>cases e;exact⟨a,rfl,OB hy (by omega) (c (by omega))⟩
theorem TV{a:TM}(h:WT [av a])(hw:Wa a<=100000000000):Ev (λn=>qL n a) a:=by have hg:=oX a;unfold Wa at hw hg;exact OB h.one.1 (by omega) (Vn h.one.2 (by omega))
end Go.AI
end

section
namespace Go.AI
open Go
section
variable {s:ByteArray}
structure GT(a:TM):Prop where
 shape:WT [av a]
 weight:Wa a<=100000000000
 okP:Ev (λl=>tR l a.1 a.2.1 a.2.2.1 a.2.2.2.1 a.2.2.2.2.1 a.2.2.2.2.2.1 a.2.2.2.2.2.2) true
def spT(s:ByteArray)(f:Nat):AO TM:=bd (sp s f (.T 1) (aJ s 0) 0) λa t d=>match t.k==0 with|true=>ok a t d|false=>no
def RdP(s:ByteArray)(r:Option TM):Prop:=match r with|some a=>GT a/\Ev (λn=>wZ n s) (eW a (0,0))/\Ev (λn=>wX n s) (eW a (0,0))|none=>(∃v,Ev (λn=>wZ n s) v/\v.2.2.2.2.2.2.2.2≠0)/\∃v,Ev (λn=>wX n s) v/\v.2.2.2.2.2.2.2.2≠0
theorem Bo(b:(aJ s 0).k≠5):aT s (aJ s 0) 0:=⟨⟨0,Nat.zero_le _,rfl⟩,b,by have:=qz (s:=s) (t:=aJ s 0);omega,by omega⟩
theorem Vt(hs:s.size<=65536)(X:Option (TM×Tk×Int))(f:Nat)(h:(aJ s 0).k≠5->sp s f (.T 1) (aJ s 0) 0=some X):
 match(if(aJ s 0).k=5 then none else X)with
 |some (a,t,_)=>(t.k=0/\Ev (λn=>tQ n s (0,bs [],0,0,bs [],[],[])) (0,0,a))\/(t.k≠0/\∃v,Ev (λn=>tQ n s (0,bs [],0,0,bs [],[],[])) v/\v.2.1≠0)
 |none=>∃v,Ev (λn=>tQ n s (0,bs [],0,0,bs [],[],[])) v/\v.2.1≠0:=by
 have b:decide ((s.size:Int)>65536)=false:=aH (by omega)
 have hp:=AA hs (Nat.zero_le s.size) 0 (bs []) 0 0 0
 have aB:∀{c:TypeId}{q:List AV}{A:Nat->Option (Int×Int×TM)}{B C:TM},(c=207\/c=208)->∃v:Int×Int×TM,Ev (λn=>aa (Nat.beq c 207) (ask (u9 n 0 0 q) λm=>aa m.1 (some (kX m.2 B)) none) (aa (Nat.beq c 208) (ask (va n 0 0 q) λl=>aa l.1 (some (kX l.2 C)) none) (A n))) v/\v.2.1≠0:=λ{c q A B C}hc=>by
  rcases hc with rfl|rfl
  .exact⟨(gI q 0,2,B),.pos rfl (.ask (.step (λn=>S7 n _ _ _) (.ret _)) (.pos rfl (.ret _))),by show(2:Int)≠0;decide⟩
  .exact⟨(gI q 0,4,C),.neg rfl (.pos rfl (.ask (.step (λn=>S8 n _ _ _) (.ret _)) (.pos rfl (.ret _)))),by show(4:Int)≠0;decide⟩
 rcases hp with⟨j,r,hp⟩|⟨j,p,hp⟩
 .rw[if_pos j];obtain⟨v,hv,h2⟩:=aB (c:=207) (q:=r) (A:=λ_=>none) (B:=(0,bs [],0,0,bs [],[],[])) (C:=(0,bs [],0,0,bs [],[],[])) (.inl rfl);exact⟨v,.step (λn=>wK n _ _) (.neg b (.ask hp hv)),h2⟩
 .rw[if_neg j]
  have u:=Bo j
  have hz:=nY hs f (.T 1) (aJ s 0) 0 u ⟨by decide,by decide⟩ p X (h j)
  cases X with
  |none=>obtain⟨c,q,hc,hz⟩:=hz;obtain⟨v,hv,h2⟩:=aB (q:=q) (A:=λ_=>none) (B:=(0,bs [],0,0,bs [],[],[])) (C:=(0,bs [],0,0,bs [],[],[])) hc;exact⟨v,.step (λn=>wK n _ _) (.neg b (.ask hp (.ask (.step (λn=>Mp n _ _) (.ask hz (.ret _))) hv))),h2⟩
  |some X=>
   obtain⟨a,t,d⟩:=X
   obtain⟨q2,hz⟩:=hz
   have o:=(eT f (.T 1) _ _ _ u (Int.le_refl _) a t d (h j)).1
   have g:Ev (λn=>Fm n (bc s (aJ s 0) p 0) (0,bs [],0,0,bs [],[],[])) (.ret (eW (bc s t q2 d) a)):=.step (λn=>Mp n _ _) (.ask hz (.ret _))
   by_cases h0:t.k=0
   .refine .inl ⟨h0,.step (λn=>wK n _ _) (.neg b (.ask hp (.ask g (.neg ?_ (.ask (.step (λn=>VZ n _ _) (.ret _)) (.ret _))))))⟩;show(pk t.k !=0)=false;rw[h0];rfl
   .refine .inr ⟨h0,?_⟩
    obtain⟨v,hv,h2⟩:=aB (c:=207) (q:=[.sc (.int .i64 q2)]) (A:=λ_=>none) (B:=a) (C:=a) (.inl rfl)
    refine⟨v,.step (λn=>wK n _ _) (.neg b (.ask hp (.ask g (.pos ?_ (.ask (.step (λn=>ET n _) (.ret _)) hv))))),h2⟩
    show(pk t.k !=0)=true
    obtain⟨i,hk⟩:=o.ok
    rcases hk.kd with e|e|e|e|e|e
    .exact absurd e h0
    .rw[e];rfl
    .rw[e];rfl
    .rw[e];rfl
    .rw[e];rfl
    .exact absurd e o.k
theorem Vu(hs:s.size<=65536)(X:Option (TM×Tk×Int))(f:Nat)(h:(aJ s 0).k≠5->sp s f (.T 1) (aJ s 0) 0=some X):
 ∃(v:Int×ByteArray×Int×Int×ByteArray×Rows×Rows×RS)(b:Bool)(w:RS),(∀{k:Nat->Int×ByteArray×Int×Int×ByteArray×Rows×Rows×RS->Bool×RS->Option (Int×ByteArray×Int×Int×ByteArray×Rows×Rows×Int×Int)}{r},Ev (λn=>k n v (b,w)) r->Ev (λn=>ask (mS n s 0) λm=>ask (eg n 1 (s,fW m (0,0,0))) λi=>ask (n8 n i.2.2.2.2.2.2.2) λl=>ask (fA n l) λj=>k n i j) r)/\match(if(aJ s 0).k=5 then none else X)with|some (a,t,_)=>(t.k=0/\b=true/\vT v=a)\/(t.k≠0/\b=false/\w.2.2.2.2.2.2≠0)|none=>b=false/\w.2.2.2.2.2.2≠0:=by
 have hl:=E1 hs (Nat.zero_le s.size)
 have ho:=qe (Nat.zero_le s.size)
 have fin:∀{v:RS},Dm s v->∃w:RS,Ev (λn=>n8 n v) w/\w.2.2.2.2.2.2≠0:=λ{v}h=>by
  rcases h.two with e|⟨g,e⟩
  .refine⟨v,.step (λn=>FQ n _) (.ask (.const 1 e) (.neg rfl (.ret _))),?_⟩;have:=e 0;rw[FR]at this;intro h0;rw[h0]at this;cases this
  .obtain⟨w,h1,h2⟩:=sx h.pl;exact⟨w,.step (λn=>FQ n _) (.ask e (.pos rfl (.pos (by show(v.2.1 !=0)=true;rw[g];rfl) (.ask h1 (.ret _))))),h2.2⟩
 have chain:∀{v:Int×ByteArray×Int×Int×ByteArray×Rows×Rows×RS}{w:RS},Ev (λn=>eg n 1 (bG s (aJ s 0) 0 0)) v->Ev (λn=>n8 n (pT v)) w->∀{k:Nat->Int×ByteArray×Int×Int×ByteArray×Rows×Rows×RS->Bool×RS->Option (Int×ByteArray×Int×Int×ByteArray×Rows×Rows×Int×Int)}{r},Ev (λn=>k n v (w.2.2.2.2.2.2==0,w)) r->Ev (λn=>ask (mS n s 0) λm=>ask (eg n 1 (s,fW m (0,0,0))) λi=>ask (n8 n i.2.2.2.2.2.2.2) λl=>ask (fA n l) λj=>k n i j) r:=λh1 h2 _ _ h3=>.ask hl (.ask h1 (.ask h2 (.ask (tK _) h3)))
 have bad:∀{v:Int×ByteArray×Int×Int×ByteArray×Rows×Rows×RS},Ev (λn=>eg n 1 (bG s (aJ s 0) 0 0)) v->Dm s (pT v)->∃w:RS,w.2.2.2.2.2.2≠0/\Ev (λn=>n8 n (pT v)) w:=λh1 h2=>let⟨w,h3,h4⟩:=fin h2;⟨w,h4,h3⟩
 by_cases g:(aJ s 0).k=5
 .have u:Dm s (bG s (aJ s 0) 0 0):=⟨rfl,by have:=ho.x;have:=ho.e;show(0:Int)<=(((aJ s 0).e-(aJ s 0).x.size:Nat):Int)/\(((aJ s 0).e-(aJ s 0).x.size:Nat):Int)+(aJ s 0).x.size<=s.size;omega,.inr g⟩;obtain⟨v,h1,h2,_⟩:=dT hs 13 1 rfl u none rfl;obtain⟨w,h4,h3⟩:=bad h1 h2;refine⟨v,w.2.2.2.2.2.2==0,w,λh=>chain h1 h3 h,?_⟩;rw[if_pos g];exact⟨beq_eq_false_iff_ne.2 h4,h4⟩
 .rw[if_neg g]
  have q:=Bo g
  obtain⟨v,h1,h2,h3⟩:=nZ hs f (.T 1) (aJ s 0) 0 q ⟨by decide,by decide⟩ 0 X (h g)
  cases X with
  |none=>obtain⟨w,h4,h3⟩:=bad h1 h2;exact⟨v,w.2.2.2.2.2.2==0,w,λh=>chain h1 h3 h,beq_eq_false_iff_ne.2 h4,h4⟩
  |some X=>
   obtain⟨a,t,d⟩:=X
   obtain⟨p,z,e⟩:=h2
   have o:Ev (λn=>n8 n (bG s t d z)) (if t.k=0 then bG s t d z else wW (bG s t d z) ((bG s t d z).2.2.2.1,2)):=by
    refine .step (λn=>FQ n _) (.ask lO (.pos rfl ?_))
    by_cases h0:t.k=0
    .rw[if_pos h0];exact .neg (by show(t.k !=0)=false;rw[h0];rfl) (.ret _)
    .rw[if_neg h0];have:=Ez (bG s t d z) 2 (bG s t d z).2.2.2.1;exact .pos (bne_iff_ne.2 h0) (.ask (.step (λn=>NB n _) (.ask this (.ret _))) (.ret _))
   have c:Ev (λn=>n8 n (pT v)) (if t.k=0 then bG s t d z else wW (bG s t d z) ((bG s t d z).2.2.2.1,2)):=by rw[e];exact o
   by_cases h0:t.k=0
   .rw[if_pos h0]at c;exact⟨v,true,bG s t d z,λh=>chain h1 c h,.inl ⟨h0,rfl,h3 a t d rfl⟩⟩
   .rw[if_neg h0]at c;exact⟨v,false,wW (bG s t d z) ((bG s t d z).2.2.2.1,2),λh=>chain h1 c h,.inr ⟨h0,rfl,show(2:Int)≠0 by decide⟩⟩
theorem Ro(s:ByteArray):∃r,RdP s r:=by
 by_cases hs:s.size<=65536
 .obtain⟨X,f,u⟩:∃X f,(aJ s 0).k≠5->sp s f (.T 1) (aJ s 0) 0=some X:=by
   by_cases l:(aJ s 0).k=5
   .exact⟨none,0,λh=>absurd l h⟩
   .have D:=Bo l;have hm:=qz (s:=s) (t:=aJ s 0);have:=MJ (40*(2*s.size+1)+21) (.T 1) (aJ s 0) 0 D ⟨by decide,by decide⟩ (by show 40*mu s (aJ s 0)+(20-((1:Nat):Int))<_;omega);cases h:sp s (40*(2*s.size+1)+21) (.T 1) (aJ s 0) 0 with|none=>exact absurd h this|some X=>exact⟨X,_,λ_=>h⟩
  have i:decide ((s.size:Int)>65536)=false:=aH (by omega)
  have hp:=Vt hs X f u
  obtain⟨v,b,w,hr,hb⟩:=Vu hs X f u
  have c:b=false->w.2.2.2.2.2.2≠0->∃v,Ev (λn=>wX n s) v/\v.2.2.2.2.2.2.2.2≠0:=λm o=>⟨(0,bs [],0,0,bs [],[],[],w.2.2.2.2.2),.step (λn=>Bf n _) (.neg i (hr (.pos (by rw[m];rfl) (.ret _)))),o⟩
  have g:(∃v,Ev (λn=>tQ n s (0,bs [],0,0,bs [],[],[])) v/\v.2.1≠0)->∃v,Ev (λn=>wZ n s) v/\v.2.2.2.2.2.2.2.2≠0:=λ⟨v,h1,h2⟩=>⟨(0,bs [],0,0,bs [],[],[],v.1,v.2.1),.step (λn=>Bg n _) (.ask h1 (.pos (bne_iff_ne.2 h2) (.ret _))),h2⟩
  generalize p:(if(aJ s 0).k=5 then none else X)=Y at hp hb
  cases Y with
  |none=>exact⟨none,g hp,c hb.1 hb.2⟩
  |some Y=>
   obtain⟨a,t,d⟩:=Y
   have l:(aJ s 0).k≠5:=λe=>by rw[if_pos e]at p;cases p
   rw[if_neg l]at p
   subst p
   rcases hp with⟨h0,hp⟩|⟨h0,hp⟩
   .rcases hb with⟨_,m,o⟩|⟨j,_⟩
    .obtain⟨⟨z,h3⟩,h4⟩:=nX hs f (.T 1) _ _ (Bo l) trivial a t d (u l)
     have hm:=qz (s:=s) (t:=aJ s 0)
     have C:=v8 z
     have h3:Wa a+100000*mu s t<=0+100000*mu s (aJ s 0):=h3
     have hW:Wa a<=100000000000:=by omega
     have hg:=oX a;obtain⟨ok,q,B,_⟩:=H7 a.1 a.2.1 a.2.2.1 a.2.2.2.1 a.2.2.2.2.1 a.2.2.2.2.2.1 a.2.2.2.2.2.2 (by omega) (by show _<=_;omega);subst o;cases ok with|true=>exact⟨some (vT v),⟨h4,hW,q⟩,.step (λn=>Bg n _) (.ask hp (.neg rfl (.ask q (.neg rfl (.ask (TV h4 hW) (.ret _)))))),.step (λn=>Bf n _) (.neg i (hr (.neg (by rw[m];rfl) (.ask B (.neg rfl (.ret _))))))⟩|false=>exact⟨none,⟨(0,bs [],0,0,bs [],[],[],0,5),.step (λn=>Bg n _) (.ask hp (.neg rfl (.ask q (.pos rfl (.ret _))))),show(5:Int)≠0 by decide⟩,(0,bs [],0,0,bs [],[],[],0,5),.step (λn=>Bf n _) (.neg i (hr (.neg (by rw[m];rfl) (.ask B (.pos rfl (.ret _)))))),show(5:Int)≠0 by decide⟩
    .exact absurd h0 j
   .rcases hb with⟨j,_⟩|⟨_,m,o⟩
    .exact absurd j h0
    .exact⟨none,g hp,c m o⟩
 .have i:decide ((s.size:Int)>65536)=true:=ax (by omega);exact⟨none,⟨(0,bs [],0,0,bs [],[],[],0,3),.step (λn=>Bg n _) (.ask (.step (λn=>wK n _ _) (.pos i (.ret _))) (.pos rfl (.ret _))),show(3:Int)≠0 by decide⟩,(0,bs [],0,0,bs [],[],[],0,3),.step (λn=>Bf n _) (.pos i (.ret _)),show(3:Int)≠0 by decide⟩
end
end Go.AI
end
