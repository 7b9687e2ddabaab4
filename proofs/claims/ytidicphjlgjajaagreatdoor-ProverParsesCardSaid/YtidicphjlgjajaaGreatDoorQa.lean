/-
  A part of the proof: Q1 Q2 Q3.
-/
import Derived.Test.YtidicphjlgjajaaGreatDoorPa
import Derived.Test.YtidicphjlgjajaaGreatDoorPt
set_option linter.all false

section
namespace Go.AI
open Go
theorem Ev.wr{β:Type}{i n:Nat}{r:β}{F:Nat->Int->Option β}(h:i<n)(hn:n<=9223372036854775807)(hk:Ev (λl=>F l ((i+1:Nat):Int)) r):Ev (λl=>F l (IntKind.i64.wrap ((i:Int)+1))) r:=by rw[lY h hn];exact hk
def iz(x:UInt8):Bool:=(x.toNat:Int)==32||(x.toNat:Int)==9||(x.toNat:Int)==10
def cC(x:UInt8):Bool:=ga (x.toNat:Int)
def bw(p:UInt8->Bool):List UInt8->Nat|[]=>0|x::l=>if p x then bw p l+1 else 0
theorem qn(p:UInt8->Bool):∀l,bw p l<=l.length|[]=>ak _|x::l=>by have:=qn p l;simp only[bw];split<;>simp<;>omega
section
variable {β:Type}{v:β}{s:ByteArray}{F K:Nat->Int->Option β}
theorem Dg{p:UInt8->Bool}(hs:s.size<=281474976710656)(h1:∀(i:Nat)(x:UInt8),s.data.toList[i]?=some x->p x=true->Ev (λn=>F n ((i+1:Nat):Int)) v->Ev (λn=>F n (i:Int)) v)(h2:∀(i:Nat),(∀x,s.data.toList[i]?=some x->p x=false)->i<=s.size->Ev (λn=>K n (i:Int)) v->Ev (λn=>F n (i:Int)) v):
 ∀(d i:Nat),s.size-i=d->i<=s.size->Ev (λn=>K n ((i+bw p (s.data.toList.drop i):Nat):Int)) v->Ev (λn=>F n (i:Int)) v
 |0,i,hd,hi,hk=>by
  have hn:s.data.toList.length<=i:=by rw[bV];omega
  rw[List.drop_eq_nil_of_le hn]at hk;exact h2 i (λx e=>by rw[List.getElem?_eq_none hn]at e;cases e) hi hk
 |d+1,i,hd,hi,hk=>by
  have b:i<s.data.toList.length:=by rw[bV];omega
  rw[List.drop_eq_getElem_cons b]at hk
  simp only[bw]at hk
  split at hk
  .rename_i hp;refine h1 i _ (List.getElem?_eq_getElem b) hp (Dg hs h1 h2 d (i+1) (by omega) (by omega) ?_);rw[show i+1+bw p (s.data.toList.drop (i+1))=i+(bw p (s.data.toList.drop (i+1))+1)by omega];exact hk
  .rename_i hp;exact h2 i (λx e=>by rw[List.getElem?_eq_getElem b]at e;cases e;simpa using hp) hi hk
theorem HB(hs:s.size<=281474976710656)(hF:∀n i,F (n+1) i=aa (decide (i<(s.size:Int))) (aV s i λj=>aa (j==32) (F n (IntKind.i64.wrap (i+1))) (aV s i λh=>aa (h==9) (F n (IntKind.i64.wrap (i+1))) (aV s i λg=>aa (g==10) (F n (IntKind.i64.wrap (i+1))) (K n i)))) (K n i))
 {i:Nat}(hi:i<=s.size)(hk:Ev (λn=>K n ((i+bw iz (s.data.toList.drop i):Nat):Int)) v):Ev (λn=>F n (i:Int)) v:=by
 refine Dg (K:=K) hs (λi x hx hp hk=>?_) (λi hn hi hk=>?_) _ i rfl hi hk
 .have b:i<s.size:=by
   rcases Nat.lt_or_ge i s.size with q|q
   .exact q
   .rw[List.getElem?_eq_none (by rw[bV];exact q)]at hx;cases hx
  have hw:Ev (λn=>F n (IntKind.i64.wrap ((i:Int)+1))) v:=.wr b (by omega) hk;refine .step (λn=>hF n i) (.pos (by simp;omega) (.aV rfl hx (.ite (λ_=>hw) λf=>.aV rfl hx (.ite (λ_=>hw) λc=>.aV rfl hx (.pos ?_ hw)))));unfold iz at hp;simpa[f,c]using hp
 .refine .step (λn=>hF n i) (.ite (λe=>?_) λ_=>hk)
  have b:i<s.data.toList.length:=by rw[bV];simpa using e
  have hx:=List.getElem?_eq_getElem b;have hp:=hn _ hx;simp only[iz,Bool.or_eq_false_iff]at hp;exact .aV rfl hx (.neg hp.1.1 (.aV rfl hx (.neg hp.1.2 (.aV rfl hx (.neg hp.2 hk)))))
theorem H8{W:Nat->Int->Option Bool}(hs:s.size<=281474976710656)(hW:∀c,Ev (λn=>W n c) (ga c))(hF:∀n i,F (n+1) i=aa (decide (i<(s.size:Int))) (aV s i λg=>ask (W n g) λf=>aa f (F n (IntKind.i64.wrap (i+1))) (K n i)) (K n i))
 {i:Nat}(hi:i<=s.size)(hk:Ev (λn=>K n ((i+bw cC (s.data.toList.drop i):Nat):Int)) v):Ev (λn=>F n (i:Int)) v:=by
 refine Dg (K:=K) hs (λi x hx hp hk=>?_) (λi hn hi hk=>?_) _ i rfl hi hk
 .have b:i<s.size:=by
   rcases Nat.lt_or_ge i s.size with q|q
   .exact q
   .rw[List.getElem?_eq_none (by rw[bV];exact q)]at hx;cases hx
  exact .step (λn=>hF n i) (.pos (by simp;omega) (.aV rfl hx (.ask (hW _) (.pos hp (.wr b (by omega) hk)))))
 .refine .step (λn=>hF n i) (.ite (λe=>?_) λ_=>hk)
  have b:i<s.data.toList.length:=by rw[bV];simpa using e
  have hx:=List.getElem?_eq_getElem b;exact .aV rfl hx (.ask (hW _) (.neg (hn _ hx) hk))
end
theorem Vi(c:Int):Ev (λn=>BR n c) (ga c):=.step (λn=>X4 n c) (.ask (ov c) (.ite (λh=>by simpa[ga,h]using Ev.ret true) (λh=>.ask (sr c) (.ite (λh2=>by simpa[ga,h,h2]using Ev.ret true) (λh2=>by simpa[ga,h,h2]using Ev.ret (c==95))))))
theorem TK{s:ByteArray}(h:fe s=true):s.size<=6:=by
 unfold fe at h
 rw[List.any_eq_true]at h
 obtain⟨k,h1,h2⟩:=h
 rw[dP h2]
 have:∀k∈rm,k.size<=6:=by decide
 exact this k h1
def ef:List UInt8->Nat->Option Nat|[],a=>some a|c::r,a=>if fi (c.toNat:Int)then ef r (10*a+(c.toNat-48))else none
def fa(w:ByteArray):Int:=if w.size>10\/(w.size>1/\w.data.toList.head?=some 48)then-1 else match ef w.data.toList 0 with|some a=>if a>1000000000 then-1 else a|none=>-1
theorem lZ(c:UInt8):fi (c.toNat:Int)=true↔48<=c.toNat/\c.toNat<=57:=by simp only[fi,aX,decide_eq_true_eq];omega
theorem yN:∀{l:List UInt8}{a u:Nat},ef l a=some u->a*10^l.length<=u
 |[],a,u,h=>by simp only[ef,ab]at h;simp[h]
 |c::r,a,u,h=>by
  simp only[ef]at h
  split at h
  .have:=yN h;rw[aN,Nat.pow_succ];have h2:a*10*10^r.length<=(10*a+(c.toNat-48))*10^r.length:=Nat.mul_le_mul_right _ (by omega);rw[show a*(10^r.length*10)=a*10*10^r.length by rw[Nat.mul_comm (10^r.length) 10,Nat.mul_assoc]];omega
  .cases h
theorem CP:∀{l:List UInt8}{a u:Nat},Lib.parseUint10 a l=.ok u->ef l a=some u
 |[],a,u,h=>by simp only[Lib.parseUint10]at h;cases h;rfl
 |c::r,a,u,h=>by
  simp only[Lib.parseUint10]at h
  split at h
  .rename_i hc
   split at h
   .cases h
   .split at h
    .cases h
    .simp only[ef,(lZ c).2 hc,if_true];rw[show 10*a=a*10 by omega];exact CP h
  .cases h
theorem CQ:∀{l:List UInt8}{a u:Nat},ef l a=some u->u<=18446744073709551615->Lib.parseUint10 a l=.ok u
 |[],a,u,h,_=>by simp only[ef,ab]at h;subst h;rfl
 |c::r,a,u,h,e=>by
  simp only[ef]at h
  split at h
  .rename_i hc;have h1:=yN h;have h2:1<=10^r.length:=Nat.one_le_pow _ _ (by omega);have h3:(10*a+(c.toNat-48))*1<=(10*a+(c.toNat-48))*10^r.length:=Nat.mul_le_mul_left _ h2;have b:=(lZ c).1 hc;simp only[Lib.parseUint10,if_pos b];rw[if_neg (by omega),if_neg (by omega),show a*10=10*a by omega];exact CQ h e
  .cases h
theorem TL{w:ByteArray}{u:Nat}(h:ef w.data.toList 0=some u)(h1:¬(w.size>1/\w.data.toList.head?=some 48))(g:u<=1000000000):w.size<=10:=by
 rcases Nat.lt_or_ge 10 w.size with q|q
 .exfalso
  have hl:=bV w
  cases hw:w.data.toList with
  |nil=>rw[hw]at hl;simp at hl;omega
  |cons c r=>
   rw[hw]at h hl h1
   simp only[ef]at h
   split at h
   .rename_i hc
    have f:=(lZ c).1 hc
    have b:c.toNat≠48:=λe=>h1 ⟨by omega,by simp only[List.head?_cons];rw[<-UInt8.toNat_inj.1 (show c.toNat=(48:UInt8).toNat from e)]⟩
    have h2:=yN h
    have h3:10^10<=10^r.length:=Nat.pow_le_pow_right (by omega) (by simp at hl;omega)
    have h4:1*10^r.length<=(10*0+(c.toNat-48))*10^r.length:=Nat.mul_le_mul_right _ (by omega)
    have i:(10:Nat)^10=10000000000:=by decide
    omega
   .cases h
 .exact q
theorem Xj{w:ByteArray}{c:UInt8}(hc:w.data.toList.head?=some c)(hd:fi (c.toNat:Int)=true):
 (fa w<0->gR w=true\/fp w>1000000000\/(w.size>1/\w.data.toList.head?=some 48))/\(0<=fa w->gR w=false/\fp w=fa w/\¬fp w>1000000000/\¬(w.size>1/\w.data.toList.head?=some 48)):=by
 have j:=(lZ c).1 hd
 obtain⟨r,hw⟩:∃r,w.data.toList=c::r:=by cases hl:w.data.toList with|nil=>rw[hl]at hc;cases hc|cons x r=>rw[hl]at hc;cases hc;exact⟨r,rfl⟩
 have b:Lib.atoiAll w.data.toList=match Lib.parseUint10 0 w.data.toList with|.ok u=>if 9223372036854775808<=u then .range else .ok (u:Int)|.range=>.range|_=>Lib.atoiAll []:=by rw[hw];simp only[Lib.atoiAll];rw[if_neg (by omega)];simp only[Lib.parseMag,reduceCtorEq,if_false];cases Lib.parseUint10 0 (c::r)with|ok u=>simp only[show¬c.toNat=45 by omega,not_false_eq_true,true_and,false_and,if_false]|_=>rfl
 by_cases hz:w.size>1/\w.data.toList.head?=some 48
 .have:fa w=-1:=by unfold fa;rw[if_pos (.inr hz)]
  exact⟨λ_=>.inr (.inr hz),λh=>by omega⟩
 cases hg:ef w.data.toList 0 with
 |none=>
  have:fa w=-1:=by
   unfold fa
   split
   .rfl
   .rw[hg]
  refine⟨λ_=>.inl ?_,λh=>by omega⟩;unfold gR;rw[b];cases hp:Lib.parseUint10 0 w.data.toList with|ok u=>rw[CP hp]at hg;cases hg|_=>rfl
 |some u=>
  by_cases i:u<=1000000000
  .have hl:=TL hg hz i
   have ha:fa w=u:=by unfold fa;rw[if_neg (λe=>e.elim (by omega) hz),hg];simp only;rw[if_neg (by omega)]
   have hp:=CQ hg (by omega)
   have l:gR w=false:=by unfold gR;rw[b,hp];simp only;rw[if_neg (by omega)]
   have k:fp w=u:=by unfold fp;rw[b,hp];simp only;rw[if_neg (by omega)]
   exact⟨λh=>by omega,λ_=>⟨l,by rw[k,ha],by omega,hz⟩⟩
  .have ha:fa w=-1:=by
    unfold fa
    split
    .rfl
    .rw[hg];simp only;rw[if_pos (by omega)]
   refine⟨λ_=>?_,λh=>by omega⟩
   cases hp:Lib.parseUint10 0 w.data.toList with
   |ok f=>
    have:f=u:=by rw[CP hp]at hg;exact Option.some.inj hg
    subst this
    by_cases g:9223372036854775808<=f
    .exact .inl (by unfold gR;rw[b,hp];simp only;rw[if_pos g])
    .exact .inr (.inl (by unfold fp;rw[b,hp];simp only;rw[if_neg g];simp only;omega))|_=>exact .inl (by unfold gR;rw[b,hp]<;>rfl)
theorem I2{w:ByteArray}(hw:w.size<=10):∀(d i a:Nat),w.size-i=d->i<=w.size->a<10^i->Ev (λn=>ta n w (a:Int) (i:Int)) (match ef (w.data.toList.drop i) a with
 |some u=>if u>1000000000 then-1 else(u:Int)
 |none=>-1)
 |0,i,a,hd,hi,_=>by
  rw[List.drop_eq_nil_of_le (by rw[bV];omega)]
  refine .step (λn=>Lg n _ _ _) (.neg (by simp;omega) ?_)
  simp only[ef]
  split
  .rename_i h;exact .pos (ax (by omega)) (.ret _)
  .rename_i h;exact .neg (aH (by omega)) (.ret _)
 |d+1,i,a,hd,hi,ha=>by
  have b:i<w.data.toList.length:=by rw[bV];omega
  have hx:=List.getElem?_eq_getElem b
  refine .step (λn=>Lg n _ _ _) (.pos (by simp;omega) (.aV rfl hx (.ask (sr _) ?_)))
  rw[List.drop_eq_getElem_cons b]
  simp only[ef]
  cases c:fi ((w.data.toList[i].toNat:Nat):Int)with
  |false=>exact .pos rfl (.ret _)
  |true=>
   have hc:=(lZ _).1 c
   have f:(10:Nat)^i<=10^9:=Nat.pow_le_pow_right (by omega) (by rw[bV]at b;omega)
   have j:(10:Nat)^9=1000000000:=by decide
   refine .neg rfl (.aV rfl hx ?_)
   have e:(IntKind.i64.wrap ((IntKind.i64.wrap (10*(a:Int)))+(IntKind.i64.wrap (IntKind.u8.wrap (((w.data.toList[i].toNat:Nat):Int)-48)))))=((10*a+(w.data.toList[i].toNat-48):Nat):Int):=by
    generalize w.data.toList[i].toNat=m at hc
    have g:IntKind.u8.wrap ((m:Int)-48)=((m-48:Nat):Int):=by unfold IntKind.wrap;simp only[IntKind.signed,IntKind.bits];simp;omega
    rw[g,IntWalk.i64_in (10*(a:Int)) (by omega),IntWalk.i64_in ((m-48:Nat):Int) (by omega),IntWalk.i64_in _ (by omega)];omega
   rw[e,lY b (by rw[bV];omega)];simp only[if_true];exact I2 hw d (i+1) _ (by omega) (by rw[bV]at b;omega) (by rw[Nat.pow_succ];omega)
theorem MH(w:ByteArray)(h0:0<w.size):Ev (λn=>BU n w) (fa w):=by
 refine .step (λn=>X9 n w) (.ite (λh=>?_) λh=>?_)
 .have:fa w=-1:=by unfold fa;rw[if_pos (.inl (by have:=dP h;omega))]
  rw[this];exact .ret _
 .have h:¬w.size>10:=λe=>of_decide_eq_false h (by omega)
  have hl:=bV w
  obtain⟨c,r,hw⟩:∃c r,w.data.toList=c::r:=by cases b:w.data.toList with|nil=>rw[b]at hl;simp at hl;omega|cons c r=>exact⟨c,r,rfl⟩
  have lp:¬(w.size>1/\w.data.toList.head?=some 48)->Ev (λn=>ta n w 0 0) (fa w):=λhz=>by
   have:=I2 (w:=w) (by omega) _ 0 0 rfl (by omega) (by decide)
   have e:fa w=(match ef (w.data.toList.drop 0) 0 with|some u=>if u>1000000000 then-1 else(u:Int)|none=>-1):=by unfold fa;rw[if_neg (λe=>e.elim h hz)];rfl
   rw[e];exact this
  refine .ite (λh1=>.aV (m:=0) rfl (x:=c) (by rw[hw];rfl) (.ite (λh2=>?_) λh2=>lp λhz=>?_)) λh1=>lp λhz=>?_
  .have:c=48:=by
    have:c.toNat=48:=by have:=eq_of_beq h2;omega
    exact UInt8.toNat_inj.1 this
   have:fa w=-1:=by unfold fa;rw[if_pos (.inr ⟨by have:=dP h1;omega,by rw[hw,this];rfl⟩)]
   rw[this];exact .ret _
  .rw[hw]at hz;have:=Option.some.inj hz.2;subst this;cases h2
  .have:=of_decide_eq_false h1;omega
end Go.AI
end

section
namespace Go.AI
open Go
def dj:List (List UInt8)->List UInt8->List UInt8|[],_=>[]|x::xs,l=>match x.isPrefixOf l with|true=>x|false=>dj xs l
def B0:List (List UInt8):=[[60,60,124],[124,62,62],[124,45,62],[60,45,62],[43,45,62],[45,45,62],[62,45,62],[61,62],[47,61],[60,61],[62,61],[46,46],[92,47],[47,92],[62,60],[60,43],[60,124],[124,62]]
def oa:List UInt8:=[38,61,60,62,43,45,42,47,92,59,126,46,44,124,40,41,91,93,123,125]
def eh:List (List UInt8):=[60,61,62]::[62,45,62,62]::(B0++oa.map λc=>[c])
def ji:List (List UInt8):=[62,45,62,62]::[60,61,62]::B0
def oc(l:List UInt8):List UInt8:=dj eh l
theorem Kr:∀(xs ys:List (List UInt8))(l:List UInt8),(∀x∈xs,x≠[])->(dj xs l=[]->dj (xs++ys) l=dj ys l)/\(dj xs l≠[]->dj (xs++ys) l=dj xs l)|[],ys,l,_=>⟨λ_=>rfl,λh=>absurd rfl h⟩|x::xs,ys,l,h=>by simp only[List.cons_append,dj];cases x.isPrefixOf l with|true=>exact⟨λe=>absurd e (h x (by simp)),λ_=>rfl⟩|false=>exact Kr xs ys l λy hy=>h y (by simp[hy])
theorem Ks:∀(xs:List UInt8)(c:UInt8)(l:List UInt8),(c∈xs->dj (xs.map λc=>[c]) (c::l)=[c])/\(c∉xs->dj (xs.map λc=>[c]) (c::l)=[])
 |[],_,_=>⟨λh=>(by cases h),λ_=>rfl⟩
 |x::xs,c,l=>by
  simp only[List.map_cons,dj]
  by_cases e:x=c
  .subst e;rw[show[x].isPrefixOf (x::l)=true by simp[List.isPrefixOf]];simp
  .rw[show[x].isPrefixOf (c::l)=false by simp[List.isPrefixOf,e]];have:=Ks xs c l;simp only[List.mem_cons,Ne.symm e,false_or];exact this
theorem Xk(c:UInt8)(l:List UInt8):oc (c::l)=if dj ji (c::l)=[]then(if c∈oa then[c]else[])else dj ji (c::l):=by
 have h0:dj ([60,61,62]::[62,45,62,62]::B0) (c::l)=dj ji (c::l):=by
  simp only[dj,ji]
  by_cases e:(60:UInt8)=c
  .subst e;rw[show[62,45,62,62].isPrefixOf ((60:UInt8)::l)=false by simp[List.isPrefixOf]]
  .rw[show[60,61,62].isPrefixOf (c::l)=false by simp[List.isPrefixOf,e]]
 have h1:=Kr ([60,61,62]::[62,45,62,62]::B0) (oa.map λc=>[c]) (c::l) (by decide)
 have h2:=Ks oa c l
 rw[h0]at h1
 split
 .rename_i h
  refine(h1.1 h).trans ?_
  split
  .rename_i q;exact h2.1 q
  .rename_i q;exact h2.2 q
 .rename_i h;exact h1.2 h
theorem yP:∀{xs:List (List UInt8)}{l:List UInt8},dj xs l≠[]->dj xs l∈xs/\dj xs l<+:l|[],_,h=>absurd rfl h|x::xs,l,h=>by simp only[dj]at h⊢;cases hp:x.isPrefixOf l with|true=>exact⟨by simp,List.isPrefixOf_iff_prefix.1 hp⟩|false=>rw[hp]at h;have:=yP h;exact⟨List.mem_cons_of_mem _ this.1,this.2⟩
theorem Kt{s:ByteArray}{i:Nat}{x:List UInt8}(hl:i+x.length<=s.size):ao (s.extract i (i+x.length)) (bs x)=x.isPrefixOf (s.data.toList.drop i):=by
 rw[Bool.eq_iff_iff,gQ,List.isPrefixOf_iff_prefix,List.prefix_iff_eq_take]
 constructor
 .intro e;have:=congrArg (·.data.toList) e;simp only[iw]at this;rw[show i+x.length-i=x.length by omega]at this;exact this.symm
 .intro e;refine ByteArray.ext (Array.ext' ?_);show(s.extract i (i+x.length)).data.toList=x;rw[iw,show i+x.length-i=x.length by omega];exact e.symm
theorem MI{s:ByteArray}{i:Nat}(hi:i<=s.size)(rest:Int×Int×ByteArray×Int×Int×Int)(hs:s.size<=281474976710656):∀(xs:List (List UInt8))(k:Nat),eh.drop k=xs->k<=40->
 (∃(m:Nat)(x:List UInt8),eh[m]?=some x/\dj xs (s.data.toList.drop i)=x/\Ev (λn=>oI n (eR (eh.map bs)) 40 (k:Int) (i:Int) (s,rest)) ((m:Int),(i:Int),s,rest))\/
 (dj xs (s.data.toList.drop i)=[]/\Ev (λn=>oI n (eR (eh.map bs)) 40 (k:Int) (i:Int) (s,rest)) (-1,(i:Int),s,rest))
 |[],k,hk,g=>by refine .inr ⟨rfl,.step (λn=>J5 n _ _ _ _ _) (.neg ?_ (.ret _))⟩;have:eh.length<=k:=List.drop_eq_nil_iff.1 hk;have:(40:Nat)<=k:=this;exact aH (by omega)
 |x::xs,k,hk,g=>by
  have b:k<eh.length:=by
   rcases Nat.lt_or_ge k eh.length with q|q
   .exact q
   .rw[List.drop_eq_nil_of_le q]at hk;cases hk
  have f:k<40:=b
  rw[List.drop_eq_getElem_cons b]at hk
  obtain⟨h1,h2⟩:=List.cons.inj hk
  have hx:eh[k]?=some x:=by rw[List.getElem?_eq_getElem b,h1]
  have c:(eR (eh.map bs))[k]?=some [.sc (.string (bs x))]:=by rw[uo,List.getElem?_map,hx];rfl
  have hf:Ev (λn=>FN n (bs x) (i:Int) (s,rest)) (x.isPrefixOf (s.data.toList.drop i),(i:Int),s,rest):=by
   refine .step (λn=>W8 n _ _ _) (.cn (by simp;omega) (.pos rfl ?_))
   have:qK (s.extract (i:Int).toNat (s.size:Int).toNat) (bs x)=x.isPrefixOf (s.data.toList.drop i):=by unfold qK Lib.hasPrefix;rw[iw,List.take_of_length_le (by simp)];rfl
   show Ev (λn=>some (qK _ _,_,_)) _;rw[this];exact .ret _
  have eL:∀v,(x.isPrefixOf (s.data.toList.drop i)=true->v=((k:Int),(i:Int),s,rest))->(x.isPrefixOf (s.data.toList.drop i)=false->Ev (λn=>oI n (eR (eh.map bs)) 40 ((k+1:Nat):Int) (i:Int) (s,rest)) v)->Ev (λn=>oI n (eR (eh.map bs)) 40 (k:Int) (i:Int) (s,rest)) v:=by
   intro v h3 h4
   refine .step (λn=>J5 n _ _ _ _ _) (.pos (ax (by omega)) (.ae rfl c (.ask hf (.ite (λe=>?_) λe=>?_))))
   .rw[h3 e];exact .ret _
   .rw[lY f (by omega)];exact h4 e
  cases hp:x.isPrefixOf (s.data.toList.drop i)with
  |true=>exact .inl ⟨k,x,hx,by simp only[dj,hp],eL _ (λ_=>rfl) λe=>by rw[hp]at e;cases e⟩
  |false=>
   rcases MI hi rest hs xs (k+1) h2 (by omega)with⟨m,y,q1,q2,q3⟩|⟨q1,q2⟩
   .exact .inl ⟨m,y,q1,by simp only[dj,hp];exact q2,eL _ (λe=>by rw[hp]at e;cases e) λ_=>q3⟩
   .exact .inr ⟨by simp only[dj,hp];exact q1,eL _ (λe=>by rw[hp]at e;cases e) λ_=>q2⟩
theorem Ev.Az{α β:Type}{r:β}{l:List α}{i:Int}{m:Nat}{F:Nat->Option β}{x:α}(hi:i=(m:Int))(h:l[m]?=some x)(hk:Ev F r):Ev (λn=>Go.AI.ae l i λ_=>F n) r:=.ae hi h hk
theorem TP{s:ByteArray}{i:Nat}(hi:i<s.size)(hs:s.size<=281474976710656):Ev (λn=>Gf n s (i:Int)) (bs (oc (s.data.toList.drop i))):=by
 have p:i<s.data.toList.length:=by rw[bV];exact hi
 have hd:=List.drop_eq_getElem_cons p
 have key:∀(xs:List (List UInt8))(k:Nat),ji.drop k=xs->k<=20->Ev (λn=>tb n s (i:Int) (k:Int) (eR (ji.map bs))) (bs (if dj xs (s.data.toList.drop i)=[]then(if s.data.toList[i]∈oa then[s.data.toList[i]]else[])else dj xs (s.data.toList.drop i))):=by
  intro xs
  induction xs with
  |nil=>
   intro k hk t
   have:(20:Nat)<=k:=List.drop_eq_nil_iff.1 hk
   have v:(s.extract i (i+1))=bs [s.data.toList[i]]:=by refine ByteArray.ext (Array.ext' ?_);show(s.extract i (i+1)).data.toList=[s.data.toList[i]];rw[iw,hd,show i+1-i=1 by omega];rfl
   have u:=Bm (bs [s.data.toList[i]]) ((oa.map λc=>[c]).map bs) (by decide) _ 0 rfl
   have j:jO (bs [s.data.toList[i]]) (((oa.map λc=>[c]).map bs).drop 0)=decide (s.data.toList[i]∈oa):=by
    rw[Bool.eq_iff_iff,Sc,decide_eq_true_eq,List.drop_zero]
    simp only[List.map_map,List.mem_map,Function.comp]
    constructor
    .rintro⟨c,h1,h2⟩;have:=congrArg (·.data.toList) h2;have h3:[c]=[s.data.toList[i]]:=this;rw[<-(List.cons.inj h3).1];exact h1
    .exactλh=>⟨_,h,rfl⟩
   refine .step (λn=>Lh n _ _ _ _) (.neg (aH (by have:((eR (ji.map bs)).length:Int)=20:=rfl;omega)) ?_)
   rw[lY hi (by omega)]
   refine .cn (by omega) ?_
   simp only[Int.toNat_natCast,v]
   refine .ask (.step (λn=>EU n _ _) u) ?_
   simp only[dj,if_true,j]
   split
   .rename_i h1;exact .pos (ax h1) (.cn (by omega) (by simp only[Int.toNat_natCast,v];exact .ret _))
   .rename_i h1;exact .neg (aH h1) (.ret _)
  |cons x xs ih=>
   intro k hk t
   have g:k<ji.length:=by
    rcases Nat.lt_or_ge k ji.length with q|q
    .exact q
    .rw[List.drop_eq_nil_of_le q]at hk;cases hk
   have l:k<20:=g
   rw[List.drop_eq_getElem_cons g]at hk
   obtain⟨h1,h2⟩:=List.cons.inj hk
   have hx:ji[k]?=some x:=by rw[List.getElem?_eq_getElem g,h1]
   have b:(eR (ji.map bs))[k]?=some [.sc (.string (bs x))]:=by rw[uo,List.getElem?_map,hx];rfl
   have o:x≠[]/\x.length<=4:=by
    have:∀y∈ji,y≠[]/\y.length<=4:=by decide
    exact this x (by rw[<-h1];exact List.getElem_mem g)
   have next:x.isPrefixOf (s.data.toList.drop i)=false->Ev (λn=>tb n s (i:Int) (IntKind.i64.wrap ((k:Int)+1)) (eR (ji.map bs))) (bs (if dj (x::xs) (s.data.toList.drop i)=[]then(if s.data.toList[i]∈oa then[s.data.toList[i]]else[])else dj (x::xs) (s.data.toList.drop i))):=by intro hp;simp only[dj,hp];rw[lY l (by omega)];exact ih (k+1) h2 (by omega)
   refine .step (λn=>Lh n _ _ _ _) (.pos (ax (by have:((eR (ji.map bs)).length:Int)=20:=rfl;omega)) (.Az rfl b (.cL (by rw[Int.toNat_natCast];exact b) ?_)))
   rw[IntWalk.i64_in ((s.size:Int)-i) (by omega)]
   refine .ite (λe=>?_) λe=>?_
   .have f:((bs x).size:Int)=x.length:=rfl
    have m:i+x.length<=s.size:=by have:=dP e;simp only[gS,List.getElem?_cons_zero]at this;rw[f]at this;omega
    refine .Az rfl b (.cL (by rw[Int.toNat_natCast];exact b) ?_);simp only[gS,List.getElem?_cons_zero,f];rw[show(i:Int)+(x.length:Int)=((i+x.length:Nat):Int)by omega,IntWalk.i64_in _ (by omega)];refine .cn (by omega) ?_;simp only[Int.toNat_natCast];refine .Az rfl b (.cL b ?_);simp only[gS,List.getElem?_cons_zero,Kt m];refine .ite (λhp=>?_) next;refine .Az rfl b (.cL b ?_);simp only[dj,hp];rw[if_neg o.1];exact .ret _
   .refine next ?_;have:=of_decide_eq_false e;simp only[gS,List.getElem?_cons_zero]at this;have f:((bs x).size:Int)=x.length:=rfl;rw[f]at this;rw[Bool.eq_false_iff];intro hp;have:=(List.isPrefixOf_iff_prefix.1 hp).length_le;rw[List.length_drop,bV]at this;omega
 have:=key ji 0 rfl (by omega);rw[hd]at this⊢;rw[Xk];exact .step (λn=>Ya n _ _) this
end Go.AI
end

section
namespace Go.AI
open Go
structure Tk where
 k:Int
 x:ByteArray
 v:Int
 e:Nat
def aJ(s:ByteArray)(i:Nat):Tk:=
 let a:=i+bw iz (s.data.toList.drop i)
 match s.data.toList[a]? with
 |none=>⟨0,bs [],0,a⟩
 |some c=>
  let e:=a+bw cC (s.data.toList.drop a)
  let w:=s.extract a e
  match jW (c.toNat:Int),fi (c.toNat:Int)with
  |true,_=>if w.size>16 then⟨5,w,0,e⟩else match fe w with|true=>⟨2,w,0,e⟩|false=>if s.data.toList[e]?=some 39 then⟨1,s.extract a (e+1),0,e+1⟩else⟨1,w,0,e⟩
  |false,true=>if fa w<0 then⟨5,w,0,e⟩else⟨3,w,fa w,e⟩|false,false=>if oc (s.data.toList.drop a)=[]then⟨5,bs [],0,a⟩else⟨4,bs (oc (s.data.toList.drop a)),0,a+(oc (s.data.toList.drop a)).length⟩
section
variable {s:ByteArray}{i:Nat}
theorem uL{a e:Nat}(h1:a<=e)(h2:e<=s.size):(s.extract a e).size=e-a:=by rw[<-bV,iw,List.length_take,List.length_drop,bV];omega
theorem DN{p:UInt8->Bool}{l:List UInt8}{a:Nat}{c:UInt8}(h:l[a]?=some c)(hp:p c=true):0<bw p (l.drop a):=by
 have b:a<l.length:=by
  rcases Nat.lt_or_ge a l.length with q|q
  .exact q
  .rw[List.getElem?_eq_none q]at h;cases h
 rw[List.drop_eq_getElem_cons b];rw[List.getElem?_eq_getElem b]at h;cases h;simp only[bw,hp,if_true];omega
structure pg(s:ByteArray)(i:Nat)(t:Tk):Prop where
 e:t.e<=s.size
 x:t.x.size<=t.e
 go:t.k≠0->t.k≠5->i<t.e
 nd:t.k=0->t.x=bs []
 kd:t.k=0\/t.k=1\/t.k=2\/t.k=3\/t.k=4\/t.k=5
 nm:t.k=3->t.v=fa t.x/\0<=t.v
 wd:t.k=2->fe t.x=true
 id:t.k=1->∃c r,t.x.data.toList=c::r/\jW (c.toNat:Int)=true
 sg:t.k=3->∃c r,t.x.data.toList=c::r/\fi (c.toNat:Int)=true
 si:t.k=4->t.x.data.toList∈eh
 en:t.k=0->t.e=s.size
 nk:t.k=1->fe t.x=false/\bF t.x=!eK t.x
theorem Ku{p:UInt8->Bool}:∀(l:List UInt8)(x:UInt8),x∈l.take (bw p l)->p x=true
 |[],x,h=>by simp at h
 |c::l,x,h=>by
  simp only[bw]at h
  split at h
  .rename_i hp
   rw[List.take_succ_cons]at h
   rcases List.mem_cons.1 h with rfl|h
   .exact hp
   .exact Ku l x h
  .simp at h
theorem TQ{w:ByteArray}{c:UInt8}{r:List UInt8}(hw:w.data.toList=c::r)(hc:jW (c.toNat:Int)=true)(ha:∀x∈w.data.toList,cC x=true)(g:w.size<=16)(hk:fe w=false):
 (bF w=true/\eK w=false)/\∀y:ByteArray,y.data.toList=w.data.toList++[39]->fe y=false/\bF y=false/\eK y=true:=by
 have hid:bF w=true:=by
  have h3:hY w.data.toList=true:=by unfold hY;rw[List.all_eq_true];exact ha
  simp only[bF,ax g,hw,nB,hc,hk,Bool.true_and,Bool.not_false];rw[<-hw];exact h3
 refine⟨⟨hid,?_⟩,λy hy=>?_⟩
 .have:fQ w=false:=by unfold fQ;cases hl:w.data.toList.getLast? with|none=>rfl|some b=>have:=ha b (List.mem_of_getLast? hl);show(b==39)=false;rw[beq_eq_false_iff_ne];rintro rfl;exact absurd this (by decide)
  simp only[eK,this,Bool.and_false,Bool.false_and]
 .have f:(39:UInt8)∈y.data.toList:=by rw[hy];simp
  refine⟨?_,?_,?_⟩
  .rw[Bool.eq_false_iff]
   intro h
   unfold fe at h
   rw[List.any_eq_true]at h
   obtain⟨k,h1,h2⟩:=h
   have:∀k∈rm,(39:UInt8)∉k.data.toList:=by decide
   exact this k h1 (by rw[<-dP h2];exact f)
  .have:hY y.data.toList=false:=by rw[Bool.eq_false_iff];intro h;unfold hY at h;rw[List.all_eq_true]at h;exact absurd (h 39 f) (by decide)
   simp only[bF,this,Bool.and_false]
  .have e:kQ y=w:=by refine ByteArray.ext (Array.ext' ?_);rw[CM,hy,List.dropLast_concat]
   have j:fQ y=true:=by unfold fQ;rw[hy,List.getLast?_concat];rfl
   have hs:1<y.size:=by rw[<-bV,hy,hw];simp
   simp only[eK,e,j,hid,ax hs,Bool.and_self]
theorem qe(hi:i<=s.size):pg s i (aJ s i):=by
 have hl:=bV s
 have h1:=qn iz (s.data.toList.drop i)
 rw[List.length_drop,hl]at h1
 unfold aJ
 simp only
 split
 .rename_i hc;have:=List.getElem?_eq_none_iff.1 hc;exact⟨by simp only;omega,by simp[ba],λe=>absurd rfl e,λ_=>rfl,.inl rfl,λe=>(by cases e),λe=>(by cases e),λe=>(by cases e),λe=>(by cases e),λe=>(by cases e),λ_=>by simp only;omega,λe=>(by cases e)⟩
 rename_i c hc
 have h0:i<=i+bw iz (s.data.toList.drop i):=Nat.le_add_right ..
 have h1:i+bw iz (s.data.toList.drop i)<=s.size:=by omega
 generalize i+bw iz (s.data.toList.drop i)=a at hc h0 h1⊢
 have ha:a<s.size:=by
  rcases Nat.lt_or_ge a s.size with q|q
  .exact q
  .rw[List.getElem?_eq_none (by omega)]at hc;cases hc
 have h2:=qn cC (s.data.toList.drop a)
 rw[List.length_drop,hl]at h2
 have b:cC c=true->0<bw cC (s.data.toList.drop a):=λh=>DN hc h
 have hw:=uL (s:=s) (a:=a) (e:=a+bw cC (s.data.toList.drop a)) (by omega) (by omega)
 have f:∀{e:Nat},a<e->∃r,(s.extract a e).data.toList=c::r:=λ{e}z=>by
  rw[iw]
  have j:a<s.data.toList.length:=by omega
  rw[List.drop_eq_getElem_cons j];rw[List.getElem?_eq_getElem j]at hc;obtain⟨m,hm⟩:∃m,e-a=m+1:=⟨e-a-1,by omega⟩;rw[hm,List.take_succ_cons];cases hc;exact⟨_,rfl⟩
 have o:∀{e:Nat},s.data.toList[e]?=some 39->e<s.size:=λ{e}h=>by
  rcases Nat.lt_or_ge e s.size with q|q
  .exact q
  .rw[List.getElem?_eq_none (by omega)]at h;cases h
 cases hL:jW (c.toNat:Int)with
 |true=>
  have hp:=b (by simp[cC,ga,hL])
  simp only
  split
  .exact⟨by simp only;omega,by simp only;omega,λ_ e=>absurd rfl e,λe=>(by cases e),.inr (.inr (.inr (.inr (.inr rfl)))),λe=>(by cases e),λe=>(by cases e),λe=>(by cases e),λe=>(by cases e),λe=>(by cases e),λe=>(by cases e),λe=>(by cases e)⟩
  .cases hk:fe (s.extract a (a+bw cC (s.data.toList.drop a)))with
   |true=>exact⟨by simp only;omega,by simp only;omega,λ_ _=>by simp only;omega,λe=>(by cases e),.inr (.inr (.inl rfl)),λe=>(by cases e),λ_=>hk,λe=>(by cases e),λe=>(by cases e),λe=>(by cases e),λe=>(by cases e),λe=>(by cases e)⟩
   |false=>
    have k:∀x∈(s.extract a (a+bw cC (s.data.toList.drop a))).data.toList,cC x=true:=by rw[iw,show a+bw cC (s.data.toList.drop a)-a=bw cC (s.data.toList.drop a)by omega];exact Ku _
    obtain⟨t,g⟩:=f (e:=a+bw cC (s.data.toList.drop a)) (by omega)
    obtain⟨n1,n2⟩:=TQ g hL k (by omega) hk
    simp only
    split
    .rename_i l;have:=o l;have u:=uL (s:=s) (a:=a) (e:=a+bw cC (s.data.toList.drop a)+1) (by omega) (by omega);exact⟨by simp only;omega,by simp only;omega,λ_ _=>by simp only;omega,λe=>(by cases e),.inr (.inl rfl),λe=>(by cases e),λe=>(by cases e),λ_=>let⟨r,h⟩:=f (e:=a+bw cC (s.data.toList.drop a)+1) (by omega);⟨c,r,h,hL⟩,λe=>(by cases e),λe=>(by cases e),λe=>(by cases e),λ_=>(by have n:=n2 (s.extract a (a+bw cC (s.data.toList.drop a)+1)) (by rw[iw,iw,show a+bw cC (s.data.toList.drop a)+1-a=bw cC (s.data.toList.drop a)+1 by omega,show a+bw cC (s.data.toList.drop a)-a=bw cC (s.data.toList.drop a)by omega,List.take_succ,List.getElem?_drop,l];rfl);exact⟨n.1,by rw[n.2.1,n.2.2];rfl⟩)⟩
    .exact⟨by simp only;omega,by simp only;omega,λ_ _=>by simp only;omega,λe=>(by cases e),.inr (.inl rfl),λe=>(by cases e),λe=>(by cases e),λ_=>⟨c,t,g,hL⟩,λe=>(by cases e),λe=>(by cases e),λe=>(by cases e),λ_=>⟨hk,by rw[n1.1,n1.2];rfl⟩⟩
 |false=>
  cases p:fi (c.toNat:Int)with
  |true=>
   have hp:=b (by simp[cC,ga,p])
   simp only
   split
   .exact⟨by simp only;omega,by simp only;omega,λ_ e=>absurd rfl e,λe=>(by cases e),.inr (.inr (.inr (.inr (.inr rfl)))),λe=>(by cases e),λe=>(by cases e),λe=>(by cases e),λe=>(by cases e),λe=>(by cases e),λe=>(by cases e),λe=>(by cases e)⟩
   .exact⟨by simp only;omega,by simp only;omega,λ_ _=>by simp only;omega,λe=>(by cases e),.inr (.inr (.inr (.inl rfl))),λ_=>⟨rfl,by simp only;omega⟩,λe=>(by cases e),λe=>(by cases e),λ_=>let⟨r,h⟩:=f (e:=a+bw cC (s.data.toList.drop a)) (by omega);⟨c,r,h,p⟩,λe=>(by cases e),λe=>(by cases e),λe=>(by cases e)⟩
  |false=>
   simp only
   split
   .exact⟨by simp only;omega,by simp[ba],λ_ e=>absurd rfl e,λe=>(by cases e),.inr (.inr (.inr (.inr (.inr rfl)))),λe=>(by cases e),λe=>(by cases e),λe=>(by cases e),λe=>(by cases e),λe=>(by cases e),λe=>(by cases e),λe=>(by cases e)⟩
   .rename_i hg;obtain⟨w,g2⟩:=yP hg;have v:=g2.length_le;rw[List.length_drop,hl]at v;have C:0<(oc (s.data.toList.drop a)).length:=List.length_pos_iff.2 hg;have B:(dj eh (s.data.toList.drop a)).length=(oc (s.data.toList.drop a)).length:=rfl;exact⟨by simp only;omega,by simp only[ba];omega,λ_ _=>by simp only;omega,λe=>(by cases e),.inr (.inr (.inr (.inr (.inl rfl)))),λe=>(by cases e),λe=>(by cases e),λe=>(by cases e),λe=>(by cases e),λ_=>w,λe=>(by cases e),λe=>(by cases e)⟩
def pk(k:Int):Int:=if k=1\/k=2 then 1 else if k=3 then 2 else if k=4 then 3 else 0
def px(t:Tk):ByteArray:=if t.k=1\/t.k=2\/t.k=4 then t.x else bs []
def pv(t:Tk):Int:=if t.k=3 then t.v else 0
def bc(s:ByteArray)(t:Tk)(q d:Int):ByteArray×Int×Int×ByteArray×Int×Int×Int:=(s,(t.e:Int),pk t.k,px t,pv t,q,d)
theorem adp:∀x∈eh,x.length<=4:=by decide
theorem AA(hs:s.size<=65536)(hi:i<=s.size)(k:Int)(x:ByteArray)(n q d:Int):
 ((aJ s i).k=5/\∃r,Ev (λl=>fG l (s,(i:Int),k,x,n,q,d)) (.aB 207 r ()))\/((aJ s i).k≠5/\∃G,Ev (λl=>fG l (s,(i:Int),k,x,n,q,d)) (.ret (bc s (aJ s i) G d))):=by
 have hl:=bV s
 have h1:=qn iz (s.data.toList.drop i)
 rw[List.length_drop,hl]at h1
 have hb:∀{v:bg _ Unit},Ev (λl=>ve l (s,((i+bw iz (s.data.toList.drop i):Nat):Int),k,x,n,q,d)) v->Ev (λl=>fG l (s,(i:Int),k,x,n,q,d)) v:=λh=>.step (λl=>VY l _) (HB (F:=λl j=>sL l (s,j,k,x,n,q,d)) (K:=λl j=>ve l (s,j,k,x,n,q,d)) (by omega) (λl j=>S9 l _) hi h)
 unfold aJ
 simp only
 have h1:i+bw iz (s.data.toList.drop i)<=s.size:=by omega
 generalize i+bw iz (s.data.toList.drop i)=a at hb h1
 cases hc:s.data.toList[a]? with
 |none=>
  have:s.size<=a:=by have:=List.getElem?_eq_none_iff.1 hc;omega
  exact .inr ⟨by simp,(a:Int),hb (.step (λl=>JX l _) (.pos (beq_iff_eq.2 (show(a:Int)=(s.size:Int)by omega)) (.c7 (by simp[bc,pk,px,pv]))))⟩
 |some c=>
  have ha:a<s.size:=by
   rcases Nat.lt_or_ge a s.size with q|q
   .exact q
   .rw[List.getElem?_eq_none (by omega)]at hc;cases hc
  have h2:=qn cC (s.data.toList.drop a)
  rw[List.length_drop,hl]at h2
  have h3:a+bw cC (s.data.toList.drop a)<=s.size:=by omega
  have hw:∀{v:bg _ Unit},Ev (λl=>ma l ((a+bw cC (s.data.toList.drop a):Nat):Int) (s,(a:Int),k,x,n,q,d) (a:Int)) v->Ev (λl=>fG l (s,(i:Int),k,x,n,q,d)) v:=λh=>hb (.step (λl=>JX l _) (.neg (beq_eq_false_iff_ne.2 (show(a:Int)≠(s.size:Int)by omega)) (H8 (F:=λl j=>za l j (s,(a:Int),k,x,n,q,d) (a:Int)) (K:=λl j=>ma l j (s,(a:Int),k,x,n,q,d) (a:Int)) (W:=wD) (show s.size<=281474976710656 by omega) IZ (λl j=>Tb l _ _ _) (by omega) h)))
  have hx:=uL (s:=s) (a:=a) (e:=a+bw cC (s.data.toList.drop a)) (Nat.le_add_right ..) h3
  have V:(fi (c.toNat:Int)=true->0<bw cC (s.data.toList.drop a)):=λh=>DN hc (by simp[cC,ga,h])
  have U:∀{e:Nat},a<e->(s.extract a e).data.toList.head?=some c:=λ{e}h=>by rw[iw,List.drop_eq_getElem_cons (by omega)];rw[List.getElem?_eq_getElem (by omega)]at hc;obtain⟨m,hm⟩:∃m,e-a=m+1:=⟨e-a-1,by omega⟩;rw[hm,List.take_succ_cons];cases hc;rfl
  have X:a<=a+bw cC (s.data.toList.drop a):=Nat.le_add_right ..
  have J:fi (c.toNat:Int)=true->a<a+bw cC (s.data.toList.drop a):=λh=>by have:=V h;omega
  dsimp only
  generalize a+bw cC (s.data.toList.drop a)=e at hw h3 hx X J⊢
  have f:(0:Int)<=(a:Int)/\(a:Int)<=(e:Int)/\(e:Int)<=(s.size:Int):=by omega
  have fin:∀(t:Tk),((t.k=5/\∃r,Ev (λl=>ma l (e:Int) (s,(a:Int),k,x,n,q,d) (a:Int)) (.aB 207 r ()))\/(t.k≠5/\∃G,Ev (λl=>ma l (e:Int) (s,(a:Int),k,x,n,q,d) (a:Int)) (.ret (bc s t G d))))->(t.k=5/\∃r,Ev (λl=>fG l (s,(i:Int),k,x,n,q,d)) (.aB 207 r ()))\/(t.k≠5/\∃G,Ev (λl=>fG l (s,(i:Int),k,x,n,q,d)) (.ret (bc s t G d))):=λt h=>h.imp (λ⟨h1,r,h2⟩=>⟨h1,r,hw h2⟩) λ⟨h1,r,h2⟩=>⟨h1,r,hw h2⟩
  refine fin _ ?_
  have D:(s.extract (a:Int).toNat (e:Int).toNat)=s.extract a e:=rfl
  cases hL:jW (c.toNat:Int)with
  |true=>
   simp only
   split
   .rename_i Y;exact .inl ⟨rfl,_,.step (λl=>yI l _ _ _) (.cn f (.aV rfl hc (.ask (rZ _) (.pos hL (.pos (ax (by rw[D];omega)) (.ret _))))))⟩
   .rename_i Y
    have pre:∀{v:bg _ Unit},(fe (s.extract a e)=true->Ev (λl=>l6 l (e:Int) (s,(a:Int),k,x,n,q,d) (a:Int)) v)->(fe (s.extract a e)=false->Ev (λl=>aa (decide ((e:Int)<(s.size:Int))) (aV s (e:Int) λb5=>(aa ((b5:Int)==39) (l6 l (IntKind.i64.wrap ((e:Int)+1)) (s,(a:Int),k,x,n,q,d) (a:Int)) (l6 l (e:Int) (s,(a:Int),k,x,n,q,d) (a:Int)))) (l6 l (e:Int) (s,(a:Int),k,x,n,q,d) (a:Int))) v)->Ev (λl=>ma l (e:Int) (s,(a:Int),k,x,n,q,d) (a:Int)) v:=λh4 o=>.step (λl=>yI l _ _ _) (.cn f (.aV rfl hc (.ask (rZ _) (.pos hL (.neg (aH (by rw[D];omega)) (.ask (tJ _) (.ite (λh=>o (by simpa using h)) λh=>h4 (by simpa using h))))))))
    have p:∀{j:Nat}(O:Int),a<=j->j<=s.size->O=1\/O=2->Ev (λl=>l6 l (j:Int) (s,(a:Int),k,x,n,q,d) (a:Int)) (.ret (bc s ⟨O,s.extract a j,0,j⟩ (a:Int) d)):=λ{j}O o Q h7=>.step (λl=>RX l _ _ _) (.cn (by simp only;omega) (.c7 (by rcases h7 with rfl|rfl<;>simp[bc,pk,px,pv])))
    cases hk:fe (s.extract a e)with
    |true=>exact .inr ⟨by simp,_,pre (λ_=>p 2 (by omega) h3 (.inr rfl)) λh=>by rw[hk]at h;cases h⟩
    |false=>
     simp only
     split
     .rename_i g
      have u:e<s.size:=by
       rcases Nat.lt_or_ge e s.size with q|q
       .exact q
       .rw[List.getElem?_eq_none (by omega)]at g;cases g
      exact .inr ⟨by simp,_,pre (λh=>by rw[hk]at h;cases h) λ_=>.pos (ax (by omega)) (.aV rfl g (.pos rfl (by rw[lY u (by omega)];exact p 1 (by omega) (by omega) (.inl rfl))))⟩
     .rename_i g
      refine .inr ⟨by simp,_,pre (λh=>by rw[hk]at h;cases h) λ_=>.ite (λh=>?_) λ_=>p 1 (by omega) h3 (.inl rfl)⟩
      have u:e<s.data.toList.length:=by have:=dP h;omega
      refine .aV rfl (List.getElem?_eq_getElem u) (.neg ?_ (p 1 (by omega) h3 (.inl rfl)));rw[List.getElem?_eq_getElem u]at g;rw[beq_eq_false_iff_ne];intro h;exact g (congrArg some (UInt8.toNat_inj.1 (show s.data.toList[e].toNat=(39:UInt8).toNat by have:(39:UInt8).toNat=39:=rfl;omega)))
  |false=>
   cases P:fi (c.toNat:Int)with
   |true=>
    have C:=U (J P)
    have Z:=Xj C P
    have pre:∀{v:bg _ Unit},Ev (λ_=>(aa (!(!(gR (s.extract a e)))) (some (.aB 207 [.sc (.int .i64 (a:Int))] ())) (aa (decide (((fp (s.extract a e)):Int)>1000000000)) (some (.aB 207 [.sc (.int .i64 (a:Int))] ())) (aa (decide (((s.extract a e).size:Int)>1)) (aV (s.extract a e) 0 λb8=>(aa ((b8:Int)==48) (some (.aB 207 [.sc (.int .i64 (a:Int))] ())) (some (.ret (s,(e:Int),2,(bs []),(fp (s.extract a e)),(a:Int),d))))) (some (.ret (s,(e:Int),2,(bs []),(fp (s.extract a e)),(a:Int),d))))))) v->Ev (λl=>ma l (e:Int) (s,(a:Int),k,x,n,q,d) (a:Int)) v:=λh=>.step (λl=>yI l _ _ _) (.cn f (.aV rfl hc (.ask (rZ _) (.neg hL (.aV rfl hc (.ask (DJ _) (.pos P (.pos (ax (by rw[D];omega)) h))))))))
    obtain⟨b,r,L⟩:∃b r,(s.extract a e).data.toList=b::r:=by cases hq:(s.extract a e).data.toList with|nil=>rw[hq]at C;cases C|cons b r=>exact⟨b,r,rfl⟩
    have M:(s.extract a e).data.toList[0]?=some b:=by rw[L];rfl
    have N:((s.extract a e).size>1/\(s.extract a e).data.toList.head?=some 48)↔((s.extract a e).size>1/\((b.toNat:Int)==48)=true):=by rw[L];simp only[List.head?_cons,ab,beq_iff_eq];refine and_congr_right λ_=>⟨λh=>by rw[h];rfl,λh=>UInt8.toNat_inj.1 (show b.toNat=(48:UInt8).toNat by have:(48:UInt8).toNat=48:=rfl;omega)⟩
    simp only
    split
    .rename_i B
     refine .inl ⟨rfl,[.sc (.int .i64 (a:Int))],pre ?_⟩
     refine .ite (λ_=>.ret _) λq1=>.ite (λ_=>.ret _) λq2=>?_
     rcases Z.1 B with h|h|h
     .rw[h]at q1;cases q1
     .exact absurd h (of_decide_eq_false q2)
     .have h':=N.1 h;exact .pos (ax (by omega)) (.aV (m:=0) rfl M (.pos h'.2 (.ret _)))
    .rename_i B;obtain⟨a1,a2,a3,a4⟩:=Z.2 (by omega);have w:Ev (λ_:Nat=>some (bg.ret (s,(e:Int),(2:Int),bs [],fp (s.extract a e),(a:Int),d):bg _ Unit)) (.ret (bc s ⟨3,s.extract a e,fa (s.extract a e),e⟩ (a:Int) d)):=.c7 (by rw[a2];simp[bc,pk,px,pv]);refine .inr ⟨by simp,(a:Int),pre (.neg (by rw[a1];rfl) (.neg (aH a3) (.ite (λq3=>.aV (m:=0) rfl M (.neg ?_ w)) λ_=>w)))⟩;rw[Bool.eq_false_iff];exactλq4=>a4 (N.2 ⟨by have:=dP q3;omega,q4⟩)
   |false=>
    simp only
    have pre:∀{v:bg _ Unit}{y:Int×Int×_},Ev (λl=>oI l (eR (eh.map bs)) 40 0 (a:Int) (s,(a:Int),k,x,n,q,d)) y->Ev (λl=>(aa (decide (y.1<0)) (some (.aB 207 [.sc (.int .i64 y.2.1)] ())) (ask (Bc l) λR=>(ae R y.1 λE=>(cn y.2.2.1 y.2.1 (IntKind.i64.wrap (y.2.1+(((gS E 0)).size:Int))) λS=>(some (.ret (y.2.2.1,(IntKind.i64.wrap (y.2.1+(((gS E 0)).size:Int))),3,S,0,y.2.1,y.2.2.2.2.2.2.2.2)))))))) v->Ev (λl=>ma l (e:Int) (s,(a:Int),k,x,n,q,d) (a:Int)) v:=λh4 o=>.step (λl=>yI l _ _ _) (.cn f (.aV rfl hc (.ask (rZ _) (.neg hL (.aV rfl hc (.ask (DJ _) (.neg P (.ask (.step (λl=>My l) (.ret _)) (.ask (.step (λl=>WM l _ _ _) h4) o)))))))))
    rcases MI (s:=s) (i:=a) (by omega) ((a:Int),k,x,n,q,d) (by omega) eh 0 rfl (by omega)with⟨m,y,h4,o,Q⟩|⟨o,Q⟩
    .have hy:y≠[]:=by
      have:∀z∈eh,z≠[]:=by decide
      exact this y (List.mem_of_getElem? h4)
     have hg:oc (s.data.toList.drop a)=y:=o
     have I:=(yP (xs:=eh) (l:=s.data.toList.drop a) (by rw[o];exact hy)).2.length_le
     rw[o,List.length_drop,hl]at I
     rw[if_neg (by rw[hg];exact hy),hg]
     refine .inr ⟨by simp,(a:Int),pre Q (.neg (aH (by simp only;omega)) (.ask (.step (λl=>My l) (.ret _)) (.ae rfl (x:=[.sc (.string (bs y))]) ?_ ?_)))⟩
     .have:(eR (eh.map bs))[m]?=some [.sc (.string (bs y))]:=by rw[uo,List.getElem?_map,h4];rfl
      exact this
     .have T:(((gS [.sc (.string (bs y))] 0).size:Nat):Int)=(y.length:Int):=rfl
      simp only[T]
      rw[show(a:Int)+(y.length:Int)=((a+y.length:Nat):Int)by omega,IntWalk.i64_in _ (by omega)]
      refine .cn (by omega) (.c7 ?_)
      have:s.extract (a:Int).toNat ((a+y.length:Nat):Int).toNat=bs y:=by refine gQ.1 ?_;have:=Kt (s:=s) (i:=a) (x:=y) (by omega);rw[Int.toNat_natCast,Int.toNat_natCast,this,List.isPrefixOf_iff_prefix,<-o];exact(yP (xs:=eh) (by rw[o];exact hy)).2
      rw[this];simp[bc,pk,px,pv]
    .have hg:oc (s.data.toList.drop a)=[]:=o;rw[if_pos hg];exact .inl ⟨rfl,_,pre Q (.pos rfl (.ret _))⟩
theorem E1(hs:s.size<=65536)(hi:i<=s.size):Ev (λl=>mS l s (i:Int)) ((aJ s i).k,(aJ s i).x,(((aJ s i).e-(aJ s i).x.size:Nat):Int)):=by
 have hl:=bV s
 have h1:=qn iz (s.data.toList.drop i)
 rw[List.length_drop,hl]at h1
 have hb:∀{v:Int×ByteArray×Int},Ev (λl=>vH l s ((i+bw iz (s.data.toList.drop i):Nat):Int) (0,bs [],0)) v->Ev (λl=>mS l s (i:Int)) v:=λh=>.step (λl=>XL l _ _) (HB (F:=λl j=>s6 l s j (0,bs [],0)) (K:=λl j=>vH l s j (0,bs [],0)) (show s.size<=281474976710656 by omega) (λl j=>UL l _ _ _) hi h)
 have h1:i+bw iz (s.data.toList.drop i)<=s.size:=by omega
 unfold aJ
 simp only
 generalize i+bw iz (s.data.toList.drop i)=a at hb h1
 cases hc:s.data.toList[a]? with
 |none=>
  have:s.size<=a:=by have:=List.getElem?_eq_none_iff.1 hc;omega
  exact hb (.step (λl=>La l _ _ _) (.pos (beq_iff_eq.2 (show(a:Int)=(s.size:Int)by omega)) (.ret _)))
 |some c=>
  have ha:a<s.size:=by
   rcases Nat.lt_or_ge a s.size with q|q
   .exact q
   .rw[List.getElem?_eq_none (by omega)]at hc;cases hc
  have h2:=qn cC (s.data.toList.drop a)
  rw[List.length_drop,hl]at h2
  have h3:a+bw cC (s.data.toList.drop a)<=s.size:=by omega
  have hw:∀{v:Int×ByteArray×Int},Ev (λl=>vL l s (a:Int) ((a+bw cC (s.data.toList.drop a):Nat):Int) (0,bs [],0)) v->Ev (λl=>mS l s (i:Int)) v:=λh=>hb (.step (λl=>La l _ _ _) (.neg (beq_eq_false_iff_ne.2 (show(a:Int)≠(s.size:Int)by omega)) (H8 (F:=λl j=>Ac l s (a:Int) j (0,bs [],0)) (K:=λl j=>vL l s (a:Int) j (0,bs [],0)) (W:=BR) (show s.size<=281474976710656 by omega) Vi (λl j=>UN l _ _ _ _) (by omega) h)))
  have hx:=uL (s:=s) (a:=a) (e:=a+bw cC (s.data.toList.drop a)) (Nat.le_add_right ..) h3
  have b:a<=a+bw cC (s.data.toList.drop a):=Nat.le_add_right ..
  have n:fi (c.toNat:Int)=true->a<a+bw cC (s.data.toList.drop a):=λh=>by have:=DN (p:=cC) hc (by simp[cC,ga,h]);omega
  dsimp only
  generalize a+bw cC (s.data.toList.drop a)=e at hw h3 hx b n⊢
  have m:(0:Int)<=(a:Int)/\(a:Int)<=(e:Int)/\(e:Int)<=(s.size:Int):=by omega
  have hr:∀{k:Int}{j:Nat},a<=j->j<=s.size->Ev (λ_:Nat=>some (k,s.extract a j,(a:Int))) (k,s.extract a j,((j-(s.extract a j).size:Nat):Int)):=λ{k j}h4 u=>.c7 (by have:=uL (s:=s) h4 u;rw[this];congr 2;omega)
  refine hw (.step (λl=>US l _ _ _ _) (.cn m (.aV rfl hc (.ask (ov _) ?_))))
  simp only[Int.toNat_natCast]
  cases hL:jW (c.toNat:Int)with
  |true=>
   simp only
   refine .pos rfl (.ask (NH _) ?_)
   cases hk:fe (s.extract a e)with
   |true=>have:=TK hk;rw[if_neg (by omega)];exact .pos rfl (hr b h3)
   |false=>
    refine .neg rfl (.step (λl=>JU l _ _ _ _ _) (.aV rfl hc (.ask (ov _) (.pos hL ?_))))
    split
    .rename_i t;exact .pos (ax (by omega)) (hr b h3)
    .rename_i t
     refine .neg (aH (by omega)) (.step (λl=>JT l _ _ _ _ _) (.aV rfl hc (.ask (ov _) (.pos hL ?_))))
     simp only
     split
     .rename_i f
      have g:e<s.size:=by
       rcases Nat.lt_or_ge e s.size with q|q
       .exact q
       .rw[List.getElem?_eq_none (by omega)]at f;cases f
      refine .pos (ax (by omega)) (.aV rfl f (.pos rfl ?_));rw[lY g (by omega)];refine .cn (by omega) ?_;simp only[Int.toNat_natCast];exact hr (by omega) (by omega)
     .rename_i f
      refine .ite (λh=>?_) λ_=>hr b h3
      have g:e<s.data.toList.length:=by have:=dP h;omega
      refine .aV rfl (List.getElem?_eq_getElem g) (.neg ?_ (hr b h3));rw[List.getElem?_eq_getElem g]at f;rw[beq_eq_false_iff_ne];intro h;exact f (congrArg some (UInt8.toNat_inj.1 (show s.data.toList[e].toNat=(39:UInt8).toNat by have:(39:UInt8).toNat=39:=rfl;omega)))
  |false=>
   refine .neg rfl (.step (λl=>JU l _ _ _ _ _) (.aV rfl hc (.ask (ov _) (.neg hL (.step (λl=>JT l _ _ _ _ _) (.aV rfl hc (.ask (ov _) (.neg hL (.aV rfl hc (.ask (sr _) ?_))))))))))
   cases o:fi (c.toNat:Int)with
   |true=>
    have:=n o
    simp only
    refine .pos rfl (.ask (MH _ (by omega)) ?_)
    split
    .rename_i h;exact .pos (ax h) (hr b h3)
    .rename_i h;exact .neg (aH h) (.step (λl=>JS l _ _ _ _) (.aV rfl hc (.ask (sr _) (.pos o (hr b h3)))))
   |false=>
    simp only
    refine .neg rfl (.step (λl=>JS l _ _ _ _) (.aV rfl hc (.ask (sr _) (.neg o (.ask (TP ha (by omega)) ?_)))))
    split
    .rename_i hg;rw[hg];exact .neg (by rw[fh];simp) (.ret _)
    .rename_i hg
     refine .pos ?_ (.c7 ?_)
     .rw[fh,Bool.not_eq_true',decide_eq_false_iff_not];intro h;exact hg (congrArg (·.data.toList) h)
     .simp only[ba];congr 2;omega
end
end Go.AI
end
