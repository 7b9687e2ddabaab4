/-
  A part of the proof: PL7 PL8 PL9.
-/
import Derived.Lib.ItoaNum
import Derived.Test.YtidicphjlgjajaaGreatDoorPa
import Derived.Test.YtidicphjlgjajaaGreatDoorPs
set_option linter.all false

section
namespace Go.AI
open Go
theorem Xh{ks:Rows}{c:Nat}(h:qV ks c)(hl:ks.length=1):∃r,ks=[r]/\mU (gI r 0) (gS r 1) (gD r 2) c:=by cases h with|nil=>cases hl|cons v vs=>cases vs with|nil=>exact⟨_,rfl,v⟩|cons _ _=>simp at hl
theorem Xi{ks:Rows}{c:Nat}(h:qV ks c)(hl:ks.length=2):∃r r' f e,ks=[r,r']/\c=f+e/\mU (gI r 0) (gS r 1) (gD r 2) f/\mU (gI r' 0) (gS r' 1) (gD r' 2) e:=by cases h with|nil=>cases hl|cons v vs=>cases vs with|nil=>simp at hl|cons v' b=>cases b with|nil=>exact⟨_,_,_,_,rfl,rfl,v,v'⟩|cons _ _=>simp at hl
theorem ba(l:List UInt8):(bs l).size=l.length:=rfl
theorem bj(a b:ByteArray):(a++b).size=a.size+b.size:=ByteArray.size_append
theorem zw:∀(W:Nat){k:Int}{nm:ByteArray}{ks:Rows}{c:Nat},mU k nm ks c->c<W->c<=16->∃s:ByteArray,s.size<=32*c/\Ev (λl=>tz l k nm ks) s/\Ev (λl=>tA l k nm ks) s
 |0,_,_,_,_,_,h,_=>by omega
 |W+1,k,nm,ks,_,.mk (c:=c) hn hk v,hW,j=>by
  rcases hk with⟨rfl|rfl|rfl,h0⟩|⟨rfl,h2⟩|⟨rfl,h1⟩
  .exact⟨bs [105,110,116],by rw[ba];simp;omega,.step (λl=>vO l _ _ _) (.pos rfl (.ret _)),.step (λl=>vP l _ _ _) (.pos rfl (.ret _))⟩
  .exact⟨bs [98,111,111,108],by rw[ba];simp;omega,.step (λl=>vO l _ _ _) (.neg rfl (.pos rfl (.ret _))),.step (λl=>vP l _ _ _) (.neg rfl (.pos rfl (.ret _)))⟩
  .exact⟨nm,by omega,.step (λl=>vO l _ _ _) (.neg rfl (.neg rfl (.pos rfl (.ret _)))),.step (λl=>vP l _ _ _) (.neg rfl (.neg rfl (.neg rfl (.neg rfl (.ret _)))))⟩
  .obtain⟨r,r',p,o,rfl,rfl,b,g⟩:=Xi v h2
   obtain⟨e,f,p1,q1⟩:=zw W b (by omega) (by omega)
   obtain⟨i,n,p2,q2⟩:=zw W g (by omega) (by omega)
   refine⟨bs [112,97,105,114,40]++e++bs [44,32]++i++bs [41],?_,.step (λl=>vO l _ _ _) ?_,.step (λl=>vP l _ _ _) ?_⟩
   .simp only[bj,ba,aN,List.length_nil];omega
   .refine .neg rfl (.neg rfl (.neg rfl (.neg rfl (.pos rfl (.ae (m:=0) rfl rfl (.ask p1 (.ai ?_ (.ai ?_ (.ae (m:=1) rfl rfl (.ask p2 (.ai ?_ (.ai ?_ (.ret _)))))))))))));all_goals(simp only[bj,ba,aN,List.length_nil];omega)
   .refine .neg rfl (.neg rfl (.neg rfl (.pos rfl (.ae (m:=0) rfl rfl (.ask q1 (.ai ?_ (.ai ?_ (.ae (m:=1) rfl rfl (.ask q2 (.ai ?_ (.ai ?_ (.ret _))))))))))));all_goals(simp only[bj,ba,aN,List.length_nil];omega)
  .obtain⟨r,rfl,b⟩:=Xh v h1
   obtain⟨e,f,p1,q1⟩:=zw W b (by omega) (by omega)
   refine⟨bs [115,101,116,40]++e++bs [41],?_,.step (λl=>vO l _ _ _) ?_,.step (λl=>vP l _ _ _) ?_⟩
   .simp only[bj,ba,aN,List.length_nil];omega
   .refine .neg rfl (.neg rfl (.neg rfl (.pos rfl (.ae (m:=0) rfl rfl (.ask p1 (.ai ?_ (.ai ?_ (.ret _))))))));all_goals(simp only[bj,ba,aN,List.length_nil];omega)
   .refine .neg rfl (.neg rfl (.pos rfl (.ae (m:=0) rfl rfl (.ask q1 (.ai ?_ (.ai ?_ (.ret _)))))));all_goals(simp only[bj,ba,aN,List.length_nil];omega)
theorem Ev.jH{β:Type}{r:β}{n:Int}{m:Nat}{k:Nat->UInt8->Option β}(hn:n=(m:Int))(h:m<256)(hk:Ev (λl=>k l (UInt8.ofNat m)) r):Ev (λl=>jH n (k l)) r:=by subst hn;unfold Go.AI.jH;rw[ax (show(0:Int)<=(m:Int)/\(m:Int)<256 by omega)];exact hk
theorem Ev.cL{α β:Type}{r:β}{l:List α}{m:Nat}{x:α}{k:Nat->α->Option β}(h:l[m]?=some x)(hk:Ev (λn=>k n x) r):Ev (λn=>cL l m (k n)) r:=by unfold Go.AI.cL;rw[h];exact hk
theorem xU:∀(k u:Nat),u<10^(k+1)->Lib.nDigits u<=k+1
 |0,u,h=>by rw[Lib.nDigits_small (by simpa using h)];exact ak _
 |k+1,u,h=>by
  by_cases h1:u<10
  .rw[Lib.nDigits_small h1];omega
  .rw[Lib.nDigits_big h1];have:=xU k (u/10) (by rw[Nat.pow_succ]at h;omega);omega
theorem Ko:∀(N m:Nat),m<N->m<=1000000000->Ev (λl=>kO l (m:Int)) (bs (Lib.decDigits m))
 |0,_,h,_=>by omega
 |N+1,m,g,hm=>by
  refine .step (λl=>As l _) (.neg (by rw[beq_eq_false_iff_ne];omega) (.neg (aH (by omega)) ?_))
  have b:∀k:Nat,k<100->IntKind.u8.wrap (IntKind.i64.wrap (48+(k:Int)))=((48+k:Nat):Int):=by intro k hk;rw[IntWalk.i64_in _ (by omega),show((48:Int)+(k:Int))=((48+k:Nat):Int)by omega];show((48+k:Nat):Int)%256=_;omega
  by_cases h:m<10
  .refine .pos (by simp;omega) (.jH (b m (by omega)) (by omega) ?_);rw[Lib.decDigits_one h];exact .ret _
  .refine .neg (by simp;omega) ?_
   have f:IntKind.i64.wrap (Int.tdiv (m:Int) 10)=((m/10:Nat):Int):=by rw[show Int.tdiv (m:Int) 10=((m/10:Nat):Int)by rw[Int.tdiv_eq_ediv_of_nonneg (by omega)];omega,IntWalk.i64_in _ (by omega)]
   have e:Int.tmod (m:Int) 10=((m%10:Nat):Int):=by rw[Int.tmod_eq_emod_of_nonneg (by omega)];omega
   rw[f,e]
   have hs:(Lib.decDigits (m/10)).length<=10:=by
    rw[Lib.decDigits_length]
    exact xU 9 (m/10) (by have:(10:Nat)^(9+1)=10000000000:=by decide
                          omega)
   refine .ask (Ko N (m/10) (by omega) (by omega)) (.jH (b _ (by omega)) (by omega) (.ai (by simp only[ba,aN,List.length_nil];omega) ?_))
   have:bs (Lib.decDigits (m/10))++bs [UInt8.ofNat (48+m%10)]=bs (Lib.decDigits m):=by
    have c:Lib.decDigits m=Lib.decDigits (m/10)++[UInt8.ofNat (48+m%10)]:=by conv=>lhs;rw[Lib.decDigits,dif_neg h]
    rw[c];exact ByteArray.ext (Array.ext' (by simp))
   rw[this];exact .ret _
theorem P0{N:Int}(h:0<=N)(h':N<=1000000000):Ev (λl=>kO l N) (aY N)/\(aY N).size<=10/\ny N=true:=by
 obtain⟨m,rfl⟩:∃m:Nat,N=(m:Int):=⟨N.toNat,by omega⟩
 have e:aY (m:Int)=bs (Lib.decDigits m):=by unfold aY Lib.itoa;rw[if_neg (by omega),Int.toNat_natCast]
 refine⟨by rw[e];exact Ko _ m (Nat.lt_succ_self _) (by omega),?_,ax (by omega)⟩
 rw[e,ba,Lib.decDigits_length]
 exact xU 9 m (by have:(10:Nat)^(9+1)=10000000000:=by decide
                  omega)
abbrev LIM:Nat:=140737488355328
theorem TJ(f:Bool)(b:ByteArray):Ev (λl=>ER l f b) (true,b):=.const 1 λn=>by rw[U1];cases f<;>rfl
theorem I0(f:Bool)(b:ByteArray):Ev (λl=>BO l f b) (true,b):=.const 1 λn=>by rw[XZ];cases f<;>rfl
theorem mm(s:ByteArray)(f:Bool)(b:ByteArray)(h:b.size+s.size<=140737488355328):Ev (λl=>ko l s f b) ((s.size:Int),true,b++s):=.step (λl=>XX l _ _ _) (.ask (I0 f b) (.fits (by rw[Nat.mul_one];exact h) (.ret _)))
theorem Vh(s:ByteArray)(f:Bool)(b:ByteArray)(h:b.size+s.size<=140737488355328):Ev (λl=>vJ l s f b) ((s.size:Int),true,b++s):=.step (λl=>UQ l _ _ _) (.ask (TJ f b) (.fits (by rw[Nat.mul_one];exact h) (.ret _)))
theorem fD{c:Int}{m:Nat}(hc:c=(m:Int))(hm:m<256)(f:Bool)(b:ByteArray)(h:b.size+1<=140737488355328):Ev (λl=>jJ l c f b) (true,b++bs [UInt8.ofNat m]):=.step (λl=>V2 l _ _ _) (.ask (I0 f b) (.jH hc hm (.fits (by rw[Nat.mul_one];exact h) (.ret _))))
end Go.AI
end

section
namespace Go.AI
open Go
theorem Ev.c7{β:Type}{a r:β}(h:a=r):Ev (λ_=>some a) r:=h▸.ret a
structure xc(op:Int)(nm:ByteArray)(N tk:Int)(tn:ByteArray)(ts ks:Rows)(s:ByteArray)(c:Nat):Prop where
 sh:Ev (λl=>j9 l op nm N tk tn ts ks) s
 wr:∀f b,b.size+s.size<=140737488355328->Ev (λl=>lK l op nm N tk tn ts ks f b) (true,b++s)sz:s.size+100<=700*c
structure Cl(op:Int)(nm:ByteArray)(N tk:Int)(tn:ByteArray)(ts ks:Rows)(s:ByteArray)(c:Nat):Prop where
 sh:Ev (λl=>ka l op nm N tk tn ts ks) s
 wr:∀f b,b.size+s.size<=140737488355328->Ev (λl=>nO l op nm N tk tn ts ks f b) (true,b++s)sz:s.size+98<=700*c
abbrev Bn(r:List AV):=xc (gI r 0) (gS r 1) (gI r 2) (gI r 3) (gS r 4) (gD r 5) (gD r 6)
abbrev Gp(r:List AV):=Cl (gI r 0) (gS r 1) (gI r 2) (gI r 3) (gS r 4) (gD r 5) (gD r 6)
def v7(op:Int):Bool:=if op=3\/op=21\/op=8\/op=9\/op=56 then true else !decide ((oW op).size=0)
section
variable {op:Int}{nm:ByteArray}{N tk:Int}{tn:ByteArray}{ts ks:Rows}
theorem LB(h:1<=op)(h':op<=56):Ev (λl=>Fv l op nm N tk tn ts ks) (v7 op):=by
 refine .step (λl=>We l _ _ _ _ _ _ _) ?_
 unfold v7
 by_cases h1:op=3
 .subst h1;exact .pos rfl (.pos rfl (.ret _))
 by_cases h2:op=21
 .subst h2;exact .neg rfl (.pos rfl (.pos rfl (.ret _)))
 by_cases h3:op=8
 .subst h3;exact .neg rfl (.neg rfl (.pos rfl (.pos rfl (.ret _))))
 by_cases h4:op=9
 .subst h4;exact .neg rfl (.neg rfl (.neg rfl (.pos rfl (.pos rfl (.ret _)))))
 by_cases b:op=56
 .subst b;exact .neg rfl (.neg rfl (.neg rfl (.neg rfl (.pos rfl (.ret _)))))
 rw[if_neg (by simp[h1,h2,h3,h4,b]),<-lb];exact .neg (by simpa using h1) (.neg (by simpa using h2) (.neg (by simpa using h3) (.neg (by simpa using h4) (.neg (by simpa using b) (.ask (Er h h') (.ret _))))))
theorem LC(h:1<=op)(h':op<=56):Ev (λl=>Fw l op nm N tk tn ts ks) (v7 op):=by
 refine .step (λl=>Wf l _ _ _ _ _ _ _) ?_
 unfold v7
 by_cases h1:op=3
 .subst h1;exact .pos rfl (.ret _)
 by_cases h2:op=21
 .subst h2;exact .neg rfl (.pos rfl (.ret _))
 by_cases h3:op=8
 .subst h3;exact .neg rfl (.neg rfl (.pos rfl (.ret _)))
 by_cases h4:op=9
 .subst h4;exact .neg rfl (.neg rfl (.neg rfl (.pos rfl (.ret _))))
 by_cases b:op=56
 .subst b;exact .neg rfl (.neg rfl (.neg rfl (.neg rfl (.pos rfl (.ret _)))))
 rw[if_neg (by simp[h1,h2,h3,h4,b]),<-lb];exact .neg (by simpa using h1) (.neg (by simpa using h2) (.neg (by simpa using h3) (.neg (by simpa using h4) (.neg (by simpa using b) (.ask (LA h h') (.ret _))))))
theorem xc.closed{s:ByteArray}{c:Nat}(t:xc op nm N tk tn ts ks s c)(h:1<=op)(h':op<=56)(hc:c<=2000):∃e,Cl op nm N tk tn ts ks e c:=by
 have hz:=t.sz
 cases g:v7 op with
 |true=>
  have hp:=LB (nm:=nm) (N:=N) (tk:=tk) (tn:=tn) (ts:=ts) (ks:=ks) h h'
  have hr:=LC (nm:=nm) (N:=N) (tk:=tk) (tn:=tn) (ts:=ts) (ks:=ks) h h'
  rw[g]at hp hr
  refine⟨bs [40]++s++bs [41],.step (λl=>Mr l _ _ _ _ _ _ _) (.ask hr (.pos rfl (.ask t.sh (.ai ?_ (.ai ?_ (.ret _)))))),λf b hb=>.step (λl=>Mq l _ _ _ _ _ _ _ _ _) (.ask hp (.pos rfl (.ask (fD (m:=40) rfl (by omega) f b ?_) (.ask (t.wr _ _ ?_) (.ask (fD (m:=41) rfl (by omega) _ _ ?_) (.c7 ?_)))))),?_⟩
  any_goals(simp only[bj,ba,aN,List.length_nil]at*;omega)
  simp only[ByteArray.append_assoc];rfl|false=>have hp:=LB (nm:=nm) (N:=N) (tk:=tk) (tn:=tn) (ts:=ts) (ks:=ks) h h';have hr:=LC (nm:=nm) (N:=N) (tk:=tk) (tn:=tn) (ts:=ts) (ks:=ks) h h';rw[g]at hp hr;exact⟨s,.step (λl=>Mr l _ _ _ _ _ _ _) (.ask hr (.neg rfl (.ask t.sh (.ret _)))),λf b hb=>.step (λl=>Mq l _ _ _ _ _ _ _ _ _) (.ask hp (.neg rfl (.ask (t.wr f b hb) (.ret _)))),by omega⟩
end
inductive la:Rows->List ByteArray->Nat->Prop|nil:la [] [] 0|cons{r:List AV}{rs:Rows}{s:ByteArray}{ss:List ByteArray}{c d:Nat}:Bn r s c->la rs ss d->la (r::rs) (s::ss) (c+d)
def di:List ByteArray->ByteArray|[]=>bs []|s::ss=>bs [44,32]++s++di ss
theorem cr(b:ByteArray):b++bs []=b:=ByteArray.append_empty
theorem I1:∀{ks:Rows}{ss:List ByteArray}{d:Nat},la ks ss d->(di ss).size<=700*d|_,_,_,.nil=>by rw[di,ba];simp|_,_,_,.cons t k=>by have h1:=I1 k;have h2:=t.sz;rw[di];simp only[bj,ba,aN,List.length_nil];omega
theorem LD{ks:Rows}(hl:ks.length<=1000000):∀{ss:List ByteArray}{d i:Nat},la (ks.drop i) ss d->1<=i->∀b,b.size+(di ss).size<=140737488355328->Ev (λl=>x5 l ks ks.length i true b) (true,b++di ss)
 |ss,d,i,h,hi,b,hb=>by
  generalize hx:ks.drop i=rs at h
  cases h with
  |nil=>have:ks.length<=i:=List.drop_eq_nil_iff.1 hx;refine .step (λl=>HK l _ _ _ _ _) (.neg (by simp;omega) (.c7 ?_));rw[di,cr]
  |cons t k=>
   rename_i r rs s ss c d
   have e:i<ks.length:=by
    rcases Nat.lt_or_ge i ks.length with a|a
    .exact a
    .rw[List.drop_eq_nil_of_le a]at hx;cases hx
   have hg:ks[i]?=some r:=by
    have:(ks.drop i)[0]?=some r:=by rw[hx];rfl
    rw[List.getElem?_drop]at this;exact this
   have hd:ks.drop (i+1)=rs:=by rw[List.drop_eq_getElem_cons e]at hx;exact(List.cons.inj hx).2
   have ih:=LD hl (i:=i+1) (by rw[hd];exact k) (by omega)
   rw[di]at hb⊢
   simp only[bj,ba,aN,List.length_nil]at hb
   refine .step (λl=>HK l _ _ _ _ _) (.pos (by simp;omega) (.ae rfl hg (.pos (by simp;omega) (.ask (mm _ _ _ ?_) (.step (λl=>PB l _ _ _ _ _ _ _ _ _ _ _ _) (.ask (t.wr _ _ ?_) ?_))))))
   .simp only[bj,ba,aN,List.length_nil];omega
   .simp only[bj,ba,aN,List.length_nil];omega
   .rw[kx i (by omega)];have:=ih (b++bs [44,32]++s) (by simp only[bj,ba,aN,List.length_nil];omega);simp only[ByteArray.append_assoc]at this⊢;exact this
theorem LF{ks:Rows}(hl:ks.length<=1000000):∀{ss:List ByteArray}{d i:Nat},la (ks.drop i) ss d->1<=i->∀b,b.size+(di ss).size+1<=140737488355328->Ev (λl=>y8 l ks b i) (b++di ss++bs [125])
 |ss,d,i,h,hi,b,hb=>by
  generalize hx:ks.drop i=rs at h
  cases h with
  |nil=>have:ks.length<=i:=List.drop_eq_nil_iff.1 hx;rw[di,cr];exact .step (λl=>DA l _ _ _) (.neg (by simp;omega) (.ai (by simp only[bj,ba,aN,List.length_nil];omega) (.ret _)))
  |cons t k=>
   rename_i r rs s ss c d
   have e:i<ks.length:=by
    rcases Nat.lt_or_ge i ks.length with a|a
    .exact a
    .rw[List.drop_eq_nil_of_le a]at hx;cases hx
   have hg:ks[i]?=some r:=by
    have:(ks.drop i)[0]?=some r:=by rw[hx];rfl
    rw[List.getElem?_drop]at this;exact this
   have hd:ks.drop (i+1)=rs:=by rw[List.drop_eq_getElem_cons e]at hx;exact(List.cons.inj hx).2
   have ih:=LF hl (i:=i+1) (by rw[hd];exact k) (by omega)
   rw[di]at hb⊢
   simp only[bj,ba,aN,List.length_nil]at hb
   refine .step (λl=>DA l _ _ _) (.pos (by simp;omega) (.pos (by simp;omega) (.ai ?_ (.step (λl=>GP l _ _ _) (.ae rfl hg (.ask t.sh (.ai ?_ ?_)))))))
   .simp only[bj,ba,aN,List.length_nil];omega
   .simp only[bj,ba,aN,List.length_nil];omega
   .rw[kx i (by omega)];have:=ih (b++bs [44,32]++s) (by simp only[bj,ba,aN,List.length_nil];omega);simp only[ByteArray.append_assoc]at this⊢;exact this termination_by ss=>ss.length
end Go.AI
end

section
namespace Go.AI
open Go
section
variable {op:Int}{nm:ByteArray}{N tk:Int}{tn:ByteArray}{ts ks:Rows}
theorem fR(h1:1<=op)(h2:op<=56)(hs:oW op=bs []){f:Bool}{b:ByteArray}(hb:b.size+(dt op).size<=140737488355328){r:Bool×ByteArray}
 (hj:op≠1->op≠2->Ev (λl=>xv l op true op nm N tk tn ts ks (b++dt op)) r)(hr:op=1\/op=2->(true,b++dt op)=r):Ev (λl=>lK l op nm N tk tn ts ks f b) r:=by
 refine .step (λl=>Mn l _ _ _ _ _ _ _ _ _) (.ask (Er h1 h2) ?_)
 rw[hs]
 refine .neg (by rw[lb];rfl) (.pos (ax (by omega)) (.ask (mm _ f b hb) ?_))
 by_cases e:op=1
 .subst e;exact .pos rfl (.pos rfl (.c7 (hr (.inl rfl))))
 .refine .neg (by simpa using e) ?_
  by_cases c:op=2
  .subst c;exact .pos rfl (.c7 (hr (.inr rfl)))
  .exact .neg (by simpa using c) (hj e c)
theorem LG{e:List AV}{rest:Rows}{c:ByteArray}{g:Nat}(h:Gp e c g)(f:Bool)(b:ByteArray)(hb:b.size+nm.size+4+c.size<=140737488355328):Ev (λl=>A3 l op nm N tk tn ts (e::rest) f b) (true,b++(nm++bs [32,105,110,32])++c):=by refine .step (λl=>V3 l _ _ _ _ _ _ _ _ _) (.ai ?_ (.ask (mm _ f b ?_) (.ae (m:=0) rfl rfl (.ask (h.wr _ _ ?_) (.ret _)))));all_goals first|omega|(simp only[bj,ba,aN,List.length_nil];omega)
theorem DL{i g:List AV}{e c:ByteArray}{k j:Nat}(h:Gp i e k)(h':Bn g c j)(f:Bool)(b:ByteArray)(hb:b.size+nm.size+7+e.size+c.size<=140737488355328):Ev (λl=>ue l f op nm N tk tn ts [i,g] b) (true,b++(nm++bs [32,105,110,32])++e++bs [32,46,32]++c):=by refine .step (λl=>Ps l _ _ _ _ _ _ _ _ _) (.ask (LG h f b (by omega)) (.ask (mm _ _ _ ?_) (.ae (m:=1) rfl rfl (.ask (h'.wr _ _ ?_) (.ret _)))));all_goals first|omega|(simp only[bj,ba,aN,List.length_nil];omega)
theorem MG{i g:List AV}{e c:ByteArray}{n j:Nat}(h:Gp i e n)(h':Bn g c j){x y:Int}{m k:Nat}(hx:x=m)(hm:m<256)(hy:y=k)(hk:k<256)(f:Bool)(b:ByteArray)(hb:b.size+e.size+c.size+2<=140737488355328):Ev (λl=>A4 l op nm N tk tn ts [i,g] x y f b) (true,b++e++bs [UInt8.ofNat m]++c++bs [UInt8.ofNat k]):=by refine .step (λl=>V4 l _ _ _ _ _ _ _ _ _ _ _) (.ae (m:=0) rfl rfl (.ask (h.wr _ _ ?_) (.ask (fD hx hm _ _ ?_) (.ae (m:=1) rfl rfl (.ask (h'.wr _ _ ?_) (.ask (fD hy hk _ _ ?_) (.ret _)))))));all_goals first|omega|(simp only[bj,ba,aN,List.length_nil];omega)
theorem qx{r:List AV}{rs:Rows}{s:ByteArray}{ss:List ByteArray}{c d:Nat}(t:Bn r s c)(k:la rs ss d)(hl:rs.length<=99999)(f:Bool)(b:ByteArray)(hb:b.size+s.size+(di ss).size<=140737488355328):
 Ev (λl=>A5 l (r::rs) f b) (true,b++s++di ss):=by
 refine .step (λl=>V5 l _ _ _) (.step (λl=>Ta l _ _ _ _ _) (.pos (by simp<;>omega) (.ae (m:=0) rfl rfl (.neg rfl (.step (λl=>Pd l _ _ _ _ _ _ _ _ _ _ _ _) (.ask (t.wr f b ?_) ?_))))))
 .omega
 .exact LD (ks:=r::rs) (by simp;omega) (i:=1) (by simpa using k) (by omega) (b++s) (by simp only[bj];omega)
theorem nU{c:Nat}(h:pD ks c)(hl:ks.length=1):∃r,ks=[r]/\VT (gI r 0) (gS r 1) (gI r 2) (gI r 3) (gS r 4) (gD r 5) (gD r 6) c:=by cases h with|nil=>cases hl|cons v vs=>cases vs with|nil=>exact⟨_,rfl,v⟩|cons _ _=>simp at hl
theorem qW{c:Nat}(h:pD ks c)(hl:ks.length=2):∃r r' f e,ks=[r,r']/\c=f+e/\VT (gI r 0) (gS r 1) (gI r 2) (gI r 3) (gS r 4) (gD r 5) (gD r 6) f/\VT (gI r' 0) (gS r' 1) (gI r' 2) (gI r' 3) (gS r' 4) (gD r' 5) (gD r' 6) e:=by cases h with|nil=>cases hl|cons v vs=>cases vs with|nil=>simp at hl|cons v' b=>cases b with|nil=>exact⟨_,_,_,_,rfl,rfl,v,v'⟩|cons _ _=>simp at hl
theorem Hl{kl:Nat}(h:fj op kl=true):1<=op/\op<=56:=by
 unfold fj dw at h
 split at h
 .cases h
 .rename_i e;repeat'(first|(cases e;done)|omega|split at e)
 .rename_i e;repeat'(first|(cases e;done)|omega|split at e)
theorem VT.range{c:Nat}(h:VT op nm N tk tn ts ks c):1<=op/\op<=56:=by cases h with|mk h _=>exact Hl h.ar
end
theorem Rn{op:Int}(h:(4<=op/\op<=7)\/(10<=op/\op<=18)\/(22<=op/\op<=27)\/(30<=op/\op<=45)):ao (oW op) (bs [])=false/\(oW op).size<=5:=by
 have:1<=op/\op<=56:=by omega
 rcases ops this.1 this.2 with rfl|rfl|rfl|rfl|rfl|rfl|rfl|rfl|rfl|rfl|rfl|rfl|rfl|rfl|rfl|rfl|rfl|rfl|rfl|rfl|rfl|rfl|rfl|rfl|rfl|rfl|rfl|rfl|rfl|rfl|rfl|rfl|rfl|rfl|rfl|rfl|rfl|rfl|rfl|rfl|rfl|rfl|rfl|rfl|rfl|rfl|rfl|rfl|rfl|rfl|rfl|rfl|rfl|rfl|rfl|rfl<;>first|omega|exact⟨by rw[lb];rfl,by decide⟩
end Go.AI
end
