/- A part of the proof. -/
import Derived.Test.YtkdhoflcgphcjaaGreatDoorQa
set_option linter.all false

namespace Go.AI
open Go
theorem Yn(s:ByteArray)(l:Rows)(hl:l.length<=1000):T (λn=>th n s l ((l.length:Int)-1)) (.=eg l s):=by
 have key:∀k,k<=l.length->(∀i r,k<=i->l[i]?=some r->ax (gS r 0) s=false)->T (λn=>th n s l ((k:Int)-1)) (.=eg l s):=by
  intro k
  induction k with
  |zero=>
   intro _ h
   refine .step DV (.neg (by decide) (.ret ?_))
   unfold eg
   have:l.reverse.findIdx? (λr=>ax (gS r 0) s)=none:=by rw[List.findIdx?_eq_none_iff];intro r hr;obtain⟨i,hi⟩:=List.mem_iff_getElem?.1 (List.mem_reverse.1 hr);exact h i r (Nat.zero_le _) hi
   rw[this]
  |succ k ih=>
   intro hk h
   have hi:k<l.length:=by omega
   have e1:((k+1:Nat):Int)-1=(k:Int):=by omega
   rw[e1]
   have hr:l[k]?=some l[k]:=List.getElem?_eq_getElem hi
   refine .step DV (.pos (by simp) (.gx (by rw[Int.toNat_natCast];exact hr) (.ite (λc=>.ret ?_) λc=>?_) (by omega)))
   .unfold eg
    have hf:l.reverse.findIdx? (λr=>ax (gS r 0) s)=some (l.length-1-k):=by
     rw[List.findIdx?_eq_some_iff_getElem]
     refine⟨by simp;omega,?_,λj hj=>?_⟩
     .grind
     .rw[List.getElem_reverse];have:=h (l.length-1-j) _ (by omega) (List.getElem?_eq_getElem (by omega));simp[this]
    grind
   grind[bA,Nat.lt_or_ge]
 simp_all
theorem Kx(s:ByteArray)(l:Rows)(hl:l.length<=1000):T (λn=>za n s l) (.=eg l s):=.step VX (by rw[bA (by omega) (by omega)];exact Yn s l hl)
theorem Ju{l:Rows}(h:l.length<=1000):ra l=true:=by grind[Nat.ble_eq_true_of_le,Nat.le_trans,Nat.mul_le_mul_right,ra]
def Wk(len:Nat)(J:Int->Nat->Option Bool)(K:Nat->Nat->Option Bool):Prop:=T (J len) (.=true)/\∀i,i<len->∀o:Bool,T (K i) (.=o)->(o=false->T (J i) (.=false))/\(o=true->∀Q,T (J ((i:Int)+1)) Q->T (J i) Q)
theorem QE{len:Nat}{J J':Int->Nat->Option Bool}{K K':Nat->Nat->Option Bool}(h:Wk len J K)(h':Wk len J' K')(hk:∀i,i<len->∃o:Bool,T (K i) (.=o)/\T (K' i) (.=o)):∃o:Bool,T (J 0) (.=o)/\T (J' 0) (.=o):=by
 have key:∀d i,i+d=len->∃o:Bool,T (J (i:Int)) (.=o)/\T (J' (i:Int)) (.=o):=by
  intro d
  induction d with
  |zero=>intro i e;obtain rfl:i=len:=by omega
         exact⟨true,h.1,h'.1⟩
  |succ d ih=>
   intro i e
   obtain⟨o,h1,h2⟩:=hk i (by omega)
   cases o with
   |false=>exact⟨false,(h.2 i (by omega) _ h1).1 rfl,(h'.2 i (by omega) _ h2).1 rfl⟩
   |true=>
    obtain⟨o,g1,g2⟩:=ih (i+1) (by omega)
    have e2:(((i+1:Nat):Int))=(i:Int)+1:=by omega
    rw[e2]at g1 g2;exact⟨o,(h.2 i (by omega) _ h1).2 rfl _ g1,(h'.2 i (by omega) _ h2).2 rfl _ g2⟩
 exact key len 0 (by omega)
theorem LN{t:b6}(h:eS t=true)(hc:CT t.2.2.2.2.2.1):∃o,ae t.2.2.2=fR 0 o:=by
 obtain⟨_,hy⟩:=IA h
 unfold kj at hy
 split at hy
 .simp only[aZ]at hy;obtain⟨a,ha⟩:=DX hy.2 (cW hy.1) hc;exact⟨some a,ha⟩
 .unfold tG at hy;simp only[aZ,decide_eq_true_eq,bS]at hy;obtain⟨⟨h1,h2⟩,h3⟩:=hy;refine⟨none,?_⟩;have h3:=List.length_eq_zero_iff.1 h3;generalize ae t.2.2.2=x at h1 h2 h3;obtain⟨k,s,ks⟩:=x;simp only at h1 h2 h3;subst h1;subst h2;subst h3;rfl
section
variable {a b:b6}{F G NF LF NG LG:Nat->Option Bool}
theorem MV(ha:eS a=true)(hb:eS b=true)(ca:CT a.2.2.2.2.2.1)(m:CT b.2.2.2.2.2.1)
 (hF:∀n,F (n+1)=aa (a.1 !=b.1) (some false) (aa (a.2.2.1 !=b.2.2.1) (some false) (ask (rP n (ae a.2.2.2) (ae b.2.2.2)) λi=>aa (!i) (some false) (aa (((a.2.2.2.2.2.2.length:Int):Int)!=(b.2.2.2.2.2.2.length:Int)) (some false) (aa (a.1==20) (NF n) (LF n))))))
 (c:∀n,G (n+1)=aa (a.1 !=b.1) (some false) (aa (a.2.2.1 !=b.2.2.1) (some false) (ask (ei n (ae a.2.2.2) (ae b.2.2.2)) λi=>aa (!i) (some false) (aa (((a.2.2.2.2.2.2.length:Int):Int)!=(b.2.2.2.2.2.2.length:Int)) (some false) (aa (a.1==20) (NG n) (LG n))))))
 (j:a.1=20->∃o:Bool,T NF (.=o)/\T NG (.=o))(hL:a.1=b.1->a.2.2.2.2.2.2.length=b.2.2.2.2.2.2.length->∃o:Bool,T LF (.=o)/\T LG (.=o)):∃o:Bool,T F (.=o)/\T G (.=o):=by
 obtain⟨x,hx⟩:=LN ha ca
 obtain⟨y,hy⟩:=LN hb m
 rw[hx,hy]at hF c
 cases e1:(a.1 !=b.1)with
 |true=>exact⟨false,.step hF (.pos e1 (.ret rfl)),.step c (.pos e1 (.ret rfl))⟩
 |false=>
 cases e2:(a.2.2.1 !=b.2.2.1)with
 |true=>exact⟨false,.step hF (.neg e1 (.pos e2 (.ret rfl))),.step c (.neg e1 (.pos e2 (.ret rfl)))⟩
 |false=>
 by_cases e3:x=y
 .cases e4:(((a.2.2.2.2.2.2.length:Int):Int)!=(b.2.2.2.2.2.2.length:Int))with|true=>exact⟨false,.step hF (.neg e1 (.neg e2 (.ask (Ex x y) λz hz=>.neg (by grind) (.pos e4 (.ret rfl))))),.step c (.neg e1 (.neg e2 (.ask (yO (.inr rfl) x y) λz hz=>.neg (by grind) (.pos e4 (.ret rfl)))))⟩|false=>have go:∀{o:Bool},T (λn=>aa (a.1==20) (NF n) (LF n)) (.=o)->T (λn=>aa (a.1==20) (NG n) (LG n)) (.=o)->∃o:Bool,T F (.=o)/\T G (.=o):=λ{o}h1 h2=>⟨o,.step hF (.neg e1 (.neg e2 (.ask (Ex x y) λz hz=>.neg (by grind) (.neg e4 h1)))),.step c (.neg e1 (.neg e2 (.ask (yO (.inr rfl) x y) λz hz=>.neg (by grind) (.neg e4 h2))))⟩;cases e5:(a.1==20)with|true=>obtain⟨o,h1,h2⟩:=j (aL e5);exact go (.pos e5 h1) (.pos e5 h2)|false=>obtain⟨o,h1,h2⟩:=hL (mj e1) (by grind);exact go (.neg e5 h1) (.neg e5 h2)
 .exact⟨false,.step hF (.neg e1 (.neg e2 (.ask (Ex x y) λz hz=>.pos (by grind) (.ret rfl)))),.step c (.neg e1 (.neg e2 (.ask (yO (.inr rfl) x y) λz hz=>.pos (by grind) (.ret rfl))))⟩
end
def hN(a:b6)(p:Rows)(i:Nat):Rows:=if fk a.1=true/\i=1 then p++[[.sc (.string a.2.1)]]else p
def jS(a:b6)(i:Nat):b6:=bt (a.2.2.2.2.2.2.getD i []) 0
theorem oE{a:b6}{i:Nat}(h:i<a.2.2.2.2.2.2.length):a.2.2.2.2.2.2[(i:Int).toNat]?=some (a.2.2.2.2.2.2.getD i []):=by grind
section
variable {a b:b6}(h1:a.1=b.1)(hl:a.2.2.2.2.2.2.length=b.2.2.2.2.2.2.length)(dU:a.2.2.2.2.2.2.length<=9999)(p q:Rows)
include hl dU
theorem OX{i:Nat}(hi:i<a.2.2.2.2.2.2.length){u v:Rows}{o:Bool}(h:T (λn=>vl n (jS a i) (jS b i) u v) (.=o)):(o=false->T (λn=>mM n p q (i:Int) u v a b) (.=false))/\(o=true->∀Q,T (λn=>nc n p q ((i:Int)+1) a b) Q->T (λn=>mM n p q (i:Int) u v a b) Q):=by have go:∀{Q:Bool->Prop},(o=false->Q false)->(o=true->T (λn=>nc n p q ((i:Int)+1) a b) Q)->T (λn=>mM n p q (i:Int) u v a b) Q:=λq1 q2=>.step Ux (.gx (oE hi) (.gx (oE (by omega)) (.ask h λx hx=>.ite (λc=>.ret (q1 (by grind))) λc=>by grind[bA,cF]) (by omega)) (by omega));grind
theorem wW{i:Nat}(hi:i<a.2.2.2.2.2.2.length){u v:Rows}{o:Bool}(h:T (λn=>jR n (u,v) (jS a i) (jS b i)) (.=o)){X J:Nat->Option Bool}(z:∀n,X (n+1)=Go.AI.ab a.2.2.2.2.2.2 (i:Int) λw=>Go.AI.ab b.2.2.2.2.2.2 (i:Int) λm=>ask (jR n (u,v) (bt w 0) (bt m 0)) λj=>aa (!j) (some false) (J n)):(o=false->T X (.=false))/\(o=true->∀Q,T J Q->T X Q):=by have go:∀{Q:Bool->Prop},(o=false->Q false)->(o=true->T J Q)->T X Q:=λq1 q2=>.step z (.gx (oE hi) (.gx (oE (by omega)) (.ask h λx hx=>.ite (λc=>.ret (q1 (by grind))) λc=>q2 (by grind)) (by omega)) (by omega));grind
variable (hp:p.length<=1000)(hq:q.length<=1000)
include h1 hp hq
theorem GS{i:Nat}(hb:fk a.1=true)(hi:i=1):hN a p i=p++[[.sc (.string a.2.1)]]/\hN b q i=q++[[.sc (.string b.2.1)]]:=⟨if_pos ⟨hb,hi⟩,if_pos ⟨h1▸hb,hi⟩⟩
theorem Bx{i:Nat}(hb:¬(fk a.1=true/\i=1)):hN a p i=p/\hN b q i=q:=⟨if_neg hb,if_neg (h1▸hb)⟩
theorem QF:Wk a.2.2.2.2.2.2.length (λi n=>nc n p q i a b) (λi n=>vl n (jS a i) (jS b i) (hN a p i) (hN b q i)):=by
 have j:∀(l:Rows)(s:ByteArray),l.length<=1000->T (λn=>A3 n l s) (.=l++[[.sc (.string s)]]):=λl s h=>.step ZI (.fits (by simp;omega) (.fits (by simp;omega) (.ret rfl)))
 refine⟨.step DU (.neg (by simp) (.ret rfl)),λi hi o h=>?_⟩
 by_cases hb:fk a.1=true/\i=1
 .obtain⟨e1,e2⟩:=GS h1 hl dU p q hp hq hb.1 hb.2;dsimp only at h⊢;rw[e1,e2]at h;obtain⟨w,u⟩:=OX hl dU p q hi h;have go:∀{Q:Bool->Prop},T (λn=>mM n p q (i:Int) (p++[[.sc (.string a.2.1)]]) (q++[[.sc (.string b.2.1)]]) a b) Q->T (λn=>nc n p q (i:Int) a b) Q:=λm=>.step DU (.pos (b9 (by omega)) (.ask (tp _) λx hx=>.pos (hx.trans hb.1) (.pos (by grind) (.ask (j p _ hp) λy hy=>.ask (j q _ hq) λz hz=>by grind))));grind
 .obtain⟨e1,e2⟩:=Bx h1 hl dU p q hp hq hb;dsimp only at h⊢;rw[e1,e2]at h;obtain⟨w,u⟩:=OX hl dU p q hi h;have go:∀{Q:Bool->Prop},T (λn=>mM n p q (i:Int) p q a b) Q->T (λn=>nc n p q (i:Int) a b) Q:=λm=>.step DU (.pos (b9 (by omega)) (.ask (tp _) λx hx=>.ite (λc=>.ite (λd=>absurd ⟨hx▸c,by grind⟩ hb) λ_=>m) λ_=>m));grind
theorem Ax(l:Rows)(h:l.length<=1000):T (λn=>pF n l) (.=l):=.step abN (MU (by omega) (by omega))
theorem wkP:Wk a.2.2.2.2.2.2.length (λi n=>mO n (a.2.2.2.2.2.2.length:Int) i (p,q) a b) (λi n=>jR n (hN a p i,hN b q i) (jS a i) (jS b i)):=by
 refine⟨.step Dy (.neg (by simp) (.ret rfl)),λi hi o h=>?_⟩
 by_cases hb:fk a.1=true/\i=1
 .obtain⟨e1,e2⟩:=GS h1 hl dU p q hp hq hb.1 hb.2;dsimp only at h⊢;rw[e1,e2]at h;obtain⟨u,j⟩:=wW hl dU hi h (X:=λn=>yf n (i:Int) (a.2.2.2.2.2.2.length:Int) (i:Int) (p,q) a b (p++[[.sc (.string a.2.1)]]) (q++[[.sc (.string b.2.1)]])) (J:=λn=>mO n (a.2.2.2.2.2.2.length:Int) (IntKind.i64.wrap ((i:Int)+1)) (p,q) a b) (λn=>@SM (i:Int) (a.2.2.2.2.2.2.length:Int) (i:Int) (p,q) a b _ _ n);rw[bA (by omega) (by omega)]at j;have go:∀{Q:Bool->Prop},T (λn=>yf n (i:Int) (a.2.2.2.2.2.2.length:Int) (i:Int) (p,q) a b (p++[[.sc (.string a.2.1)]]) (q++[[.sc (.string b.2.1)]])) Q->T (λn=>mO n (a.2.2.2.2.2.2.length:Int) (i:Int) (p,q) a b) Q:=λm=>.step Dy (.pos (b9 (by omega)) (.ask (tl _) λx hx=>.pos (hx.trans hb.1) (.pos (by grind) (.ask (Ax h1 hl dU p q hp hq p hp) λy hy=>.fits (by grind) (.ask (Ax h1 hl dU p q hp hq q hq) λz hz=>.fits (by grind) (by grind))))));grind
 .obtain⟨e1,e2⟩:=Bx h1 hl dU p q hp hq hb;dsimp only at h⊢;rw[e1,e2]at h;obtain⟨u,j⟩:=wW hl dU hi h (X:=λn=>uR n (i:Int) (a.2.2.2.2.2.2.length:Int) (i:Int) (p,q) a b (p,q)) (J:=λn=>mO n (a.2.2.2.2.2.2.length:Int) (IntKind.i64.wrap ((i:Int)+1)) (p,q) a b) (λn=>@SO (i:Int) (a.2.2.2.2.2.2.length:Int) (i:Int) (p,q) a b (p,q) n);rw[bA (by omega) (by omega)]at j;have go:∀{Q:Bool->Prop},T (λn=>uR n (i:Int) (a.2.2.2.2.2.2.length:Int) (i:Int) (p,q) a b (p,q)) Q->T (λn=>mO n (a.2.2.2.2.2.2.length:Int) (i:Int) (p,q) a b) Q:=λm=>.step Dy (.pos (b9 (by omega)) (.ask (tl _) λx hx=>.ite (λc=>.ite (λd=>absurd ⟨hx▸c,by grind⟩ hb) λ_=>m) λ_=>m));grind
theorem wkQ:Wk a.2.2.2.2.2.2.length (λi n=>jH n (a.2.2.2.2.2.2.length:Int) i a b p q) (λi n=>jR n (hN a p i,hN b q i) (jS a i) (jS b i)):=by
 refine⟨.step Dx (.neg (by simp) (.ret rfl)),λi hi o h=>?_⟩
 by_cases hb:fk a.1=true/\i=1
 .obtain⟨e1,e2⟩:=GS h1 hl dU p q hp hq hb.1 hb.2;dsimp only at h⊢;rw[e1,e2]at h;obtain⟨u,j⟩:=wW hl dU hi h (X:=λn=>vo n (i:Int) (a.2.2.2.2.2.2.length:Int) (i:Int) a b p q (p++[[.sc (.string a.2.1)]]) (q++[[.sc (.string b.2.1)]])) (J:=λn=>jH n (a.2.2.2.2.2.2.length:Int) (IntKind.i64.wrap ((i:Int)+1)) a b p q) (λn=>@Wu (i:Int) (a.2.2.2.2.2.2.length:Int) (i:Int) a b p q _ _ n);rw[bA (by omega) (by omega)]at j;have go:∀{Q:Bool->Prop},T (λn=>vo n (i:Int) (a.2.2.2.2.2.2.length:Int) (i:Int) a b p q (p++[[.sc (.string a.2.1)]]) (q++[[.sc (.string b.2.1)]])) Q->T (λn=>jH n (a.2.2.2.2.2.2.length:Int) (i:Int) a b p q) Q:=λm=>.step Dx (.pos (b9 (by omega)) (.ask (tl _) λx hx=>.pos (hx.trans hb.1) (.pos (by grind) (.ask (Ax h1 hl dU p q hp hq p hp) λy hy=>.fits (by grind) (.ask (Ax h1 hl dU p q hp hq q hq) λz hz=>.fits (by grind) (by grind))))));grind
 .obtain⟨e1,e2⟩:=Bx h1 hl dU p q hp hq hb;dsimp only at h⊢;rw[e1,e2]at h;obtain⟨u,j⟩:=wW hl dU hi h (X:=λn=>uP n (i:Int) (a.2.2.2.2.2.2.length:Int) (i:Int) a b p q) (J:=λn=>jH n (a.2.2.2.2.2.2.length:Int) (IntKind.i64.wrap ((i:Int)+1)) a b p q) (λn=>@SJ (i:Int) (a.2.2.2.2.2.2.length:Int) (i:Int) a b p q n);rw[bA (by omega) (by omega)]at j;have go:∀{Q:Bool->Prop},T (λn=>uP n (i:Int) (a.2.2.2.2.2.2.length:Int) (i:Int) a b p q) Q->T (λn=>jH n (a.2.2.2.2.2.2.length:Int) (i:Int) a b p q) Q:=λm=>.step Dx (.pos (b9 (by omega)) (.ask (tl _) λx hx=>.ite (λc=>.ite (λd=>absurd ⟨hx▸c,by grind⟩ hb) λ_=>m) λ_=>m));grind
end
theorem wkT{a b:b6}(h1:a.1=b.1)(hl:a.2.2.2.2.2.2.length=b.2.2.2.2.2.2.length)(dU:a.2.2.2.2.2.2.length<=9999):Wk a.2.2.2.2.2.2.length (λi n=>if i=0 then Aj n (a.2.2.2.2.2.2.length:Int) 0 a b [] []else jH n (a.2.2.2.2.2.2.length:Int) i a b [] []) (λi n=>jR n (hN a [] i,hN b [] i) (jS a i) (jS b i)):=by
 obtain⟨w1,w2⟩:=wkQ h1 hl dU [] [] (by simp) (by simp)
 refine⟨?_,λi hi o h=>?_⟩
 .by_cases h0:a.2.2.2.2.2.2.length=0
  .simp only[h0,Int.natCast_zero,if_true];exact .step Mq (.neg (by decide) (.ret rfl))
  grind
 .by_cases h0:i=0
  .subst h0
   have hb:¬(fk a.1=true/\0=1):=by simp
   obtain⟨e1,e2⟩:=Bx (i:=0) h1 hl dU [] [] (by simp) (by simp) hb
   dsimp only at h⊢
   rw[e1,e2]at h
   obtain⟨w,m⟩:=wW hl dU hi h (X:=λn=>uN n ((0:Nat):Int) (a.2.2.2.2.2.2.length:Int) ((0:Nat):Int) a b [] []) (J:=λn=>jH n (a.2.2.2.2.2.2.length:Int) (IntKind.i64.wrap (((0:Nat):Int)+1)) a b [] []) (λn=>@SQ ((0:Nat):Int) (a.2.2.2.2.2.2.length:Int) ((0:Nat):Int) a b [] [] n)
   rw[bA (by omega) (by omega)]at m
   have go:∀{Q:Bool->Prop},T (λn=>uN n ((0:Nat):Int) (a.2.2.2.2.2.2.length:Int) ((0:Nat):Int) a b [] []) Q->T (λn=>if((0:Nat):Int)=0 then Aj n (a.2.2.2.2.2.2.length:Int) 0 a b [] []else jH n (a.2.2.2.2.2.2.length:Int) ((0:Nat):Int) a b [] []) Q:=λj=>by simp only[Int.natCast_zero,if_true];exact .step Mq (.pos (b9 (by omega)) (.ask (tl _) λx hx=>.ite (λc=>.neg rfl j) λ_=>j))
   refine⟨λe=>go (w e),λe Q j=>go (m e Q ?_)⟩;grind
  .have u:¬((i:Int)=0):=by omega
   have n1:¬((i:Int)+1=0):=by omega
   simp only[u,n1,if_false];exact w2 i hi o h
theorem MW:∀(f:Nat)(a b:b6)(p q:Rows),(∃n k,dk f a n=some k)->(∃n k,dk f b n=some k)->gT a->gT b->p.length+f<=900->q.length+f<=900->∃o:Bool,T (λn=>jR n (p,q) a b) (.=o)/\T (λn=>vl n a b p q) (.=o)
 |0,_,_,_,_,⟨_,_,h⟩,_,_,_,_,_=>by cases h
 |f+1,a,b,p,q,⟨na,J,ha⟩,⟨nb,kb,hb⟩,ca,I,hp,hq=>by
  obtain⟨w,u⟩:=sM ha
  obtain⟨m,j⟩:=sM hb
  have dU:=yP ha
  cases ca with
  |mk E D=>
  cases I with
  |mk C z=>
  refine MV w m E C XH Wr (λ_=>?_) λh1 hl=>?_
  .have k:∀{Q:Bool->Prop},T (λn=>aa (((eg p a.2.1):Int)==(eg q b.2.1)) (aa (decide (((eg p a.2.1):Int)>=0)) (some true) (some (ax a.2.1 b.2.1))) (some false)) Q->T (λn=>aa (ra p) (aa (ra q) (aa (((eg p a.2.1):Int)==(eg q b.2.1)) (aa (decide (((eg p a.2.1):Int)>=0)) (some true) (some (ax a.2.1 b.2.1))) (some false)) none) none) Q:=λh=>.pos (Ju (by omega)) (.pos (Ju (by omega)) h)
   obtain⟨o,ho⟩:∃o:Bool,T (λ_=>aa (((eg p a.2.1):Int)==(eg q b.2.1)) (aa (decide (((eg p a.2.1):Int)>=0)) (some true) (some (ax a.2.1 b.2.1))) (some false)) (.=o):=by cases e1:((eg p a.2.1):Int)==(eg q b.2.1)with|false=>exact⟨false,.ret rfl⟩|true=>cases e2:decide (((eg p a.2.1):Int)>=0)with|true=>exact⟨true,.ret rfl⟩|false=>exact⟨_,.ret rfl⟩
   exact⟨o,k ho,.ask (Kx _ _ (by omega)) λx hx=>.ask (Kx _ _ (by omega)) λy hy=>by simp_all⟩
  .refine QE (wkP h1 hl (by omega) p q (by omega) (by omega)) (QF h1 hl (by omega) p q (by omega) (by omega)) λi hi=>?_
   have m1:a.2.2.2.2.2.2.getD i []∈a.2.2.2.2.2.2:=List.mem_of_getElem? (oE hi)
   have m2:b.2.2.2.2.2.2.getD i []∈b.2.2.2.2.2.2:=List.mem_of_getElem? (oE (hl▸hi))
   have len:∀(c:b6)(l:Rows),(hN c l i).length<=l.length+1:=λc l=>by unfold hN;grind
   exact MW f _ _ _ _ (u _ m1) (j _ m2) (D _ m1) (z _ m2) (by grind) (by grind)
theorem Yo(a b:b6)(ha:ew a=true)(hb:ew b=true)(ca:gT a)(J:gT b):∃o:Bool,T (λn=>Hb n a b) (.=o)/\T (λn=>FM n a b) (.=o):=by
 have get:∀{x:b6},ew x=true->∃k,dk 64 x 0=some k:=λ{x}h=>by unfold ew at h;cases e:dk 64 x 0 with|none=>grind|some k=>grind
 obtain⟨K,ha⟩:=get ha
 obtain⟨kb,hb⟩:=get hb
 obtain⟨w,u⟩:=sM ha
 obtain⟨m,j⟩:=sM hb
 have dU:=yP ha
 cases ca with
 |mk E D=>
 cases J with
 |mk C z=>
 refine MV w m E C abW ZZ (λ_=>?_) λh1 hl=>?_
 .have I:∀s,T (λn=>A2 n s) (.=-1):=λs=>.step YM (.step DV (.neg (by decide) (.ret rfl)));exact⟨_,.pos rfl (.pos rfl (.ret rfl)),.ask (I _) λx hx=>.ask (I _) λy hy=>by subst hx;subst hy;exact .pos rfl (.neg (by decide) (.ret rfl))⟩
 .have:=QE (wkT h1 hl (by omega)) (QF h1 hl (by omega) [] [] (by simp) (by simp)) λi hi=>?_
  .simp_all
  .have m1:a.2.2.2.2.2.2.getD i []∈a.2.2.2.2.2.2:=List.mem_of_getElem? (oE hi)
   have m2:b.2.2.2.2.2.2.getD i []∈b.2.2.2.2.2.2:=List.mem_of_getElem? (oE (hl▸hi))
   have len:∀(c:b6)(l:Rows),(hN c l i).length<=l.length+1:=λc l=>by unfold hN;grind
   exact MW 63 _ _ _ _ (u _ m1) (j _ m2) (D _ m1) (z _ m2) (by grind) (by grind)
theorem Ky{J:Nat->Int->Option Int}{l:Rows}{P:Nat->List AV->Option Bool}{p:List AV->Prop}(hl:l.length<=4611686018427387904)
 (h:∀n i,J (n+1) i=aa (decide (i<(l.length:Int))) (ab l i λr=>ask (P n r) λx=>aa x (some i) (J n (IntKind.i64.wrap (i+1)))) (some (-1)))
 (hp:∀r,r∈l->T (λn=>P n r) λb=>b=false↔p r):T (λn=>J n 0) λi=>(!decide (i>=0))=true↔∀r,r∈l->p r:=by
 refine T.loop (σ:=Unit) (L:=λi _ n=>J n i) l.length (λi _=>∀r,r∈l.take i->p r) ?_ ?_ () (by simp)
 .intro _ hs;rw[List.take_length]at hs;exact .step (λn=>h n _) (.neg (by simp) (.ret ⟨λ_=>hs,λ_=>rfl⟩))
 .intro i _ hi hs ih
  refine .step (λn=>h n _) (.pos (by simp;omega) (.ab (by omega) (by omega) λr hr=>?_))
  have hr:l[i]?=some r:=by grind
  refine .ask (hp r (List.mem_of_getElem? hr)) λb hb=>.ite (λc=>.ret ⟨λe=>by grind,λe=>?_⟩) λc=>?_
  .grind
  .rw[bA (by omega) (by omega)];exact ih () (lQ hr hs (hb.1 c))
theorem MX(a b:b6)(ha:bd a)(hb:bd b)(ca:gT a)(m:gT b):∃o:Bool,T (λn=>B6 n a b) (.=o)/\T (λn=>uh n a b) (.=o):=by
 have valid:T (λn=>Ha n [fS a,fS b]) (λx=>x=true↔ew a=true/\ew b=true):=by
  refine .step abU (.ask (Q':=λx=>(!x)=true↔ew a=true/\ew b=true) (.step XM (.ask (Q':=λi=>(!decide (i>=0))=true↔∀r,r∈[fS a,fS b]->ew (bt r 0)=true) (.step Ws (Ky (J:=λn i=>yd n [fS a,fS b] (([fS a,fS b]:Rows).length:Int) i) (P:=λn r=>Gn n (bt r 0)) (p:=λr=>ew (bt r 0)=true) (by simp) (λn i=>SP n) λr hr=>.step Y2 (.ask (As _ ?_) λx hx=>.ret (by grind)))) λi hi=>.ret ?_)) λx hx=>.ret hx)
  .rcases List.mem_cons.1 hr with rfl|hr
   .exact ha
   .obtain rfl:=List.mem_singleton.1 hr;exact hb
  .have hi:(!decide (i>=0))=true↔_:=hi
   rw[hi]
   constructor
   .intro h;exact⟨h (fS a) (by simp),h (fS b) (by simp)⟩
   .rintro⟨h1,h2⟩r hr
    rcases List.mem_cons.1 hr with rfl|hr
    .exact h1
    .obtain rfl:=List.mem_singleton.1 hr;exact h2
 cases c:ew a with|false=>refine⟨false,.step GC (.ask valid λx hx=>.neg ?_ (.ret rfl)),.step GA (.ask (nB a ha) λx hx=>.neg (hx.trans c) (.ret rfl))⟩;grind|true=>cases j:ew b with|false=>refine⟨false,.step GC (.ask valid λx hx=>.neg ?_ (.ret rfl)),.step GA (.ask (nB a ha) λx hx=>.pos (hx.trans c) (.ask (nB b hb) λx hx=>.neg (hx.trans j) (.ret rfl)))⟩;grind|true=>obtain⟨o,h1,h2⟩:=Yo a b c j ca m;exact⟨o,.step GC (.ask valid λx hx=>.pos (hx.2 ⟨c,j⟩) (.ask h1 λy hy=>.ret hy)),.step GA (.ask (nB a ha) λx hx=>.pos (hx.trans c) (.ask (nB b hb) λx hx=>.pos (hx.trans j) (.ask h2 λy hy=>.ret hy)))⟩
end Go.AI

section
set_option autoImplicit false
set_option maxRecDepth 100000
namespace Go.AI
open Go
noncomputable section
def Wl(len:Nat)(J:Int->Nat->Option Bool)(K:Nat->Nat->Option Bool):Prop:=∀i,i<len->∀o:Bool,T (K i) (.=o)->(o=false->T (J i) (.=false))/\(o=true->∀Q,T (J ((i:Int)+1)) Q->T (J i) Q)
theorem Hi{len:Nat}{J J':Int->Nat->Option Bool}{K K':Nat->Nat->Option Bool}(h:Wl len J K)(h':Wl len J' K')(hk:∀i,i<len->∃o:Bool,T (K i) (.=o)/\T (K' i) (.=o)):
 (T (J 0) (.=false)/\T (J' 0) (.=false))\/((∀Q,T (J len) Q->T (J 0) Q)/\(∀Q,T (J' len) Q->T (J' 0) Q)):=by
 have key:∀d i,i+d=len->(T (J (i:Int)) (.=false)/\T (J' (i:Int)) (.=false))\/((∀Q,T (J len) Q->T (J (i:Int)) Q)/\(∀Q,T (J' len) Q->T (J' (i:Int)) Q)):=by
  intro d
  induction d with
  |zero=>grind
  |succ d ih=>
   intro i e
   obtain⟨o,h1,h2⟩:=hk i (by omega)
   cases o with
   |false=>exact .inl ⟨(h i (by omega) _ h1).1 rfl,(h' i (by omega) _ h2).1 rfl⟩
   |true=>
    have g:=ih (i+1) (by omega)
    have e2:(((i+1:Nat):Int))=(i:Int)+1:=by omega
    rw[e2]at g
    rcases g with⟨g1,g2⟩|⟨g1,g2⟩
    .exact .inl ⟨(h i (by omega) _ h1).2 rfl _ g1,(h' i (by omega) _ h2).2 rfl _ g2⟩
    .exact .inr ⟨λQ q=>(h i (by omega) _ h1).2 rfl _ (g1 Q q),λQ q=>(h' i (by omega) _ h2).2 rfl _ (g2 Q q)⟩
 exact key len 0 (by omega)
theorem sN{l:Rows}{i:Nat}(h:i<l.length):l[(i:Int).toNat]?=some (l.getD i []):=by grind
theorem qF{l:Rows}{i:Nat}(h:i<l.length):l.getD i []∈l:=by grind
theorem wi{l m:Rows}{k:Nat}(hk:k<=l.length)(c:k<=m.length)(hl:l.length<=4611686018427387904){J:Nat->Int->Option Bool}{P:Nat->List AV->List AV->Option Bool}{E:Nat->Option Bool}(h:∀n i,J (n+1) i=aa (decide (i<(l.length:Int))) (ab l i λr=>ab m i λq=>ask (P n r q) λx=>aa (!x) (some false) (J n (IntKind.i64.wrap (i+1)))) (E n)):Wl k (λi n=>J n i) (λi n=>P n (l.getD i []) (m.getD i [])):=by intro i hi o ho;have st:∀Q,(∀x,x=o->T (λn=>aa (!x) (some false) (J n (IntKind.i64.wrap ((i:Int)+1)))) Q)->T (λn=>J n i) Q:=λQ g=>.step (λn=>h n _) (.pos (by simp;omega) (.gx (sN (by omega)) (.gx (sN (by omega)) (.ask ho g) (by omega)) (by omega)));exact⟨λe=>st _ λx hx=>.pos (by grind) (.ret rfl),λe Q q=>st _ λx hx=>.neg (by grind) (by rw[bA (by omega) (by omega)];exact q)⟩
theorem aaY(l m:Rows)(hl:l.length<=4611686018427387904):∃o:Bool,T (λn=>F0 n l m) (.=o)/\T (λn=>FR n l m) (.=o):=by
 by_cases e:l.length=m.length
 .refine⟨_,.step Ns (.neg (by simp[e]) (.of (Dg hl e (J:=λn i=>ze n l m l.length i) λn i=>V5 n) rfl)),.step Nx (.neg (by simp[e]) (.of (Dg hl e (J:=λn i=>y9 n l m i) λn i=>VQ n) rfl))⟩
 .exact⟨false,.step Ns (.pos (by grind) (.ret rfl)),.step Nx (.pos (by grind) (.ret rfl))⟩
theorem acf(r q:List AV)(hr:bd r):∃o:Bool,T (λn=>G9 n (gS r 0,gD r 1) (gS q 0,gD q 1)) (.=o)/\T (λn=>FN n (gS r 0,gD r 1) (gS q 0,gD q 1)) (.=o):=by
 by_cases e:ax (gS r 0) (gS q 0)=true
 .obtain⟨o,h1,h2⟩:=aaY (gD r 1) (gD q 1) (by have:=jv (fN hr 1);omega);exact⟨o,.step ON (.pos e (.ask h1 λx hx=>.ret hx)),.step Nr (.pos e (.ask h2 λx hx=>.ret hx))⟩
 .have e:ax (gS r 0) (gS q 0)=false:=by simpa using e
  exact⟨false,.step ON (.neg e (.ret rfl)),.step Nr (.neg e (.ret rfl))⟩
theorem acg{a b:Env}(p:VE a)(m:VE b)(hb:bd a)(c:bd b)(r q:List AV)(hr:r∈a.2)(hq:q∈b.2):∃o:Bool,T (λn=>B7 n (l5 r 0) (l5 q 0)) (.=o)/\
 (if ax (gS r 0) (gS q 0)=true then T (λn=>ei n (ah r 1) (ah q 1)) (.=o)else o=false):=by
 by_cases e:ax (gS r 0) (gS q 0)=true
 .obtain⟨_,x,hx,j,_⟩:=p.t r hr
  obtain⟨_,y,hy,i,_⟩:=m.t q hq
  have bx:bd (ah r 1):=⟨trivial,eV (ju (cq a hb) hr) 2,fN (ju (cq a hb) hr) 3⟩
  have D:bd (ah q 1):=⟨trivial,eV (ju (cq b c) hq) 2,fN (ju (cq b c) hq) 3⟩
  obtain⟨o,h1,h2⟩:=oT (some x) (some y)
  obtain⟨o',h3,h4⟩:=jh (some x) (some y)
  obtain rfl:o=o':=by grind
  refine⟨o,.step OO (.pos e (.ask (.step Z2 (.ask (tq _ bx) λu hu=>.pos ?_ (.ask (tq _ D) λw hw=>.pos ?_ (.ask (Q':=(.=o)) ?_ λz hz=>.ret hz)))) λz hz=>.ret hz)),?_⟩
  .rw[hu,show(l5 r 0).2=enc x from hx];exact j
  .rw[hw,show(l5 q 0).2=enc y from hy];exact i
  .rw[show(l5 r 0).2=enc x from hx,show(l5 q 0).2=enc y from hy];exact .of h1 rfl
  .rw[if_pos e,hx,hy];exact .of h3 rfl
 .have C:ax (gS r 0) (gS q 0)=false:=by simpa using e
  exact⟨false,.step OO (.neg C (.ret rfl)),by grind⟩
theorem ach(a b:Env)(ha:bd a)(hb:bd b)(j:VE a)(z:VE b):∃o:Bool,T (λn=>sg n a b) (.=o)/\T (λn=>nU n a b) (.=o):=by
 have E:=j.c
 have D:=j.n
 have rf:T (λn=>G7 n a.1 b.1) (.=false)->T (λn=>nU n a b) (.=false)->∃o:Bool,T (λn=>sg n a b) (.=o)/\T (λn=>nU n a b) (.=o):=λh h'=>⟨false,.step GB (.ask h λx hx=>.neg hx (.ret rfl)),h'⟩
 by_cases e:a.1.length=b.1.length
 .have W:=Hi (wi (l:=a.1) (m:=b.1) (J:=λn i=>Ac n b.1 a.1 (a.1.length:Int) i) (k:=a.1.length) (by omega) (by omega) (by omega) λn i=>@Er b.1 a.1 (a.1.length:Int) i n) (wi (l:=a.1) (m:=b.1) (J:=λn i=>vW n i a b) (k:=a.1.length) (by omega) (by omega) (by omega) λn i=>@Ms i a b n) λi hi=>acf _ _ (ju (gp a ha) (qF hi))
  by_cases e2:a.2.length=b.2.length
  .have go:∀{Q},T (λn=>vW n 0 a b) Q->T (λn=>nU n a b) Q:=λh=>.step Gz (.neg (by simp[e]) (.neg (by simp[e2]) h))
   rcases W with⟨w1,w2⟩|⟨w1,w2⟩
   .exact rf (.step wS (.neg (by simp[e]) w1)) (go w2)
   .have C:=Hi (len:=a.2.length) (J:=λi n=>tE n b.2 a.2 (a.2.length:Int) i) (J':=λi n=>rB n i a b) (K:=λi n=>B7 n (l5 (a.2.getD i []) 0) (l5 (b.2.getD i []) 0)) (K':=λi n=>aa (!ax (gS (a.2.getD i []) 0) (gS (b.2.getD i []) 0)) (some false) (ei n (ah (a.2.getD i []) 1) (ah (b.2.getD i []) 1))) (wi (l:=a.2) (m:=b.2) (J:=λn i=>tE n b.2 a.2 (a.2.length:Int) i) (k:=a.2.length) (by omega) (by omega) (by omega) λn i=>@Mt b.2 a.2 (a.2.length:Int) i n) ?_ ?_
    .have p1:∀{Q},T (λn=>G8 n a.2 b.2) Q->T (λn=>sg n a b) Q:=λ{Q}h=>.step GB (.ask (Q':=(.=true)) (.step wS (.neg (by simp[e]) (w1 _ (.step Er (.neg (by simp) (.ret rfl)))))) λx hx=>.pos hx (.ask h λy hy=>.ret hy))
     have p2:∀{Q},T (λn=>tE n b.2 a.2 (a.2.length:Int) 0) Q->T (λn=>sg n a b) Q:=λh=>p1 (.step OP (.neg (by simp[e2]) h))
     have p3:∀{Q},T (λn=>rB n 0 a b) Q->T (λn=>nU n a b) Q:=λh=>go (w2 _ (.step Ms (.neg (by simp) h)))
     rcases C with⟨u,p⟩|⟨u,p⟩
     .exact⟨false,p2 u,p3 p⟩
     .exact⟨true,p2 (u _ (.step Mt (.neg (by simp) (.ret rfl)))),p3 (p _ (.step Mw (.neg (by simp) (.ret rfl))))⟩
    .intro i hi o ho;have st:∀Q,(ax (gS (a.2.getD i []) 0) (gS (b.2.getD i []) 0)=false->o=false->Q false)->(ax (gS (a.2.getD i []) 0) (gS (b.2.getD i []) 0)=true->∀x,x=o->T (λn=>aa (!x) (some false) (rB n (IntKind.i64.wrap ((i:Int)+1)) a b)) Q)->T (λn=>rB n i a b) Q:=λQ g0 g=>.step Mw (.pos (by simp;omega) (.gx (sN (by omega)) (.gx (sN (by omega)) (.ite (λc=>.ret (g0 (gN c) (by have ho:T (λn=>aa (!ax (gS (a.2.getD i []) 0) (gS (b.2.getD i []) 0)) (some false) _) _:=ho;rw[c]at ho;obtain⟨x,hx,hq⟩:=ho;exact hq▸(hx.G0 (.ret false))))) λc=>.gx (sN (by omega)) (.gx (sN (by omega)) (.ask (Q':=(.=o)) (by grind[aa,gS]) (g (cF c))) (by omega)) (by omega)) (by omega)) (by omega)));exact⟨λe=>st _ (λ_ _=>rfl) λ_ x hx=>.pos (by grind) (.ret rfl),λe Q q=>st _ (λ_ f=>by grind) λ_ x hx=>.neg (by grind) (by rw[bA (by omega) (by omega)];exact q)⟩
    .intro i hi
     obtain⟨o,h1,h2⟩:=acg j z ha hb _ _ (qF hi) (qF (e2▸hi))
     refine⟨o,h1,.ite (λc=>?_) λc=>?_⟩
     .rw[if_neg (by grind)]at h2;exact .ret h2.symm
     grind
  .have w:T (λn=>nU n a b) (.=false):=.step Gz (.neg (by simp[e]) (.pos (by grind) (.ret rfl)))
   rcases W with⟨w1,_⟩|⟨w1,_⟩
   .exact rf (.step wS (.neg (by simp[e]) w1)) w
   .exact⟨false,.step GB (.ask (Q':=(.=true)) (.step wS (.neg (by simp[e]) (w1 _ (.step Er (.neg (by simp) (.ret rfl)))))) λx hx=>.pos hx (.ask (Q':=(.=false)) (.step OP (.pos (by grind) (.ret rfl))) λy hy=>.ret hy)),w⟩
 .exact rf (.step wS (.pos (by grind) (.ret rfl))) (.step Gz (.pos (by grind) (.ret rfl)))
end
end Go.AI
end
