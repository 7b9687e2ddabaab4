/-
  A part of the proof: Q13 Q14 Q15 Q16 Q17 Q18.
-/
import Derived.Test.YtidicphjlgjajaaGreatDoorQb
import Derived.Test.YtidicphjlgjajaaGreatDoorPb
set_option linter.all false

section
namespace Go.AI
open Go
abbrev RS:=ByteArray×Int×ByteArray×Int×Int×Int×Int
def bG(s:ByteArray)(t:Tk)(d z:Int):RS:=(s,t.k,t.x,((t.e-t.x.size:Nat):Int),d,z,0)
def Dm(s:ByteArray)(v:RS):Prop:=v.1=s/\(0<=v.2.2.2.1/\v.2.2.2.1+v.2.2.1.size<=s.size)/\(v.2.2.2.2.2.2≠0\/v.2.1=5)
def Sr(s:ByteArray)(v:RS):Option (Tk×Int)->Prop|none=>Dm s v|some (t,d)=>aT s t d/\∃z,v=bG s t d z
section
variable {s:ByteArray}{α β γ δ:Type}
def Zr(s:ByteArray)(F:Nat->Option β)(g:β->RS)(val:β->α)(X:AO α):Prop:=∀o,X=some o->∃v,Ev F v/\Sr s (g v) (o.map λo=>o.2)/\∀a t d,o=some (a,t,d)->val v=a
def lf(x:Option (Tk×Int))(K:Tk->Int->AO α):AO α:=match x with|none=>no|some (t,d)=>K t d
variable {F G:Nat->Option β}{g:β->RS}{val:β->α}{X:AO α}
theorem Zr.imp(h:Zr s G g val X)(h1:∀v,Ev G v->Ev F v):Zr s F g val X:=λo e=>let⟨v,h2,h3⟩:=h o e;⟨v,h1 v h2,h3⟩
theorem Zr.step(e:∀n,F (n+1)=G n)(h:Zr s G g val X):Zr s F g val X:=h.imp λ_=>.step e
theorem Zr.pre{H:Nat->Option γ}{k:Nat->γ->Option β}{a:γ}(h:Ev H a)(h1:Zr s (λn=>k n a) g val X):Zr s (λn=>Go.AI.ask (H n) (k n)) g val X:=h1.imp λ_=>.ask h
theorem Zr.pos{b:Bool}{x y:Nat->Option β}(h:b=true)(h1:Zr s x g val X):Zr s (λn=>aa b (x n) (y n)) g val X:=h1.imp λ_=>.pos h
theorem Zr.neg{b:Bool}{x y:Nat->Option β}(h:b=false)(h1:Zr s y g val X):Zr s (λn=>aa b (x n) (y n)) g val X:=h1.imp λ_=>.neg h
theorem Zr.ite{b:Bool}{x y:Nat->Option β}(h1:b=true->Zr s x g val X)(h2:b=false->Zr s y g val X):Zr s (λn=>aa b (x n) (y n)) g val X:=by
 cases b
 .exact .neg rfl (h2 rfl)
 .exact .pos rfl (h1 rfl)
theorem Zr.nil:Zr s F g val none:=λ_ e=>by cases e
theorem Zr.dm{v:β}(h:Dm s (g v))(hF:Ev F v):Zr s F g val no:=λo e=>by cases e;exact⟨v,hF,h,λ_ _ _ e=>by cases e⟩
theorem Zr.fX{v:β}{x:Option (Tk×Int)}{a:α}(h:Sr s (g v) x)(hF:Ev F v)(ha:val v=a):Zr s F g val (lf x λt d=>ok a t d):=by cases x with|none=>exact .dm h hF|some x=>exactλo e=>by cases e;exact⟨v,hF,h,λ_ _ _ e=>by cases e;exact ha⟩
theorem Zr.ok{v:β}{t:Tk}{d z:Int}{a:α}(h:aT s t d)(e:g v=bG s t d z)(ha:val v=a):Zr s (λ_=>some v) g val (Go.AI.ok a t d):=Zr.fX (x:=some (t,d)) ⟨h,z,e⟩ (.ret v) ha
theorem Zr.bd{H:Nat->Option γ}{k:Nat->γ->Option β}{g':γ->RS}{w:γ->δ}{Y:AO δ}{K:δ->Tk->Int->AO α}(h:Zr s H g' w Y)
 (h1:∀v y,Sr s (g' v) y->(∀t d,y=some (t,d)->Y=some (some (w v,t,d)))->Zr s (λn=>k n v) g val (lf y (K (w v)))):Zr s (λn=>Go.AI.ask (H n) (k n)) g val (Go.AI.bd Y K):=λo' e=>by
 cases Y with
 |none=>cases e
 |some o=>
  obtain⟨v,hv,h3,h4⟩:=h o rfl
  have f:lf (o.map λo=>o.2) (K (w v))=some o':=by cases o with|none=>exact e|some o=>obtain⟨a,t,d⟩:=o;rw[h4 a t d rfl];exact e
  obtain⟨u,c,b⟩:=h1 v _ h3 (λt d e=>by cases o with|none=>cases e|some o=>obtain⟨a,t',d'⟩:=o;cases e;rw[h4 _ _ _ rfl]) o' f;exact⟨u,.ask hv c,b⟩
theorem ML{x:Option (Tk×Int)}{A:Tk->Int->AO δ}{K:δ->Tk->Int->AO α}:(lf x λt d=>Go.AI.bd (A t d) K)=Go.AI.bd (lf x A) K:=by cases x<;>rfl
theorem Zr.go{x:Option (Tk×Int)}{H:Nat->Option γ}{k:Nat->γ->Option β}{g':γ->RS}{w:γ->δ}{A:Tk->Int->AO δ}{K:δ->Tk->Int->AO α}(h:Zr s H g' w (lf x A))(h1:∀v y,Sr s (g' v) y->Zr s (λn=>k n v) g val (lf y (K (w v)))):Zr s (λn=>Go.AI.ask (H n) (k n)) g val (lf x λt d=>Go.AI.bd (A t d) K):=by rw[ML];exact .bd h λv y h _=>h1 v y h
theorem Zr.ey{H:Nat->Option γ}{k:Nat->γ->Option β}{g':γ->RS}{w:γ->δ}{Y:AO δ}{K:δ->Tk->Int->AO α}(h:Zr s H g' w Y)(h1:∀v y,Sr s (g' v) y->Zr s (λn=>k n v) g val (lf y (K (w v)))):Zr s (λn=>Go.AI.ask (H n) (k n)) g val (Go.AI.bd Y K):=.bd h λv y h _=>h1 v y h
theorem Zr.id{H:Nat->Option β}(h:Zr s H g val X):Zr s (λn=>Go.AI.ask (H n) λx=>some x) g val X:=h.imp λ_ h=>.ask h (.ret _)
end
section
variable {s:ByteArray}{α β γ:Type}{t:Tk}{d z:Int}
abbrev iU(v:RS):RS:=v
abbrev vU(_:RS):Unit:=()
abbrev pT(v:Int×ByteArray×Int×Int×ByteArray×Rows×Rows×RS):RS:=v.2.2.2.2.2.2.2
abbrev vT(v:Int×ByteArray×Int×Int×ByteArray×Rows×Rows×RS):TM:=bp v
abbrev pN(v:ByteArray×RS):RS:=v.2
abbrev vN(v:ByteArray×RS):ByteArray:=v.1
theorem FZ(b:ByteArray)(v:RS):Ev (λn=>eP n b v) ((v.2.1==4||v.2.1==2)&&ao v.2.2.1 b,v):=by
 refine .step (λn=>XV n _ _) (.ite (λh=>?_) λh=>.ite (λh2=>?_) λh2=>?_)
 .rw[h];exact .ret _
 .rw[h,h2];exact .ret _
 .rw[h,h2];exact .ret _
theorem gA(b:List UInt8):Ev (λn=>eP n (bs b) (bG s t d z)) (aM t b,bG s t d z):=by have:=FZ (bs b) (bG s t d z);rw[fh]at this;exact this
theorem fV{b:ByteArray}{v:RS}(h:v.2.1=5):Ev (λn=>eP n b v) (false,v):=by have:=FZ b v;rw[h]at this;exact this
theorem tK(v:RS):Ev (λn=>fA n v) (v.2.2.2.2.2.2==0,v):=.step (λn=>FR n _) (.ret _)
theorem lO:Ev (λn=>fA n (bG s t d z)) (true,bG s t d z):=tK _
theorem Ez(v:RS)(a b:Int):Ev (λn=>tC n a b v) (if v.2.2.2.2.2.2=0 then wW v (b,a)else v):=by
 refine .step (λn=>V6 n _ _ _) (.ask (tK v) ?_)
 by_cases h:v.2.2.2.2.2.2=0
 .rw[if_pos h];exact .pos (beq_iff_eq.2 h) (.ret _)
 .rw[if_neg h];exact .neg (beq_eq_false_iff_ne.2 h) (.ret _)
def De(s:ByteArray)(v:RS):Prop:=Dm s v/\v.2.2.2.2.2.2≠0
def Pl(s:ByteArray)(v:RS):Prop:=v.1=s/\(0<=v.2.2.2.1/\v.2.2.2.1+v.2.2.1.size<=s.size)
theorem EA{v:RS}{a b:Int}(h:Pl s v)(ha:a≠0):∃w,Ev (λn=>tC n a b v) w/\De s w:=by
 refine⟨_,Ez v a b,?_⟩
 by_cases h0:v.2.2.2.2.2.2=0
 .rw[if_pos h0];exact⟨⟨h.1,h.2,.inl ha⟩,ha⟩
 .rw[if_neg h0];exact⟨⟨h.1,h.2,.inl h0⟩,h0⟩
theorem sx{v:RS}(h:Pl s v):∃w,Ev (λn=>kY n v) w/\De s w:=by obtain⟨w,h1,h2⟩:=EA (a:=2) (b:=v.2.2.2.1) h (by decide);exact⟨w,.step (λn=>NB n _) (.ask h1 (.ret _)),h2⟩
theorem Dm.pl{v:RS}(h:Dm s v):Pl s v:=⟨h.1,h.2.1⟩
theorem vr(h:aT s t d):Pl s (bG s t d z):=by obtain⟨i,hk⟩:=h.ok;have:=hk.x;have:=hk.e;exact⟨rfl,by show(0:Int)<=((t.e-t.x.size:Nat):Int)/\((t.e-t.x.size:Nat):Int)+t.x.size<=s.size;omega⟩
theorem oe(x:ByteArray)(a b c:List UInt8):Ev (λn=>tB n x [[.sc (.string (bs a))],[.sc (.string (bs b))],[.sc (.string (bs c))]]) (decide (x=bs a)||decide (x=bs b)||decide (x=bs c)):=by
 have:=Bm x [bs a,bs b,bs c] (by simp) _ 0 rfl
 have e:jO x ([bs a,bs b,bs c].drop 0)=(decide (x=bs a)||decide (x=bs b)||decide (x=bs c)):=by simp only[jO,List.drop_zero,List.any_cons,List.any_nil,Bool.or_false,eq_comm,Bool.or_assoc]
 rw[e]at this;exact .step (λn=>EU n _ _) this
variable (hs:s.size<=65536)
include hs
theorem EB{v:RS}{t:Tk}{d z e:Int}(h1:v.1=s)(h2:v.2.2.2.1+v.2.2.1.size=(t.e:Int))(b:t.e<=s.size)(h3:v.2.2.2.2=(d,z,e)):Ev (λn=>s9 n v) (s,(aJ s t.e).k,(aJ s t.e).x,(((aJ s t.e).e-(aJ s t.e).x.size:Nat):Int),d,z,e):=by refine .step (λn=>UO n _) ?_;rw[h1,h2,ja (by omega),h3];exact .ask (E1 hs b) (.ret _)
theorem Vq{v:RS}(h:De s v):∃w,Ev (λn=>dD n v) w/\De s w:=by
 have j:∀{v:RS},De s v->∃w,Ev (λn=>s9 n v) w/\De s w:=λ{v}h=>by
  obtain⟨i,hi⟩:∃i:Nat,v.2.2.2.1+v.2.2.1.size=(i:Int):=⟨(v.2.2.2.1+v.2.2.1.size).toNat,by have:=h.1.2.1.1;omega⟩
  have c:i<=s.size:=by have:=h.1.2.1.2;omega
  refine⟨_,EB (t:=⟨0,bs [],0,i⟩) (d:=v.2.2.2.2.1) (z:=v.2.2.2.2.2.1) (e:=v.2.2.2.2.2.2) hs h.1.1 hi c rfl,?_⟩;have ho:=qe c;have:=ho.x;have:=ho.e;exact⟨⟨rfl,by show(0:Int)<=(((aJ s i).e-(aJ s i).x.size:Nat):Int)/\(((aJ s i).e-(aJ s i).x.size:Nat):Int)+(aJ s i).x.size<=s.size;omega,.inl h.2⟩,h.2⟩
 have f:∀{v:RS},De s v->∃w,Ev (λn=>mj n v) w/\De s w:=λ{v}h=>by cases hb:decide (v.2.2.1=bs [41])||decide (v.2.2.1=bs [93])||decide (v.2.2.1=bs [125])with|true=>obtain⟨w,h1,h2⟩:=j (v:=mR v (IntKind.i64.wrap (v.2.2.2.2.1-1),v.2.2.2.2.2)) h;exact⟨w,.step (λn=>vl n _) (.ask (oe _ _ _ _) (.pos hb h1)),h2⟩|false=>obtain⟨w,h1,h2⟩:=j h;exact⟨w,.step (λn=>vl n _) (.ask (oe _ _ _ _) (.neg hb h1)),h2⟩
 cases hb:decide (v.2.2.1=bs [40])||decide (v.2.2.1=bs [91])||decide (v.2.2.1=bs [123])with
 |true=>cases k:decide (((IntKind.i64.wrap (v.2.2.2.2.1+1)):Int)>64)with|true=>obtain⟨u,h3,h4⟩:=EA (s:=s) (v:=mR v (IntKind.i64.wrap (v.2.2.2.2.1+1),v.2.2.2.2.2)) (a:=4) (b:=v.2.2.2.1) h.1.pl (by decide);obtain⟨w,h1,h2⟩:=f h4;exact⟨w,.step (λn=>Bi n _) (.ask (oe _ _ _ _) (.pos hb (.pos k (.ask h3 h1)))),h2⟩|false=>obtain⟨w,h1,h2⟩:=f (v:=mR v (IntKind.i64.wrap (v.2.2.2.2.1+1),v.2.2.2.2.2)) h;exact⟨w,.step (λn=>Bi n _) (.ask (oe _ _ _ _) (.pos hb (.neg k h1))),h2⟩
 |false=>obtain⟨w,h1,h2⟩:=f h;exact⟨w,.step (λn=>Bi n _) (.ask (oe _ _ _ _) (.neg hb h1)),h2⟩
theorem NM(h:aT s t d){d':Int}(hd:aT s (aJ s t.e) d'\/(aJ s t.e).k=5){v:RS}(hv:v=bG s t d' z):Zr s (λn=>s9 n v) iU vU (bI s t d'):=by subst hv;obtain⟨i,hk⟩:=h.ok;have hx:=hk.x;have c:=hk.e;have h1:=EB (v:=bG s t d' z) (t:=t) (d:=d') (z:=z) (e:=0) hs rfl (by show((t.e-t.x.size:Nat):Int)+t.x.size=t.e;omega) c rfl;have ho:=qe c;unfold bI;cases b:(aJ s t.e).k==5 with|true=>have:=ho.x;have:=ho.e;exact .dm ⟨rfl,by show(0:Int)<=(((aJ s t.e).e-(aJ s t.e).x.size:Nat):Int)/\(((aJ s t.e).e-(aJ s t.e).x.size:Nat):Int)+(aJ s t.e).x.size<=s.size;omega,.inr (eq_of_beq b)⟩ h1|false=>have b:=beq_eq_false_iff_ne.1 b;exact Zr.fX (x:=some (aJ s t.e,d')) ⟨hd.resolve_right b,z,rfl⟩ h1 rfl
theorem eU(h:aT s t d):Zr s (λn=>dD n (bG s t d z)) iU vU (bz s t d):=by
 have hI:=ly h
 have hd:=h.b hs
 have c:∀{d'},bz s t d=bI s t d'->aT s (aJ s t.e) d'\/(aJ s t.e).k=5:=λ{d'}e=>by
  by_cases o:(aJ s t.e).k=5
  .exact .inr o
  .exact .inl (hI () _ _ (by rw[e];unfold bI;rw[beq_eq_false_iff_ne.2 o];rfl)).1
 have C:(decide (t.x=bs [40])||decide (t.x=bs [91])||decide (t.x=bs [123]))=jj t.x:=rfl
 have j:(decide (t.x=bs [41])||decide (t.x=bs [93])||decide (t.x=bs [125]))=jk t.x:=rfl
 refine .step (λn=>Bi n _) (.pre (oe _ _ _ _) ?_)
 show Zr s (λn=>aa (decide (t.x=bs [40])||decide (t.x=bs [91])||decide (t.x=bs [123])) (aa (decide (((IntKind.i64.wrap (d+1)):Int)>64)) (ask (tC n 4 (bG s t d z).2.2.2.1 (mR (bG s t d z) ((IntKind.i64.wrap (d+1)),(z,0)))) λp=>mj n p) (mj n (mR (bG s t d z) ((IntKind.i64.wrap (d+1)),(z,0))))) (mj n (bG s t d z))) iU vU (bz s t d)
 rw[C,ja (by omega)]
 have l:∀d',jk t.x=false->(aT s (aJ s t.e) d'\/(aJ s t.e).k=5)->Zr s (λn=>mj n (bG s t d' z)) iU vU (bI s t d'):=λd' hc c=>.step (λn=>vl n _) (.pre (oe _ _ _ _) (.neg (j.trans hc) (NM hs h c rfl)))
 cases ho:jj t.x with
 |true=>
  have hc:jk t.x=false:=by simp only[jj,Bool.or_eq_true,decide_eq_true_iff]at ho;rcases ho with(ho|ho)|ho<;>rw[ho]<;>rfl
  have hp:bz s t d=match decide (64<=d)with|true=>no|false=>bI s t (d+1):=by unfold bz;rw[ho];rfl
  refine .pos rfl (.ite (λf=>?_) λf=>?_)
  .rw[hp,ax (by have:=dP f;omega)]
   obtain⟨u,h3,h4⟩:=EA (s:=s) (v:=mR (bG s t d z) (d+1,(z,0))) (a:=4) (b:=(bG s t d z).2.2.2.1) (show Pl s (bG s t d z)from vr h) (by decide)
   have q:∃w,Ev (λn=>mj n u) w/\De s w:=by have B:u=(s,t.k,t.x,((t.e-t.x.size:Nat):Int),d+1,((t.e-t.x.size:Nat):Int),4):=Ev.xa h3 (Ez _ _ _);obtain⟨i,hk⟩:=h.ok;have hx:=hk.x;have m:=hk.e;subst B;refine⟨_,.step (λn=>vl n _) (.ask (oe _ _ _ _) (.neg (j.trans hc) (EB (t:=t) (d:=d+1) (z:=((t.e-t.x.size:Nat):Int)) (e:=4) hs rfl (by show((t.e-t.x.size:Nat):Int)+t.x.size=t.e;omega) m rfl))),?_⟩;have ho:=qe m;have:=ho.x;have:=ho.e;exact⟨⟨rfl,by show(0:Int)<=(((aJ s t.e).e-(aJ s t.e).x.size:Nat):Int)/\(((aJ s t.e).e-(aJ s t.e).x.size:Nat):Int)+(aJ s t.e).x.size<=s.size;omega,.inl (show(4:Int)≠0 by decide)⟩,show(4:Int)≠0 by decide⟩
   obtain⟨w,h1,h2⟩:=q;exact .dm h2.1 (.ask h3 h1)
  .have hp:bz s t d=bI s t (d+1):=by rw[hp,aH (by have:=of_decide_eq_false f;omega)]
   rw[hp];exact l (d+1) hc (c hp)|false=>refine .neg rfl ?_;cases hc:jk t.x with|true=>rw[zx ho hc];refine .step (λn=>vl n _) (.pre (oe _ _ _ _) (.pos (j.trans hc) ?_));exact NM hs h (c (zx ho hc)) (by show mR (bG s t d z) (IntKind.i64.wrap (d-1),(z,0))=_;rw[ja (by omega)];rfl)|false=>rw[sS ho hc];exact l d hc (c (sS ho hc))
theorem j0{b:List UInt8}{v:RS}{x:Option (Tk×Int)}(h:Sr s v x):Zr s (λn=>gy n (bs b) v) iU vU (lf x (cD s b)):=by
 refine .step (λn=>Wj n _ _) (.pre (tK v) ?_)
 cases x with
 |none=>
  have h:Dm s v:=h
  by_cases c:v.2.2.2.2.2.2=0
  .have e:=h.2.2.resolve_left (λf=>f c);obtain⟨w,h1,h2⟩:=sx h.pl;exact .dm h2.1 (.neg (by rw[c];rfl) (.ask (fV e) (.pos rfl (.ask h1 (.ret _)))))
  .exact .dm h (.pos (by rw[Bool.not_eq_true',beq_eq_false_iff_ne];exact c) (.ret _))|some x=>obtain⟨t,d⟩:=x;obtain⟨h,z,rfl⟩:=h;refine .neg rfl (.pre (gA b) ?_);show Zr s _ iU vU (cD s b t d);unfold cD;cases aM t b with|true=>exact .neg rfl (.id (eU hs h))|false=>obtain⟨w,h1,h2⟩:=sx (vr (z:=z) h);exact .pos rfl (.dm h2.1 (.ask h1 (.ret _)))
theorem Xr{v:RS}{x:Option (Tk×Int)}(h:Sr s v x):Zr s (λn=>Ba n v) pN vN (lf x (kq s)):=by
 refine .step (λn=>WG n _) (.pre (tK v) ?_)
 cases x with
 |none=>
  have h:Dm s v:=h
  by_cases b:v.2.2.2.2.2.2=0
  .have c:=h.2.2.resolve_left (λf=>f b);obtain⟨w,h1,h2⟩:=sx h.pl;exact .dm (v:=(bs [],w)) h2.1 (.neg (by rw[b];rfl) (.pos (by show(v.2.1 !=1)=true;rw[c];rfl) (.ask h1 (.ret _))))
  .exact .dm (v:=(bs [],v)) h (.pos (by rw[Bool.not_eq_true',beq_eq_false_iff_ne];exact b) (.ret _))
 |some x=>
  obtain⟨t,d⟩:=x
  obtain⟨h,z,rfl⟩:=h
  refine .neg rfl ?_
  show Zr s _ pN vN (kq s t d)
  obtain⟨i,hk⟩:=h.ok
  obtain⟨w,h1,h2⟩:=sx (vr (z:=z) h)
  unfold kq
  by_cases e:t.k=1
  .refine .neg (by show(t.k !=1)=false;rw[e];rfl) (.pre (yg t.x (by have:=hk.x;have:=hk.e;show _<=_;omega)) ?_);rw[(hk.nk e).2,show(t.k==1)=true by rw[e];rfl];cases eK t.x with|true=>exact .pos rfl (.dm (v:=(bs [],w)) h2.1 (.ask h1 (.ret _)))|false=>exact .neg rfl (.ey (eU hs h) λv y hv=>.fX hv (.ret _) rfl)
  .rw[beq_eq_false_iff_ne.2 e];exact .pos (bne_iff_ne.2 e) (.dm (v:=(bs [],w)) h2.1 (.ask h1 (.ret _)))
end
end Go.AI
end

section
namespace Go.AI
open Go
section
variable {s:ByteArray}{α β γ:Type}{t:Tk}{d z:Int}
theorem MM(x:ByteArray)(b:List UInt8):ao x (bs b)=decide (x.data.toList=b):=by rw[fh];exact decide_eq_decide.2 ⟨λh=>by rw[h],λh=>ByteArray.ext (Array.ext' h)⟩
theorem lE{x:ByteArray}{b:List UInt8}{l:Nat}{i o:Int}{L:List (List UInt8×Nat×Int)}{R:Nat->Option (Int×Int)}(hi:i=l)(h:Ev R (((cM L x.data.toList).1:Int),(cM L x.data.toList).2)):Ev (λn=>aa (ao x (bs b)) (some (i,o)) (R n)) (((cM ((b,l,o)::L) x.data.toList).1:Int),(cM ((b,l,o)::L) x.data.toList).2):=by rw[MM];unfold cM;cases decide (x.data.toList=b)with|true=>exact .pos rfl (hi▸.ret _)|false=>exact .neg rfl h
theorem e8{x:ByteArray}{b:List UInt8}{l:Nat}{o:Int}{L:List (List UInt8×Nat×Int)}{R:Nat->Option Int}(h:Ev R (cM L x.data.toList).2):Ev (λn=>aa (ao x (bs b)) (some o) (R n)) (cM ((b,l,o)::L) x.data.toList).2:=by rw[MM];unfold cM;cases decide (x.data.toList=b)with|true=>exact .pos rfl (.ret _)|false=>exact .neg rfl h
theorem yR{w:List UInt8}{lv:Nat}{L2:List (List UInt8×Nat×Int)}:∀b:List (List UInt8×Nat×Int),(∀p∈b,p.2.1=lv/\0<p.2.2)->(0<(cM b w).2/\cM (b++L2) w=(lv,(cM b w).2))\/((cM b w).2=0/\cM (b++L2) w=cM L2 w)|[],_=>.inr ⟨rfl,rfl⟩|(x,r)::L,h=>by rw[List.cons_append];have ih:=yR (w:=w) (L2:=L2) L λp hp=>h p (.tail _ hp);simp only[cM];cases decide (w=x)with|true=>have:=h _ (.head _);exact .inl ⟨this.2,by rw[<-this.1]⟩|false=>exact ih
def T6:=(gi.drop 11).take 9
def T7:=(gi.drop 20).take 5
def T9:=gi.drop 25
theorem Xs(x:ByteArray):Ev (λn=>FH n x) (((cM gi x.data.toList).1:Int),(cM gi x.data.toList).2):=by
 have f:Ev (λn=>FJ n x) (cM T6 x.data.toList).2:=.step (λn=>WV n _) (e8 (e8 (e8 (e8 (e8 (e8 (e8 (e8 (e8 (.ret _))))))))))
 have c:Ev (λn=>FK n x) (cM T7 x.data.toList).2:=.step (λn=>WW n _) (e8 (e8 (e8 (e8 (e8 (.ret _))))))
 have b:Ev (λn=>FL n x) (cM T9 x.data.toList).2:=.step (λn=>WX n _) (e8 (e8 (e8 (e8 (e8 (e8 (e8 (e8 (e8 (e8 (.ret _)))))))))))
 refine .step (λn=>WH n _) (lE rfl (lE rfl (lE rfl (lE rfl (lE rfl (lE rfl (lE rfl (lE rfl (lE rfl (lE rfl (lE rfl (.ask f ?_))))))))))))
 show Ev _ (((cM (T6++(T7++(T9++[]))) x.data.toList).1:Int),(cM (T6++(T7++(T9++[]))) x.data.toList).2)
 rcases yR (w:=x.data.toList) (L2:=T7++(T9++[])) (lv:=6) T6 (by decide)with⟨h,e⟩|⟨h,e⟩
 .rw[e];exact .pos (ax h) (.ret _)
 rw[e,h]
 refine .neg rfl (.ask c ?_)
 rcases yR (w:=x.data.toList) (L2:=T9++[]) (lv:=7) T7 (by decide)with⟨h,e⟩|⟨h,e⟩
 .rw[e];exact .pos (ax h) (.ret _)
 rw[e,h]
 refine .neg rfl (.ask b ?_)
 rcases yR (w:=x.data.toList) (L2:=[]) (lv:=9) T9 (by decide)with⟨h,e⟩|⟨h,e⟩
 .rw[e];exact .pos (ax h) (.ret _)
 rw[e,h];exact .neg rfl (.ret _)
theorem NN(l:Nat):Ev (λn=>wy n (l:Int) (bG s t d z)) (dk l t,bG s t d z):=by
 have b:(t.k==4||t.k==2)=true->Ev (λn=>zd n (l:Int) (bG s t d z)) (dk l t,bG s t d z):=λhk=>by
  refine .step (λn=>Td n _ _) (.ask (Xs _) ?_)
  unfold dk
  rw[hk,Bool.true_and]
  by_cases h:(cM gi t.x.data.toList).1=l
  .rw[ax h];exact .neg (by rw[bne_eq_false_iff_eq];show(((cM gi t.x.data.toList).1:Nat):Int)=l;rw[h]) (.ret _)
  .rw[aH h];exact .pos (bne_iff_ne.2 (show(((cM gi t.x.data.toList).1:Nat):Int)≠l by omega)) (.ret _)
 refine .step (λn=>Mv n _ _) (.ite (λh=>?_) λh=>b (by rw[show t.k=4 from bne_eq_false_iff_eq.1 h];rfl));have h:t.k≠4:=bne_iff_ne.1 h;refine .ite (λh2=>?_) λh2=>b (by rw[show t.k=2 from bne_eq_false_iff_eq.1 h2];rfl);have h2:t.k≠2:=bne_iff_ne.1 h2;unfold dk;rw[beq_eq_false_iff_ne.2 h,beq_eq_false_iff_ne.2 h2];exact .ret _
theorem NO{l:Int}{v:RS}(h:v.2.1=5):Ev (λn=>wy n l v) (0,v):=.step (λn=>Mv n _ _) (.pos (by rw[h];rfl) (.pos (by rw[h];rfl) (.ret _)))
theorem LS(x:ByteArray):∀(k i:Nat),i+k=6->Ev (λn=>vf n x (i:Int) (fU.map λb=>[.sc (.string (bs b))])) (lN (fU.drop i) (46+i) x.data.toList)
 |0,i,e=>by obtain rfl:i=6:=e;exact .step (λn=>J0 n _ _ _) (.neg rfl (.ret _))
 |k+1,i,e=>by
  have ih:=LS x k (i+1) (by omega)
  have hi:i<fU.length:=by show i<6;omega
  have hg:(fU.map λb=>([.sc (.string (bs b))]:List AV))[i]?=some [.sc (.string (bs fU[i]))]:=by rw[List.getElem?_map,List.getElem?_eq_getElem hi];rfl
  rw[List.drop_eq_getElem_cons hi];refine .step (λn=>J0 n _ _ _) (.pos (ax (by show(i:Int)<6;omega)) (.ae rfl hg (.cL hg ?_)));unfold lN;show Ev (λn=>aa (ao (bs fU[i]) x) (some (IntKind.i64.wrap (46+(i:Int)))) (vf n x (IntKind.i64.wrap ((i:Int)+1)) _)) _;rw[fh,ja (by omega),ja (by omega),show decide (bs fU[i]=x)=decide (x.data.toList=fU[i])from decide_eq_decide.2 ⟨λh=>by rw[<-h],λh=>by rw[<-h]⟩];cases decide (x.data.toList=fU[i])with|true=>exact .pos rfl (.ret _)|false=>exact .neg rfl (by rw[show(46+(i:Int)+1)=46+((i+1:Nat):Int)by omega];exact ih)
theorem MN(x:ByteArray):Ev (λn=>A8 n x) (gX x):=.step (λn=>Wi n _) (LS x 6 0 rfl)
end
end Go.AI
end

section
namespace Go.AI
open Go
section
variable {s:ByteArray}{α β γ δ:Type}{t:Tk}{d z:Int}
abbrev pY(v:Int×ByteArray×Rows×RS):RS:=v.2.2.2
abbrev vY(v:Int×ByteArray×Rows×RS):TM:=(v.1,v.2.1,0,0,bs [],[],v.2.2.1)
theorem Zr.ig{F:Nat->Option γ}{k:Nat->γ->Option β}{g:β->RS}{val:β->α}{g':γ->RS}{w:γ->δ}(h:Zr s F g' w (no:AO δ))(h1:∀v,Dm s (g' v)->Zr s (λn=>k n v) g val (no:AO α)):Zr s (λn=>Go.AI.ask (F n) (k n)) g val (no:AO α):=by obtain⟨v,hv,h2,_⟩:=h none rfl;exact(h1 v h2).pre hv
theorem yS{v:RS}(h:Pl s v):Zr s (λn=>kY n v) iU vU (no:AO Unit):=let⟨_,h1,h2⟩:=sx h;.dm h2.1 h1
theorem Dm.two{v:RS}(h:Dm s v):(∀n,fA (n+1) v=some (false,v))\/(v.2.1=5/\Ev (λn=>fA n v) (true,v)):=by
 by_cases b:v.2.2.2.2.2.2=0
 .exact .inr ⟨h.2.2.resolve_left (λf=>f b),by have:=tK v;rw[b]at this;exact this⟩
 .exact .inl λn=>by rw[FR,beq_eq_false_iff_ne.2 b]
theorem Dm.run{v:RS}{F:Nat->Bool×RS->Option β}{g:β->RS}{val:β->α}{X:AO α}(h:Dm s v)(h1:Zr s (λn=>F n (false,v)) g val X)(h2:v.2.1=5->Zr s (λn=>F n (true,v)) g val X):Zr s (λn=>ask (fA n v) (F n)) g val X:=by
 rcases h.two with e|⟨b,e⟩
 .exact h1.pre (.const 1 e)
 .exact(h2 b).pre e
variable (hs:s.size<=65536)
include hs
theorem zD{b:List UInt8}{v:RS}(h:Dm s v):Zr s (λn=>gy n (bs b) v) iU vU (no:AO Unit):=j0 hs (x:=none) h
theorem dM{v:RS}(h:Dm s v)(l:Int)(a:TM):Zr s (λn=>rh n a l v) pT vT (no:AO TM):=.step (λn=>FT n _ _ _) (.step (λn=>Em n _ _ _ _ _ _) (h.run (.neg rfl (.dm (v:=eW a v) h (.ret _))) λb=>.pos rfl (.pre (NO b) (.pos rfl (.dm (v:=eW a v) h (.ret _))))))
theorem dM1{v:RS}(h:Dm s v)(l:Int)(a:TM)(j c b):Zr s (λn=>so n l v (t5 a) j a.2.2.2.2.2.1 a.2.2.2.2.2.2 c b) pT vT (no:AO TM):=.step (λn=>IA n _ _ _ _ _ _ _ _) (h.run (.neg rfl (.dm (v:=eW a v) h (.ret _))) λe=>.pos rfl (.pre (NO e) (.pos rfl (.dm (v:=eW a v) h (.ret _)))))
theorem dF{v:RS}(h:Dm s v)(a:TM)(j e c):Zr s (λn=>vI n v j a e c) pT vT (no:AO TM):=.step (λn=>Lb n _ _ _ _ _) (h.run (.neg rfl (.dm (v:=eW a v) h (.ret _))) λb=>.pos rfl (.pre (fV b) (.neg rfl (.pre (fV b) (.neg rfl (.pre (fV b) (.neg rfl (.dm (v:=eW a v) h (.ret _)))))))))
theorem dF1{v:RS}(h:Dm s v)(a:TM)(j e c):Zr s (λn=>l5 n v j (t5 a) e c a.2.2.2.2.2.1 a.2.2.2.2.2.2) pT vT (no:AO TM):=.step (λn=>Iz n _ _ _ _ _ _ _) (h.run (.neg rfl (.dm (v:=eW a v) h (.ret _))) λb=>.pos rfl (.pre (fV b) (.neg rfl (.pre (fV b) (.neg rfl (.pre (fV b) (.neg rfl (.dm (v:=eW a v) h (.ret _)))))))))
theorem dA{v:RS}(h:Dm s v):Zr s (λn=>A6 n v) pT vT (no:AO TM):=by have bad:Zr s (λn=>ask (kY n v) λc=>some ((0:Int),(bs []),(0:Int),(0:Int),(bs []),([]:Rows),([]:Rows),c)) pT vT (no:AO TM):=.ig (yS h.pl) λw hw=>.dm (v:=(0,bs [],0,0,bs [],[],[],w)) hw (.ret _);refine .step (λn=>Ms n _) (h.run (.pos rfl (.dm (v:=(0,bs [],0,0,bs [],[],[],v)) h (.ret _))) λb=>.neg rfl (.neg (by rw[b];rfl) (.neg (by rw[b];rfl) ?_)));exact .pre (fV b) (.neg rfl (.pre (fV b) (.neg rfl (.pre (fV b) (.neg rfl (.pre (fV b) (.neg rfl (.pre (fV b) (.neg rfl (.pre (fV b) (.neg rfl (.pre (fV b) (.neg rfl (.neg (by rw[b];rfl) bad))))))))))))))
theorem Z6{v:RS}(h:Dm s v):Zr s (λn=>eg n 14 v) pT vT (no:AO TM):=.step (λn=>Bh n _ _) (h.run (.pos rfl (.dm (v:=(0,bs [],0,0,bs [],[],[],v)) h (.ret _))) λ_=>.neg rfl (.neg rfl (.step (λn=>sP n _ _ _ _ _) (.neg rfl (.step (λn=>sO n _ _ _ _ _) (.pos rfl (.id (.step (λn=>NA n _) (.ig (dA hs h) λw hw=>dF hs hw _ _ _ _)))))))))
theorem dT:∀(k l:Nat){v:RS},l+k=14->Dm s v->Zr s (λn=>eg n (l:Int) v) pT vT (no:AO TM)|0,l,v,e,h=>by obtain rfl:l=14:=e;exact Z6 hs h|k+1,l,v,e,h=>by have g:∀j c b,Zr s (λn=>zZ n (l:Int) v j c b) pT vT (no:AO TM):=λj c b=>.step (λn=>sO n _ _ _ _ _) (.neg (beq_eq_false_iff_ne.2 (by omega)) (by rw[ja (by omega)];exact .ig (dT k (l+1) (by omega) h) λw hw=>.id (dM hs hw _ _)));refine .step (λn=>Bh n _ _) (h.run (.pos rfl (.dm (v:=(0,bs [],0,0,bs [],[],[],v)) h (.ret _))) λf=>.neg rfl ?_);have i:∀j c b,Zr s (λn=>z6 n (l:Int) v j c b) pT vT (no:AO TM):=λj c b=>.step (λn=>sP n _ _ _ _ _) (.ite (λ_=>.pre (fV f) (.neg rfl (g _ _ _))) λ_=>g _ _ _);exact .ite (λ_=>.pre (fV f) (.neg rfl (i _ _ _))) λ_=>i _ _ _
theorem dI{v:RS}{b:List UInt8}(h:Dm s v):Zr s (λn=>mJ n (bs b) v) pT vT (no:AO TM):=.step (λn=>Mt n _ _) (.ig (dT hs 13 1 rfl h) λw hw=>.ig (zD hs hw) λu c=>.dm (v:=rb w u) c (.ret _))
theorem dE{v:RS}(h:Dm s v)(j1 j2 g f c b):Zr s (λn=>oH n v j1 j2 g f c b) pT vT (no:AO TM):=have fin:∀{v},Dm s v->Zr s (λn=>ask (gy n (bs [125]) v) λe=>some (fy j2 (c,b,e))) pT vT (no:AO TM):=λh=>.ig (zD hs h) λu i=>.dm (v:=fy j2 (c,b,u)) i (.ret _);.step (λn=>JZ n _ _ _ _ _ _ _) (h.run (.neg rfl (fin h)) λj=>.pos rfl (.pre (fV j) (.neg rfl (fin h))))
theorem dY{v:RS}(h:Dm s v):Zr s (λn=>pc n v) pY vY (no:AO TM):=by refine .step (λn=>Mx n _) (h.run (.pos rfl (.dm (v:=(0,bs [],[],v)) h (.ret _))) λb=>.neg rfl (.neg (by rw[b];rfl) ?_));exact .step (λn=>J4 n _ _ _) (.pre (fV b) (.neg rfl (.pre (fV b) (.neg rfl (.pre (fV b) (.neg rfl (.ig (yS h.pl) λw hw=>.dm (v:=(0,bs [],[],w)) hw (.ret _))))))))
theorem dL{v:RS}(h:Dm s v)(j1 j2 tok a f e c b):Zr s (λn=>uQ n v j1 j2 tok a f e c b) pT vT (no:AO TM):=.step (λn=>IC n _ _ _ _ _ _ _ _ _) (.step (λn=>JY n _ _ _ _ _ _ _ _) (.pos rfl (.ig (dM hs h _ _) λ_ h=>.step (λn=>oo n _ _ _ _ _ _) (.pos rfl (.ig (dM hs h _ _) λ_ h=>.step (λn=>oo n _ _ _ _ _ _) (.pos rfl (.ig (dM hs h _ _) λ_ h=>.step (λn=>oo n _ _ _ _ _ _) (.pos rfl (.ig (dM hs h _ _) λ_ h=>.step (λn=>oo n _ _ _ _ _ _) (.neg rfl (dE hs h _ _ _ _ _ _)))))))))))
theorem dB{v:RS}(h:Dm s v):Zr s (λn=>wv n v) pT vT (no:AO TM):=by
 refine .step (λn=>Mu n _) (.pre (FZ _ _) (.ite (λj=>?_) λ_=>?_))
 .have l:De s v:=⟨h,h.2.2.resolve_right λe=>by have e:v.2.1=5:=e;rw[e]at j;cases j⟩;obtain⟨w,h1,h2⟩:=Vq hs l;exact .pre h1 (.ig (zD hs h2.1) λ_ h=>.ig (dY hs h) λx h=>.ig (zD hs h) λu k=>.dm (v:=(29,bs [],0,tP x ([],u))) k (.ret _))
 .have b:∀j1 j2 i g f c,Zr s (λn=>qb n v j1 j2 i g f c) pT vT (no:AO TM):=λj1 j2 i g f c=>.step (λn=>ID n _ _ _ _ _ _ _) (.ig (dT hs 13 1 rfl h) λw hw=>dE hs hw _ _ _ _ _ _);refine h.run (.neg rfl (b _ _ _ _ _ _)) λm=>.pos rfl (.neg (by show(v.2.1==1)=false;rw[m];rfl) (b _ _ _ _ _ _))
end
end Go.AI
end

section
namespace Go.AI
open Go
section
variable {s:ByteArray}{α β γ δ:Type}{t:Tk}{d:Int}{f:Nat}
noncomputable def NP(n:Nat)(a0:Int)(i:RS):=(ask (Ba n i) λe=>(ask (gy n (bs [105,110]) e.2) λh=>(ask (eg n 7 h) λc=>(ask (gy n (bs [46]) c.2.2.2.2.2.2.2) λg=>(ask (eg n 1 g) λb=>(some (a0,e.1,(0:Int),(0:Int),(bs []),([]:Rows),[(bf (bp c)),(bf (bp b))],b.2.2.2.2.2.2.2)))))))
def RR(s:ByteArray)(f:Nat)(t:Tk)(d:Int):jl->Prop|.T l=>∀z,Zr s (λn=>eg n (l:Int) (bG s t d z)) pT vT (sp s f (.T l) t d)|.M a l=>(∀z j c b,Zr s (λn=>EP n (l:Int) (bG s t d z) a j c b) pT vT (sp s f (.M a l) t d))/\∀z j c b,Zr s (λn=>so n (l:Int) (bG s t d z) (t5 a) j a.2.2.2.2.2.1 a.2.2.2.2.2.2 c b) pT vT (sp s f (.M a l) t d)|.F a=>(∀z j c b,Zr s (λn=>vI n (bG s t d z) j a c b) pT vT (sp s f (.F a) t d))/\∀z j c b,Zr s (λn=>l5 n (bG s t d z) j (t5 a) c b a.2.2.2.2.2.1 a.2.2.2.2.2.2) pT vT (sp s f (.F a) t d)|.A=>∀z,Zr s (λn=>A6 n (bG s t d z)) pT vT (sp s f .A t d)|.B=>∀z,Zr s (λn=>wv n (bG s t d z)) pT vT (sp s f .B t d)|.E acc=>∀z j c b,Zr s (λn=>oH n (bG s t d z) j (28,bs [],0,0,bs []) c b [] acc) pT vT (sp s f (.E acc) t d)|.Y=>∀z,Zr s (λn=>pc n (bG s t d z)) pY vY (sp s f .Y t d)|.N o=>∀z,Zr s (λn=>NP n o (bG s t d z)) pT vT (sp s f (.N o) t d)
def Gt(s:ByteArray)(t:Tk):jl->Prop|.T l=>1<=l/\l<=13|.M _ l=>1<=l/\l<=12|.E acc=>(acc.length:Int)+mu s t<=2*s.size+2|_=>True
abbrev IQ(s:ByteArray)(f:Nat):Prop:=∀(c:jl)(t:Tk)(d:Int),aT s t d->Gt s t c->RR s f t d c
theorem iq0:IQ s 0:=λc t d _ _=>by
 cases c
 case M=>exact⟨λ_ _ _ _=>.nil,λ_ _ _ _=>.nil⟩
 case F=>exact⟨λ_ _ _ _=>.nil,λ_ _ _ _=>.nil⟩
 case E=>exactλ_ _ _ _=>.nil
 all_goals exactλ_=>.nil
variable (hs:s.size<=65536)(ih:IQ s f){v:RS}{x:Option (Tk×Int)}
include hs ih
theorem rT(l:Nat)(hl:1<=l/\l<=13)(h:Sr s v x):Zr s (λn=>eg n (l:Int) v) pT vT (lf x (sp s f (.T l))):=by cases x with|none=>exact dT hs (14-l) l (by omega) h|some x=>obtain⟨t,d⟩:=x;obtain⟨h,z,rfl⟩:=h;exact ih (.T l) t d h hl z
theorem rY(h:Sr s v x):Zr s (λn=>pc n v) pY vY (lf x (sp s f .Y)):=by cases x with|none=>exact dY hs h|some x=>obtain⟨t,d⟩:=x;obtain⟨h,z,rfl⟩:=h;exact ih .Y t d h trivial z
theorem rM1(a:TM)(l:Nat)(hl:1<=l/\l<=12)(h:Sr s v x)(j c b):Zr s (λn=>so n (l:Int) v (t5 a) j a.2.2.2.2.2.1 a.2.2.2.2.2.2 c b) pT vT (lf x (sp s f (.M a l))):=by cases x with|none=>exact dM1 hs h _ _ _ _ _|some x=>obtain⟨t,d⟩:=x;obtain⟨h,z,rfl⟩:=h;exact(ih (.M a l) t d h hl).2 z j c b
theorem rM(a:TM)(l:Nat)(hl:1<=l/\l<=12)(h:Sr s v x):Zr s (λn=>rh n a (l:Int) v) pT vT (lf x (sp s f (.M a l))):=by cases x with|none=>exact dM hs h _ _|some x=>obtain⟨t,d⟩:=x;obtain⟨h,z,rfl⟩:=h;exact .step (λn=>FT n _ _ _) ((ih (.M a l) t d h hl).1 z _ _ _)
theorem rF(a:TM)(h:Sr s v x)(j c b):Zr s (λn=>vI n v j a c b) pT vT (lf x (sp s f (.F a))):=by cases x with|none=>exact dF hs h _ _ _ _|some x=>obtain⟨t,d⟩:=x;obtain⟨h,z,rfl⟩:=h;exact(ih (.F a) t d h trivial).1 z j c b
theorem Gu(a:TM)(h:Sr s v x)(j c b):Zr s (λn=>l5 n v j (t5 a) c b a.2.2.2.2.2.1 a.2.2.2.2.2.2) pT vT (lf x (sp s f (.F a))):=by cases x with|none=>exact dF1 hs h _ _ _ _|some x=>obtain⟨t,d⟩:=x;obtain⟨h,z,rfl⟩:=h;exact(ih (.F a) t d h trivial).2 z j c b
theorem rB(h:Sr s v x):Zr s (λn=>wv n v) pT vT (lf x (sp s f .B)):=by cases x with|none=>exact dB hs h|some x=>obtain⟨t,d⟩:=x;obtain⟨h,z,rfl⟩:=h;exact ih .B t d h trivial z
theorem rE(acc:Rows)(h:Sr s v x)(hl:∀t d,x=some (t,d)->(acc.length:Int)+mu s t<=2*s.size+2)(j c b):Zr s (λn=>oH n v j (28,bs [],0,0,bs []) c b [] acc) pT vT (lf x (sp s f (.E acc))):=by cases x with|none=>exact dE hs h _ _ _ _ _ _|some x=>obtain⟨t,d⟩:=x;obtain⟨h,z,rfl⟩:=h;exact ih (.E acc) t d h (hl t d rfl) z j c b
theorem rN(o:Int)(h:Sr s v x):Zr s (λn=>NP n o v) pT vT (lf x λt d=>bd (kq s t d) λx t d=>bd (cD s [105,110] t d) λ_ t d=>bd (sp s f (.T 7) t d) λa t d=>bd (cD s [46] t d) λ_ t d=>bd (sp s f (.T 1) t d) λb t d=>ok (nm o x [av a,av b]) t d):=.go (Xr hs h) λx _ h=>.go (j0 hs h) λ_ _ h=>.go (rT hs ih 7 (by decide) h) λa _ h=>.go (j0 hs h) λ_ _ h=>.go (rT hs ih 1 (by decide) h) λb _ h=>.fX (v:=(o,vN x,0,0,bs [],[],[av (vT a),av (vT b)],pT b)) h (.ret _) rfl
theorem rI{b:List UInt8}(h:Sr s v x):Zr s (λn=>mJ n (bs b) v) pT vT (lf x λt d=>bd (sp s f (.T 1) t d) λa t d=>bd (cD s b t d) λ_ t d=>ok a t d):=.step (λn=>Mt n _ _) (.go (rT hs ih 1 (by decide) h) λ_ _ h=>.go (j0 hs h) λ_ _ h=>.fX h (.ret _) rfl)
theorem qE(acc:Rows)(h:aT s t d)(aS:Gt s t (.E acc)):RR s (f+1) t d (.E acc):=λz j g c=>by
 have aS:(acc.length:Int)+mu s t<=2*s.size+2:=aS
 have h0:=v8 h
 unfold sp
 refine .step (λn=>JZ n _ _ _ _ _ _ _) (.pre lO (.pos rfl (.pre (gA _) ?_)))
 cases i:aM t [44]with
 |true=>refine .pos rfl (.bd (eU hs h) λv y hv hy=>?_);rw[ML];refine .bd (rT hs ih 1 (by decide) hv) λw k hw b=>.imp ?_ λ_=>.fits (by simp only[List.length_singleton];omega);refine rE hs ih (acc++[av (vT w)]) hw (λt2 d2 e=>?_) j g c;have e:=b t2 d2 e;cases y with|none=>cases e|some y=>obtain⟨t1,d1⟩:=y;have h1:=sR h (kK i) _ _ _ (hy t1 d1 rfl);have h2:=(eT f _ _ _ _ h1.1 (Int.le_refl _) _ _ _ e).2;have h1:=h1.2;rw[List.length_append,List.length_singleton];omega
 |false=>exact .neg rfl (.ey (j0 hs (x:=some (t,d)) ⟨h,z,rfl⟩) λv y hv=>.fX hv (.ret _) rfl)
theorem qY(h:aT s t d):RR s (f+1) t d .Y:=λz=>by
 refine .step (λn=>Mx n _) (.pre lO (.neg rfl ?_))
 obtain⟨i,hk⟩:=h.ok
 have rest:(t.k==1&&bF t.x)=false->Zr s (λn=>zi n (bG s t d z) (0,bs []) []) pY vY (sp s (f+1) .Y t d):=λe=>by unfold sp;rw[e];refine .step (λn=>J4 n _ _ _) (.pre (gA _) ?_);cases b:aM t [105,110,116]with|true=>exact .pos rfl (.ey (eU hs h) λv y h=>.fX h (.ret _) rfl)|false=>refine .neg rfl (.pre (gA _) ?_);cases b:aM t [115,101,116]with|true=>exact .pos rfl (.ey (eU hs h) λv y h=>.go (j0 hs h) λ_ _ h=>.go (rY hs ih h) λ_ _ h=>.go (j0 hs h) λ_ _ h=>.fX h (.ret _) rfl)|false=>refine .neg rfl (.pre (gA _) ?_);cases b:aM t [112,97,105,114]with|true=>exact .pos rfl (.ey (eU hs h) λv y h=>.go (j0 hs h) λ_ _ h=>.go (rY hs ih h) λ_ _ h=>.go (j0 hs h) λ_ _ h=>.go (rY hs ih h) λ_ _ h=>.go (j0 hs h) λ_ _ h=>.fX h (.ret _) rfl)|false=>exact .neg rfl (.ig (yS (vr h)) λw hw=>.dm (v:=(0,bs [],[],w)) hw (.ret _))
 by_cases e:t.k=1
 .refine .pos (by show(t.k==1)=true;rw[e];rfl) (.pre (yg t.x (by have:=hk.x;have:=hk.e;show _<=_;omega)) ?_)
  cases hp:eK t.x with
  |true=>exact .neg rfl (rest (by rw[(hk.nk e).2,hp,Bool.not_true,Bool.and_false]))
  |false=>
   have:(t.k==1&&bF t.x)=true:=by rw[(hk.nk e).2,hp,e];rfl
   unfold sp;rw[this];exact .pos rfl (.ey (eU hs h) λv y h=>.fX h (.ret _) rfl)
 .exact .neg (beq_eq_false_iff_ne.2 e) (rest (by rw[beq_eq_false_iff_ne.2 e,Bool.false_and]))
theorem qF(a:TM)(h:aT s t d):RR s (f+1) t d (.F a):=by constructor;all_goals
 intro z j e c
 first|with_reducible refine .step (λn=>Lb n _ _ _ _ _) ?_|refine .step (λn=>Iz n _ _ _ _ _ _ _) ?_
 refine .pre lO (.pos rfl (.pre (gA _) ?_));unfold sp;cases g:aM t [40]with|true=>refine .pos rfl (.ey (eU hs h) λv y h=>?_);have:=Zr.go (K:=λb t d=>sp s f (.F (nd 54 [av a,av b])) t d) (rI (b:=[41]) hs ih h) λw y h=>Gu hs ih (nd 54 [av a,av (vT w)]) h j e c;simp only[ow]at this;exact this|false=>refine .neg rfl (.pre (gA _) ?_);cases g:aM t [91]with|true=>refine .pos rfl (.ey (eU hs h) λv y h=>?_);have:=Zr.go (K:=λb t d=>sp s f (.F (nd 53 [av a,av b])) t d) (rI (b:=[93]) hs ih h) λw y h=>Gu hs ih (nd 53 [av a,av (vT w)]) h j e c;simp only[ow]at this;exact this|false=>refine .neg rfl (.pre (gA _) ?_);cases g:aM t [126]with|true=>exact .pos rfl (.ey (eU hs h) λv y h=>Gu hs ih (nd 52 [av a]) h j e c)|false=>exact .neg rfl (.ok h rfl rfl)
end
end Go.AI
end

section
namespace Go.AI
open Go
section
variable {s:ByteArray}{α β γ δ:Type}{t:Tk}{d:Int}{f:Nat}
theorem MP{l:Nat}(h:(dk l t==0)=false):l≠5/\l<=12/\(l≠1->l≠2->l≠6->l≠7->l≠10->nV l=true):=by
 have:∀p∈gi,p.2.1≠5/\p.2.1<=12/\(nV p.2.1=true\/p.2.1=1\/p.2.1=2\/p.2.1=6\/p.2.1=7\/p.2.1=10):=by decide
 have:=this _ (sw h).2;exact⟨this.1,this.2.1,λh1 h2 h3 h4 b=>this.2.2.resolve_right (by show¬(l=1\/l=2\/l=6\/l=7\/l=10);omega)⟩
variable (hs:s.size<=65536)(ih:IQ s f){v:RS}{x:Option (Tk×Int)}
include hs ih
theorem qM(a:TM)(l:Nat)(h:aT s t d)(aS:Gt s t (.M a l)):RR s (f+1) t d (.M a l):=by obtain⟨h1,h2⟩:=aS;constructor;all_goals
 intro z j q p
 first|with_reducible refine .step (λn=>Em n _ _ _ _ _ _) ?_|refine .step (λn=>IA n _ _ _ _ _ _ _ _) ?_
 refine .pre lO (.pos rfl (.pre (NN l) ?_))
 unfold sp
 cases h0:dk l t==0 with
 |true=>exact .pos rfl (.ok h rfl rfl)
 |false=>
  refine .neg rfl (.ey (eU hs h) λv y hv=>?_)
  generalize k:dk l t=o at h0
  have c:l≠2->nV l=false->∀(F:Nat->Option _),(∀n,F (n+1)=ask (eg n (IntKind.i64.wrap ((l:Int)+1)) v) λi=>(some (o,(bs []),0,0,(bs []),[],[av a,(bf (bp i))],i.2.2.2.2.2.2.2)))->Zr s F pT vT (lf y λt' d'=>bd (sp s f (.T (if l=2 then 2 else l+1)) t' d') λb t' d'=>match nV l with|true=>sp s f (.M (nd o [av a,av b]) l) t' d'|false=>ok (nd o [av a,av b]) t' d'):=λm g F hF=>by rw[g,if_neg m];refine .step hF ?_;rw[ja (by omega)];exact .go (rT hs ih (l+1) ⟨by omega,by omega⟩ hv) λb _ h=>.fX (v:=(o,bs [],0,0,bs [],[],[av a,av (vT b)],pT b)) h (.ret _) rfl
  rcases(by omega:l=1\/l=6\/l=7\/l=10\/l=2\/(l≠1/\l≠2/\l≠6/\l≠7/\l≠10))with e|e|e|e|e|e
  .subst e;exact .pos rfl (.pos rfl (c (by decide) rfl _ λn=>(by first|(with_reducible exact yH n _ _ _ _ _ _ _)|exact xN n _ _ _ _ _ _ _ _ _)))
  .subst e;exact .neg rfl (.pos rfl (.pos rfl (c (by decide) rfl _ λn=>(by first|(with_reducible exact yH n _ _ _ _ _ _ _)|exact xN n _ _ _ _ _ _ _ _ _))))
  .subst e;exact .neg rfl (.neg rfl (.pos rfl (.pos rfl (c (by decide) rfl _ λn=>(by first|(with_reducible exact yH n _ _ _ _ _ _ _)|exact xN n _ _ _ _ _ _ _ _ _)))))
  .subst e;exact .neg rfl (.neg rfl (.neg rfl (.pos rfl (c (by decide) rfl _ λn=>(by first|(with_reducible exact yH n _ _ _ _ _ _ _)|exact xN n _ _ _ _ _ _ _ _ _)))))
  .subst e
   refine .neg rfl (.neg rfl (.neg rfl (.neg rfl ?_)))
   first|with_reducible refine .step (λn=>JW n _ _ _ _ _ _ _ _) ?_|refine .step (λn=>HL n _ _ _ _ _ _ _ _ _ _) ?_
   exact .pos rfl (.go (rT hs ih 2 (by decide) hv) λb _ h=>.fX (v:=(o,bs [],0,0,bs [],[],[av a,av (vT b)],pT b)) h (.ret _) rfl)
  .have g:=(MP (t:=t) (by rw[k];exact h0)).2.2 e.1 e.2.1 e.2.2.1 e.2.2.2.1 e.2.2.2.2
   refine .neg (beq_eq_false_iff_ne.2 (by omega)) (.neg (beq_eq_false_iff_ne.2 (by omega)) (.neg (beq_eq_false_iff_ne.2 (by omega)) (.neg (beq_eq_false_iff_ne.2 (by omega)) ?_)))
   first|with_reducible refine .step (λn=>JW n _ _ _ _ _ _ _ _) ?_|refine .step (λn=>HL n _ _ _ _ _ _ _ _ _ _) ?_
   refine .neg (beq_eq_false_iff_ne.2 (by omega)) ?_;rw[ja (by omega),g,if_neg e.2.1];exact .go (rT hs ih (l+1) ⟨by omega,by omega⟩ hv) λb _ h=>rM1 hs ih (nd _ [av a,av (vT b)]) l ⟨h1,h2⟩ h _ _ _
omit ih in
theorem NQ(l:Nat)(a:TM)(h:Sr s v x)(hl:l=5\/l=13):Zr s (λn=>rh n a (l:Int) v) pT vT (lf x λt d=>ok a t d):=by cases x with|none=>exact dM hs h _ _|some x=>obtain⟨t,d⟩:=x;obtain⟨h,z,rfl⟩:=h;refine .step (λn=>FT n _ _ _) (.step (λn=>Em n _ _ _ _ _ _) (.pre lO (.pos rfl (.pre (NN l) (.pos ?_ (.ok h rfl rfl))))));cases h0:dk l t==0 with|true=>rfl|false=>have:=MP h0;omega
theorem qT(l:Nat)(h:aT s t d)(hl:1<=l/\l<=13):RR s (f+1) t d (.T l):=λz=>by
 refine .step (λn=>Bh n _ _) (.pre lO (.neg rfl ?_))
 have hv:Sr s (bG s t d z) (some (t,d)):=⟨h,z,rfl⟩
 unfold sp
 split
 .refine .pos rfl (.pre (gA _) ?_);cases i:aM t [110,111,116]with|true=>exact .pos rfl (.ey (eU hs h) λv y h=>.go (rT hs ih 5 (by decide) h) λb _ h=>.fX (v:=(3,bs [],0,0,bs [],[],[av (vT b)],pT b)) h (.ret _) rfl)|false=>refine .neg rfl (.step (λn=>sP n _ _ _ _ _) (.neg rfl (.step (λn=>sO n _ _ _ _ _) (.neg rfl ?_))));rw[<-wb (x:=sp s f (.T 6) t d)];exact .ey (rT hs ih 6 (by decide) hv) λb _ h=>.id (NQ hs 5 _ h (.inl rfl))
 .refine .neg rfl (.step (λn=>sP n _ _ _ _ _) (.pos rfl (.pre (gA _) ?_)));cases i:aM t [45]with|true=>exact .pos rfl (.ey (eU hs h) λv y h=>.go (rT hs ih 13 (by decide) h) λb _ h=>.fX (v:=(21,bs [],0,0,bs [],[],[av (vT b)],pT b)) h (.ret _) rfl)|false=>refine .neg rfl (.step (λn=>sO n _ _ _ _ _) (.neg rfl ?_));have e:Zr s (λn=>eg n 14 (bG s t d z)) pT vT (bd (sp s f .A t d) λa t d=>sp s f (.F a) t d):=.step (λn=>Bh n _ _) (.pre lO (.neg rfl (.neg rfl (.step (λn=>sP n _ _ _ _ _) (.neg rfl (.step (λn=>sO n _ _ _ _ _) (.pos rfl (.id (.step (λn=>NA n _) (.ey (ih .A t d h trivial z) λb _ h=>rF hs ih _ h _ _ _))))))))));rw[<-wb (x:=bd (sp s f .A t d) λa t d=>sp s f (.F a) t d)];exact .ey e λb _ h=>.id (NQ hs 13 _ h (.inr rfl))
 .rename_i g c;have g:l≠5:=g;have c:l≠13:=c;refine .neg (beq_eq_false_iff_ne.2 (by omega)) (.step (λn=>sP n _ _ _ _ _) (.neg (beq_eq_false_iff_ne.2 (by omega)) (.step (λn=>sO n _ _ _ _ _) (.neg (beq_eq_false_iff_ne.2 (by omega)) ?_))));rw[ja (by omega)];exact .ey (rT hs ih (l+1) ⟨by omega,by omega⟩ hv) λb _ h=>.id (rM hs ih _ l ⟨hl.1,by omega⟩ h)
theorem qN(o:Int)(h:aT s t d):RR s (f+1) t d (.N o):=λz=>rN hs ih o (x:=some (t,d)) ⟨h,z,rfl⟩
omit ih in
theorem dG(ih:IQ s f)(o:Int)(z:Int)(h:aT s t d):Zr s (λn=>ask (wx n o (bG s t d z)) λx=>some x) pT vT (bd (bz s t d) λ_ t d=>sp s f (.N o) t d):=by refine .id (.step (λn=>Wh n _ _) (.ey (eU hs h) λv y h=>?_));cases y with|none=>exact rN hs ih o (x:=none) h|some x=>obtain⟨t,d⟩:=x;obtain⟨h,z,rfl⟩:=h;exact ih (.N o) t d h trivial z
end
end Go.AI
end

section
namespace Go.AI
open Go
section
variable {s:ByteArray}{α β γ δ:Type}{t:Tk}{d:Int}{f:Nat}(hs:s.size<=65536)(ih:IQ s f){v:RS}{x:Option (Tk×Int)}
include hs ih
theorem qA(h:aT s t d):RR s (f+1) t d .A:=λz=>by refine .step (λn=>Ms n _) (.pre lO (.neg rfl ?_));obtain⟨i,hk⟩:=h.ok;unfold sp;show Zr s (λn=>aa (t.k==1) _ (aa (t.k==3) _ _)) _ _ _;cases p:t.k==1 with|true=>exact .pos rfl (.ey (eU hs h) λv y h=>.fX (v:=(20,t.x,0,0,bs [],[],[],v)) h (.ret _) rfl)|false=>refine .neg rfl ?_;cases l:t.k==3 with|true=>obtain⟨c,r,h1,h2⟩:=hk.sg (eq_of_beq l);exact .pos rfl (.ey (eU hs h) λv y h=>.pre (MH t.x (by rw[<-bV,h1];simp)) (.fX (v:=(19,bs [],fa t.x,0,bs [],[],[],v)) h (.ret _) (by rw[(hk.nm (eq_of_beq l)).1];rfl)))|false=>refine .neg rfl (.pre (gA _) ?_);cases e:aM t [116,114,117,101]with|true=>exact .pos rfl (.ey (eU hs h) λv y h=>.fX (v:=(1,bs [],0,0,bs [],[],[],v)) h (.ret _) rfl)|false=>refine .neg rfl (.pre (gA _) ?_);cases e:aM t [102,97,108,115,101]with|true=>exact .pos rfl (.ey (eU hs h) λv y h=>.fX (v:=(2,bs [],0,0,bs [],[],[],v)) h (.ret _) rfl)|false=>refine .neg rfl (.pre (gA _) ?_);cases e:aM t [40]with|true=>exact .pos rfl (.ey (eU hs h) λv y h=>.id (rI hs ih h))|false=>refine .neg rfl (.pre (gA _) ?_);cases e:aM t [123]with|true=>exact .pos rfl (.ey (eU hs h) λv y h=>.id (rB hs ih h))|false=>refine .neg rfl (.pre (gA _) ?_);cases e:aM t [102,111,114,97,108,108]with|true=>exact .pos rfl (dG hs ih 8 z h)|false=>refine .neg rfl (.pre (gA _) ?_);cases e:aM t [101,120,105,115,116,115]with|true=>exact .pos rfl (dG hs ih 9 z h)|false=>refine .neg rfl (.pre (gA _) ?_);cases e:aM t [102,117,110]with|true=>exact .pos rfl (dG hs ih 56 z h)|false=>refine .neg rfl ?_;have bad:Zr s (λn=>ask (kY n (bG s t d z)) λm=>some ((0:Int),(bs []),(0:Int),(0:Int),(bs []),([]:Rows),([]:Rows),m)) pT vT (no:AO TM):=.ig (yS (vr h)) λw hw=>.dm (v:=(0,bs [],0,0,bs [],[],[],w)) hw (.ret _);show Zr s (λn=>aa (t.k==2) _ _) _ _ _;cases o:t.k==2 with|false=>exact .neg rfl bad|true=>refine .pos rfl (.pre (MN _) ?_);show Zr s (λn=>aa (decide (gX t.x>0)) _ _) _ _ _;cases hp:decide (0<gX t.x)with|false=>exact .neg rfl bad|true=>refine .pos rfl (.ey (eU hs h) λv y h=>.go (j0 hs h) λv y h=>.pre (MN _) ?_);have:=Zr.go (K:=λa t' d'=>ok (nd (gX t.x) [av a]) t' d') (k:=λn j=>some (gX t.x,(bs []),(0:Int),(0:Int),(bs []),([]:Rows),[(bf (bp j))],j.2.2.2.2.2.2.2)) (rI (b:=[41]) hs ih h) λa y h=>.fX (g:=pT) (val:=vT) (v:=(gX t.x,bs [],0,0,bs [],[],[av (vT a)],pT a)) h (.ret _) rfl;simp only[ow]at this;exact this
theorem rL(a:TM)(tok:Int×ByteArray×Int)(h:Sr s v x)(j1 j2):Zr s (λn=>uQ n v j1 j2 tok a [] [] [] []) pT vT (lf x λt' d'=>bd (sp s f (.M (nd 16 [av (nm 20 tok.2.1 []),av a]) 4) t' d') λa t d=>bd (sp s f (.M a 3) t d) λa t d=>bd (sp s f (.M a 2) t d) λa t d=>bd (sp s f (.M a 1) t d) λa t d=>sp s f (.E [av a]) t d):=.step (λn=>IC n _ _ _ _ _ _ _ _ _) (.step (λn=>JY n _ _ _ _ _ _ _ _) (.pos rfl (.go (rM hs ih _ 4 (by decide) h) λ_ _ h=>.step (λn=>oo n _ _ _ _ _ _) (.pos rfl (.go (rM hs ih _ 3 (by decide) h) λ_ _ h=>.step (λn=>oo n _ _ _ _ _ _) (.pos rfl (.go (rM hs ih _ 2 (by decide) h) λ_ _ h=>.step (λn=>oo n _ _ _ _ _ _) (.pos rfl (.go (rM hs ih _ 1 (by decide) h) λ_ _ h=>.step (λn=>oo n _ _ _ _ _ _) (.neg rfl (rE hs ih _ h (λt' d' _=>by have:=qz (s:=s) (t:=t');show((1:Nat):Int)+_<=_;omega) _ _ _)))))))))))
theorem qB(h:aT s t d):RR s (f+1) t d .B:=λz=>by
 refine .step (λn=>Mu n _) (.pre (gA _) ?_)
 have hv:Sr s (bG s t d z) (some (t,d)):=⟨h,z,rfl⟩
 obtain⟨i,hk⟩:=h.ok
 have q:=hk.e
 unfold sp
 cases F:aM t [125]with
 |true=>exact .pos rfl (.ey (eU hs h) λ_ _ h=>.go (j0 hs h) λ_ _ h=>.go (rY hs ih h) λy _ h=>.go (j0 hs h) λu _ h=>.fX (v:=(29,bs [],0,tP y ([],u))) h (.ret _) rfl)
 |false=>
  refine .neg rfl (.pre lO (.pos rfl ?_))
  have c:∀j1 j2,Zr s (λn=>qb n (bG s t d z) j1 j2 [] [] [] []) pT vT (bd (sp s f (.T 1) t d) λa t d=>sp s f (.E [av a]) t d):=λj1 j2=>.step (λn=>ID n _ _ _ _ _ _ _) (.ey (rT hs ih 1 (by decide) hv) λa y h=>rE hs ih [av (vT a)] h (λt' d' _=>by have:=qz (s:=s) (t:=t');show((1:Nat):Int)+_<=_;omega) _ _ _)
  show Zr s (λn=>aa (t.k==1) _ _) _ _ _
  cases m:t.k==1 with
  |false=>exact .neg rfl (c _ _)
  |true=>
   refine .pos rfl (.pre (yg t.x (by have:=hk.x;have:=hk.e;show _<=_;omega)) ?_)
   rw[(hk.nk (eq_of_beq m)).2]
   cases hp:eK t.x with
   |true=>exact .neg rfl (c _ _)
   |false=>
    refine .pos rfl ?_
    have hF:Ev (λn=>FG n (bG s t d z)) (mM s t,bG s t d z):=by refine .step (λn=>WE n _) ?_;have hx:=hk.x;show Ev (λn=>ask (mS n s (IntKind.i64.wrap (((t.e-t.x.size:Nat):Int)+(t.x.size:Int)))) λp=>aa (p.1==2) (some (ao p.2.1 (bs [105,110]),bG s t d z)) (some (false,bG s t d z))) _;rw[ja (by omega),show((t.e-t.x.size:Nat):Int)+(t.x.size:Int)=(t.e:Int)by omega];refine .ask (E1 hs hk.e) ?_;unfold mM;rw[fh];exact .ite (λh=>by rw[show((aJ s t.e).k==2)=true from h];exact .ret _) λh=>by rw[show((aJ s t.e).k==2)=false from h];exact .ret _
    refine .pre hF ?_
    show Zr s (λn=>aa (mM s t) _ _) _ _ _
    cases hf:mM s t with
    |false=>exact .neg rfl (c _ _)
    |true=>
     refine .pos rfl ?_
     have hw:=mq (d:=d) h.ok (.inl (eq_of_beq m))
     have h2:(aJ s t.e).k=2:=by unfold mM at hf;rw[aX]at hf;exact eq_of_beq hf.1
     have hn:bz s t d=ok () (aJ s t.e) d:=by rw[hw];unfold bI;rw[h2];rfl
     obtain⟨u,h3,h4,_⟩:=eU (z:=z) hs h _ hn;obtain⟨w,D,rfl⟩:=h4;refine .pre h3 ?_;show Zr s _ pT vT (bd (bz s t d) _);rw[hn];show Zr s _ pT vT (bd (bz s (aJ s t.e) d) _);refine .ey (eU hs w) λv y h=>.go (rT hs ih 7 (by decide) h) λa y h=>?_;have j:=λ{v x}(h:Sr s v x)=>rL (x:=x) hs ih (vT a) (t.k,t.x,((t.e-t.x.size:Nat):Int)) h (0,bs [],0,0,bs []) (0,bs [],0,0,bs []);cases y with|none=>have h:Dm s (pT a):=h;refine h.run (.neg rfl (j (x:=none) h)) λC=>.pos rfl (.pre (fV C) (.neg rfl (j (x:=none) h)))|some y=>obtain⟨t',d'⟩:=y;have h':=h;obtain⟨h,o,e⟩:=h;have e:a.2.2.2.2.2.2.2=bG s t' d' o:=e;rw[e];refine .pre lO (.pos rfl (.pre (gA _) ?_));show Zr s _ pT vT (match aM t' [124]with|true=>_|false=>_);cases hb:aM t' [124]with|true=>refine .pos rfl (.ey (eU hs h) λv y h=>?_);have:=Zr.go (K:=λb t' d'=>ok (nm 55 t.x [av (vT a),av b]) t' d') (k:=λn l=>some ((55:Int),t.x,(0:Int),(0:Int),(bs []),([]:Rows),[(bf (bp a)),(bf (bp l))],l.2.2.2.2.2.2.2)) (rI (b:=[125]) hs ih h) λb y h=>.fX (g:=pT) (val:=vT) (v:=(55,t.x,0,0,bs [],[],[av (vT a),av (vT b)],pT b)) h (.ret _) rfl;simp only[ow]at this;exact this|false=>exact .neg rfl (j (x:=some (t',d')) ⟨h,o,rfl⟩)
omit ih in
theorem nZ:∀f,IQ s f|0=>iq0|f+1=>λc t d h aS=>by cases c with|T l=>exact qT hs (nZ f) l h aS|M a l=>exact qM hs (nZ f) a l h aS|F a=>exact qF hs (nZ f) a h|A=>exact qA hs (nZ f) h|B=>exact qB hs (nZ f) h|E acc=>exact qE hs (nZ f) acc h aS|Y=>exact qY hs (nZ f) h|N o=>exact qN hs (nZ f) o h
end
end Go.AI
end
