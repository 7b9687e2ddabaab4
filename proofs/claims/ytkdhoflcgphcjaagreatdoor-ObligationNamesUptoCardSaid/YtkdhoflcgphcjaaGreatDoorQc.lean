/- A part of the proof. -/
import Derived.Test.YtkdhoflcgphcjaaGreatDoorQb
set_option linter.all false

section
set_option autoImplicit false
set_option maxRecDepth 100000
namespace Go.AI
open Go
noncomputable section
abbrev Sq:=Rows×Rows×Rows×b6
structure CS(q:Sq):Prop where e:CE (q.1,q.2.1)h:∀r,r∈q.2.2.1->gT (bt r 0)g:gT q.2.2.2
theorem SZ{J:Nat->Int->Option Bool}{l:Rows}{P:Nat->List AV->Option Bool}{p:List AV->Prop}(hl:l.length<=4611686018427387904)
 (h:∀n i,J (n+1) i=aa (decide (i<(l.length:Int))) (ab l i λr=>ask (P n r) λx=>aa (!x) (some false) (J n (IntKind.i64.wrap (i+1)))) (some true))
 (hp:∀r,r∈l->T (λn=>P n r) λb=>b=true↔p r):T (λn=>J n 0) λi=>i=true↔∀r,r∈l->p r:=by
 refine T.loop (σ:=Unit) (L:=λi _ n=>J n i) l.length (λi _=>∀r,r∈l.take i->p r) ?_ ?_ () (by simp)
 .intro _ hs;rw[List.take_length]at hs;exact .step (λn=>h n _) (.neg (by simp) (.ret ⟨λ_=>hs,λ_=>rfl⟩))
 .intro i _ hi hs ih
  refine .step (λn=>h n _) (.pos (by simp;omega) (.ab (by omega) (by omega) λr hr=>?_))
  have hr:l[i]?=some r:=by grind
  refine .ask (hp r (List.mem_of_getElem? hr)) λb hb=>.ite (λc=>.ret ⟨(λe=>by cases e),λe=>?_⟩) λc=>?_
  .grind
  .rw[bA (by omega) (by omega)];exact ih () (lQ hr hs (hb.1 (cF c)))
theorem Jv{J:Nat->Int->Option Int}{l:Rows}{P:Nat->List AV->Option Int}{E:Nat->Option Int}{p:List AV->Prop}{pe:Prop}(hl:l.length<=4611686018427387904)
 (h:∀n i,J (n+1) i=aa (decide (i<(l.length:Int))) (ab l i λr=>ask (P n r) λx=>aa ((x:Int)!=0) (some x) (J n (IntKind.i64.wrap (i+1)))) (E n))
 (hp:∀r,r∈l->T (λn=>P n r) λb=>b=0↔p r)(he:T E λr=>r=0↔pe):T (λn=>J n 0) λi=>i=0↔(∀r,r∈l->p r)/\pe:=by
 refine T.loop (σ:=Unit) (L:=λi _ n=>J n i) l.length (λi _=>∀r,r∈l.take i->p r) ?_ ?_ () (by simp)
 .intro _ hs;rw[List.take_length]at hs;exact .step (λn=>h n _) (.neg (by simp) (he.mono λr hr=>⟨λe=>⟨hs,hr.1 e⟩,λe=>hr.2 e.2⟩))
 .intro i _ hi hs ih
  refine .step (λn=>h n _) (.pos (by simp;omega) (.ab (by omega) (by omega) λr hr=>?_))
  have hr:l[i]?=some r:=by grind
  refine .ask (hp r (List.mem_of_getElem? hr)) λb hb=>.ite (λc=>.ret ⟨λe=>absurd e (ml c),λe=>?_⟩) λc=>?_
  .grind
  .rw[bA (by omega) (by omega)];exact ih () (lQ hr hs (hb.1 (mj c)))
def PR(e:Env)(t:b6):Prop:=Ev (λn=>sk n e t) 0
theorem EE{e:Env}{t:b6}(he:bd e)(c:CE e)(ht:bd t)(hc:gT t):T (λn=>sk n e t) (λr=>r=0↔PR e t)/\T (λn=>sm n e t) (λr=>r=0↔PR e t):=by
 obtain⟨P,h1,h2⟩:=aaX e t he c ht hc
 have k:P↔PR e t:=by obtain⟨r,h3,h4⟩:=h1;exact⟨λp=>by have:=h4.2 p;subst this;exact h3,λp=>h4.1 (h3.G0 p)⟩
 grind
def qj(q:Sq):Prop:=VE (q.1,q.2.1)/\((∀r,r∈q.2.2.1->ew (bt r 0)=true)/\ew q.2.2.2=true)/\q.2.2.1.length<=200/\(∀r,r∈q.2.2.1->PR (q.1,q.2.1) (bt r 0))/\PR (q.1,q.2.1) q.2.2.2
variable (q:Sq)(hb:bd q)(hc:CS q)
include hb in
theorem fu:bd (q.1,q.2.1)/\bd q.2.2.1/\bd q.2.2.2:=⟨⟨gp q hb,gp _ (cq q hb)⟩,gp _ (cq _ (cq q hb)),cq _ (cq _ (cq q hb))⟩
abbrev cS:Rows:=q.2.2.1++[fS q.2.2.2]
include hb in
theorem Fh:T (λn=>xh n q) (.=cS q):=.step abZ (.pos rfl (.fits (by have:=jv (fu q hb).2.1;simp;omega) (.ret rfl)))
theorem D3{p:b6->Prop}:(∀r,r∈cS q->p (bt r 0))↔(∀r,r∈q.2.2.1->p (bt r 0))/\p q.2.2.2:=by
 constructor
 .intro h;exact⟨λr hr=>h r (List.mem_append_left _ hr),h _ (List.mem_append_right _ (List.mem_singleton.2 rfl))⟩
 .rintro⟨h1,h2⟩r hr
  rcases List.mem_append.1 hr with hr|hr
  .grind
  .obtain rfl:=List.mem_singleton.1 hr;exact h2
include hb hc in
theorem EF:∀r,r∈cS q->bd (bt r 0)/\gT (bt r 0):=(D3 q (p:=λt=>bd t/\gT t)).2 ⟨λr hr=>⟨nN (fu q hb).2.1 hr,hc.h r hr⟩,(fu q hb).2.2,hc.g⟩
include hb hc in
theorem rD:T (λn=>B3 n q) (λr=>r=0↔qj q):=by
 have hl:=jv (fu q hb).2.1
 have no:∀{k:Int},k≠0->(qj q->False)->T (λn=>(some k:Option Int)) λb=>b=0↔qj q:=λk h=>.ret ⟨(λe=>absurd e k),λv=>(h v).elim⟩
 have QG:(cS q).length<=4611686018427387904:=by grind
 refine .step abT (.ask (Fh q hb) λx hx=>?_);subst hx;refine .ask (Av _ (fu q hb).1 hc.e) λb1 h1=>.ite (λc=>no (by decide) λv=>by rw[h1.2 v.1]at c;cases c) λc1=>?_;refine .ask (Q':=λb=>(!b)=true↔∀r,r∈cS q->ew (bt r 0)=true) (.step abH (.ask (.step YL (Ky QG (J:=λn i=>y6 n (cS q) ((cS q).length:Int) i) (P:=λn r=>Hc n (bt r 0)) (λn i=>Wy n) λr hr=>.step abS (.ask (As _ (EF q hb hc r hr).1) λx hx=>.ret (by grind)))) λx hx=>.ret hx)) λb2 h2=>?_;rw[D3 q (p:=λt=>ew t=true)]at h2;refine .ite (λc=>no (by decide) λv=>by have:=h2.2 v.2.1;grind) λc2=>.ite (λc=>no (by decide) λv=>by have:=v.2.2.1;grind) λc3=>?_;refine(Jv QG (J:=λn i=>z8 n (cS q) ((cS q).length:Int) i q) (P:=λn r=>sk n (q.1,q.2.1) (bt r 0)) (λn i=>XD n) (λr hr=>(EE (fu q hb).1 hc.e (EF q hb hc r hr).1 (EF q hb hc r hr).2).1) (pe:=True) (.ret (by simp))).mono λr hr=>?_;rw[D3 q (p:=λt=>PR (q.1,q.2.1) t)]at hr;rw[hr];exact⟨λh=>⟨h1.1 (cF c1),h2.1 (by rw[c2];rfl),by grind,h.1.1,h.1.2⟩,λh=>⟨⟨h.2.2.2.1,h.2.2.2.2⟩,trivial⟩⟩
include hb hc in
theorem wj:T (λn=>B4 n q) (λr=>r=0↔qj q):=by have hl:=jv (fu q hb).2.1;have no:∀{k:Int},k≠0->(qj q->False)->T (λn=>(some k:Option Int)) λb=>b=0↔qj q:=λk h=>.ret ⟨(λe=>absurd e k),λv=>(h v).elim⟩;refine .step abK (.ask (Aw _ (fu q hb).1 hc.e) λb1 h1=>.ite (λc=>no (by decide) λv=>by rw[h1.2 v.1]at c;cases c) λc1=>?_);refine .ask (.step abI (SZ (J:=λn i=>Ae n q.2.2.1 i) (by omega) (P:=λn r=>pE n (bt r 0)) (p:=λr=>ew (bt r 0)=true) (λn i=>XA n) λr hr=>(nB _ (nN (fu q hb).2.1 hr)).mono λx hx=>by rw[hx])) λb2 h2=>?_;refine .ite (λc=>no (by decide) λv=>by have:=h2.2 v.2.1.1;grind) λc2=>?_;refine .ask (nB _ (fu q hb).2.2) λb3 h3=>.ite (λc=>no (by decide) λv=>by rw[h3,v.2.1.2]at c;cases c) λc4=>.ite (λc=>no (by decide) λv=>by have:=v.2.2.1;grind) λc3=>?_;refine(Jv (l:=q.2.2.1) (by omega) (J:=λn i=>Aa n i q) (P:=λn r=>sm n (q.1,q.2.1) (bt r 0)) (λn i=>XG n) (λr hr=>(EE (fu q hb).1 hc.e (nN (fu q hb).2.1 hr) (hc.h r hr)).2) (pe:=PR (q.1,q.2.1) q.2.2.2) (.ask (EE (fu q hb).1 hc.e (fu q hb).2.2 hc.g).2 λx hx=>.ret hx)).mono λr hr=>?_;rw[hr];exact⟨λh=>⟨h1.1 (cF c1),⟨h2.1 (cF c2),h3▸cF c4⟩,by grind,h.1,h.2⟩,λh=>⟨h.2.2.2.1,h.2.2.2.2⟩⟩
variable (p:Sq)(pb:bd p)(pc:CS p)
include hb hc pb pc in
theorem aaZ:∃o:Bool,T (λn=>mr n q p) (.=o)/\T (λn=>pD n q p) (.=o):=by
 by_cases vq:qj q
 .by_cases vp:qj p
  .have g16:∀{Q},T (λn=>sg n (q.1,q.2.1) (p.1,p.2.1)) (.=true)->T (λn=>G6 n (cS q) (cS p)) Q->T (λn=>mr n q p) Q:=λh h'=>.step Bu (.ask (rD q hb hc) λx hx=>.pos (by grind) (.ask (rD p pb pc) λx hx=>.pos (by grind) (.ask h λx hx=>.pos hx (.ask (Fh q hb) λy hy=>.ask (Fh p pb) λz hz=>.ask (by grind) λw hw=>.ret hw))))
   have Hj:∀{Q o},T (λn=>nU n (q.1,q.2.1) (p.1,p.2.1)) (.=o)->(∀x,x=o->T (λn=>aa (!x) (some false) (aa (((q.2.2.1.length:Int):Int)!=(p.2.2.1.length:Int)) (some false) (ask (uh n q.2.2.2 p.2.2.2) λx4=>(aa (!x4) (some false) (rz n 0 q p))))) Q)->T (λn=>pD n q p) Q:=λh h'=>.step GD (.ask (wj q hb hc) λx hx=>.neg (by grind) (.ask (wj p pb pc) λx hx=>.neg (by grind) (.ask h h')))
   obtain⟨o,h1,h2⟩:=ach _ _ (fu q hb).1 (fu p pb).1 vq.1 vp.1
   cases o with
   |false=>exact⟨false,.step Bu (.ask (rD q hb hc) λx hx=>.pos (by grind) (.ask (rD p pb pc) λx hx=>.pos (by grind) (.ask h1 λx hx=>.neg hx (.ret rfl)))),Hj h2 λx hx=>.pos (by rw[hx];rfl) (.ret rfl)⟩
   |true=>
    by_cases e:q.2.2.1.length=p.2.2.1.length
    .have ef:(cS q).length=(cS p).length:=by grind
     have lq:=vq.2.2.1
     have lf:(cS q).length=q.2.2.1.length+1:=by grind
     obtain⟨og,g1,g2⟩:=MX _ _ (fu q hb).2.2 (fu p pb).2.2 hc.g pc.g
     have QJ:∀{Q},T (λn=>rA n (cS p) (cS q) ((cS q).length:Int) 0) Q->T (λn=>mr n q p) Q:=λh=>g16 h1 (.step OM (.neg (by simp[ef]) h))
     have gt:∀r:Sq,(cS r)[r.2.2.1.length]?=some (fS r.2.2.2):=λr=>by simp[cS]
     have gk:∀(r:Sq)(i:Nat),i<r.2.2.1.length->(cS r).getD i []=r.2.2.1.getD i []:=λr i hi=>by grind
     have last:T (λn=>rA n (cS p) (cS q) ((cS q).length:Int) (q.2.2.1.length:Int)) (.=og):=by refine .step Es (.pos (by grind) (.gx (x:=fS q.2.2.2) (by simpa using gt q) (.gx (x:=fS p.2.2.2) (by rw[e];simpa using gt p) (.ask g1 λx hx=>?_) (by omega)) (by omega)));subst hx;refine .ite (λc=>.ret (gN c).symm) λc=>?_;rw[bA (by omega) (by omega),show((q.2.2.1.length:Int)+1)=((cS q).length:Int)by rw[lf];rfl];exact .step Es (.neg (by simp) (.ret (cF c).symm))
     have W:=Hi (len:=q.2.2.1.length) (J:=λi n=>rA n (cS p) (cS q) ((cS q).length:Int) i) (J':=λi n=>rz n i q p) (K:=λi n=>B6 n (bt ((cS q).getD i []) 0) (bt ((cS p).getD i []) 0)) (K':=λi n=>uh n (bt (q.2.2.1.getD i []) 0) (bt (p.2.2.1.getD i []) 0)) (wi (l:=cS q) (m:=cS p) (J:=λn i=>rA n (cS p) (cS q) ((cS q).length:Int) i) (by omega) (by omega) (by omega) λn i=>Es n) (wi (l:=q.2.2.1) (m:=p.2.2.1) (J:=λn i=>rz n i q p) (by omega) (by omega) (by omega) λn i=>Mv n) λi hi=>by rw[gk q i hi,gk p i (e▸hi)];exact MX _ _ (nN (fu q hb).2.1 (qF hi)) (nN (fu p pb).2.1 (qF (e▸hi))) (hc.h _ (qF hi)) (pc.h _ (qF (e▸hi)))
     have f17:∀{Q},(∀x,x=og->T (λn=>aa (!x) (some false) (rz n 0 q p)) Q)->T (λn=>pD n q p) Q:=λh=>Hj h2 λx hx=>.neg (by rw[hx];rfl) (.neg (by simp[e]) (.ask g2 h))
     cases og with
     |false=>refine⟨false,?_,f17 λx hx=>.pos (by rw[hx];rfl) (.ret rfl)⟩;grind
     |true=>
      rcases W with⟨w1,w2⟩|⟨w1,w2⟩
      .exact⟨false,QJ w1,f17 λx hx=>.neg (by rw[hx];rfl) w2⟩
      .exact⟨true,QJ (w1 _ last),f17 λx hx=>.neg (by rw[hx];rfl) (w2 _ (.step Mv (.neg (by simp) (.ret rfl))))⟩
    .have ef:¬(cS q).length=(cS p).length:=by grind
     exact⟨false,g16 h1 (.step OM (.pos (by grind) (.ret rfl))),Hj h2 λx hx=>.neg (by rw[hx];rfl) (.pos (by grind) (.ret rfl))⟩
  .exact⟨false,.step Bu (.ask (rD q hb hc) λx hx=>.pos (by grind) (.ask (rD p pb pc) λx hx=>.neg (by grind) (.ret rfl))),.step GD (.ask (wj q hb hc) λx hx=>.neg (by grind) (.ask (wj p pb pc) λx hx=>.pos (by grind) (.ret rfl)))⟩
 .exact⟨false,.step Bu (.ask (rD q hb hc) λx hx=>.neg (by grind) (.ret rfl)),.step GD (.ask (wj q hb hc) λx hx=>.pos (by grind) (.ret rfl))⟩
end
end Go.AI
end

section
set_option autoImplicit false
set_option maxRecDepth 100000
namespace Go.AI
open Go BD
noncomputable section
abbrev b5(r:List AV):ByteArray:=gS r 0
abbrev dE(r:List AV):Sq:=uA r 1
def fv(l:Rows)(s:ByteArray):Option (List AV):=l.find? λr=>ax (gS r 0) s
def ix(l:Rows)(s:ByteArray):Int:=ik (λr=>ax (gS r 0) s) l
theorem DC{l:Rows}{s:ByteArray}:fv l s=none↔s∉aw l:=by unfold fv;rw[List.find?_eq_none];simp[aw,iE]
theorem D4{l:Rows}{s:ByteArray}{r:List AV}(h:fv l s=some r):r∈l/\gS r 0=s:=by unfold fv at h;exact⟨List.mem_of_find?_eq_some h,iE.1 (by grind)⟩
theorem zH{l:Rows}{s:ByteArray}:ix l s>=0↔s∈aw l:=vc
theorem Yp{l:Rows}{s:ByteArray}(h:ix l s>=0):fv l s=l[(ix l s).toNat]?/\(ix l s).toNat<l.length:=by unfold ix ik at h⊢;unfold fv;cases e:l.findIdx? (λr=>ax (gS r 0) s)with|none=>grind|some i=>obtain⟨h1,h2,h3⟩:=List.findIdx?_eq_some_iff_getElem.1 e;grind[Int.toNat_natCast,List.getElem?_eq_getElem,List.find?_eq_some_iff_getElem,refine]
theorem yq{l:Rows}{i:Nat}{r:List AV}(hr:l[i]?=some r):ix l (b5 r)=i↔b5 r∉aw (l.take i):=by
 have hi:i<l.length:=by
  rcases Nat.lt_or_ge i l.length with h|h
  .exact h
  .grind
 have c:l[i]=r:=by rw[List.getElem?_eq_getElem hi]at hr;exact Option.some.inj hr
 unfold ix ik
 constructor
 .intro h hm
  cases e:l.findIdx? (λq=>ax (gS q 0) (b5 r))with
  |none=>grind
  |some k=>
   rw[e]at h
   have h:(k:Int)=i:=h
   obtain rfl:k=i:=by omega
   obtain⟨h1,h2,h3⟩:=List.findIdx?_eq_some_iff_getElem.1 e;grind[List.getElem_of_mem,List.length_take,iE]
 .intro h
  have:l.findIdx? (λq=>ax (gS q 0) (b5 r))=some i:=by rw[List.findIdx?_eq_some_iff_getElem];refine⟨hi,by rw[c];exact iE.2 rfl,λj hj=>?_⟩;intro hb;exact h (List.mem_map.2 ⟨l[j],List.mem_take_iff_getElem.2 ⟨j,by omega,rfl⟩,iE.1 hb⟩)
  rw[this]
theorem Kz(l:Rows)(r:List AV)(s:ByteArray):fv (l++[r]) s=(fv l s).or (if ax (gS r 0) s=true then some r else none):=by unfold fv;grind
def Tb(l m:Rows):Prop:=∀s,dy m s=(fv l s).map λr=>.sc (.string s)::Ho (dE r)
theorem NM(l:Rows)(hl:l.length<=200):T (λn=>B1 n l) (Tb l):=by
 refine .step abO (T.loop (σ:=Rows) (L:=λi m n=>vU n l (l.length:Int) i m) l.length (λi m=>Tb (l.take i) m) ?_ ?_ [] (λs=>rfl))
 .intro m h;rw[List.take_length]at h;exact .step Mr (.neg (by simp) (.ret h))
 .intro i m hi h ih
  refine .step Mr (.pos (by simp;omega) (.ab (by omega) (by omega) λr hr=>?_))
  have hr:l[i]?=some r:=by simpa using hr
  rw[bA (i:=(i:Int)+1) (by omega) (by omega)]
  refine .et (λq hq=>ih _ ?_) λhq=>ih _ ?_
  .intro s;rw[gz hr,Kz,h s];cases e:fv (l.take i) s with|some w=>rfl|none=>cases e2:ax (gS r 0) s with|false=>rfl|true=>obtain rfl:=iE.1 e2;rw[h,e]at hq;cases hq
  .intro s
   rw[gz hr,Kz,uW]
   by_cases e2:s=gS r 0
   .subst e2;rw[if_pos rfl,if_pos (iE.2 rfl)];rw[h]at hq;grind
   .rw[if_neg e2,h s,if_neg (λc=>e2 (iE.1 c).symm)];grind
def Sn(l m:Rows):Prop:=∀s,(∀r,dy m s=some r->s∈aw l/\gB (r.drop 1) 0=true)/\(dy m s=none->s∉aw l)
theorem Sn.nil:Sn [] []:=λs=>⟨(λr h=>by cases h),λ_ h=>by cases h⟩
theorem Sn.put{l m:Rows}(h:Sn l m)(r:List AV):Sn (l++[r]) (a6 m (b5 r) [.sc (.bool true)]):=by
 intro s
 rw[uW]
 by_cases e:s=b5 r
 .subst e;rw[if_pos rfl];exact⟨λq hq=>⟨by simp[aw],by cases hq;rfl⟩,λh=>by cases h⟩
 .rw[if_neg e]
  have hn:s∈aw (l++[r])↔s∈aw l:=by simp[aw,e]
  rw[hn];exact h s
theorem Sn.again{l m:Rows}(h:Sn l m){r:List AV}(hr:b5 r∈aw l):Sn (l++[r]) m:=by
 intro s
 have hn:s∈aw (l++[r])↔s∈aw l:=by
  simp only[aw,List.map_append,List.mem_append,List.map_cons,List.map_nil,List.mem_singleton]
  constructor
  .grind
  .exact .inl
 rw[hn];exact h s
open Classical in
def gone(l k:Rows):Nat->Rows|0=>[]|i+1=>let s:=b5 (l.getD i []);if s∉aw (l.take i)/\s∉aw k then gone l k i++[[.sc (.string s)]]else gone l k i
theorem qG(l k:Rows):∀i,(gone l k i).length<=i
 |0=>ao 0
 |i+1=>by
  have:=qG l k i
  unfold gone
  simp only
  split
  .rw[List.length_append];simp;omega
  .omega
open Classical in
def rE(p q:Sq):Bool:=decide (Ev (λn=>mr n p q) true)
open Classical in
def fb(l k:Rows):Nat->Rows|0=>[]|i+1=>let r:=k.getD i [];if b5 r∉aw (k.take i)/\∃w,fv l (b5 r)=some w/\rE (dE w) (dE r)=false then fb l k i++[[.sc (.string (b5 r))]]else fb l k i
theorem yQ(l k:Rows):∀i,(fb l k i).length<=i
 |0=>ao 0
 |i+1=>by
  have:=yQ l k i
  unfold fb
  simp only
  split
  .rw[List.length_append];simp;omega
  .omega
theorem iH{l k:Rows}{i:Nat}{r:List AV}(hr:l[i]?=some r):(b5 r∉aw (l.take i)->b5 r∉aw k->gone l k (i+1)=gone l k i++[[.sc (.string (b5 r))]])/\((b5 r∈aw (l.take i)\/b5 r∈aw k)->gone l k (i+1)=gone l k i):=by
 have e:l.getD i []=r:=by simp[List.getD,hr]
 constructor
 .simp_all[if_pos,gone]
 .intro h;simp only[gone];grind
theorem o4{l k:Rows}{i:Nat}{r:List AV}(hr:k[i]?=some r):(∀w,b5 r∉aw (k.take i)->fv l (b5 r)=some w->rE (dE w) (dE r)=false->fb l k (i+1)=fb l k i++[[.sc (.string (b5 r))]])/\(∀w,fv l (b5 r)=some w->rE (dE w) (dE r)=true->fb l k (i+1)=fb l k i)/\((b5 r∈aw (k.take i)\/fv l (b5 r)=none)->fb l k (i+1)=fb l k i):=by
 have e:k.getD i []=r:=by simp[List.getD,hr]
 refine⟨λw h h' h2=>?_,λw h h'=>?_,λh=>?_⟩
 .simp_all[if_pos,fb]
 .simp_all[if_neg,fb]
 .simp only[fb];grind
end
end Go.AI
end
