/- A part of the proof. -/
import Derived.Test.YtkdhoflcgphcjaaGreatDoorQc
set_option linter.all false

section
set_option autoImplicit false
set_option maxRecDepth 100000
namespace Go.AI
open Go BD
noncomputable section
theorem wk(l:Rows)(s:ByteArray)(hl:l.length<=200):T (λn=>sf n l s) (.=ix l s):=.step abF (.of (CO (J:=λn i=>zX n s l (l.length:Int) i) (by omega) λn i=>XB n) rfl)
theorem aci(l:Rows)(s:ByteArray)(hl:l.length<=200):T (λn=>F9 n l s) (.=ix l s):=.step eF9 (.ask (Q':=(.=ix l s)) (.step abG (.of (JO (J:=λn i=>zZ n l s (l.length:Int) i) (P:=λn r=>G5 n (nX r 0) s) (p:=λr=>ax (gS r 0) s) (by omega) (λn i=>XI n) λr hr=>.step abQ (.ret _)) rfl)) λx hx=>.ret hx)
theorem Cf{i:Nat}(h:i<=200):IntKind.i64.wrap ((i:Int)+1)=(i:Int)+1:=bA (by omega) (by omega)
variable (l k:Rows)(hl:l.length<=200)(hk:k.length<=200)
variable (hs:∀p q,p∈l->q∈k->∃o:Bool,T (λn=>mr n (dE p) (dE q)) (.=o)/\T (λn=>pD n (dE p) (dE q)) (.=o))
include hs in
theorem NN(p q)(hp:p∈l)(hq:q∈k):T (λn=>mr n (dE p) (dE q)) (.=rE (dE p) (dE q))/\T (λn=>pD n (dE p) (dE q)) (.=rE (dE p) (dE q)):=by
 obtain⟨o,h1,h2⟩:=hs p q hp hq
 have:rE (dE p) (dE q)=o:=by unfold rE;cases o with|true=>exact@b9 _ (Classical.propDecidable _) h1.ev|false=>exact@fy _ (Classical.propDecidable _) λh=>by have:=h.G0 h1.ev;cases this
 grind
abbrev rY:Rows×Rows×Rows:=(gone l k l.length,gone k l k.length,fb l k k.length)
include hl hk hs in
theorem acj:T (λn=>F6 n l k) (.=rY l k):=by
 refine .step eF6 ?_
 refine T.loop (σ:=Rows) (L:=λi g n=>AY n l k l (l.length:Int) i g [] []) l.length (λi g=>g=gone l k i) ?_ ?_ [] rfl
 .rintro g rfl
  refine .step Nt (.neg (by simp) ?_)
  refine T.loop (σ:=Rows×Rows) (L:=λi s n=>A0 n l k k (k.length:Int) i (gone l k l.length) s.1 s.2) k.length (λi s=>s=(gone k l i,fb l k i)) ?_ ?_ ([],[]) rfl
  .rintro s rfl;exact .step Nn (.neg (by simp) (.ret rfl))
  .rintro i s hi rfl ih
   have gl:=qG k l i
   have cl:=yQ l k i
   refine .step Nn (.pos (by simp;omega) (.ab (by omega) (by omega) λr hr=>?_))
   have hr:k[i]?=some r:=by simpa using hr
   have hm:=List.mem_of_getElem? hr
   have nx:∀{u v:Rows},u=gone k l (i+1)->v=fb l k (i+1)->T (λn=>tD n l k k (k.length:Int) i (gone l k l.length) u v) (.=rY l k):=λhu hv=>.step Xz (by grind[Cf])
   refine .ask (wk k _ hk) λx hx=>.ite (λc=>?_) λc=>?_
   .have h0:b5 r∈aw (k.take i):=by
     by_cases h:b5 r∈aw (k.take i)
     .exact h
     .simp_all[yq,ml]
    exact nx ((iH hr).2 (.inl h0)).symm ((o4 hr).2.2 (.inl h0)).symm
   .have h0:b5 r∉aw (k.take i):=(yq hr).1 (hx▸mj c)
    refine .ask (wk l _ hl) λy hy=>.ite (λc=>?_) λc=>?_
    .have c:=cW c;have h1:b5 r∉aw l:=λh=>absurd (show 0<=y by rw[hy];exact zH.2 h) (by omega);exact .fits (by simp;omega) (nx ((iH hr).1 h0 h1).symm ((o4 hr).2.2 (.inr (DC.2 h1))).symm)
    .have c:=dS c
     have j9:ix l (b5 r)>=0:=by
      have g:0<=y:=by omega
      rw[hy]at g;exact g
     obtain⟨g1,g2⟩:=Yp j9;have h1:=zH.1 j9;refine .gx (x:=l[(ix l (b5 r)).toNat]) (by rw[hy];exact List.getElem?_eq_getElem g2) (.ask ((NN l k hs _ r (List.getElem_mem g2) hm).2) λz hz=>?_) (by omega);rw[List.getElem?_eq_getElem g2]at g1;subst hz;refine .ite (λd=>.fits (by simp;omega) (nx ((iH hr).2 (.inr h1)).symm ((o4 hr).1 _ h0 g1 (gN d)).symm)) λd=>nx ((iH hr).2 (.inr h1)).symm ((o4 hr).2.1 _ g1 (cF d)).symm
 .rintro i g hi rfl ih
  have gl:=qG l k i
  refine .step Nt (.pos (by simp;omega) (.ab (by omega) (by omega) λr hr=>?_))
  have hr:l[i]?=some r:=by simpa using hr
  have nx:∀{u:Rows},u=gone l k (i+1)->T (λn=>wC n l k l (l.length:Int) i u [] []) (.=rY l k):=λhu=>.step YK (by rw[Cf (by omega)];grind)
  refine .ask (wk l _ hl) λx hx=>.ite (λc=>?_) λc=>?_
  .have h0:b5 r∉aw (l.take i):=(yq hr).1 (hx▸aL c)
   refine .ask (wk k _ hk) λy hy=>.ite (λc=>?_) λc=>?_
   .have c:=cW c;have h1:b5 r∉aw k:=λh=>absurd (show 0<=y by rw[hy];exact zH.2 h) (by omega);exact .fits (by simp;omega) (nx ((iH hr).1 h0 h1).symm)
   .have c:=dS c
    have j9:ix k (b5 r)>=0:=by
     have g:0<=y:=by omega
     rw[hy]at g;exact g
    exact nx ((iH hr).2 (.inr (zH.1 j9))).symm
  simp_all[yq,aP,iH,h0,b5,aw]
include hl hk hs in
theorem ack:T (λn=>F5 n l k) (.=rY l k):=by
 refine .step eF5 (.ask (NM l hl) λm1 t1=>.ask (NM k hk) λm2 t2=>?_)
 refine T.loop (σ:=Rows×Rows) (L:=λi g n=>AX n k m1 m2 l (l.length:Int) i g.1 [] [] g.2) l.length (λi g=>g.1=gone l k i/\Sn (l.take i) g.2) ?_ ?_ ([],[]) ⟨rfl,Sn.nil⟩
 .rintro⟨g,m⟩⟨h1,_⟩
  have h1:g=gone l k l.length:=h1
  subst h1
  refine .step Nq (.neg (by simp) ?_)
  refine T.loop (σ:=Rows×Rows×Rows) (L:=λi s n=>AZ n m1 k (k.length:Int) i (gone l k l.length) s.1 s.2.1 s.2.2) k.length (λi s=>s.1=gone k l i/\s.2.1=fb l k i/\Sn (k.take i) s.2.2) ?_ ?_ ([],[],[]) ⟨rfl,rfl,Sn.nil⟩
  .rintro⟨u,v,w⟩⟨h1,h2,_⟩;have h1:u=gone k l k.length:=h1;have h2:v=fb l k k.length:=h2;subst h1;subst h2;exact .step Nw (.neg (by simp) (.ret rfl))
  .rintro i⟨u,v,w⟩hi⟨h1,h2,h3⟩ih
   have h1:u=gone k l i:=h1
   have h2:v=fb l k i:=h2
   have h3:Sn (k.take i) w:=h3
   subst h1;subst h2
   have gl:=qG k l i
   have cl:=yQ l k i
   refine .step Nw (.pos (by simp;omega) (.ab (by omega) (by omega) λr hr=>?_))
   have hr:k[i]?=some r:=by simpa using hr
   have hm:=List.mem_of_getElem? hr
   have nx:∀{u v w:Rows},u=gone k l (i+1)->v=fb l k (i+1)->Sn (k.take (i+1)) w->T (λn=>ny n m1 k (k.length:Int) i (gone l k l.length) u v w) (.=rY l k):=λhu hv hw=>.step XC (by rw[Cf (by omega)];simp_all)
   have Hd:b5 r∉aw (k.take i)->T (λn=>z6 n m1 k (k.length:Int) i (gone l k l.length) (gone k l i) (fb l k i) w (nX r 0)) (.=rY l k):=λh0=>by
    have hw:Sn (k.take (i+1)) (a6 w (b5 r) [.sc (.bool true)]):=by rw[gz hr];exact h3.put r
    refine .step XK (.et (λq hq=>?_) λhq=>?_)
    .have hq:dy m1 (b5 r)=some q:=hq;rw[t1]at hq;cases e:fv l (b5 r)with|none=>grind|some p=>rw[e]at hq;cases hq;obtain⟨e1,e2⟩:=D4 e;have h1:b5 r∈aw l:=e2▸List.mem_map.2 ⟨p,e1,rfl⟩;refine .step XF (.neg rfl (.ask (NN l k hs p r e1 hm).1 λz hz=>?_));subst hz;refine .ite (λd=>.fits (by simp;omega) (nx ((iH hr).2 (.inr h1)).symm ((o4 hr).1 _ h0 e (gN d)).symm hw)) λd=>nx ((iH hr).2 (.inr h1)).symm ((o4 hr).2.1 _ e (cF d)).symm hw
    .have hq:dy m1 (b5 r)=none:=hq
     rw[t1]at hq
     have e:fv l (b5 r)=none:=by cases e:fv l (b5 r)with|none=>rfl|some p=>grind
     exact .step Up (.pos rfl (.fits (by simp;omega) (nx ((iH hr).1 h0 (DC.1 e)).symm ((o4 hr).2.2 (.inr e)).symm hw)))
   refine .et (λq hq=>?_) λhq=>Hd ((h3 (b5 r)).2 hq);obtain⟨h4,h5⟩:=(h3 (b5 r)).1 q hq;exact .pos h5 (nx ((iH hr).2 (.inl h4)).symm ((o4 hr).2.2 (.inl h4)).symm (by rw[gz hr];exact h3.again h4))
 .rintro i⟨g,m⟩hi⟨h1,h3⟩ih
  have h1:g=gone l k i:=h1
  have h3:Sn (l.take i) m:=h3
  subst h1
  have gl:=qG l k i
  refine .step Nq (.pos (by simp;omega) (.ab (by omega) (by omega) λr hr=>?_))
  have hr:l[i]?=some r:=by simpa using hr
  have uq:∀{u:Rows},u=gone l k (i+1)->T (λn=>vV n k m1 m2 l (l.length:Int) i u [] [] m (nX r 0)) (.=rY l k):=λhu=>.step XJ (by rw[Cf (by omega)];exact ih (_,_) ⟨hu,by rw[gz hr];exact h3.put r⟩)
  refine .et (λq hq=>?_) λhq=>?_
  .have hq:dy m2 (b5 r)=some q:=hq
   rw[t2]at hq
   have h4:b5 r∈aw k:=by cases e:fv k (b5 r)with|none=>grind|some p=>exact(D4 e).2▸List.mem_map.2 ⟨p,(D4 e).1,rfl⟩
   exact .step Nu (.neg rfl (uq ((iH hr).2 (.inr h4)).symm))
  .have hq:dy m2 (b5 r)=none:=hq
   rw[t2]at hq
   have h4:b5 r∉aw k:=by apply DC.1;cases e:fv k (b5 r)with|none=>rfl|some p=>grind
   refine .step Nu (.pos rfl (.et (λq hq=>?_) λhq=>?_))
   .obtain⟨h5,h6⟩:=(h3 (b5 r)).1 q hq;exact .neg (by rw[h6];rfl) (uq ((iH hr).2 (.inl h5)).symm)
   .exact .step aaj (.fits (by simp;omega) (uq ((iH hr).1 ((h3 (b5 r)).2 hq) h4).symm))
end
end Go.AI
end

section
set_option autoImplicit false
set_option maxRecDepth 100000
namespace Go.AI
open Go BD
noncomputable section
theorem OY{r:List AV}(h:bd r):bd (dE r):=⟨fN h _,fN h _,fN h _,trivial,eV h _,trivial,trivial,eV h _,fN h _,fN h _⟩
theorem Fi(l:Rows)(hl:l.length<=1000):T (λn=>xg n l l) (.=true):=by refine .step abJ (.neg (by simp) (.of (Dg (J:=λn i=>zY n l l (l.length:Int) i) (by omega) rfl λn i=>XE n) ?_));clear hl;induction l with|nil=>rfl|cons r l ih=>simp only[tM];rw[ih,iE.2 rfl];rfl
theorem aa0(s:ByteArray)(c:Int)(hs:bd s):T (λn=>B2 n s c) λx=>-1<=x/\x<s.size:=by
 have hz:=Po hs
 refine .step abY (.ask (Q':=λx=>-1<=x/\x<s.size) (.step abP ?_) λx hx=>.ret hx)
 rw[bA (by omega) (by omega)]
 have key:∀k,k<=s.size->T (λn=>z7 n s c ((k:Int)-1)) λx=>-1<=x/\x<s.size:=by intro k;induction k with|zero=>intro _;exact .step Mo (.neg (by simp) (.ret ⟨by omega,by omega⟩))|succ k ih=>intro hk;rw[show(((k+1:Nat):Int)-1)=(k:Int)by omega];refine .step Mo (.pos (by simp) (nA (by omega) λb hb=>.ite (λc=>.ret ⟨by omega,by omega⟩) λc=>?_));grind[bA]
 simp_all
theorem aa1(s:ByteArray)(hs:bd s):∃v,T (λn=>F7 n s) (.=v)/\T (λn=>F8 n s) (.=v):=by
 have hz:=Po hs
 obtain⟨x,hx,h1,h2⟩:=aa0 s 47 hs
 by_cases h:x<0
 .exact⟨_,.step PM (.AN hx (.pos (b9 h) (.ret rfl))),.step PN (.AN hx (.pos (b9 h) (.ret rfl)))⟩
 .exact⟨_,.step PM (.AN hx (.neg (fy h) (.fH (by rw[bA (by omega) (by omega)];omega) (.ret rfl)))),.step PN (.AN hx (.neg (fy h) (.fH (by rw[bA (by omega) (by omega)];omega) (.ret rfl))))⟩
theorem UM(l k:Rows)(s:ByteArray)(z:bd l)(bk:bd k)(w:bd s)(cl:∀r,r∈l->CS (dE r))(u:∀r,r∈k->CS (dE r)):Ev (λn=>F3 n l k s) true:=by
 apply T.ev
 refine .step eF3 (.ite (λ_=>.pos rfl (.ret rfl)) λc1=>.ite (λ_=>.pos rfl (.ret rfl)) λc2=>?_)
 have hl:l.length<=200:=by have:=dS c1;omega
 have hk:k.length<=200:=by have:=dS c2;omega
 have hs:∀p q,p∈l->q∈k->∃o:Bool,T (λn=>mr n (dE p) (dE q)) (.=o)/\T (λn=>pD n (dE p) (dE q)) (.=o):=λp q hp hq=>aaZ _ (OY (ju z hp)) (cl p hp) _ (OY (ju bk hq)) (u q hq);obtain⟨v,m,c⟩:=aa1 s w;refine .ask (ack l k hl hk hs) λx hx=>.ask (acj l k hl hk hs) λy hy=>.ask m λa ha=>.ask c λb hb=>.pos (by rw[ha,hb];exact iE.2 rfl) (.ask (aci l s hl) λi hi=>.ask (wk l s hl) λj hj=>.pos (by grind) ?_);subst hx;subst hy;have g1:=qG l k l.length;have g2:=qG k l k.length;have C:=yQ l k k.length;exact .ask (Fi _ (by grind)) λx hx=>.pos hx (.ask (Fi _ (by grind)) λx hx=>.pos hx (.ask (Fi _ (by grind)) λx hx=>.pos hx (.pos rfl (.ret rfl))))
end
end Go.AI
end
