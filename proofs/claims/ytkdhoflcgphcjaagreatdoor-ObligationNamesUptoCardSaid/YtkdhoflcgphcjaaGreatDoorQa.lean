/- A part of the proof. -/
import Derived.Test.YtkdhoflcgphcjaaGreatDoorPd
set_option linter.all false

namespace Go.AI
open Go
def dW(l:Rows):List (ByteArray×List AV):=l.flatMap λr=>(gS r 0,aR (5,bs [],[aR (3,gS r 0,[])]))::(gD r 1).map λx=>(gS x 0,aR (3,gS r 0,[]))
def ec(l:Rows):List (ByteArray×List AV):=l.map λd=>(gS d 0,aR (ah d 1))
def pm(l:List (ByteArray×List AV)):Rows:=l.foldl (λm x=>a6 m x.1 x.2) []
theorem D0(l:List (ByteArray×List AV))(s:ByteArray)(v:List AV):pm (l++[(s,v)])=a6 (pm l) s v:=by unfold pm;grind
theorem T.aaW{σ β:Type}{Q:β->Prop}{L:Int->σ->Nat->Option β}(m:Nat)(inv:Nat->σ->Prop)(c:∀s,inv m s->T (L m s) Q)
 (dY:∀(i:Nat)s,i<m->inv i s->(∀s',inv (i+1) s'->T (L ((i:Int)+1) s') Q)->T (L i s) Q)(k:Nat)(hk:k<=m)(s:σ)(h:inv k s):T (L k s) Q:=by
 have key:∀d i s,i+d=m->inv i s->T (L (i:Int) s) Q:=by intro d;induction d with|zero=>grind|succ d ih=>grind
 exact key (m-k) k s (by omega) h
theorem Yj(e:Env)(h1:e.1.length<=8)(h2:e.2.length<=64)(h3:∀r,r∈e.1->(gD r 1).length<=8):T (λn=>A5 n e) (.=pm (dW e.1++ec e.2)):=by
 refine .step Z1 ?_
 refine T.loop (σ:=Rows) (L:=λi s n=>ti n e.1 (e.1.length:Int) i e s) e.1.length (λi m=>m=pm (dW (e.1.take i))) ?_ ?_ [] rfl
 .intro s hs
  rw[List.take_length]at hs
  refine .step LD (.neg (by simp) ?_)
  refine T.loop (σ:=Rows) (L:=λi s n=>zj n e.2 (e.2.length:Int) i s) e.2.length (λi m=>m=pm (dW e.1++ec (e.2.take i))) ?_ ?_ s (by simpa[ec]using hs)
  .exactλs hs=>.step Lo (.neg (by simp) (.ret (by grind)))
  .intro i s hi hs ih
   refine .step Lo (.pos (by simp;omega) (.ab (by omega) (by omega) λr hr=>?_))
   have hr:e.2[i]?=some r:=by grind
   rw[bA (i:=(i:Int)+1) (by omega) (by omega)];exact ih _ (by rw[hs,<-D0,gz hr];simp[ec])
 .intro i s hi hs ih
  refine .step LD (.pos (by simp;omega) (.ab (by omega) (by omega) λr hr=>?_))
  have hr:e.1[i]?=some r:=by grind
  have hc:=h3 r (List.mem_of_getElem? hr)
  refine .ask (Q':=λx=>x=(5,bs [],[aR (3,gS r 0,[])])) (.step aas (.ret rfl)) λx hx=>?_
  subst hx
  let o:Nat->List (ByteArray×List AV):=λj=>dW (e.1.take i)++[(gS r 0,aR (5,bs [],[aR (3,gS r 0,[])]))]++((gD r 1).take j).map λx=>(gS x 0,aR (3,gS r 0,[]))
  have hm:a6 s (gS r 0) (aR (5,bs [],[aR (3,gS r 0,[])]))=pm (o 0):=by rw[hs,<-D0];simp[o]
  rw[hm]
  have fin:∀s',s'=pm (o (gD r 1).length)->T (λn=>ti n e.1 (e.1.length:Int) (IntKind.i64.wrap ((i:Int)+1)) e s') (.=pm (dW e.1++ec e.2)):=λs' p=>by rw[bA (i:=(i:Int)+1) (by omega) (by omega)];exact ih s' (by rw[p];simp only[o];rw[List.take_length,gz hr];simp[dW])
  have next:∀(j:Nat)q,(gD r 1)[j]?=some q->a6 (pm (o j)) (gS q 0) (aR (dr (3,gS r 0) []))=pm (o (j+1)):=λj q hq=>by rw[<-D0];simp only[o];rw[gz hq];simp[dr]
  have rest:∀(j:Nat),j<=(gD r 1).length->T (λn=>uQ n e.1 (e.1.length:Int) (i:Int) (gD r 1) ((gD r 1).length:Int) j e (pm (o j)) (3,gS r 0) []) (.=pm (dW e.1++ec e.2)):=by
   intro j hj
   refine T.aaW (σ:=Rows) (L:=λj s n=>uQ n e.1 (e.1.length:Int) (i:Int) (gD r 1) ((gD r 1).length:Int) j e s (3,gS r 0) []) (gD r 1).length (λj s=>s=pm (o j)) ?_ ?_ j hj _ rfl
   .exactλs hs=>.step Jn (.neg (by simp) (fin s hs))
   .intro j s hj hs u;subst hs;refine .step Jn (.pos (by simp;omega) (.ab (by omega) (by omega) λq hq=>?_));rw[bA (i:=(j:Int)+1) (by omega) (by omega)];simp_all
  refine .step VS (.ite (λc=>?_) (λc=>fin _ ?_))
  .have c:=cW c;refine .ab (by omega) (by omega) λq hq=>?_;rw[bA (i:=(0:Int)+1) (by omega) (by omega),next 0 q (by grind)];grind
  grind
theorem D1{s:ByteArray}:∀{l:List (ByteArray×List AV)}{m:Rows},(∀x,x∈l->x.1≠s)->dy (l.foldl (λm x=>a6 m x.1 x.2) m) s=dy m s|[],_,_=>rfl|x::l,m,h=>by rw[List.foldl_cons,D1 λy hy=>h y (List.mem_cons_of_mem _ hy),uW,if_neg λq=>h x (List.mem_cons_self ..) q.symm]
theorem LL{s:ByteArray}{v:List AV}:∀{l:List (ByteArray×List AV)}{m:Rows},(l.map (·.1)).Nodup->(s,v)∈l->dy (l.foldl (λm x=>a6 m x.1 x.2) m) s=some (.sc (.string s)::v)
 |[],_,_,h=>by cases h
 |x::l,m,hn,h=>by
  rw[List.map_cons,List.nodup_cons]at hn
  rw[List.foldl_cons]
  rcases List.mem_cons.1 h with rfl|h
  .rw[D1 λy hy q=>hn.1 (List.mem_map.2 ⟨y,hy,q⟩),uW,if_pos rfl]
  .exact LL hn.2 h
theorem D2(e:Env):(dW e.1++ec e.2).map (·.1)=dec e:=by unfold dec nP dW ec aw;rw[List.map_append,List.map_flatMap,List.map_map];congr 1;congr 1;funext r;simp
theorem Yk(e:Env)(s:ByteArray)(h1:e.1.length<=1000)(h3:∀r,r∈e.1->(gD r 1).length<=1000):T (λn=>Gr n e s) λr=>(0<=r.1->∃q,e.1[r.1.toNat]?=some q/\r.1<e.1.length/\s∈aw (gD q 1))/\(r.1<0->∀q,q∈e.1->s∉aw (gD q 1)):=by
 refine .step ZE ?_
 refine T.loop (σ:=Unit) (L:=λi _ n=>zx n s i e) e.1.length (λi _=>∀q,q∈e.1.take i->s∉aw (gD q 1)) ?_ ?_ () (by simp)
 .intro _ h;rw[List.take_length]at h;exact .step LC (.neg (by simp) (.ret ⟨λq=>by grind,λ_=>h⟩))
 .intro i _ hi h ih
  have hr:e.1[i]?=some e.1[i]:=List.getElem?_eq_getElem hi
  generalize e.1[i]=r at hr
  have hl:=h3 r (List.mem_of_getElem? hr)
  refine .step LC (.pos (by simp;omega) ?_)
  refine T.loop (σ:=Unit) (L:=λj _ n=>zA n s (i:Int) j e) (gD r 1).length (λj _=>s∉aw ((gD r 1).take j)) ?_ ?_ () (by simp)
  .intro _ h2;rw[List.take_length]at h2;refine .step Ly (.gx (by simpa using hr) (.neg (by simp) ?_) (by omega));rw[bA (by omega) (by omega)];exact ih () (lQ hr h h2)
  .intro j _ hj h2 m
   have hq:(gD r 1)[j]?=some (gD r 1)[j]:=List.getElem?_eq_getElem hj
   generalize(gD r 1)[j]=q at hq
   refine .step Ly (.gx (by simpa using hr) (.pos (by simp;omega) (.gx (by simpa using hr) (.gx (by simpa using hq) (.ite (λc=>.ret ⟨λ_=>⟨r,by simpa using hr,by grind,?_⟩,λk=>by grind⟩) λc=>?_) (by omega)) (by omega))) (by omega))
   .grind[bS,List.mem_map_of_mem,List.mem_of_getElem?]
   .rw[bA (by omega) (by omega)];refine m () ?_;rw[gz hq,aw,List.map_append,List.mem_append];grind[ur,gS]
theorem LM{l:Rows}{s:ByteArray}(h:ik (λr=>ax (gS r 0) s) l>=0):∃r,l[(ik (λr=>ax (gS r 0) s) l).toNat]?=some r/\gS r 0=s/\ik (λr=>ax (gS r 0) s) l<l.length:=by
 unfold ik at h⊢
 split
 .rename_i i hi;obtain⟨h1,h2,_⟩:=List.findIdx?_eq_some_iff_getElem.1 hi;simp_all[bS]
 grind
def pz(l:Rows):Rows:=l.foldl (λm r=>a6 m (gS r 0) [.sc (.bool true)]) []
theorem WT(l:Rows):(∀r,r∈pz l->gB (r.drop 1) 0=true)/\∀s,s∈aw (pz l)↔s∈aw l:=by
 have key:∀(l m:Rows),(∀r,r∈m->gB (r.drop 1) 0=true)->(∀r,r∈l.foldl (λm r=>a6 m (gS r 0) [.sc (.bool true)]) m->gB (r.drop 1) 0=true)/\∀s,s∈aw (l.foldl (λm r=>a6 m (gS r 0) [.sc (.bool true)]) m)↔s∈aw m\/s∈aw l:=by
  intro l
  induction l with
  |nil=>grind
  |cons x l ih=>
   intro m hm
   rw[List.foldl_cons]
   have c:∀{m:Rows},(∀r,r∈m->gB (r.drop 1) 0=true)->∀r,r∈a6 m (gS x 0) [.sc (.bool true)]->gB (r.drop 1) 0=true:=by
    intro m
    induction m with
    |nil=>intro _ r hr;simp only[a6,List.mem_singleton]at hr;rw[hr];rfl
    |cons y m ih=>
     intro hm r hr
     unfold a6 at hr
     split at hr
     .rcases List.mem_cons.1 hr with rfl|hr
      .rfl
      grind
     grind
   obtain⟨h1,h2⟩:=ih _ (c hm);grind[xQ]
 obtain⟨h1,h2⟩:=key l [] (by simp);exact⟨h1,λs=>(h2 s).trans (by simp)⟩
theorem acd(e:Env)(hb:bd e)(v:VE e):Bw e (pm (dW e.1++ec e.2),pz e.1):=by
 have F:=gp e hb
 have E:=cq e hb
 have hc:=v.c
 have hn:=v.n
 have D:((dW e.1++ec e.2).map (·.1)).Nodup:=by rw[D2];exact v.d
 refine⟨λs hs=>?_,λa ha hv=>?_⟩
 .have tail:∀{b:Rows}{Q:KB->Prop},(∀r,r∈e.2->gS r 0=s->Q (aC (ah r 1) true))->(s∉aw e.2->∀r,r∈e.1->gS r 0=s->Q (aC ((5,bs [],[aR (3,s,[])]):cd) true))->(s∉aw e.2->s∉aw e.1->∀r,r∈e.1->s∈aw (gD r 1)->Q (aC ((3,gS r 0,[]):cd) true))->(s∉aw e.2->s∉aw e.1->(∀r,r∈e.1->s∉aw (gD r 1))->Q (0,bs [],[],false))->T (λn=>kP n b s (-1) e (0,bs []) []) Q:=by
   intro b Q q1 q2 q3 M
   refine .step Lx (.neg (by decide) (.ask (X9 e s (by omega)) λx hx=>?_))
   subst hx
   refine .ite (λc=>?_) λc=>?_
   .obtain⟨r,h1,h2,h3⟩:=LM (cW c);exact .gx h1 (.ret (q1 r (List.mem_of_getElem? h1) h2)) (by grind)
   .have I:s∉aw e.2:=λq=>by have:=vc.2 q;grind
    refine .ask (MQ e s (by omega)) λx hx=>?_
    subst hx
    refine .ite (λc=>?_) λc=>?_
    .obtain⟨r,h1,h2,_⟩:=LM (cW c);refine .ask (Q':=(.=(3,s,[]))) (.step Nl (.ret rfl)) λy hy=>hy▸.ask (fW _) λz hz=>.ret (by grind)
    .have n1:s∉aw e.1:=λq=>by have:=vc.2 q;grind
     refine .ask (Yk e s (by omega) λr hr=>by have:=(v.k r hr).2.1;omega) λx hx=>.ite (λc=>?_) λc=>?_
     .have c:=cW c;obtain⟨r,h1,h2,h3⟩:=hx.1 c;exact .gx h1 (.ask (Q':=(.=(3,gS r 0,[]))) (.step Nl (.ret rfl)) λy hy=>.ret (by grind)) c
     .exact .ret (M I n1 (hx.2 (by grind)))
  have found:∀{x:cd},(s,aR x)∈dW e.1++ec e.2->∃r,dy (pm (dW e.1++ec e.2)) s=some r/\ah (r.drop 1) 0=x:=λ{x}h=>⟨_,LL D h,rfl⟩
  have G:∀{x y:cd},(s,aR x)∈dW e.1++ec e.2->(s,aR y)∈dW e.1++ec e.2->x=y:=λ{x y}h h'=>by grind
  have u:∀r,r∈e.2->gS r 0=s->(s,aR (ah r 1))∈dW e.1++ec e.2:=λr hr h=>List.mem_append_right _ (List.mem_map.2 ⟨r,hr,by rw[h]⟩)
  have C:∀r,r∈e.1->gS r 0=s->(s,aR (5,bs [],[aR (3,s,[])]))∈dW e.1++ec e.2:=λr hr h=>List.mem_append_left _ (List.mem_flatMap.2 ⟨r,hr,by grind⟩)
  have w:∀r,r∈e.1->s∈aw (gD r 1)->(s,aR (3,gS r 0,[]))∈dW e.1++ec e.2:=λr hr h=>by obtain⟨x,h1,h2⟩:=List.mem_map.1 h;exact List.mem_append_left _ (List.mem_flatMap.2 ⟨r,hr,List.mem_cons_of_mem _ (List.mem_map.2 ⟨x,h1,by rw[h2]⟩)⟩)
  have fin:∀(a:Ty),bd (enc a)->(s,aR (enc a))∈dW e.1++ec e.2->∃o:Option Ty,mQ (pm (dW e.1++ec e.2)) s o/\(∀b:Rows,T (λn=>kP n b s (-1) e (0,bs []) []) (su o))/\∀a,o=some a->bd (enc a):=λa ha h=>by
   have j:∀{x:cd},(s,aR x)∈dW e.1++ec e.2->aC x true=aC (enc a) true:=λh'=>by grind
   refine⟨some a,found h,λb=>tail (λr hr q=>j (u r hr q)) (λ_ r hr q=>j (C r hr q)) (λ_ _ r hr q=>j (w r hr q)) (λI n1 N=>?_),λa' e=>by grind⟩
   exfalso
   have hk:s∈dec e:=by grind[D2]
   rcases List.mem_append.1 hk with hk|hk
   .obtain⟨r,hr,hk⟩:=List.mem_flatMap.1 hk;grind
   grind
  by_cases J:s∈aw e.2
  .obtain⟨r,hr,i⟩:=List.mem_map.1 J;obtain⟨_,a,ha,_⟩:=v.t r hr;have kb:=ju E hr;exact fin a (ha▸(⟨trivial,eV kb 2,fN kb 3⟩:bd (ah r 1))) (ha▸u r hr i)
  by_cases K:s∈aw e.1
  .obtain⟨r,hr,i⟩:=List.mem_map.1 K;exact fin (.set (.dV s)) (iX ⟨trivial,hs,BL⟩) (C r hr i)
  by_cases L:∃r,r∈e.1/\s∈aw (gD r 1)
  .obtain⟨r,hr,i⟩:=L;exact fin (.dV (gS r 0)) ⟨trivial,eV (ju F hr) 0,BL⟩ (w r hr i)
  .refine⟨none,?_,λb=>tail (λr hr q=>(J (q▸List.mem_map_of_mem hr)).elim) (λ_ r hr q=>(K (q▸List.mem_map_of_mem hr)).elim) (λ_ _ r hr q=>(L ⟨r,hr,q⟩).elim) (λ_ _ _=>rfl),λa e=>by cases e⟩
   refine D1 (m:=[]) λx hx q=>?_
   have hk:s∈dec e:=by grind[D2]
   rcases List.mem_append.1 hk with hk|hk
   .obtain⟨r,hr,hk⟩:=List.mem_flatMap.1 hk;grind
   grind
 .obtain⟨c1,c2⟩:=WT e.1;obtain⟨b,hb,hq⟩:=MR e a (by omega) hv;refine⟨b,λp=>(Yc a (pm (dW e.1++ec e.2),pz e.1) ha hv c1 p).mono λr hr=>?_,⟨b,hb,rfl⟩⟩;grind
theorem T.Fg{β:Type}{Q:β->Prop}{F G:Nat->Option β}(h:∀n,F (n+1+1+1+1)=G n)(c:T G Q):T F Q:=by obtain⟨r,⟨m,a⟩,b⟩:=c;refine⟨r,⟨m+4,λn hn=>?_⟩,b⟩;obtain⟨k,rfl⟩:∃k,n=k+1+1+1+1:=⟨n-4,by omega⟩;grind
theorem T.MT{β:Type}{Q:β->Prop}{F:Nat->Option β}(h:T F Q):T (λn=>F (n+1+1)) Q:=T.shift (F:=λn=>F (n+1)) (T.shift h)
theorem T.tu{β:Type}{Q:β->Prop}{F:Nat->Option β}(h:T F Q):T (λn=>F (n+1+1+1)) Q:=T.shift (F:=λn=>F (n+1+1)) (T.MT h)
theorem Yl(o:KT):T (λn=>wD n (aS o)) (.=aS o):=by
 have key:∀a:Ty,T (λn=>wD n (enc a)) (.=enc a):=by intro a;induction a with|int=>exact .step v8 (.step oD (.neg rfl (.ret rfl)))|dV s=>exact .step v8 (.step oD (.neg rfl (.ret rfl)))|set a ih=>exact .step v8 (.step oD (.pos rfl (.gx rfl (.ask ih λx hx=>by subst hx;exact .fits (by simp) (.step oD (.neg rfl (.ret rfl)))))))|pair a b i c=>exact .step v8 (.step oD (.pos rfl (.gx rfl (.ask i λx hx=>by subst hx;exact .fits (by simp) (.step oD (.pos rfl (.gx rfl (.ask c λy hy=>by subst hy;exact .fits (by simp) (.step oD (.neg rfl (.ret rfl)))))))))))
 cases o with|none=>exact .step v8 (.step oD (.neg rfl (.ret rfl)))|some a=>exact key a
theorem Ym(o:KT):T (λn=>tP n (aS o)) (.=aS o):=by
 have key:∀a:Ty,T (λn=>tP n (enc a)) (.=enc a):=by intro a;induction a with|int=>exact .step tF (.step mR (.neg rfl (.ret rfl)))|dV s=>exact .step tF (.step mR (.neg rfl (.ret rfl)))|set a ih=>exact .step tF (.step mR (.pos rfl (.gx rfl (.ask ih λx hx=>by subst hx;exact .fits (by simp) (.step mR (.neg rfl (.ret rfl)))))))|pair a b i c=>exact .step tF (.step mR (.pos rfl (.gx rfl (.ask i λx hx=>by subst hx;exact .fits (by simp) (.step mR (.pos rfl (.gx rfl (.ask c λy hy=>by subst hy;exact .fits (by simp) (.step mR (.neg rfl (.ret rfl)))))))))))
 cases o with|none=>exact .step tF (.step mR (.neg rfl (.ret rfl)))|some a=>exact key a
theorem WU(x:cd)(h:x.2.2=[]):T (λn=>tP n x) (λ_=>True):=.step tF (.step mR (.neg (by rw[h];rfl) (.ret trivial)))
theorem MU{a0:Rows}{b:Nat}(hb:b<=300)(h0:a0.length*300<=140737488355328):T (λ_=>emp a0 (both (some ([]:Rows)) (fits (([]:List (List AV)).length+a0.length) b (some ([]++a0)))) (fits (([]:List (List AV)).length+a0.length) b (some ([]++a0)))) λr=>r=a0:=by
 have h1:(([]:Rows).length+a0.length)*b<=140737488355328:=by rw[List.length_nil,Nat.zero_add];exact Nat.le_trans (Nat.mul_le_mul_left _ hb) h0
 refine .emp (λe=>?_) (λ_=>.fits h1 (.ret rfl));subst e;exact .both (.ret _) (.fits h1 (.ret _)) rfl
theorem ace{e m:Env}(hE:Bw e m)(t:b6)(hv:ew t=true)(hc:gT t)(ht:bd t):Bo m [] 64 (λn=>FZ n t m []) (λn=>A8 n e t):=by
 unfold ew at hv;cases h:dk 64 t 0 with|none=>grind|some k=>obtain⟨hn,hk⟩:=sM h;cases hc with|mk q p=>have j:=Bv t ht;obtain⟨o,g1,g2,F⟩:=MN hE 63 t ht hn q [] (by simp) (by omega) [] (by simp) (by simp) (by have:=yP h;omega) (λk z w r hr=>by
  have i:=List.mem_of_getElem? hr
  have u:(∀x,x∈z->bd (enc x.2))/\z.length<=1:=by
   rcases w with rfl|⟨a,ha,rfl⟩
   .grind
   .grind
  obtain⟨o,E,D,C⟩:=NJ hE 63 (bt r 0) z ([]++[[.sc (.int .i64 (k:Int))]]) (hk r i) (p r i) (nN j i) u.1 (by omega) (by simp) (by omega);exact⟨o,E,MM hr (by simp) rfl D,C⟩) (0,bs []) [] (λn=>A8 n e t) (λQ q1 q2 q3=>.step Z3 (.ite (λc=>q1 (aL c) _ λR h=>.step ZP h) λc=>.ite (λd=>q2 (aL d)) λd=>q3 (aP c) (aP d)));exact⟨o,g1,.step aan g2,F⟩
theorem aaX(e:Env)(t:b6)(he:bd e)(i:CE e)(ht:bd t)(hc:gT t):∃P:Prop,T (λn=>sk n e t) (λr=>r=0↔P)/\T (λn=>sm n e t) (λr=>r=0↔P):=by
 have up:∀{P:Prop},T (λn=>FO n e t) (λx=>(x.2.2.2.2=0/\x.1=2)↔P)->T (λn=>FQ n e t) (λx=>(x.2.2.2.2=0/\x.1=2)↔P)->∃P:Prop,T (λn=>sk n e t) (λr=>r=0↔P)/\T (λn=>sm n e t) (λr=>r=0↔P):=λ{P}h1 h2=>⟨P,.step abM (.ask h1 λx hx=>.ite (λc=>.ite (λd=>.ret ⟨(λq=>by cases q),λq=>absurd (hx.2 q).2 (ml d)⟩) λd=>.ret ⟨λ_=>hx.1 ⟨aL c,mj d⟩,λ_=>aL c⟩) λc=>.ret ⟨λq=>absurd q (aP c),λq=>(hx.2 q).1⟩),.step abR (.ask h2 λx hx=>.ite (λc=>.ite (λd=>.ret ⟨(λq=>by cases q),λq=>absurd (hx.2 q).2 (ml d)⟩) λd=>.ret ⟨λ_=>hx.1 ⟨aL c,mj d⟩,λ_=>aL c⟩) λc=>.ret ⟨λq=>absurd q (aP c),λq=>(hx.2 q).1⟩)⟩
 have bad:∀{a b c d:_},((((0,a,b,c,1):Int×ByteArray×Rows×Rows×Int).2.2.2.2=0/\d)↔False):=λ{a b c d}=>⟨λq=>absurd q.1 (by grind),False.elim⟩
 by_cases v:VE e
 .cases hv:ew t with
  |false=>
   refine up (P:=False) (.Fg E5 ?_) (.step E7 ?_)
   .exact .ask (T.tu (F:=λn=>sj n e) (Av e he i)) λb hb=>.neg (by grind) (.ask (T.tu (F:=λn=>sn n t) (As t ht)) λb hb=>.pos (by grind) (.ret bad))
   .exact .ask (Aw e he i) λb hb=>.neg (by grind) (.ask (nB t ht) λb hb=>.pos (by grind) (.ret bad))
  |true=>
   obtain⟨o,g1,g2,p⟩:=ace (acd e he v) t hv hc ht
   have m:=v.c
   have pr:∀(z w:Rows),T (λn=>jg n t (0,bs []) (pm (dW e.1++ec e.2),pz e.1) [] []) (λx=>(x.2.2.2.2=0/\x.1=2)↔o=some none):=λz w=>by
    refine .step V4 (.ask g2 λx hx=>?_)
    cases o with
    |none=>exact .pos (by grind) (.ask (.step YP (MU (by omega) (by grind))) λy hy=>.ret ⟨λq=>absurd q.1 hx.1,λq=>by cases q⟩)
    |some u=>
     have hx:x=aC (aS u) (0,pm (dW e.1++ec e.2),pz e.1,[]):=hx
     subst hx
     refine .neg rfl (.ask (Yl u) λy hy=>.ret ?_)
     subst hy
     have:=we 2 none (.inr ⟨rfl,rfl⟩) u
     constructor
     .rintro⟨_,q⟩;have q:(aS u).1=2:=q;grind
     .intro q;cases q;exact⟨rfl,rfl⟩
   refine up (P:=o=some none) (.Fg E5 ?_) (.step E7 ?_)
   .refine .ask (T.tu (F:=λn=>sj n e) (Av e he i)) λb hb=>.neg (by grind) (.ask (T.tu (F:=λn=>sn n t) (As t ht)) λb hb=>.neg (by grind) (.ask (T.MT (F:=λn=>A5 n e) (Yj e v.c v.n λr hr=>(v.k r hr).2.1)) λx hx=>?_));subst hx;have j:T (λn=>jg (n+1+1+1) t (0,bs []) (pm (dW e.1++ec e.2),pz e.1) [] []) (λx=>(x.2.2.2.2=0/\x.1=2)↔o=some none):=T.tu (F:=λn=>jg n t (0,bs []) (pm (dW e.1++ec e.2),pz e.1) [] []) (pr [] []);clear up bad g1 g2 p pr v he i;obtain⟨Q,N⟩:=e;simp only at m j⊢;generalize pm (dW Q++ec N)=M at j⊢;cases Q with|nil=>exact .neg rfl j|cons O Q=>refine .pos (b9 (by grind)) (.gx rfl ?_);cases Q with|nil=>exact .neg rfl j|cons L Q=>refine .pos (b9 (by grind)) (.gx rfl ?_);cases Q with|nil=>exact .neg rfl j|cons K Q=>refine .pos (b9 (by grind)) (.gx rfl ?_);cases Q with|nil=>exact .neg rfl j|cons J Q=>refine .pos (b9 (by grind)) (.gx rfl ?_);cases Q with|nil=>exact .neg rfl j|cons I Q=>refine .pos (b9 (by grind)) (.gx rfl ?_);cases Q with|nil=>exact .neg rfl j|cons G Q=>refine .pos (b9 (by grind)) (.gx rfl ?_);cases Q with|nil=>exact .neg rfl j|cons E Q=>refine .pos (b9 (by grind)) (.gx rfl ?_);cases Q with|nil=>exact .neg rfl j|cons D Q=>refine .pos (b9 (by grind)) (.gx rfl ?_);cases Q with|nil=>exact .neg rfl j|cons C Q=>simp_all
   .refine .ask (Aw e he i) λb hb=>.neg (by grind) (.ask (nB t ht) λb hb=>.neg (by grind) (.ask p λx hx=>?_))
    cases o with
    |none=>exact .ask (WU _ hx.2.2) λy hy=>.ret ⟨λq=>absurd q.1 hx.1,λq=>by cases q⟩
    |some u=>
     have hx:x=aC (aS u) ([],0):=hx
     subst hx
     refine .ask (Ym u) λy hy=>.ret ?_
     subst hy
     have:=we 2 none (.inr ⟨rfl,rfl⟩) u
     constructor
     .rintro⟨_,q⟩;have q:(aS u).1=2:=q;grind
     .intro q;cases q;exact⟨rfl,rfl⟩
 .refine up (P:=False) (.Fg E5 ?_) (.step E7 ?_)
  .exact .ask (T.tu (F:=λn=>sj n e) (Av e he i)) λb hb=>.pos (by grind) (.ret bad)
  .exact .ask (Aw e he i) λb hb=>.pos (by grind) (.ret bad)
end Go.AI
