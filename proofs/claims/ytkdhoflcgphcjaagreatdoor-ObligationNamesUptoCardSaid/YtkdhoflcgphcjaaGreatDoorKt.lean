/- A part of the proof. -/
import Derived.Test.YtkdhoflcgphcjaaGreatDoorKn
import Derived.Test.YtkdhoflcgphcjaaGreatDoorKh
set_option linter.all false

namespace Go.AI
open Go Go.Proofs Go.RowKit
theorem R7{args:List AV}{h:AHeap}{v:AV}(e:u2 499 h args=some v):dI Tryz.prog 426 args h (.ret v) h:=by
 unfold u2 at e
 split at e
 case h_2=>cases e
 rename_i g0 x
 split at e
 case h_2=>cases e
 rename_i hf
 obtain rfl:g0=499:=Nat.eq_of_beq_eq_true hf
 unfold AU at e
 split at e
 case h_2=>cases e
 rename_i o ver n
 split at e
 case h_2=>cases e
 rename_i x M
 unfold FI at e
 split at e
 case h_2=>cases e
 rename_i m
 split at e
 case h_2=>cases e
 rename_i es cl hm
 split at e
 case h_2=>cases e
 rename_i ks O
 obtain⟨hk,rfl⟩:=L9 e
 unfold BQ at hk
 simp only[aZ]at hk
 obtain⟨⟨⟨c1,c2⟩,c3⟩,c4⟩:=hk
 refine C0 λg w vs hw hv=>?_
 obtain⟨v0,rfl,K⟩:=nL hv
 obtain⟨a',c',rfl,ha,G⟩:=VR.qA.1 K
 obtain rfl:a'=#[]:=by obtain⟨l⟩:=a';cases l with|nil=>rfl|cons _ _=>exact ha.elim
 obtain⟨l⟩:=c'
 obtain⟨p,rfl,hp⟩:=nL G
 cases hp with
 |ref hB=>
  rename_i b s
  obtain⟨us,q1,q2,q3,q4,q5⟩:=lM hw M hB
  obtain⟨u,rfl,hu⟩:=nL q1
  cases hu with
  |map Q=>
   rename_i T Z n2
   have C:=q3 0 _ rfl
   obtain⟨I,Y,S⟩:=hw.obj m _ hm T Z n2 Q
   obtain⟨U,k2⟩:=Df O S
   obtain⟨b1,b2,_⟩:=De c2 S
   have L:MapKept.Stamped I cl:=by refine⟨b1,b2,?_⟩;rw[U];exact List.pairwise_map.2 ((CN c1).imp λ{a b}N e2=>N (encStr_inj e2))
   refine(Tryz.od w b T I cl ks (hw.cR _ _ _ _ _ hB) C Y L U (λk hk=>Nat.le_of_ble_eq_true (List.all_eq_true.1 c3 k hk)) (Nat.le_of_ble_eq_true c4)).mono ?_
   rintro ee w'⟨v,rfl,E,F,j⟩
   refine⟨⟨v,rfl,λg2 hle hM=>?_⟩,j.size,j.block,j.tape,j.os,j.output⟩
   cases ks with
   |nil=>obtain rfl:=F.2 rfl;exact .sc _
   |cons D q=>
    obtain⟨r0,J⟩:=E
    rcases J with⟨_,J⟩|⟨X,cap,R,rfl,j9,hgb,hn,P,V,z⟩
    .simp at J
    .have hl:((ia (D::q)).map bs).length=(D::q).length:=by rw[List.length_map,(mB _).length_eq]
     have:=SC (g2:=g2) (l:=(ia (D::q)).map bs) (b:=X) (c:=cap) (by grind) λi s hi=>by
      refine hM X i _ j9 ?_
      rw[List.getElem?_map]at hi
      cases hx:(ia (D::q))[i]? with
      |none=>grind
      |some x=>
       rw[hx]at hi
       have hi:bs x=s:=Option.some.inj hi
       subst hi
       rw[JM]at z
       have h2:(R.toList.take ((D::q).length*1))[i]?=some (encStr x):=by rw[z,List.getElem?_map,hx];rfl
       rw[List.getElem?_take]at h2
       split at h2
       .unfold World.cell?;grind
       .cases h2
     rw[hl]at this;rw[List.map_map]at this;exact this
theorem Ud{args:List AV}{h:AHeap}{v:AV}(e:vT h args=some v):dI Tryz.prog 201 args h (.ret v) h:=by
 unfold vT at e
 split at e
 case h_2=>cases e
 rename_i x s
 split at e
 case h_2=>cases e
 rename_i l hl
 obtain⟨i,rfl⟩:=L9 e
 have i:=Nat.le_of_ble_eq_true i
 refine T3 λg w vs hw hv=>?_
 obtain⟨E,D,rfl,h1,h2⟩:=abq hv
 cases h2
 obtain⟨a,c,rfl,_,ht⟩:=R4 hw hl h1
 have C:Lst.Txt w.heap.size w a l:=by
  rcases ht with rfl|⟨bk,o,rfl,hb,hc⟩
  .exact .inl rfl
  .exact .inr ⟨bk,o,rfl,hb,λj hj=>by grind⟩
 refine(callsIn_wide.1 (Lst.last_in Fence.wide 3 trivial trivial trivial rfl (ao _) a c s l i w C)).mono ?_
 rintro ee w'⟨hr,hb⟩
 have z:w.heap.size<=w'.heap.size/\(∀b,b<w.heap.size->w'.heap[b]?=w.heap[b]?)/\w'.tape=w.tape/\w'.os=w.os/\w'.output=w.output:=⟨hb.size,hb.block,hb.tape,hb.os,hb.output⟩
 have m:ee=.returned (.int .i64 (vS l s)):=by
  unfold vS
  rcases hr with⟨rfl,q⟩|⟨k,hk,rfl,p,u⟩
  .have:(l.reverse.findIdx? λx=>ax x s)=none:=by rw[List.findIdx?_eq_none_iff];intro y hy;rw[List.mem_reverse]at hy;obtain⟨j,hj,rfl⟩:=List.mem_iff_getElem.1 hy;have:=q j hj;rw[List.getElem?_eq_getElem hj]at this;exact this
   rw[this]
  .have:(l.reverse.findIdx? λx=>ax x s)=some (l.length-1-k):=by
    rw[List.findIdx?_eq_some_iff_getElem]
    refine⟨by simp;omega,?_,λj hj=>?_⟩
    .rw[List.getElem_reverse]
     rw[List.getElem?_eq_getElem hk]at p
     have e2:l.length-1-(l.length-1-k)=k:=by omega
     simp only[e2];exact p
    .rw[List.getElem_reverse];have:=u (l.length-1-j) (by omega) (by omega);grind[List.getElem?_eq_getElem,ax]
   grind
 exact⟨⟨_,m,λg2=>.sc _⟩,z⟩
theorem Ue{z:Nat}{args:List AV}{h:AHeap}{v:AV}(e:zV z args=some v):dI Tryz.prog 93 args h (.ret v) h:=by
 refine C0 λg w vs hw hv=>?_
 have go:∀{a:Option Addr}{n c:Nat},vs=[.slice a n c]->n<=c->(∀g2:Gh,g.Le g2->VR g2 v (.slice a n n))->Calls Tryz.prog 93 vs.toArray w λe w'=>(∃x,e=.returned x/\∀g2:Gh,g.Le g2->(∀b i v,w.heap.size<=b->w'.cell? ⟨b,i,none⟩=some v->g2.M b i=some v)->VR g2 v x)/\w.heap.size<=w'.heap.size/\(∀b,b<w.heap.size->w'.heap[b]?=w.heap[b]?)/\w'.tape=w.tape/\w'.os=w.os/\w'.output=w.output:=by intro a n c e1 e2 e3;subst e1;refine(SG a n c e2 w).mono ?_;rintro e w'⟨rfl,rfl⟩;exact⟨⟨_,rfl,λg2 j _=>e3 g2 j⟩,ao _,λ_ _=>rfl,rfl,rfl,rfl⟩
 have emp:∀{a:Option Addr}{z:Nat},∀g2:Gh,g.Le g2->VR g2 (.aN [] z 0 (some 0)) (.slice a 0 0):=λg2 _=>.iQ _ rfl rfl rfl rfl (λk e=>by cases e;rfl)
 unfold zV at e
 split at e
 .obtain⟨u,rfl,hu⟩:=nL hv;cases e;cases hu;grind
 .obtain⟨u,rfl,hu⟩:=nL hv;cases e;cases hu;grind
 .obtain⟨u,rfl,hu⟩:=nL hv;cases e;cases hu with|gG=>grind|gL=>grind|aI h1 h2 h3=>obtain⟨f,q1,q2,q3,m,o⟩:=h3.rK;exact go rfl m λg2 j=>VR.mono j (.aN f q1 q2 q3 (ao _) λk e=>by cases e;rfl)
 .obtain⟨u,rfl,hu⟩:=nL hv;cases e;cases hu;grind
 .obtain⟨u,rfl,hu⟩:=nL hv;cases e;rename_i sz len _;cases hu with|@sl _ _ _ _ _ _ b s c _ hB h1 h2 h3=>have:=Nat.mul_le_mul_right sz h2;exact go rfl h2 λg2 j=>.sl (j.1 _ _ _ hB) (by omega) (ao _) λk hk=>by grind
 .cases e
theorem Xm(hP:ProgOK Tryz.prog):tg Tryz.prog:=by intro f args h v e;have e:tT f args h=some v:=e;unfold tT at e;grind[Xl,R7,Ud,Ue,Ma]
end Go.AI
