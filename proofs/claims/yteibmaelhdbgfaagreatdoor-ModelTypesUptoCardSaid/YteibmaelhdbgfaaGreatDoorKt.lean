/- A part of the proof. -/
import Derived.Test.YteibmaelhdbgfaaGreatDoorKn
import Derived.Test.YteibmaelhdbgfaaGreatDoorKh
import Derived.Test.YteibmaelhdbgfaaGreatDoorL
set_option linter.all false

namespace Go.AI
open Go Go.Proofs Go.RowKit
theorem Wj{args:List AV}{h:AHeap}{v:AV}(e:uo 281 h args=some v):fc Tryz.prog 180 args h (.ret v) h:=by
 unfold uo at e
 split at e
 case h_2=>cases e
 rename_i g0 x
 split at e
 case h_2=>cases e
 rename_i hf
 obtain rfl:g0=281:=Nat.eq_of_beq_eq_true hf
 unfold B8 at e
 split at e
 case h_2=>cases e
 rename_i o ver n
 split at e
 case h_2=>cases e
 rename_i x R
 unfold HC at e
 split at e
 case h_2=>cases e
 rename_i m
 split at e
 case h_2=>cases e
 rename_i es cl hm
 split at e
 case h_2=>cases e
 rename_i ks T
 obtain⟨hk,rfl⟩:=Px e
 unfold CH at hk
 simp only[bB]at hk
 obtain⟨⟨⟨c1,c2⟩,c3⟩,c4⟩:=hk
 refine Li λg w vs hw hv=>?_
 obtain⟨v0,rfl,O⟩:=B9 hv
 obtain⟨a',c',rfl,ha,L⟩:=VR.rA.1 O
 obtain rfl:a'=#[]:=by obtain⟨l⟩:=a';cases l with|nil=>rfl|cons _ _=>exact ha.elim
 obtain⟨l⟩:=c'
 obtain⟨p,rfl,hp⟩:=B9 L
 cases hp with
 |ref hB=>
  rename_i b s
  obtain⟨us,q1,q2,q3,q4,q5⟩:=nA hw R hB
  obtain⟨u,rfl,hu⟩:=B9 q1
  cases hu with
  |map Y=>
   rename_i mb s2 n2
   have F:=q3 0 _ rfl
   obtain⟨N,z1,Z⟩:=hw.obj m _ hm mb s2 n2 Y
   obtain⟨k1,k2⟩:=LJ T Z
   obtain⟨b1,b2,_⟩:=LI c2 Z
   have Q:MapKept.Stamped N cl:=by refine⟨b1,b2,?_⟩;rw[k1];exact List.pairwise_map.2 ((Kk c1).imp λ{a b}S e2=>S (encStr_inj e2))
   refine(Tryz.Ll w b mb N cl ks (hw.ei _ _ _ _ _ hB) F z1 Q k1 (λk hk=>Nat.le_of_ble_eq_true (List.all_eq_true.1 c3 k hk)) (Nat.le_of_ble_eq_true c4)).mono ?_
   rintro ee w'⟨v,rfl,J,K,z⟩
   refine⟨⟨v,rfl,λg2 hle hM=>?_⟩,z.size,z.block,z.tape,z.os,z.output⟩
   cases ks with
   |nil=>obtain rfl:=K.2 rfl;exact .sc _
   |cons I D=>
    obtain⟨r0,r1⟩:=J
    rcases r1 with⟨_,r1⟩|⟨gb,cap,M,rfl,U,V,hn,X,akG,E⟩
    .simp at r1
    .have hl:((j1 (I::D)).map bs).length=(I::D).length:=by rw[List.length_map,(ru _).length_eq]
     have:=Xa (g2:=g2) (l:=(j1 (I::D)).map bs) (b:=gb) (c:=cap) (by rw[hl];exact hn) λi s hi=>by
      refine hM gb i _ U ?_
      rw[List.getElem?_map]at hi
      cases hx:(j1 (I::D))[i]? with
      |none=>rw[hx]at hi;cases hi
      |some x=>
       rw[hx]at hi
       have hi:bs x=s:=Option.some.inj hi
       subst hi
       rw[Xt]at E
       have h2:(M.toList.take ((I::D).length*1))[i]?=some (encStr x):=by rw[E,List.getElem?_map,hx];rfl
       rw[List.getElem?_take]at h2
       split at h2
       .unfold World.cell?
        simp only[V]
        have h3:M[i]?=some (encStr x):=by simpa using h2
        simpa using h3
       .cases h2
     rw[hl]at this;rw[List.map_map]at this;exact this
theorem Yu{args:List AV}{h:AHeap}{v:AV}(e:vu h args=some v):fc Tryz.prog 432 args h (.ret v) h:=by
 unfold vu at e
 split at e
 case h_2=>cases e
 rename_i x s
 split at e
 case h_2=>cases e
 rename_i l hl
 obtain⟨hok,rfl⟩:=Px e
 have hok:=Nat.le_of_ble_eq_true hok
 refine Yq λg w vs hw hv=>?_
 obtain⟨v1,J,rfl,h1,h2⟩:=aiD hv
 cases h2
 obtain⟨a,c,rfl,_,ht⟩:=Wg hw hl h1
 have I:cw.nu w.heap.size w a l:=by
  rcases ht with rfl|⟨bk,o,rfl,hb,hc⟩
  .exact .inl rfl
  .exact .inr ⟨bk,o,rfl,hb,λj hj=>by rw[hc j l[j] (List.getElem?_eq_getElem hj),List.getElem?_eq_getElem hj];rfl⟩
 refine(callsIn_wide.1 (cw.abl Fence.wide 3 trivial trivial trivial rfl (aC _) a c s l hok w I)).mono ?_
 rintro ee w'⟨hr,hb⟩
 have F:w.heap.size<=w'.heap.size/\(∀b,b<w.heap.size->w'.heap[b]?=w.heap[b]?)/\w'.tape=w.tape/\w'.os=w.os/\w'.output=w.output:=⟨hb.size,hb.block,hb.tape,hb.os,hb.output⟩
 have hval:ee=.returned (.int .i64 (vt l s)):=by
  unfold vt
  rcases hr with⟨rfl,D⟩|⟨k,hk,rfl,z,E⟩
  .have:(l.reverse.findIdx? λx=>ay x s)=none:=by rw[List.findIdx?_eq_none_iff];intro y hy;rw[List.mem_reverse]at hy;obtain⟨j,hj,rfl⟩:=List.mem_iff_getElem.1 hy;have:=D j hj;rw[List.getElem?_eq_getElem hj]at this;exact this
   rw[this]
  .have:(l.reverse.findIdx? λx=>ay x s)=some (l.length-1-k):=by
    rw[List.findIdx?_eq_some_iff_getElem]
    refine⟨by simp;omega,?_,λj hj=>?_⟩
    .rw[List.getElem_reverse]
     rw[List.getElem?_eq_getElem hk]at z
     have e2:l.length-1-(l.length-1-k)=k:=by omega
     simp only[e2];exact z
    .rw[List.getElem_reverse];have:=E (l.length-1-j) (by omega) (by omega);rw[List.getElem?_eq_getElem (by omega)]at this;have this:ay l[l.length-1-j] s=false:=this;rw[this];simp
   rw[this]
   have:(l.length:Int)-1-((l.length-1-k:Nat):Int)=k:=by omega
   simp only[this]
 exact⟨⟨_,hval,λg2=>.sc _⟩,F⟩
theorem Pz(hP:ProgOK Tryz.prog):sk Tryz.prog:=by
 intro f args h v e
 have e:sV f args h=some v:=e
 unfold sV at e
 split at e
 .unfold Py at e
  split at e
  .cases e;exact acA hP h
  .cases e
 .exact Wj e
 .exact Yu e
 .cases e
end Go.AI
