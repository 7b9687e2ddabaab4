/- A part of the proof. -/
import Derived.Test.YtkdhoflcgphcjaaGreatDoorPc
set_option linter.all false

namespace Go.AI
open Go
theorem T.shift{β:Type}{Q:β->Prop}{F:Nat->Option β}(h:T F Q):T (λn=>F (n+1)) Q:=by obtain⟨r,⟨m,a⟩,b⟩:=h;exact⟨r,⟨m,λn hn=>a (n+1) (by omega)⟩,b⟩
theorem T.aaV{β:Type}{Q:β->Prop}{F G:Nat->Option β}(h:∀n,F (n+1+1)=G n)(c:T G Q):T F Q:=by obtain⟨r,⟨m,a⟩,b⟩:=c;refine⟨r,⟨m+2,λn hn=>?_⟩,b⟩;obtain⟨k,rfl⟩:∃k,n=k+1+1:=⟨n-2,by omega⟩;grind
theorem ED{a b:ByteArray}(h:(a==b)=true):a=b:=by have h':(a.data==b.data)=true:=h;have:=eq_of_beq h';cases a;simp_all
theorem DB(a:ByteArray):(a==a)=true:=by show(a.data==a.data)=true;simp
structure j6(m:Rows)(c:Nat):Prop where
 nd:(m.map λr=>gS r 0).Nodup
 sz:∀r,r∈m->(gS r 0).size<=1099511627776
 ln:m.length<=c
theorem qi(s:ByteArray)(v:List AV):gS (.sc (.string s)::v) 0=s:=rfl
theorem xQ(s:ByteArray)(v:List AV):∀m:Rows,(∀k,k∈((a6 m s v).map λr=>gS r 0)↔k=s\/k∈(m.map λr=>gS r 0))/\((m.map λr=>gS r 0).Nodup->((a6 m s v).map λr=>gS r 0).Nodup)/\(a6 m s v).length<=m.length+1|[]=>⟨λk=>by simp[a6,qi],λ_=>by simp[a6],by simp[a6]⟩|r::rs=>by obtain⟨h1,h2,h3⟩:=xQ s v rs;unfold a6;cases e:s==gS r 0 with|true=>have e:=ED e;simp_all[List.map_cons,qi,List.mem_cons,kx,List.nodup_cons,refine]|false=>grind[DB,kx,List.nodup_cons,gS,refine]
theorem j6.put{m:Rows}{c:Nat}(h:j6 m c){s:ByteArray}(hs:bd s)(v:List AV):j6 (a6 m s v) (c+1):=by
 obtain⟨h1,h2,h3⟩:=xQ s v m
 refine⟨h2 h.nd,λr hr=>?_,by have:=h.ln;omega⟩
 rcases(h1 (gS r 0)).1 (List.mem_map_of_mem hr)with e|e
 .rw[e];exact hs
 .obtain⟨q,hq,e⟩:=List.mem_map.1 e;rw[<-e];exact h.sz q hq
theorem j6.le{m:Rows}{c d:Nat}(h:j6 m c)(hd:c<=d):j6 m d:=⟨h.nd,h.sz,Nat.le_trans h.ln hd⟩
theorem j6.nil:j6 [] 0:=⟨by simp,by simp,by simp⟩
theorem Jr:∀{x y:List UInt8},jl x y=true->x=y
 |[],[],_=>rfl
 |[],_::_,h=>by simp[jl]at h
 |_::_,[],h=>by simp[jl]at h
 |a::p,b::q,h=>by
  unfold jl at h
  split at h
  .rename_i e;have e:=UInt8.toNat_inj.1 (Nat.eq_of_beq_eq_true e);rw[e,Jr h]
  .cases h
theorem Js{x:List UInt8}:∀{l:List (List UInt8)},rO x l=true->x∈l
 |[],h=>by cases h
 |y::ys,h=>by
  unfold rO at h
  split at h
  .rename_i e;rw[Jr e];exact List.mem_cons_self ..
  .exact List.mem_cons_of_mem _ (Js h)
theorem Jt:∀{l:List (List UInt8)},l.Nodup->oM l=true|[],_=>rfl|x::xs,h=>by unfold oM;rw[List.nodup_cons]at h;cases e:rO x xs with|true=>exact absurd (Js e) h.1|false=>exact Jt h.2
abbrev aw(l:Rows):List ByteArray:=l.map λr=>gS r 0
theorem j6.sort{m:Rows}{c:Nat}(h:j6 m c)(hc:c<=1000):te m=true/\bd (kW m)/\(kW m).length<=c/\∀s,s∈aw (kW m)↔s∈aw m:=by
 have hk:gV m=(m.map λr=>gS r 0).map λs=>s.data.toList:=by unfold gV;rw[List.map_map];rfl
 have hn:(gV m).Nodup:=by rw[hk];exact List.Pairwise.map _ (λa b i e=>i (ByteArray.ext (Array.ext' e))) h.nd
 have hs:∀k,k∈gV m->k.length<=1099511627776:=λk hk=>by obtain⟨r,hr,rfl⟩:=List.mem_map.1 hk;exact h.sz r hr
 have hl:(ia (gV m)).length=m.length:=by rw[(mB _).length_eq];unfold gV;simp
 refine⟨?_,⟨?_,ES λr hr=>?_⟩,?_,λs=>?_⟩
 .unfold te;rw[Jt hn];have h1:((gV m).all λk=>Nat.ble k.length 9223372036854775807)=true:=List.all_eq_true.2 λk hk=>Nat.ble_eq_true_of_le (Nat.le_trans (hs k hk) (by omega));have h2:Nat.ble (m.length*16) 140737488355328=true:=Nat.ble_eq_true_of_le (Nat.le_trans (Nat.mul_le_mul_right 16 h.ln) (by omega));grind
 .unfold kW;rw[List.length_map,hl];have:=h.ln;omega
 .unfold kW at hr;obtain⟨l,hl,rfl⟩:=List.mem_map.1 hr;exact sa (w5 (hs l ((mB _).mem_iff.1 hl))) w4
 .unfold kW;rw[List.length_map,hl];exact h.ln
 .unfold kW aw
  rw[List.map_map]
  constructor
  .intro e;obtain⟨l,hl,rfl⟩:=List.mem_map.1 e;have:=(mB _).mem_iff.1 hl;rw[hk]at this;obtain⟨s,hs,rfl⟩:=List.mem_map.1 this;exact hs
  .intro e;refine List.mem_map.2 ⟨s.data.toList,(mB _).mem_iff.2 ?_,rfl⟩;grind
def eP:Ty->List ByteArray|.int=>[]|.dV s=>[s]|.pair a b=>eP a++eP b|.set a=>eP a
def gv:Ty->Nat|.int=>1|.dV _=>1|.pair a b=>gv a+gv b+1|.set a=>gv a+1
theorem zG:∀{f:Nat}{a:Ty}{w:Bool}{n m:Nat},cy f (enc a) w n=some m->m=n+gv a
 |0,_,_,_,_,h=>by cases h
 |f+1,a,w,n,m,h=>by
  unfold cy at h
  split at h
  .rename_i c
   cases a with
   |int=>cases h;rfl
   |dV s=>cases h;rfl
   |set a=>simp only[enc,List.foldlM_cons,List.foldlM_nil]at h;cases g1:cy f (enc a) true (n+1)with|none=>rw[show ah (aR (enc a)) 0=enc a from rfl,g1]at h;cases h|some m1=>rw[show ah (aR (enc a)) 0=enc a from rfl,g1]at h;cases h;have:=zG g1;unfold gv;omega
   |pair a b=>simp only[enc,List.foldlM_cons,List.foldlM_nil]at h;rw[show ah (aR (enc a)) 0=enc a from rfl,show ah (aR (enc b)) 0=enc b from rfl]at h;cases g1:cy f (enc a) true (n+1)with|none=>rw[g1]at h;cases h|some m1=>rw[g1]at h;cases g2:cy f (enc b) true m1 with|none=>simp only[Option.bind_eq_bind,Option.bind_some,g2]at h;cases h|some m2=>simp only[Option.bind_eq_bind,Option.bind_some,g2]at h;cases h;have:=zG g1;have:=zG g2;unfold gv;omega
  .cases h
theorem MO{a:Ty}(h:dj (enc a)=true):gv a<=16:=by unfold dj at h;cases e:cy 6 (enc a) false 0 with|none=>grind|some m=>have:=zG e;have:=vF e;omega
theorem X7(a:Ty):∀(m:Rows)(c:Nat),bd (enc a)->j6 m c->T (λn=>mh n (enc a) m) λr=>j6 r (c+gv a)/\∀k,k∈aw r↔k∈aw m\/k∈eP a:=by induction a with|int=>intro m c _ hm;exact .step Aq (.neg rfl (.neg rfl (.ret ⟨hm.le (by omega),λk=>by simp[eP]⟩)))|dV s=>intro m c hb hm;exact .step Aq (.pos rfl (.neg rfl (.ret ⟨hm.put (gp _ (cq _ hb)) _,λk=>by rw[(xQ _ _ m).1];simp[eP,enc,or_comm]⟩)))|set a ih=>intro m c hb hm;exact .step Aq (.neg rfl (.pos rfl (.gx rfl (.ask (ih m c (ib hb) hm) λr hr=>.neg rfl (.ret ⟨hr.1.le (by show c+gv a<=c+(gv a+1);omega),hr.2⟩)))))|pair a b j i=>intro m c hb hm;exact .step Aq (.neg rfl (.pos rfl (.gx rfl (.ask (j m c (lY hb).1 hm) λr hr=>.pos rfl (.gx rfl (.ask (i r _ (lY hb).2 hr.1) λq hq=>.neg rfl (.ret ⟨hq.1.le (by grind[gv]),λk=>by rw[hq.2,hr.2];simp[eP,or_assoc]⟩)))))))
theorem MP(a:Ty)(hb:bd (enc a))(hv:dj (enc a)=true):T (λn=>Ba n (enc a)) λl=>bd l/\l.length<=16/\∀s,s∈aw l↔s∈eP a:=by refine .aaV YT (.ask (T.shift (F:=λn=>nM n (enc a)) (tq _ hb)) λx hx=>.neg (by rw[hx];unfold dj at hv;rw[hv];rfl) (.ask (T.shift (F:=λn=>mh n (enc a) []) (X7 a [] 0 hb .nil)) λm hm=>?_));have:=MO hv;obtain⟨i,c,o,j⟩:=hm.1.sort (by omega);exact .pos i (.ret ⟨c,by omega,λs=>by grind⟩)
theorem X8(e:Rows×Rows)(s:ByteArray)(h:e.1.length<=1000):T (λn=>Gu n e s) λb=>b=true↔s∈aw e.1:=by
 refine .step aag (.ask (Q':=λr=>r.1=true↔s∈aw e.1) (.step aaC (.ask (Q':=λr=>(decide (r.1>=0))=true↔s∈aw e.1) (.step aai ?_) λr hr=>.ret hr)) λr hr=>.ret hr)
 refine T.loop (σ:=Unit) (L:=λi _ n=>zB n e.1 (e.1.length:Int) i s) e.1.length (λi _=>s∉aw (e.1.take i)) ?_ ?_ () (by simp)
 .intro _ hs;rw[List.take_length]at hs;exact .step Lm (.neg (by simp) (.ret ⟨(λe=>by simp at e),λe=>absurd e hs⟩))
 .intro i _ hi hs ih
  refine .step Lm (.pos (by simp;omega) (.ab (by omega) (by omega) λr hr=>.ask (Q':=λx=>x=(ax (gS r 0) s,s)) (.step Zo (.ret rfl)) λx hx=>?_))
  subst hx
  have hr:e.1[i]?=some r:=by grind
  refine .ite (λc=>.ret ?_) λc=>?_
  .grind[bS,List.mem_map_of_mem,List.mem_of_getElem?,gS]
  .rw[bA (by omega) (by omega)];refine ih () ?_;grind[List.take_add_one,ur]
theorem MQ(e:Rows×Rows)(s:ByteArray)(h:e.1.length<=1000):T (λn=>Bj n e s) (.=ik (λr=>ax (gS r 0) s) e.1):=.step Zi (.of (CO (J:=λn i=>zs n s i e) (by omega) λn i=>Wn n) rfl)
theorem X9(e:Rows×Rows)(s:ByteArray)(h:e.2.length<=1000):T (λn=>Gp n e s) (.=ik (λr=>ax (gS r 0) s) e.2):=.step aaz (.of (CO (J:=λn i=>zw n s i e) (by omega) λn i=>Wq n) rfl)
theorem vc{l:Rows}{s:ByteArray}:ik (λr=>ax (gS r 0) s) l>=0↔s∈aw l:=by simp_all[Tj,List.any_eq_true,bS,List.mem_map_of_mem]
theorem Ya(e:Rows×Rows)(a:Ty)(h:e.1.length<=1000)(hb:bd (enc a))(hv:dj (enc a)=true):T (λn=>FW n e (enc a)) λb=>b=true↔∀s,s∈eP a->s∈aw e.1:=by
 refine .step aam (.ask (MP a hb hv) λl hl=>.ask (Q':=λr=>(!r.1)=true↔∀s,s∈eP a->s∈aw e.1) (.step Za (.ask (Q':=λr=>(!decide (r.1>=0))=true↔∀s,s∈eP a->s∈aw e.1) (.step aar ?_) λr hr=>.ret hr)) λr hr=>.ret hr)
 obtain⟨h1,h2,h3⟩:=hl
 refine T.loop (σ:=Unit) (L:=λi _ n=>zo n l (l.length:Int) i e) l.length (λi _=>∀s,s∈aw (l.take i)->s∈aw e.1) ?_ ?_ () (by simp)
 .intro _ hs;rw[List.take_length]at hs;exact .step Lq (.neg (by simp) (.ret ⟨λ_ s j=>hs s ((h3 s).2 j),λ_=>rfl⟩))
 .intro i _ hi hs ih
  refine .step Lq (.pos (by simp;omega) (.ab (by omega) (by omega) λr hr=>.ask (Q':=λx=>(x.1=false↔gS r 0∈aw e.1)/\x.2=e) (.step Zm (.ask (X8 e _ h) λb hb=>.ret ⟨by grind,rfl⟩)) λx hx=>?_))
  obtain⟨o,m⟩:=x
  obtain⟨hx,rfl⟩:=hx
  have hr:l[i]?=some r:=by grind
  refine .ite (λc=>.ret ⟨(λq=>by grind),λq=>?_⟩) λc=>?_
  .grind
  .rw[bA (by omega) (by omega)];refine ih () λs j=>?_;grind[List.take_add_one]
theorem Yb(a:Ty):gv a<=100->T (λn=>Be n (enc a)) λl=>aw l=eP a/\l.length<=gv a:=by have c:∀{x:cd}{l:Rows},x.2.2=[]->T (λn=>zm n 0 x l) (.=l):=λ{x l}h=>.step s4 (.neg (by rw[h];rfl) (.ret rfl));induction a with|int=>intro _;exact .step Ar (.neg rfl ((c rfl).mono λr hr=>by rw[hr];exact⟨rfl,by simp⟩))|dV s=>intro _;exact .step Ar (.pos rfl (.ret ⟨rfl,by simp[gv]⟩))|set a ih=>intro hs;unfold gv at hs;refine .step Ar (.neg rfl (.step s4 (.pos rfl (.gx rfl (.ask (ih (by omega)) λl hl=>.fits (by simp;omega) (.step s4 (.neg rfl (.ret ?_))))))));exact⟨by rw[List.nil_append];exact hl.1,by grind[gv]⟩|pair a b j i=>intro hs;unfold gv at hs;refine .step Ar (.neg rfl (.step s4 (.pos rfl (.gx rfl (.ask (j (by omega)) λl hl=>.fits (by simp;omega) (.step s4 (.pos rfl (.gx rfl (.ask (i (by omega)) λq hq=>.fits (by simp;omega) (.step s4 (.neg rfl (.ret ?_))))))))))));refine⟨by simp_all[List.nil_append,List.map_append,aw,eP],by grind[gv]⟩
theorem MR(e:Rows×Rows)(a:Ty)(h:e.1.length<=1000)(hv:dj (enc a)=true):T (λn=>rR n e (enc a)) λb=>b=true↔∀s,s∈eP a->s∈aw e.1:=by
 have m:=MO hv
 refine .step Zt (.ask (Yb a (by omega)) λl hl=>?_)
 obtain⟨h3,h2⟩:=hl
 refine T.loop (σ:=Unit) (L:=λi _ n=>zf n l i e) l.length (λi _=>∀s,s∈aw (l.take i)->s∈aw e.1) ?_ ?_ () (by simp)
 .intro _ hs;rw[List.take_length]at hs;exact .step Lj (.neg (by simp) (.ret ⟨λ_ s j=>hs s (h3▸j),λ_=>rfl⟩))
 .intro i _ hi hs ih
  refine .step Lj (.pos (by simp;omega) (.ab (by omega) (by omega) λr hr=>.ask (MQ e _ h) λx hx=>?_))
  have hr:l[i]?=some r:=by grind
  refine .ite (λc=>.ret ⟨(λq=>by cases q),λq=>?_⟩) λc=>?_
  .have:=vc.2 (q (gS r 0) (h3▸List.mem_map_of_mem (List.mem_of_getElem? hr)));grind
  .have c:=dS c
   rw[bA (by omega) (by omega)]
   refine ih () λs j=>?_
   rw[List.take_add_one,hr,aw,List.map_append,List.mem_append]at j
   rcases j with j|j
   .grind
   .obtain rfl:s=gS r 0:=by grind
    exact vc.1 (by omega)
theorem MS(s:ByteArray)(m:Rows×Rows)(p:Rows)(hm:∀r,r∈m.2->gB (r.drop 1) 0=true):T (λn=>Bm n s m p) λr=>(r.1=false↔s∈aw m.2)/\r.2=(m.1,m.2,p):=by
 have e2:∀r,dy m.2 s=some r->r∈m.2/\gS r 0=s:=λr hr=>by grind[List.mem_of_find?_eq_some,ED,dy,gS]
 refine .step Y6 (.et (λr hr=>.ret ⟨?_,rfl⟩) λhr=>.ret ⟨?_,rfl⟩)
 .grind
 grind[DB,refine,dy]
theorem Yc(a:Ty)(m:Rows×Rows)(hb:bd (enc a))(hv:dj (enc a)=true)(hm:∀r,r∈m.2->gB (r.drop 1) 0=true)(p:Rows):T (λn=>wH n (enc a) m p) λr=>(r.1=true↔∀s,s∈eP a->s∈aw m.2)/\r.2=(m.1,m.2,p):=by
 refine .step Zz (.ask (MP a hb hv) λl hl=>.ask (Q':=λr=>((!r.1)=true↔∀s,s∈eP a->s∈aw m.2)/\r.2=(m.1,m.2,p)) (.step Wc (.ask (Q':=λr=>((!decide (r.1>=0))=true↔∀s,s∈eP a->s∈aw m.2)/\r.2=(m.1,m.2,p)) (.step WG ?_) λr hr=>.ret hr)) λr hr=>.ret hr)
 obtain⟨h1,h2,h3⟩:=hl
 have rest:∀(k:Nat),k<=l.length->(∀s,s∈aw (l.take k)->s∈aw m.2)->T (λn=>uS n l (l.length:Int) (k:Int) m p) λr=>((!decide (r.1>=0))=true↔∀s,s∈eP a->s∈aw m.2)/\r.2=(m.1,m.2,p):=by
  intro k hk o
  have key:∀d i,i+d=l.length->(∀s,s∈aw (l.take i)->s∈aw m.2)->T (λn=>uS n l (l.length:Int) (i:Int) m p) λr=>((!decide (r.1>=0))=true↔∀s,s∈eP a->s∈aw m.2)/\r.2=(m.1,m.2,p):=by
   intro d
   induction d with
   |zero=>intro i e hs;rw[List.take_of_length_le (by omega)]at hs;exact .step Jk (.neg (by simp;omega) (.ret ⟨⟨λ_ s j=>hs s ((h3 s).2 j),λ_=>rfl⟩,rfl⟩))
   |succ d ih=>
    intro i e hs
    refine .step Jk (.pos (by simp;omega) (.ab (by omega) (by omega) λr hr=>.ask (MS _ m p hm) λx hx=>?_))
    obtain⟨w,u⟩:=x
    obtain⟨hx,rfl⟩:=hx
    have hr:l[i]?=some r:=by simp_all
    refine .ite (λc=>.ret ⟨⟨(λq=>by grind),λq=>?_⟩,rfl⟩) λc=>?_
    .grind
    .rw[bA (by omega) (by omega)]
     have:=ih (i+1) (by omega) λs j=>by grind[List.take_add_one]
     grind
  exact key (l.length-k) k (by omega) o
 refine .step SL (.ite (λc=>?_) λc=>.ret ⟨⟨λ_ s j=>?_,λ_=>rfl⟩,rfl⟩)
 .have c:=cW c
  refine .ab (by omega) (by omega) λr hr=>.ask (MS _ m p hm) λx hx=>?_
  obtain⟨w,u⟩:=x
  obtain⟨hx,rfl⟩:=hx
  have hr:l[0]?=some r:=by grind
  refine .ite (λc=>.ret ⟨⟨(λq=>by grind),λq=>?_⟩,rfl⟩) λc=>?_
  .grind
  grind[bA,List.take_add_one]
 grind
abbrev Env:=Rows×Rows
theorem NK{x y:cd}(h:aR x=aR y):x=y:=by grind[ah,aR]
theorem LK{a:Ty}:∀{b:Ty},enc a=enc b->a=b:=by
 induction a with
 |int=>intro b h;cases b<;>first|rfl|cases h
 |dV s=>intro b h;cases b<;>first|(cases h;rfl)|cases h
 |set a ih=>intro b h;cases b with|set b=>have h:[aR (enc a)]=[aR (enc b)]:=congrArg (λx:cd=>x.2.2) h;rw[ih (NK (List.cons.inj h).1)]|_=>cases h
 |pair m j i c=>intro b h;cases b with|pair b1 b2=>have h:[aR (enc m),aR (enc j)]=[aR (enc b1),aR (enc b2)]:=congrArg (λx:cd=>x.2.2) h;grind[List.cons.inj,NK]|_=>cases h
theorem NL{x:cd}(h:dj x=true)(hc:CT x.2.2):∃o,x=aS o:=by
 by_cases h2:x.1=2
 .refine⟨none,?_⟩
  unfold dj at h
  cases e:cy 6 x false 0 with
  |none=>grind
  |some m=>
   unfold cy at e
   split at e
   .rename_i c;have c:=c.2;unfold fa at c;simp only[aZ,Bool.or_eq_true,decide_eq_true_eq,bS]at c;obtain⟨⟨_,h3⟩,h4⟩:=c;rw[if_neg (by omega),if_neg (by omega)]at h3;obtain⟨k,s,ks⟩:=x;simp only at h2 h3 h4;have h5:s=bs []:=h4.elim (λe=>by omega) id;have h6:ks=[]:=List.length_eq_zero_iff.1 (by omega);clear h4 h3;subst h2;subst h6;subst h5;rfl
   .cases e
 .obtain⟨a,ha⟩:=DX h h2 hc;exact⟨some a,ha⟩
theorem Yd(o:KT):T (λn=>rS n (aS o) 2) λb=>b=true↔o=none:=by
 cases o with
 |none=>exact .step Ny (.pos rfl (.ret (by simp)))
 |some a=>
  have key:∀a:Ty,T (λn=>rS n (enc a) 2) (.=false):=by have un:∀{x:cd}{l:Rows},(x.1==2)=false->x.2.2=l->T (λn=>zu n l (l.length:Int) 0 2) (.=(-1,2))->T (λn=>rS n x 2) (.=false):=λ{x l}h hl hj=>.step Ny (.neg h (.ask (Q':=λr=>r.1=false) (.step ZQ (.ask (Q':=(.=(-1,2))) (.step YY (by grind)) λr hr=>.ret (by rw[hr];rfl))) λr hr=>.ret hr));have c:∀{a:Ty},T (λn=>rS n (enc a) 2) (.=false)->T (λn=>Gt n (enc a) 2) (.=(false,2)):=λh=>.step ZY (.ask h λx hx=>.ret (by rw[hx]));intro a;induction a with|int=>exact un rfl rfl (.step qT (.neg rfl (.ret rfl)))|dV s=>exact un rfl rfl (.step qT (.neg rfl (.ret rfl)))|set a ih=>exact un rfl rfl (.step qT (.pos rfl (.gx rfl (.ask (c ih) λx hx=>hx▸.neg rfl (.step qT (.neg rfl (.ret rfl)))))))|pair a b j i=>exact un rfl rfl (.step qT (.pos rfl (.gx rfl (.ask (c j) λx hx=>hx▸.neg rfl (.step qT (.pos rfl (.gx rfl (.ask (c i) λx hx=>hx▸.neg rfl (.step qT (.neg rfl (.ret rfl)))))))))))
  exact(key a).mono λr hr=>by grind
theorem Ye(o:KT):T (λn=>wF n (aS o)) λb=>b=true↔o=none:=by
 cases o with
 |none=>exact .step wa (.pos rfl (.ret (by simp)))
 |some a=>
  have key:∀a:Ty,T (λn=>wF n (enc a)) (.=false):=by intro a;induction a with|int=>exact .step wa (.neg rfl (.step qU (.neg rfl (.ret rfl))))|dV s=>exact .step wa (.neg rfl (.step qU (.neg rfl (.ret rfl))))|set a ih=>exact .step wa (.neg rfl (.step qU (.pos rfl (.gx rfl (.ask ih λx hx=>.neg hx (.step qU (.neg rfl (.ret rfl))))))))|pair a b i c=>exact .step wa (.neg rfl (.step qU (.pos rfl (.gx rfl (.ask i λx hx=>.neg hx (.step qU (.pos rfl (.gx rfl (.ask c λx hx=>.neg hx (.step qU (.neg rfl (.ret rfl))))))))))))
  exact(key a).mono λr hr=>by grind
def dty(x:cd):Prop:=∃a,x=enc a/\dj (enc a)=true
theorem Yf(x:cd)(h:bd x)(hc:CT x.2.2):T (λn=>FV n x) λb=>b=true↔dty x:=by
 refine .step Z0 (.ask (tq x h) λy hy=>.ite (λc=>?_) λc=>.ret ⟨(λe=>by cases e),λ⟨a,e1,e2⟩=>?_⟩)
 .have hv:dj x=true:=by unfold dj;rw[<-hy];exact c
  obtain⟨o,rfl⟩:=NL hv hc
  refine .ask (Yd o) λz hz=>.ret ?_
  cases o with
  |none=>rw[hz.2 rfl];exact⟨(λe=>by cases e),λ⟨a,e,_⟩=>by cases a<;>cases e⟩
  |some a=>
   have:z=false:=by grind
   rw[this];exact⟨λ_=>⟨a,rfl,hv⟩,λ_=>rfl⟩
 simp_all[dj]
def nP(l:Rows):List ByteArray:=l.flatMap λr=>gS r 0::aw (gD r 1)
def dec(e:Env):List ByteArray:=nP e.1++aw e.2
structure VE(e:Env):Prop where
 c:e.1.length<=8
 n:e.2.length<=64
 k:∀r,r∈e.1->ek (gS r 0)=true/\(gD r 1).length<=8/\∀x,x∈gD r 1->ek (gS x 0)=true
 t:∀r,r∈e.2->j4 (gS r 0)=true/\∃a,ah r 1=enc a/\dj (enc a)=true/\∀s,s∈eP a->s∈aw e.1
 d:(dec e).Nodup
theorem gz{α:Type}{l:List α}{i:Nat}{x:α}(h:l[i]?=some x):l.take (i+1)=l.take i++[x]:=by rw[List.take_add_one,h];rfl
theorem IB{α:Type}{l:List α}{x:α}:(l++[x]).Nodup↔l.Nodup/\x∉l:=by grind
theorem lQ{α:Type}{l:List α}{i:Nat}{x:α}{P:α->Prop}(h:l[i]?=some x)(ha:∀y,y∈l.take i->P y)(hx:P x):∀y,y∈l.take (i+1)->P y:=λy hy=>by rw[gz h]at hy;grind
theorem Yg(e:Env)(h:bd e)(h1:e.1.length<=8)(h2:e.2.length<=64)(h3:∀r,r∈e.1->(gD r 1).length<=8):T (λn=>FX n e) λx=>bd x/\aw x=dec e:=by
 have o:=gp e h
 have p:=cq e h
 refine .step YO ?_
 refine T.loop (σ:=Rows) (L:=λi s n=>zb n e.1 (e.1.length:Int) i e s) e.1.length (λi s=>(s.length<=9*i/\aw s=nP (e.1.take i))/\eF 1099511627776 s) ?_ ?_ [] ⟨⟨by simp,rfl⟩,trivial⟩
 .rintro s⟨⟨m,c⟩,j⟩
  rw[List.take_length]at c
  refine .step Ls (.neg (by simp) ?_)
  refine T.loop (σ:=Rows) (L:=λi s n=>zi n e.2 (e.2.length:Int) i s) e.2.length (λi s=>(s.length<=72+i/\aw s=nP e.1++aw (e.2.take i))/\eF 1099511627776 s) ?_ ?_ s ⟨⟨by omega,by grind⟩,j⟩
  .rintro s⟨⟨m,c⟩,j⟩;rw[List.take_length]at c;exact .step Ll (.neg (by simp) (.ret ⟨⟨by omega,j⟩,c⟩))
  .rintro i s hi⟨⟨m,c⟩,j⟩ih
   refine .step Ll (.pos (by simp;omega) (.ab (by omega) (by omega) λr hr=>.fits (by simp;omega) ?_))
   rw[bA (i:=(i:Int)+1) (by omega) (by omega)]
   have hr:e.2[i]?=some r:=by simp_all
   exact ih _ ⟨⟨by simp;omega,by rw[gz hr];simp_all[qi,List.append_assoc,aw]⟩,vh j (ud (sa (w5 (eV (fM p hr) 0)) w4) w6)⟩
 .rintro i s hi⟨⟨m,c⟩,j⟩ih
  refine .step Ls (.pos (by simp;omega) (.ab (by omega) (by omega) λr hr=>?_))
  have q:=h3 r (List.mem_of_getElem? hr)
  refine .fits (by simp;omega) (.fits (by simp;omega) ?_)
  rw[bA (i:=(i:Int)+1) (by omega) (by omega)]
  have hr:e.1[i]?=some r:=by simp_all
  exact ih _ ⟨⟨by simp;omega,by rw[gz hr];simp[aw,qi,nP]at c⊢;rw[c]⟩,vh (vh j (ud (sa (w5 (eV (fM o hr) 0)) w4) w6)) (fN (fM o hr) 1).2⟩
theorem uW(m:Rows)(s k:ByteArray)(v:List AV):dy (a6 m s v) k=if k=s then some (.sc (.string s)::v)else dy m k:=by
 have e2:∀a b:ByteArray,(a==b)=decide (a=b):=λa b=>by rw[Bool.eq_iff_iff,decide_eq_true_iff];exact⟨ED,λh=>h▸DB a⟩
 induction m with|nil=>grind[qi,dy,a6]|cons r rs ih=>grind[decide_true,qi,decide_false,a6,gS,dy]
theorem Yh(a0)(h0:bd a0):T (λn=>FY n a0) λb=>b=true↔(aw a0).Nodup:=by
 have hl:=jv h0
 refine .step Y9 ?_
 refine T.loop (σ:=Rows) (L:=λi s n=>zd n a0 (a0.length:Int) i s) a0.length (λi s=>(aw (a0.take i)).Nodup/\∀k,(k∈aw (a0.take i)->dy s k=some [.sc (.string k),.sc (.bool true)])/\(k∉aw (a0.take i)->dy s k=none)) ?_ ?_ [] ⟨by simp,λk=>⟨by simp,λ_=>rfl⟩⟩
 .rintro s⟨h,_⟩;rw[List.take_length]at h;exact .step Lw (.neg (by simp) (.ret (by simp[h])))
 .rintro i s hi⟨h1,h2⟩ih
  refine .step Lw (.pos (by simp;omega) (.ab (by omega) (by omega) λr hr=>?_))
  have hr:a0[i]?=some r:=by grind
  have e:aw (a0.take (i+1))=aw (a0.take i)++[gS r 0]:=by rw[gz hr];simp
  by_cases hm:gS r 0∈aw (a0.take i)
  .refine .et (λv hv=>?_) (λhv=>?_)
   .rw[(h2 _).1 hm]at hv;obtain rfl:=Option.some.inj hv;refine .pos rfl (.ret ⟨(λe=>by cases e),λhn=>?_⟩);grind[List.map_take,List.take_sublist,IB]
   grind
  .refine .et (λv hv=>by grind) (λhv=>.step VY ?_);rw[bA (i:=(i:Int)+1) (by omega) (by omega)];refine ih _ ⟨by grind,λk=>?_⟩;grind[uW,gS]
theorem UK(a0:Rows)(h0:bd a0)(hl:a0.length<=100000):T (λn=>vn n a0 0) λb=>b=true↔(aw a0).Nodup:=by
 refine T.loop (σ:=Unit) (L:=λi _ n=>vn n a0 i) a0.length (λi _=>(aw (a0.take i)).Nodup) ?_ ?_ () (by simp)
 .intro _ h;rw[List.take_length]at h;exact .step LA (.neg (by simp) (.ret (by simp[h])))
 .intro i _ hi h ih
  refine .step LA (.pos (by simp;omega) (.ab (by omega) (by omega) λr hr=>.jV ⟨by omega,by omega,by omega⟩ (.ask (MD _ _ (by simp;omega)) λx hx=>?_)))
  have hr:a0[i]?=some r:=by simp_all
  have e:aw (a0.take (i+1))=aw (a0.take i)++[gS r 0]:=by rw[gz hr];simp
  have e2:((a0.drop (0:Int).toNat).take ((i:Int).toNat-(0:Int).toNat))=a0.take i:=by simp
  rw[e2]at hx
  have hm:x=true↔gS r 0∈aw (a0.take i):=by grind[List.any_eq_true,bS,List.mem_map_of_mem]
  refine .ite (λc=>.ret ⟨(λq=>by cases q),λhn=>?_⟩) λc=>?_
  .grind
  .rw[bA (i:=(i:Int)+1) (by omega) (by omega)];simp_all[IB]
def nQ(l:Rows):List ByteArray:=l.flatMap λr=>aw (gD r 1)
theorem UL(l:Rows):(nP l).Perm (aw l++nQ l):=by
 induction l with
 |nil=>exact .refl _
 |cons r l ih=>
  have e1:nP (r::l)=gS r 0::(aw (gD r 1)++nP l):=by simp[nP]
  have e2:aw (r::l)++nQ (r::l)=gS r 0::(aw l++(aw (gD r 1)++nQ l)):=by simp[aw,nQ]
  rw[e1,e2];refine .cons _ ((List.Perm.append_left _ ih).trans ?_);grind[List.append_assoc,List.Perm.append_right,List.perm_append_comm]
theorem Yi(e:Env)(h:bd e)(h1:e.1.length<=8)(h2:e.2.length<=64)(h3:∀r,r∈e.1->(gD r 1).length<=8):T (λn=>F2 n e) λx=>(bd x/\x.length<=1000)/\aw x=aw e.1++nQ e.1++aw e.2:=by
 have o:=gp e h
 have p:=cq e h
 have one:∀{l:Rows}{i:Nat}{r:List AV}{s:Rows},bd l->l[i]?=some r->eF 1099511627776 s->eF 1099511627776 (s++[[.sc (.string (gS r 0))]]):=λhl hr hs=>vh hs (ud (sa (w5 (eV (fM hl hr) 0)) w4) w6)
 refine .step ZL ?_
 refine T.loop (σ:=Rows) (L:=λi s n=>zg n i e s) e.1.length (λi s=>(s.length<=i/\aw s=aw (e.1.take i))/\eF 1099511627776 s) ?_ ?_ [] ⟨⟨by simp,rfl⟩,trivial⟩
 .rintro s⟨⟨m,c⟩,j⟩
  rw[List.take_length]at c
  refine .step Ln (.neg (by simp) ?_)
  refine T.loop (σ:=Rows) (L:=λi s n=>zn n i e s) e.1.length (λi s=>(s.length<=8+8*i/\aw s=aw e.1++nQ (e.1.take i))/\eF 1099511627776 s) ?_ ?_ s ⟨⟨by omega,by simpa[nQ]using c⟩,j⟩
  .rintro s⟨⟨m,c⟩,j⟩
   rw[List.take_length]at c
   refine .step Lu (.neg (by simp) ?_)
   refine T.loop (σ:=Rows) (L:=λi s n=>zt n i e s) e.2.length (λi s=>(s.length<=72+i/\aw s=aw e.1++nQ e.1++aw (e.2.take i))/\eF 1099511627776 s) ?_ ?_ s ⟨⟨by omega,by grind⟩,j⟩
   .rintro s⟨⟨m,c⟩,j⟩;rw[List.take_length]at c;exact .step LB (.neg (by simp) (.ret ⟨⟨⟨by omega,j⟩,by omega⟩,c⟩))
   .rintro i s hi⟨⟨m,c⟩,j⟩ih
    refine .step LB (.pos (by simp;omega) (.ab (by omega) (by omega) λr hr=>.fits (by simp;omega) ?_))
    rw[bA (i:=(i:Int)+1) (by omega) (by omega)]
    have hr:e.2[i]?=some r:=by simp_all
    exact ih _ ⟨⟨by simp;omega,by rw[gz hr,aw,List.map_append,<-aw,c];simp[aw,qi]⟩,one p hr j⟩
  .rintro i s hi⟨⟨m,c⟩,j⟩ih
   refine .step Lu (.pos (by simp;omega) (.ab (by omega) (by omega) λr hr=>?_))
   have q:=h3 r (List.mem_of_getElem? hr)
   refine .fits (by omega) ?_
   rw[bA (i:=(i:Int)+1) (by omega) (by omega)]
   have hr:e.1[i]?=some r:=by simp_all
   exact ih _ ⟨⟨by simp;omega,by rw[gz hr,aw,List.map_append,<-aw,c];simp[aw,nQ]⟩,vh j (fN (fM o hr) 1).2⟩
 .rintro i s hi⟨⟨m,c⟩,j⟩ih
  refine .step Ln (.pos (by simp;omega) (.ab (by omega) (by omega) λr hr=>.fits (by simp;omega) ?_))
  rw[bA (i:=(i:Int)+1) (by omega) (by omega)]
  have hr:e.1[i]?=some r:=by simp_all
  exact ih _ ⟨⟨by simp;omega,by rw[gz hr,aw,List.map_append,<-aw,c];simp[aw,qi]⟩,one o hr j⟩
def CE(e:Env):Prop:=∀r,r∈e.2->CT (gD r 3)
theorem Av(e:Env)(h:bd e)(hc:CE e):T (λn=>sj n e) λb=>b=true↔VE e:=by
 have o:=gp e h
 have m:=cq e h
 have I:=jv o
 have G:=jv m
 have no:(VE e->False)->T (λn=>(some false:Option Bool)) λb=>b=true↔VE e:=λh=>.ret ⟨(λe=>by cases e),λv=>(h v).elim⟩
 have nd:∀{b c:Bool},b=c->(!b)=true->c=true->False:=λh c h'=>by grind
 refine .step ab0 (.ite (λc=>no λv=>by have:=cW c;have:=v.c;omega) (λc1=>.ite (λc=>no λv=>by have:=cW c;have:=v.n;omega) (λc2=>?_)))
 have c1:=dS c1
 have c2:=dS c2
 refine T.loop (σ:=Unit) (L:=λi _ n=>Ab n e.1 (e.1.length:Int) i e) e.1.length (λi _=>∀r,r∈e.1.take i->ek (gS r 0)=true/\(gD r 1).length<=8/\∀x,x∈gD r 1->ek (gS x 0)=true) ?_ ?_ () (by simp)
 .intro _ hk
  rw[List.take_length]at hk
  refine .step My (.neg (by simp) ?_)
  refine T.loop (σ:=Unit) (L:=λi _ n=>Ag n e.2 (e.2.length:Int) i e) e.2.length (λi _=>∀r,r∈e.2.take i->j4 (gS r 0)=true/\∃a,ah r 1=enc a/\dj (enc a)=true/\∀s,s∈eP a->s∈aw e.1) ?_ ?_ () (by simp)
  .intro _ ht;rw[List.take_length]at ht;exact .step Mx (.neg (by simp) (.ask (Yg e h (by omega) (by omega) λr hr=>(hk r hr).2.1) λx hx=>.ask (Yh _ hx.1) λb hb=>.ret (by rw[hb,hx.2];exact⟨λd=>⟨by omega,by omega,hk,ht,d⟩,λv=>v.d⟩)))
  .intro i _ hi ht ih
   refine .step Mx (.pos (by simp;omega) (.ab (by omega) (by omega) λr hr=>?_))
   have hr:e.2[i]?=some r:=by grind
   have hm:=List.mem_of_getElem? hr
   have w:bd (ah r 1):=⟨trivial,eV (fM m hr) 2,fN (fM m hr) 3⟩
   refine .ask (XT _ (eV (fM m hr) 0)) λE u=>.ite (λc=>no λv=>nd u c (v.t r hm).1) λd1=>.ask (Yf _ w (hc r hm)) λD p=>.ite (λc=>no λv=>?_) λd2=>?_
   .obtain⟨_,a,h1,h2,_⟩:=v.t r hm;rw[p.2 ⟨a,h1,h2⟩]at c;cases c
   .obtain⟨a,h1,h2⟩:=p.1 (cF d2)
    rw[h1]at w⊢
    refine .ask (Ya e a (by omega) w h2) λK F=>.ite (λc=>no λv=>?_) λd3=>?_
    .obtain⟨_,a',J,_,h3⟩:=v.t r hm;grind[LK,enc]
    .rw[bA (i:=(i:Int)+1) (by omega) (by omega)];exact ih () (lQ hr ht ⟨u▸cF d1,a,h1,h2,F.1 (cF d3)⟩)
 .intro i _ hi hk ih
  refine .step My (.pos (by simp;omega) (.ab (by omega) (by omega) λr hr=>?_))
  have hr:e.1[i]?=some r:=by grind
  have hm:=List.mem_of_getElem? hr
  refine .ask (tj _ (eV (fM o hr) 0)) λE u=>.ite (λc=>no λv=>nd u c (v.k r hm).1) (λd1=>.ite (λc=>no λv=>by have:=cW c;have:=(v.k r hm).2.1;omega) (λc=>?_))
  have c:=dS c
  have C:(gD r 1).length<=8:=by omega
  refine T.loop (σ:=Unit) (L:=λj _ n=>Af n e.1 (e.1.length:Int) (i:Int) (gD r 1) ((gD r 1).length:Int) j e) (gD r 1).length (λj _=>∀x,x∈(gD r 1).take j->ek (gS x 0)=true) ?_ ?_ () (by simp)
  .intro _ h3;rw[List.take_length]at h3;refine .step Mu (.neg (by simp) ?_);rw[bA (i:=(i:Int)+1) (by omega) (by omega)];exact ih () (lQ hr hk ⟨u▸cF d1,C,h3⟩)
  .intro j _ hj h3 z
   refine .step Mu (.pos (by simp;omega) (.ab (by omega) (by omega) λq hq=>?_))
   have hq:(gD r 1)[j]?=some q:=by grind
   refine .ask (tj _ (eV (fM (fN (fM o hr) 1) hq) 0)) λD p=>.ite (λc=>no λv=>nd p c ((v.k r hm).2.2 q (List.mem_of_getElem? hq))) (λd2=>?_);rw[bA (i:=(j:Int)+1) (by omega) (by omega)];exact z () (lQ hq h3 (p▸cF d2))
theorem Aw(e:Env)(h:bd e)(hc:CE e):T (λn=>B5 n e) λb=>b=true↔VE e:=by
 have p:=gp e h
 have m:=cq e h
 have M:=jv p
 have K:=jv m
 have no:(VE e->False)->T (λn=>(some false:Option Bool)) λb=>b=true↔VE e:=λh=>.ret ⟨(λe=>by cases e),λv=>(h v).elim⟩
 have nd:∀{b c:Bool},b=c->(!b)=true->c=true->False:=λh c h'=>by grind
 refine .step ab1 (.ite (λc=>no λv=>by have:=cW c;have:=v.c;omega) (λc1=>.ite (λc=>no λv=>by have:=cW c;have:=v.n;omega) (λc2=>?_)))
 have c1:=dS c1
 have c2:=dS c2
 refine T.loop (σ:=Unit) (L:=λi _ n=>Ad n i e) e.1.length (λi _=>∀r,r∈e.1.take i->ek (gS r 0)=true/\(gD r 1).length<=8/\∀x,x∈gD r 1->ek (gS x 0)=true) ?_ ?_ () (by simp)
 .intro _ hk
  rw[List.take_length]at hk
  refine .step Mz (.neg (by simp) ?_)
  refine T.loop (σ:=Unit) (L:=λi _ n=>Ai n i e) e.2.length (λi _=>∀r,r∈e.2.take i->j4 (gS r 0)=true/\∃a,ah r 1=enc a/\dj (enc a)=true/\∀s,s∈eP a->s∈aw e.1) ?_ ?_ () (by simp)
  .intro _ ht
   rw[List.take_length]at ht
   refine .step Mp (.neg (by simp) (.ask (Yi e h (by omega) (by omega) λr hr=>(hk r hr).2.1) λx hx=>(UK x hx.1.1 (by omega)).mono λb hb=>?_))
   have hp:(dec e).Nodup↔(aw x).Nodup:=by rw[hx.2];exact((UL e.1).append_right (aw e.2)).nodup_iff
   rw[hb,<-hp];exact⟨λd=>⟨by omega,by omega,hk,ht,d⟩,λv=>v.d⟩
  .intro i _ hi ht ih
   refine .step Mp (.pos (by simp;omega) (.ab (by omega) (by omega) λr hr=>?_))
   have hr:e.2[i]?=some r:=by grind
   have hm:=List.mem_of_getElem? hr
   have E:bd (ah r 1):=⟨trivial,eV (fM m hr) 2,fN (fM m hr) 3⟩
   refine .ask (MF _ (eV (fM m hr) 0)) λG u=>.ite (λc=>no λv=>nd u c (v.t r hm).1) λd1=>.ask (Ew _ E) λF w=>.ite (λc=>no λv=>?_) λd2=>?_
   .obtain⟨_,a,h1,h2,_⟩:=v.t r hm;grind
   .have hv:dj (ah r 1)=true:=w▸cF d2
    obtain⟨o,ho⟩:=NL hv (hc r hm)
    rw[ho]at E hv⊢
    refine .ask (Ye o) λN J=>.ite (λc=>no λv=>?_) λd3=>?_
    .obtain⟨_,a,h1,_⟩:=v.t r hm;rw[J.1 c]at ho;rw[ho]at h1;cases a<;>cases h1
    .cases o with
     |none=>grind
     |some a=>
      refine .ask (MR e a (by omega) hv) λx4 I=>.ite (λc=>no λv=>?_) λd4=>?_
      .obtain⟨_,a',D,_,h3⟩:=v.t r hm;have:enc a=enc a':=ho.symm.trans D;grind[LK]
      .rw[bA (i:=(i:Int)+1) (by omega) (by omega)];exact ih () (lQ hr ht ⟨u▸cF d1,a,ho,hv,I.1 (cF d4)⟩)
 .intro i _ hi hk ih
  refine .step Mz (.pos (by simp;omega) (.ab (by omega) (by omega) λr hr=>?_))
  have hr:e.1[i]?=some r:=by grind
  have hm:=List.mem_of_getElem? hr
  refine .ask (tk _ (eV (fM p hr) 0)) λG u=>.ite (λc=>no λv=>nd u c (v.k r hm).1) (λd1=>.ite (λc=>no λv=>by have:=cW c;have:=(v.k r hm).2.1;omega) (λc=>?_))
  have c:=dS c
  have C:(gD r 1).length<=8:=by omega
  refine T.loop (σ:=Unit) (L:=λj _ n=>Ah n (i:Int) j e (gS r 0,gD r 1)) (gD r 1).length (λj _=>∀x,x∈(gD r 1).take j->ek (gS x 0)=true) ?_ ?_ () (by simp)
  .intro _ h3;rw[List.take_length]at h3;refine .step Mn (.neg (by simp) ?_);rw[bA (i:=(i:Int)+1) (by omega) (by omega)];exact ih () (lQ hr hk ⟨u▸cF d1,C,h3⟩)
  .intro j _ hj h3 z
   refine .step Mn (.pos (by simp;omega) (.ab (by omega) (by simp;omega) λq hq=>?_))
   have hq:(gD r 1)[j]?=some q:=by grind
   refine .ask (tk _ (eV (fM (fN (fM p hr) 1) hq) 0)) λF w=>.ite (λc=>no λv=>nd w c ((v.k r hm).2.2 q (List.mem_of_getElem? hq))) (λd2=>?_);rw[bA (i:=(j:Int)+1) (by omega) (by omega)];exact z () (lQ hq h3 (w▸cF d2))
end Go.AI
