/-
  A part of the proof: KnC.
-/
import Derived.Lib.SplitLaws
import Derived.Test.YtidicphjlgjajaaGreatDoorKn
import Derived.Test.YtidicphjlgjajaaGreatDoorKe
import Derived.Test.YtidicphjlgjajaaGreatDoorL
set_option linter.all false

namespace Go.AI
open Go Go.Proofs Go.RowKit
set_option linter.all false
theorem Ga{g:Gh}{x:AV}{vs:List Value}(h:aE g [x] vs):∃v,vs=[v]/\VR g x v:=by cases vs with|nil=>exact h.elim|cons v vs=>cases vs with|nil=>exact⟨v,rfl,h.1⟩|cons _ _=>exact h.2.elim
theorem NY{g:Gh}{x y:AV}{vs:List Value}(h:aE g [x,y] vs):∃v u,vs=[v,u]/\VR g x v/\VR g y u:=by cases vs with|nil=>exact h.elim|cons v vs=>obtain⟨u,rfl,b⟩:=Ga h.2;exact⟨v,u,rfl,h.1,b⟩
theorem Xz{g:Gh}{x:Value}{vs:List Value}(h:aE g [.sc x] vs):vs=[x]:=by obtain⟨v,rfl,h1⟩:=Ga h;cases h1;rfl
theorem XA{g:Gh}{x y:Value}{vs:List Value}(h:aE g [.sc x,.sc y] vs):vs=[x,y]:=by obtain⟨v,u,rfl,h1,h2⟩:=NY h;cases h1;cases h2;rfl
theorem vv{f:FuncId}{az:List Value}{y:AV}{h:AHeap}{V:World->Value->Prop}(c:∀w x g2,V w x->VR g2 y x)(hc:∀w:World,te w->Calls Tryz.prog f az.toArray w λe w'=>(∃x,e=.returned x/\V w x)/\Below w.heap.size w w'):
 dq Tryz.prog f (az.map .sc) h (.ret y) h:=by
 refine Dw λg w vs hw hv=>?_
 have e:vs=az:=by
  clear hc
  induction az generalizing vs with
  |nil=>cases vs with|nil=>rfl|cons _ _=>exact hv.elim
  |cons a az ih=>cases vs with|nil=>exact hv.elim|cons v vs=>have h1:VR g (.sc a) v:=hv.1;cases h1;rw[ih vs hv.2]
 subst e;refine(hc w λb p hb=>(hw.gl b p hb).1).mono ?_;rintro e w'⟨⟨x,rfl,hx⟩,hb⟩;exact⟨⟨x,rfl,λg2=>c w x g2 hx⟩,hb.size,hb.block,hb.tape,hb.os,hb.output⟩
theorem Dy{w:World}{b:Nat}{p:Array Value->Prop}(h:rV w b p):∃cs,p cs/\w.cell? ⟨b,0,none⟩=cs[0]?:=by obtain⟨cs,x,y,h1,h2,h3⟩:=h;refine⟨cs,h3,?_⟩;unfold World.cell?;simp[h1]
theorem HH{w:World}(h:te w):∃m,w.cell? ⟨0,0,none⟩=some (.int .i64 m):=by obtain⟨cs,⟨m,h1⟩,h2⟩:=Dy (h 0 _ rfl);exact⟨m,h2.trans h1⟩
noncomputable def Gb(f:FuncId)(args:List AV):Option ByteArray:=match(E8 Tryz.prog 200).call .normal f args .none h0 with|some (.ret (.sc (.string s)),.none,_)=>some s|_=>none
theorem VM(hP:cZ Tryz.prog){f:FuncId}{args:List AV}{s:ByteArray}(hr:Gb f args=some s)(ha:ej args=true)(h:AHeap):dq Tryz.prog f args h (.ret (.sc (.string s))) h:=by
 unfold Gb at hr
 split at hr
 .rename_i s' h1 e;cases hr;exact H4 (n:=1) ((Lt hP 200).call _ _ _ _ _ _ e) ha rfl h
 .cases hr
theorem RI:(List.range 57).map (λi:Nat=>Gb 175 [.sc (.int .i64 (i:Int))])=(List.range 57).map λi:Nat=>some (dt (i:Int)):=by kernel_rfl
theorem QU(hP:cZ Tryz.prog){n:Int}(hn:yC n=true)(h:AHeap):dq Tryz.prog 175 [.sc (.int .i64 n)] h (.ret (.sc (.string (dt n)))) h:=by
 have hn:=dP hn
 obtain⟨m,rfl⟩:∃m:Nat,n=(m:Int):=⟨n.toNat,by omega⟩
 have hm:m<57:=by omega
 have:=congrArg (.[m]?) RI;simp only[List.getElem?_map,List.getElem?_range hm,Option.map_some,ab]at this;exact VM hP this rfl h
theorem RJ{x:AV}{s:ByteArray}{l:List ByteArray}{h:AHeap}(hr:uY h x=some l)(h1:l.length<=140737488355328)(h2:(Lib.join (l.map (·.data.toList)) s.data.toList).length<=140737488355328):
 dq Tryz.prog 67 [x,.sc (.string s)] h (.ret (.sc (.string (bs (Lib.join (l.map (·.data.toList)) s.data.toList))))) h:=by
 refine Dw λg w vs hw hv=>?_
 obtain⟨v,u,rfl,i,f⟩:=NY hv
 cases f
 obtain⟨a,c,rfl,j,b⟩:=QR hw hr i
 rcases b with rfl|⟨bk,o,rfl,k,hc⟩
 .refine(Tryz.strings_Join_none a c s w).mono ?_;rintro e w'⟨rfl,rfl⟩;exact⟨⟨_,rfl,λ_=>.sc _⟩,ak _,λ_ _=>rfl,rfl,rfl,rfl⟩
 .refine(Tryz.strings_Join bk o c l s w hc k h1 j h2).mono ?_;rintro e w'⟨rfl,hb⟩;exact⟨⟨_,rfl,λ_=>.sc _⟩,hb.size,hb.block,hb.tape,hb.os,hb.output⟩
theorem L9(l:List UInt8):∀c,Lib.repeatL l c=cQ c l|0=>rfl|c+1=>by rw[Lib.repeatL,cQ,L9 l c]
theorem zP{f:FuncId}{az:List Value}{y:Value}{h:AHeap}(hc:∀w:World,te w->Calls Tryz.prog f az.toArray w λe w'=>e=.returned y/\Below w.heap.size w w'):dq Tryz.prog f (az.map .sc) h (.ret (.sc y)) h:=vv (V:=λ_ x=>x=y) (λ_ _ _ e=>e▸.sc _) λw hg=>(hc w hg).mono λ_ _⟨c,b⟩=>⟨⟨_,c,rfl⟩,b⟩
theorem SZ{s:ByteArray}{n:Int}(hn:sk s n=true)(h:AHeap):dq Tryz.prog 26 [.sc (.string s),.sc (.int .i64 n)] h (.ret (.sc (.string (oG s n)))) h:=by
 obtain⟨h0,h1,h2⟩:=dP hn
 obtain⟨c,rfl⟩:∃m:Nat,n=(m:Int):=⟨n.toNat,by omega⟩
 have h2:s.size*c<=140737488355328:=by rw[Nat.mul_comm];rw[<-Int.natCast_mul]at h2;omega
 refine zP (az:=[.string s,.int .i64 c]) λw _=>(Tryz.strings_Repeat s c w (by omega) h2).mono ?_;rintro e w'⟨rfl,hb⟩;exact⟨by rw[L9];rfl,hb⟩
theorem RL{n:Int}(hn:ny n=true)(h:AHeap):dq Tryz.prog 65 [.sc (.int .i64 n)] h (.ret (.sc (.string (aY n)))) h:=by
 have hn:=dP hn
 refine zP (az:=[.int .i64 n]) λw hg=>?_
 have c:Lib.TabIs Tryz.prog w "internal/strconv.uint64pow10" .u64 Lib.pow10Tab:=by
  obtain⟨cs,x,y,hx,_,rfl⟩:=hg 5 _ rfl
  have hg:Tryz.prog.globalNamed "internal/strconv.uint64pow10"=some 5:=by kernel_rfl
  unfold Lib.TabIs World.var?;rw[hg];simp only[Option.bind_some,hx]
 refine(Tryz.strconv_Itoa n (by omega) (by omega) w c).mono ?_
 rintro e w'⟨rfl,k,os,rfl⟩
 refine⟨rfl,rfl,rfl,rfl,?_,λb hb=>?_⟩
 .show w.heap.size<=(w.heap++os).size;simp
 .show(w.heap++os)[b]?=_;exact Array.getElem?_append_left hb
theorem UA(w:World)(o:Obj):w.heap.size<=(w.alloc o).heap.size:=by show _<=(w.heap.push o).size;rw[Array.size_push];omega
theorem QV{s p:ByteArray}(hn:sn s p=true)(h:AHeap):dq Tryz.prog 46 [.sc (.string s),.sc (.string p)] h (.ret (.aG (splitB s p) 1)) h:=by
 obtain⟨h1,h2⟩:=dP hn
 refine C0 λg w vs hw hv=>?_
 rw[XA hv]
 obtain⟨m,hm⟩:=HH λb p hb=>(hw.gl b p hb).1
 refine(Tryz.strings_Split s p m w h1 hm h2).mono ?_
 rintro e w'⟨rfl,rfl⟩
 refine⟨⟨_,rfl,λg2 _ hm=>?_⟩,UA _ _,λb hb=>Below.heap_alloc _ _ _ hb,rfl,rfl,rfl⟩
 have hl:=Lib.splitB_all p h2 0 _ s rfl
 have hd:=Lib.splitB_data p 0 (Lib.countB s p) s
 have e:splitB s p=(Lib.splitB p 0 (Lib.countB s p) s).map λs=>[.sc (.string s)]:=by unfold splitB;show((Lib.splitK p.data.toList 0 (Lib.count s.data.toList p.data.toList) s.data.toList).map λl=>([.sc (.string (bs l))]:List AV))=_;rw[<-hd,List.map_map];rfl
 rw[e,<-hl];exact SX λb i v=>hm b i v
theorem Ma{g:Gh}:∀(l:List Value),VR g (.tuple (l.map .sc)) (.tuple l.toArray):=λl=>.tuple (by simp) λi x v h1 h2=>by
 rw[List.getElem?_map]at h1
 have h2:l[i]?=some v:=by simpa using h2
 rw[h2]at h1;cases h1;exact .sc _
theorem KU{g:Gh}(a:Value)(t:TypeId)(u:Value):VR g (.tuple [.sc a,.iface t .aO]) (.tuple #[a,.iface t u]):=.tuple rfl λi x v h1 h2=>by match i with|0=>cases h1;cases h2;exact .sc _|1=>cases h1;cases h2;exact .iface (.aO _)|i+2=>cases h1
theorem Qo(w:World)(e:TypeId)(s:ByteArray):Below w.heap.size w (Lib.bytesWorld w e s):=⟨rfl,rfl,rfl,by rw[Lib.bytesWorld_size];omega,λk hk=>Lib.bytesWorld_at_old w e s k hk⟩
theorem S0{s p:ByteArray}(hn:zV s=true)(h:AHeap):dq Tryz.prog 15 [.sc (.string s),.sc (.string p)] h (.ret (.tuple [.sc (.string (lI s p)),.sc (.string (nN s p)),.sc (.bool (tw s p))])) h:=by
 refine vv (az:=[.string s,.string p]) (V:=λ_ x=>x=.tuple #[.string (lI s p),.string (nN s p),.bool (tw s p)]) (λw x g2 e=>?_) λw hg=>?_
 .subst e;exact Ma [_,_,_]
 .obtain⟨m,hm⟩:=HH hg;refine(Tryz.strings_Cut s p m w (dP hn) hm).mono ?_;rintro e w'⟨rfl,n,rfl⟩;exact⟨⟨_,rfl,rfl⟩,⟨rfl,rfl,rfl,ak _,λ_ _=>rfl⟩⟩
theorem RM{s p:ByteArray}(hn:u6 p=true)(h:AHeap):dq Tryz.prog 16 [.sc (.string s),.sc (.string p)] h (.ret (.sc (.string (oU s)))) h:=by
 have hs:p=bs [32]:=by unfold u6 ao at hn;rw[beq_iff_eq,rD,rD]at hn;exact ByteArray.ext (Array.ext' hn)
 subst hs;refine zP (az:=[.string s,.string (bs [32])]) λw _=>(Tryz.strings_TrimLeft_one s 32 (by decide) w).mono ?_;rintro e w'⟨rfl,rfl⟩;exact⟨rfl,.refl _ _⟩
theorem RN{s p:ByteArray}(h:AHeap):dq Tryz.prog 62 [.sc (.string s),.sc (.string p)] h (.ret (.sc (.bool (qK s p)))) h:=by refine zP (az:=[.string s,.string p]) λw _=>(Tryz.strings_HasPrefix s p w).mono ?_;rintro e w'⟨rfl,rfl⟩;exact⟨rfl,.refl _ _⟩
theorem RO{s:ByteArray}(hn:sI s=true)(h:AHeap):dq Tryz.prog 97 [.sc (.string s)] h (.ret (.tuple [.sc (.int .i64 (fp s)),if gR s=true then .iface Br .aO else .sc .nilIface])) h:=by
 have hn:=dP hn
 unfold fp gR
 cases ha:Lib.atoiAll s.data.toList with
 |ok v=>
  refine vv (az:=[.string s]) (V:=λ_ x=>x=.tuple #[.int .i64 v,.nilIface]) (λw x g2 e=>e▸Ma [_,_]) λw hg=>(Tryz.strconv_Atoi_ok s (by omega) v ha w).mono ?_
  rintro e w'⟨rfl,rfl|⟨t,rfl⟩⟩
  .exact⟨⟨_,rfl,rfl⟩,.refl _ _⟩
  .refine⟨⟨_,rfl,rfl⟩,?_⟩;exact Qo w _ _|range=>refine vv (az:=[.string s]) (V:=λ_ x=>∃u,x=.tuple #[.int .i64 (Lib.atoiSat s.data.toList),.iface Br u]) (λw x g2⟨u,e⟩=>e▸KU _ _ _) λw hg=>?_;obtain⟨cs,⟨v,h1,hv⟩,h2⟩:=Dy (hg 4 _ rfl);refine(Tryz.strconv_Atoi_range s hn ha v w (h2.trans h1) hv).mono ?_;rintro e w'⟨N,rfl,_,_,hb⟩;exact⟨⟨_,rfl,_,rfl⟩,hb⟩|_=>refine vv (az:=[.string s]) (V:=λ_ x=>∃u,x=.tuple #[.int .i64 0,.iface Br u]) (λw x g2⟨u,e⟩=>e▸KU _ _ _) λw hg=>?_;obtain⟨cs,⟨v,h1,hv⟩,h2⟩:=Dy (hg 3 _ rfl);refine(Tryz.strconv_Atoi_syntax s hn ha v w (h2.trans h1) hv).mono ?_;rintro e w'⟨N,rfl,_,_,hb⟩;exact⟨⟨_,rfl,_,rfl⟩,hb⟩
theorem RP(o ad n off sz len:Nat)(cap:Option Nat)(h:AHeap):dq Tryz.prog 112 [.sl o ad n off sz len cap] h (.ret (.sl o ad n off sz len (some len))) h:=by refine C0 λg w vs hw hv=>?_;obtain⟨v,rfl,f⟩:=Ga hv;cases f with|@sl _ _ _ _ _ _ b s c _ hB h1 h2 h3=>refine(Iw (some ⟨b,off,none⟩) len c h2 w).mono ?_;rintro e w'⟨rfl,rfl⟩;have:=Nat.mul_le_mul_right sz h2;exact⟨⟨_,rfl,λg2 i _=>.sl (i.1 _ _ _ hB) (by omega) (ak _) λk hk=>by cases hk;rfl⟩,ak _,λ_ _=>rfl,rfl,rfl,rfl⟩
theorem RQ(h:AHeap):dq Tryz.prog 112 [.sc (.slice none 0 0)] h (.ret (.sc (.slice none 0 0))) h:=by refine Dw λg w vs hw hv=>?_;rw[Xz hv];refine(Iw none 0 0 (ak _) w).mono ?_;rintro e w'⟨rfl,rfl⟩;exact⟨⟨_,rfl,λ_=>.sc _⟩,ak _,λ_ _=>rfl,rfl,rfl,rfl⟩
theorem VN(hP:cZ Tryz.prog):sW Tryz.prog:=λf args h v hk=>by
 have hk:tM f args h=some v:=hk
 unfold tM at hk
 split at hk
 .unfold L8 at hk
  split at hk
  .cases hk;exact VK hP h
  .cases hk
 .unfold AF at hk
  split at hk
  .split at hk
   .rename_i l hl;obtain⟨hc,rfl⟩:=oP hk;have hc:=dP hc;exact RJ hl hc.1 hc.2
   .cases hk
  .cases hk
 .unfold KR at hk
  split at hk
  .obtain⟨hc,rfl⟩:=oP hk;exact SZ hc h
  .cases hk
 .unfold L6 at hk
  split at hk
  .obtain⟨hc,rfl⟩:=oP hk;exact QU hP hc h
  .cases hk
 .unfold MY at hk
  split at hk
  .obtain⟨hc,rfl⟩:=oP hk;exact RL hc h
  .cases hk
 .unfold L7 at hk
  split at hk
  .obtain⟨hc,rfl⟩:=oP hk;exact QV hc h
  .cases hk
 .unfold NV at hk
  split at hk
  .obtain⟨hc,rfl⟩:=oP hk;exact S0 hc h
  .cases hk
 .unfold MZ at hk
  split at hk
  .obtain⟨hc,rfl⟩:=oP hk;exact RM hc h
  .cases hk
 .unfold M0 at hk
  split at hk
  .cases hk;exact RN h
  .cases hk
 .unfold M1 at hk
  split at hk
  .obtain⟨hc,rfl⟩:=oP hk;exact RO hc h
  .cases hk
 .unfold M3 at hk
  split at hk
  .cases hk;exact RP _ _ _ _ _ _ _ h
  .cases hk;exact RQ h
  .cases hk
 .cases hk
end Go.AI
