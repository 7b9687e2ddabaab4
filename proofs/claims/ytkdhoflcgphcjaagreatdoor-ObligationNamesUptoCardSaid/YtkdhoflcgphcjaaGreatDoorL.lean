/- A part of the proof. -/
import Derived.Shelf.SlIter.Nil
import Derived.Shelf.SortM.Plain
import Derived.Shelf.SortM.SortNone
import Derived.Test.YtkdhoflcgphcjaaGreatDoorProg
import Derived.RangeFuncBox
import Derived.Test.YtkdhoflcgphcjaaGreatDoorAe
set_option linter.all false

section
namespace Go.Proofs
open Go.Shelf
def Tryz.H3:Go.Shelf.Ren:=⟨λ|7=>427|10=>499|n=>n,λ|23=>57|26=>9|3=>4|28=>406|0=>0|27=>405|33=>178|4=>4|n=>n,λ|n=>n⟩
theorem Tryz.VA:Go.Proofs.SlLaysZ.n7 Tryz.prog Tryz.H3:={
 mixed:=by kernel_rfl
 f7:=⟨Tryz.f427.name,by decide,Tryz.func427.trans (congrArg some (by kernel_rfl))⟩
 f10:=⟨Tryz.f499.name,by decide,Tryz.func499.trans (congrArg some (by kernel_rfl))⟩
 t0:=Tryz.underlying0
 a0:=Tryz.isAgg0
 z0:=Tryz.sizeOf0
 v0:=Tryz.zeroValue0
 t4:=Tryz.underlying4
 a4:=Tryz.isAgg4
 z4:=Tryz.sizeOf4
 v4:=Tryz.zeroValue4
 t23:=Tryz.underlying57
 a23:=Tryz.isAgg57
 z23:=Tryz.sizeOf57
 v23:=Tryz.zeroValue57
 t26:=Tryz.underlying9
 a26:=Tryz.isAgg9
 z26:=Tryz.sizeOf9
 v26:=Tryz.zeroValue9
 t27:=Tryz.underlying405
 a27:=Tryz.isAgg405
 z27:=Tryz.sizeOf405
 v27:=Tryz.zeroValue405
 t28:=Tryz.underlying406
 a28:=Tryz.isAgg406
 z28:=Tryz.sizeOf406
 v28:=Tryz.zeroValue406
 t33:=Tryz.underlying178
 a33:=Tryz.isAgg178
 z33:=Tryz.sizeOf178
 v33:=Tryz.zeroValue178}
def Tryz.HE:Go.Shelf.Ren:=⟨λ|6=>426|8=>497|9=>498|11=>564|13=>566|12=>565|23=>598|24=>492|14=>589|15=>590|16=>591|17=>592|18=>593|19=>594|20=>595|21=>596|22=>597|25=>608|26=>609|27=>610|28=>611|29=>612|30=>613|31=>618|n=>n,λ|26=>9|28=>406|24=>24|0=>0|3=>3|37=>254|48=>338|50=>397|4=>4|40=>506|39=>505|45=>314|5=>5|9=>9|51=>520|55=>524|57=>531|58=>451|33=>178|n=>n,λ|n=>n⟩
theorem Tryz.SD:Go.Proofs.SlLaysZ.n6 Tryz.prog Tryz.HE:={
 mixed:=by kernel_rfl
 f6:=⟨Tryz.f426.name,by decide,Tryz.func426.trans (congrArg some (by kernel_rfl))⟩
 f8:=⟨Tryz.f497.name,by decide,Tryz.func497.trans (congrArg some (by kernel_rfl))⟩
 f11:=⟨Tryz.f564.name,by decide,Tryz.func564.trans (congrArg some (by kernel_rfl))⟩
 t0:=Tryz.underlying0
 a0:=Tryz.isAgg0
 z0:=Tryz.sizeOf0
 v0:=Tryz.zeroValue0
 t24:=Tryz.underlying24
 a24:=Tryz.isAgg24
 z24:=Tryz.sizeOf24
 v24:=Tryz.zeroValue24
 t26:=Tryz.underlying9
 a26:=Tryz.isAgg9
 z26:=Tryz.sizeOf9
 v26:=Tryz.zeroValue9
 t28:=Tryz.underlying406
 a28:=Tryz.isAgg406
 z28:=Tryz.sizeOf406
 v28:=Tryz.zeroValue406
 i26:=by kernel_rfl}
def Tryz.RC:Go.Shelf.Ren:=⟨λ|6=>498|8=>566|9=>565|19=>598|20=>492|21=>589|22=>590|23=>591|24=>592|25=>593|26=>594|27=>595|28=>596|29=>597|36=>608|31=>609|32=>610|37=>611|38=>612|39=>613|41=>618|n=>n,λ|27=>24|29=>9|3=>3|32=>254|26=>24|0=>0|44=>338|46=>397|4=>4|36=>506|35=>505|41=>314|5=>5|9=>9|53=>520|57=>524|63=>531|64=>451|n=>n,λ|n=>n⟩
theorem Tryz.Li:Go.Proofs.SlLaysM.n6 Tryz.prog Tryz.RC:={
 mixed:=by kernel_rfl
 f6:=⟨Tryz.f498.name,by decide,Tryz.func498.trans (congrArg some (by kernel_rfl))⟩
 f8:=Tryz.func566.trans (congrArg some (by kernel_rfl))
 f9:=⟨Tryz.f565.name,by decide,Tryz.func565.trans (congrArg some (by kernel_rfl))⟩
 f19:=Tryz.func598.trans (congrArg some (by kernel_rfl))
 f20:=Tryz.func492.trans (congrArg some (by kernel_rfl))
 f21:=⟨Tryz.f589.name,by decide,Tryz.func589.trans (congrArg some (by kernel_rfl))⟩
 f22:=⟨Tryz.f590.name,by decide,Tryz.func590.trans (congrArg some (by kernel_rfl))⟩
 f23:=⟨Tryz.f591.name,by decide,Tryz.func591.trans (congrArg some (by kernel_rfl))⟩
 f24:=⟨Tryz.f592.name,by decide,Tryz.func592.trans (congrArg some (by kernel_rfl))⟩
 f25:=⟨Tryz.f593.name,by decide,Tryz.func593.trans (congrArg some (by kernel_rfl))⟩
 f26:=⟨Tryz.f594.name,by decide,Tryz.func594.trans (congrArg some (by kernel_rfl))⟩
 f27:=⟨Tryz.f595.name,by decide,Tryz.func595.trans (congrArg some (by kernel_rfl))⟩
 f28:=⟨Tryz.f596.name,by decide,Tryz.func596.trans (congrArg some (by kernel_rfl))⟩
 f29:=⟨Tryz.f597.name,by decide,Tryz.func597.trans (congrArg some (by kernel_rfl))⟩
 f31:=Tryz.func609.trans (congrArg some (by kernel_rfl))
 f32:=Tryz.func610.trans (congrArg some (by kernel_rfl))
 f36:=⟨Tryz.f608.name,by decide,Tryz.func608.trans (congrArg some (by kernel_rfl))⟩
 f37:=⟨Tryz.f611.name,by decide,Tryz.func611.trans (congrArg some (by kernel_rfl))⟩
 f38:=⟨Tryz.f612.name,by decide,Tryz.func612.trans (congrArg some (by kernel_rfl))⟩
 f39:=⟨Tryz.f613.name,by decide,Tryz.func613.trans (congrArg some (by kernel_rfl))⟩
 f41:=⟨Tryz.f618.name,by decide,Tryz.func618.trans (congrArg some (by kernel_rfl))⟩
 t0:=Tryz.underlying0
 a0:=Tryz.isAgg0
 z0:=Tryz.sizeOf0
 v0:=Tryz.zeroValue0
 t3:=Tryz.underlying3
 a3:=Tryz.isAgg3
 z3:=Tryz.sizeOf3
 v3:=Tryz.zeroValue3
 t4:=Tryz.underlying4
 a4:=Tryz.isAgg4
 z4:=Tryz.sizeOf4
 v4:=Tryz.zeroValue4
 t5:=Tryz.underlying5
 a5:=Tryz.isAgg5
 z5:=Tryz.sizeOf5
 v5:=Tryz.zeroValue5
 t9:=Tryz.underlying9
 a9:=Tryz.isAgg9
 z9:=Tryz.sizeOf9
 v9:=Tryz.zeroValue9
 t26:=Tryz.underlying24
 a26:=Tryz.isAgg24
 z26:=Tryz.sizeOf24
 v26:=Tryz.zeroValue24
 t27:=Tryz.underlying24
 a27:=Tryz.isAgg24
 z27:=Tryz.sizeOf24
 v27:=Tryz.zeroValue24
 t29:=Tryz.underlying9
 a29:=Tryz.isAgg9
 z29:=Tryz.sizeOf9
 v29:=Tryz.zeroValue9
 t32:=Tryz.underlying254
 a32:=Tryz.isAgg254
 z32:=Tryz.sizeOf254
 v32:=Tryz.zeroValue254
 t35:=Tryz.underlying505
 a35:=Tryz.isAgg505
 z35:=Tryz.sizeOf505
 v35:=Tryz.zeroValue505
 t36:=Tryz.underlying506
 a36:=Tryz.isAgg506
 z36:=Tryz.sizeOf506
 v36:=Tryz.zeroValue506
 t41:=Tryz.underlying314
 a41:=Tryz.isAgg314
 z41:=Tryz.sizeOf314
 v41:=Tryz.zeroValue314
 t44:=Tryz.underlying338
 a44:=Tryz.isAgg338
 z44:=Tryz.sizeOf338
 v44:=Tryz.zeroValue338
 t46:=Tryz.underlying397
 a46:=Tryz.isAgg397
 z46:=Tryz.sizeOf397
 v46:=Tryz.zeroValue397
 t53:=Tryz.underlying520
 a53:=Tryz.isAgg520
 z53:=Tryz.sizeOf520
 v53:=Tryz.zeroValue520
 t57:=Tryz.underlying524
 a57:=Tryz.isAgg524
 z57:=Tryz.sizeOf524
 v57:=Tryz.zeroValue524
 t63:=Tryz.underlying531
 a63:=Tryz.isAgg531
 z63:=Tryz.sizeOf531
 v63:=Tryz.zeroValue531
 t64:=Tryz.underlying451
 a64:=Tryz.isAgg451
 z64:=Tryz.sizeOf451
 v64:=Tryz.zeroValue451}
end Go.Proofs
end

section
namespace Go.Proofs
open Go.RowKit Go.Maps Go.Sort Go.Shelf
theorem Tryz.T7(m:Nat):AnyZ.SortsIn Tryz.prog Tryz.HE Fence.wide m:=⟨λblk off cap ss W j c i=>callsIn_wide.2 (AnyM.slices_Sort_string Tryz.Li blk off cap ss W j c i),λp cap W=>callsIn_wide.2 (AnyM.slices_Sort_string_none Tryz.Li p cap W)⟩
open Go.AI in
set_option maxHeartbeats 1000000 in
theorem Tryz.od:xH Tryz.prog 426 499 9:=by
 intro w Q b c clock ks P C hb M i hlen q
 have O:Tryz.prog.underlying 9=some .string:=Tryz.underlying9
 let R:Value->Option (DataW Unit×List MemPlace):=λ_=>some (.nil,[])
 have L:c.size=ks.length:=by have:=congrArg List.length i;simpa using this
 have N:∀x∈c.toList,∃k,k∈ks/\x.key=encStr k:=by intro x hx;have hm:x.key∈c.toList.map (·.key):=List.mem_map.2 ⟨x,hx,rfl⟩;rw[i,List.mem_map]at hm;obtain⟨k,hk,e⟩:=hm;exact⟨k,hk,e.symm⟩
 have J:∀k:List UInt8,k.length<=maxLen->keyOf Tryz.prog 9 (encStr k)=some (.string k):=by intro k hk;simp only[keyOf,O,mapKey,encStr];simp;exact hk
 have m:∀x∈c.toList,∃k,k∈ks/\x.key=encStr k/\WideElems.rd Tryz.prog 9 R x=some (.string k,.nil):=by intro x hx;obtain⟨k,hk,e⟩:=N x hx;refine⟨k,hk,e,?_⟩;simp only[WideElems.rd,e,J k (hlen k hk),Option.bind_some,R,Option.map_some]
 have z:ks.length<=maxLen:=by
  have:maxLen=9223372036854775807:=by decide
  omega
 have F:w.ownsMap Tryz.prog 9 R b c.size (.map ((c.toList.map (WideElems.rg Tryz.prog 9 R)).foldr DataW.insert [])):=⟨c,clock,hb,⟨by omega,M,λx hx=>let⟨_,_,_,h⟩:=m x hx;⟨_,h⟩⟩,Nat.le_refl _,rfl⟩
 have I:(c.toList.map (WideElems.rg Tryz.prog 9 R)).map (λp=>strOf p.1)=ks:=by
  rw[List.map_map]
  have h1:c.toList.map ((λp=>strOf p.1)∘WideElems.rg Tryz.prog 9 R)=(c.toList.map (·.key)).map λv=>match v with|.string s=>s.data.toList|_=>[]:=by rw[List.map_map];refine List.map_congr_left λx hx=>?_;obtain⟨k,hk,e,h⟩:=m x hx;simp only[Function.comp,WideElems.rg_of h,e,encStr,strOf]
  rw[h1,i,List.map_map]
  have h2:((λv:Value=>match v with|.string s=>s.data.toList|_=>[])∘encStr)=id:=by funext k;simp[encStr]
  rw[h2,List.map_id]
 have u:(strKeys (.map ((c.toList.map (WideElems.rg Tryz.prog 9 R)).foldr DataW.insert []))).Perm ks:=by have:=(WideShapes.sorted_perm (c.toList.map (WideElems.rg Tryz.prog 9 R))).map (λp=>strOf p.1);rw[I]at this;exact this
 have j:Maps.size (.map ((c.toList.map (WideElems.rg Tryz.prog 9 R)).foldr DataW.insert []))=ks.length:=by simp only[Maps.size,length_sorted,List.length_map,Array.length_toList,L]
 have D:SeqGives Fence.wide 2 Tryz.prog 499 #[.pointer (some ⟨Q,0,none⟩)] encStr (λss=>ss.Perm (strKeys (.map ((c.toList.map (WideElems.rg Tryz.prog 9 R)).foldr DataW.insert [])))) (Maps.size (.map ((c.toList.map (WideElems.rg Tryz.prog 9 R)).foldr DataW.insert []))) w:=AnyZ.keys_gives (ρ:=Tryz.H3) {Tryz.VA with} Fence.wide _ trivial rfl (by omega) Q b c.size _ w P C F
 refine(callsIn_wide.1 (AnyZ.sorted_in Tryz.SD Fence.wide 5 trivial trivial trivial trivial rfl (by omega) (Tryz.T7 _) (enters_of Tryz.func498 (by kernel_rfl) rfl) 499 #[.pointer (some ⟨Q,0,none⟩)] trivial (enters_of Tryz.func499 (by kernel_rfl) rfl) _ _ (by rw[j];exact z) (by rw[j];exact q) _ D)).mono ?_
 rintro e w'⟨v,ss,rfl,hp,E,G,K⟩
 have o:=hp.trans u
 refine⟨v,rfl,?_,?_,K⟩
 .rw[<-o.length_eq,<-mergeSort_of_perm o];exact E
 .rw[G]
  constructor
  .rintro rfl;exact o.nil_eq.symm
  .rintro rfl;exact o.eq_nil
end Go.Proofs
end

section
namespace Go.Proofs
open Go.RowKit Go.Shelf
attribute [local go_sem]Oper.semAt_some
def Lst.upto{α:Type}(f:Nat->α)(k:Nat):List α:=(List.range k).map f
theorem Lst.upto_succ{α:Type}(f:Nat->α)(k:Nat):Lst.upto f (k+1)=Lst.upto f k++[f k]:=by simp[Lst.upto,List.range_succ]
theorem Lst.upto_length{α:Type}(f:Nat->α)(k:Nat):(Lst.upto f k).length=k:=by simp[Lst.upto]
def Lst.pr(zs:List ByteArray)(j:Nat):Int×ByteArray:=((zs.length:Int)-1-j,zs[zs.length-1-j]?.getD ⟨#[]⟩)
set_option maxRecDepth 100000 in
set_option maxHeartbeats 2000000 in
theorem Lst.back1_in(F:Fence)(n:Nat)(h7:F.fn 438)(hro:F.round=none)(hn:1<=n)(l Bs n₀:Nat)(a:Option Addr)(cap:Nat)(zs:List ByteArray)(hreach:zs.length*16<=140737488351232)(J Jx:List (Int×ByteArray)->World->Prop)(hY:∀pre x W,J pre W->pre.length<zs.length->YieldAt F (n-1) Tryz.prog l #[.int .i64 x.1,.string x.2] W λe W'=>(e=.returned (.bool true)/\J (pre++[x]) W'/\Below n₀ W W')\/(e=.returned (.bool false)/\Jx (pre++[x]) W'))(W:World)(hBs:W.cell? ⟨Bs,0,none⟩=some (.slice a zs.length cap))(hB0:Bs<n₀)(hc:zs=[]\/∃b off,a=some ⟨b,off,none⟩/\b<n₀/\∀j,j<zs.length->W.cell? ⟨b,off+j,none⟩=some (.string (zs[j]?.getD ⟨#[]⟩)))(h0:J [] W):CallsIn F n Tryz.prog 438 #[.func (.yield l) #[] #[],.pointer (some ⟨Bs,0,none⟩)] W λe W'=>(∃v,e=.returned v)/\((∃ys,ys=Lst.upto (Lst.pr zs) zs.length/\J ys W')\/(∃pre,(∃k,k<=zs.length/\pre=Lst.upto (Lst.pr zs) k)/\Jx pre W')):=by
 refine callsIn_of_wp Tryz.func438 rfl h7 ?_ hro
 simp only[Tryz.ntmps438,List.size_toArray,List.length_cons,List.length_nil,Nat.reduceAdd,Nat.reduceSub,Array.replicate_succ,Array.replicate_zero,List.push_toArray,List.append_toArray,List.nil_append,List.cons_append]
 gi_wp2
 gi_loopw[3](λi wr=>∃k:Nat,k<=zs.length/\i=.int .i64 ((zs.length:Int)-1-k)/\J (Lst.upto (Lst.pr zs) k) wr/\Below n₀ W wr)(λi _=>(intOf i+1).toNat)
 case atStart=>exact⟨0,Nat.zero_le _,by simp,h0,Below.refl _ _⟩
 case round=>
  obtain⟨k,hk,rfl,hJs,hnx⟩:=hrel
  have hBx:wr.cell? ⟨Bs,0,none⟩=some (.slice a zs.length cap):=(hnx.cell (p:=⟨Bs,0,none⟩) hB0).trans hBs
  by_cases hlt:k<zs.length
  .have hne:zs≠[]:=λe=>by grind
   obtain⟨b,off,rfl,hb,hcs⟩:=hc.resolve_left hne
   have hge:(zs.length:Int)-1-k>=0:=by omega
   have hcx:wr.cell? ⟨b,off+(zs.length-1-k),none⟩=some (.string (zs[zs.length-1-k]?.getD ⟨#[]⟩)):=(hnx.cell (p:=⟨b,off+(zs.length-1-k),none⟩) hb).trans (hcs _ (by omega))
   obtain⟨fn,tmps,assign,body,hy,hR⟩:=hY _ (Lst.pr zs k) wr hJs (by rw[Lst.upto_length];exact hlt)
   dsimp only[Lst.pr]at hy
   have et:((zs.length:Int)-1-k).toNat=zs.length-1-k:=by omega
   have hl1:((zs.length:Int)-1-k)<zs.length:=by omega
   gi_wp2
   refine hR.mono ?_
   rintro e W3(⟨rfl,hJ3,hk3⟩|⟨rfl,hJx3⟩)
   .gi_wp2
    go_roundw
    case rel=>exact⟨k+1,by omega,by simp;omega,by rw[Lst.upto_succ];exact hJ3,hnx.trans hk3⟩
    case measure=>simp[intOf];omega
   .gi_wp2;refine bodyPost_ret (results_none rfl _ _ _) rfl ?_;exact⟨⟨_,rfl⟩,.inr ⟨_,⟨k+1,by omega,(Lst.upto_succ _ _).symm⟩,hJx3⟩⟩
  .obtain rfl:k=zs.length:=by omega
   gi_wp2;go_end0;simp_all
def Lst.Txt(n₀:Nat)(W:World)(a:Option Addr)(zs:List ByteArray):Prop:=zs=[]\/∃b off,a=some ⟨b,off,none⟩/\b<n₀/\∀j,j<zs.length->W.cell? ⟨b,off+j,none⟩=some (.string (zs[j]?.getD ⟨#[]⟩))
theorem Lst.Txt.below{n₀:Nat}{A B:World}(h:Below n₀ A B){a:Option Addr}{zs:List ByteArray}:Lst.Txt n₀ A a zs->Lst.Txt n₀ B a zs|.inl e=>.inl e|.inr ⟨b,off,e,hb,hc⟩=>.inr ⟨b,off,e,hb,λj hj=>(h.cell (p:=⟨b,off+j,none⟩) hb).trans (hc j hj)⟩
theorem Lst.Txt.mono{n₀ n₁:Nat}{A:World}(h:n₀<=n₁){a:Option Addr}{zs:List ByteArray}:Lst.Txt n₀ A a zs->Lst.Txt n₁ A a zs|.inl e=>.inl e|.inr ⟨b,off,e,hb,hc⟩=>.inr ⟨b,off,e,Nat.lt_of_lt_of_le hb h,hc⟩
set_option maxHeartbeats 1000000 in
theorem Lst.back_in(F:Fence)(n:Nat)(h5:F.fn 329)(hro:F.round=none)(a:Option Addr)(len cap:Nat)(w:World):CallsIn F n Tryz.prog 329 #[.slice a len cap] w λe w'=>e=.returned (.func (.func 438) #[] #[.pointer (some ⟨w.heap.size,0,none⟩)])/\w'=w.alloc (.cells #[.slice a len cap] 24):=by refine callsIn_of_wp Tryz.func329 rfl h5 ?_ hro;simp only[Tryz.ntmps329,List.size_toArray,List.length_cons,List.length_nil,Nat.reduceAdd,Nat.reduceSub,Array.replicate_succ,Array.replicate_zero,List.push_toArray,List.append_toArray,List.nil_append,List.cons_append];gi_wp2;go_ret;simp_all
theorem Lst.back_stops(F:Fence)(n:Nat)(h7:F.fn 438)(hro:F.round=none)(hn:1<=n)(Bs n₀:Nat)(a:Option Addr)(cap:Nat)(zs:List ByteArray)(hreach:zs.length*16<=140737488351232)(w:World)(hB0:Bs<n₀)(hn₀:n₀<=w.heap.size)(hc:w.cell? ⟨Bs,0,none⟩=some (.slice a zs.length cap))(hI:Lst.Txt n₀ w a zs):SeqStopsK F n Tryz.prog 438 #[.pointer (some ⟨Bs,0,none⟩)] (λx:Int×ByteArray=>#[Value.int .i64 x.1,Value.string x.2]) (Below n₀) (λys=>ys=Lst.upto (Lst.pr zs) zs.length) (λpre=>∃k,k<=zs.length/\pre=Lst.upto (Lst.pr zs) k) zs.length w:=λl J Jx W hW _ _ hY h0=>Lst.back1_in F n h7 hro hn l Bs n₀ a cap zs hreach J Jx hY W (((hW.mono hn₀).cell (p:=⟨Bs,0,none⟩) hB0).trans hc) hB0 (hI.below (hW.mono hn₀)) h0
set_option maxRecDepth 100000 in
set_option maxHeartbeats 2000000 in
theorem Lst.last_in(F:Fence)(n:Nat)(h4:F.fn 201)(h6:F.fn 329)(h8:F.fn 438)(hro:F.round=none)(hn:3<=n)(a:Option Addr)(cap:Nat)(s:ByteArray)(zs:List ByteArray)(hreach:zs.length*16<=140737488351232)(w:World)(hI:Lst.Txt w.heap.size w a zs):CallsIn F n Tryz.prog 201 #[.slice a zs.length cap,.string s] w λe W'=>((e=.returned (.int .i64 (-1))/\∀j,j<zs.length->((zs[j]?.getD ⟨#[]⟩).toList==s.toList)=false)\/(∃k:Nat,k<zs.length/\e=.returned (.int .i64 k)/\((zs[k]?.getD ⟨#[]⟩).toList==s.toList)=true/\∀j,k<j->j<zs.length->((zs[j]?.getD ⟨#[]⟩).toList==s.toList)=false))/\Below w.heap.size w W':=by
 have h1:1<=n:=by omega
 refine callsIn_of_wp_marks Tryz.func201 rfl h4 ?_ hro
 simp only[Tryz.ntmps201,List.size_toArray,List.length_cons,List.length_nil,Nat.reduceAdd,Nat.reduceSub,Array.replicate_succ,Array.replicate_zero,List.push_toArray,List.append_toArray,List.nil_append,List.cons_append]
 gi_wp2_with(gi_at_call 329;refine(Lst.back_in F (n-1) h6 hro _ _ _ _).mono ?_;rintro e w'⟨rfl,rfl⟩)
 have bS:=Boxed.new w 9 (.string s)
 have bR:=Boxed.new (w.alloc (.cells #[.string s] 9)) 3 (.int .i64 0)
 have bN:=Boxed.new ((w.alloc (.cells #[.string s] 9)).alloc (.cells #[.int .i64 0] 3)) 24 (.slice a zs.length cap)
 rw[World.size_alloc]at bR
 rw[World.size_alloc,World.size_alloc]at bN
 have hB0:Below w.heap.size w (((w.alloc (.cells #[.string s] 9)).alloc (.cells #[.int .i64 0] 3)).alloc (.cells #[.slice a zs.length cap] 24)):=(((Below.refl _ w).alloc (Nat.le_refl _) _).alloc (by simp) _).alloc (by simp;omega) _
 refine wpIn_rangeFunc_ownG hro h1 (gf:=438) (lb:=#[.pointer (some ⟨w.heap.size+1+1,0,none⟩)]) rfl h8 (enters_of Tryz.func438 (by kernel_rfl) rfl) (Lst.back_stops F (n-1) h8 hro (by omega) (w.heap.size+1+1) (w.heap.size+3) a cap zs hreach _ (by omega) (by simp) bN.cell ((hI.below hB0).mono (by omega))) belowK_t (belowK_b (by simp)) (Below.refl _ _) (λ_=>rfl) (λpre W=>((∀p∈pre,(p.2.toList==s.toList)=false)/\W.cell? ⟨w.heap.size+1,0,none⟩=some (.int .i64 0)/\W.frozen? ⟨w.heap.size+1,0,none⟩=false/\W.cell? ⟨w.heap.size,0,none⟩=some (.string s))/\Below w.heap.size w W) (λc pre W=>(c=.ret/\∃ini last,pre=ini++[last]/\(∀p∈ini,(p.2.toList==s.toList)=false)/\(last.2.toList==s.toList)=true/\W.cell? ⟨w.heap.size+1,0,none⟩=some (.int .i64 last.1))/\Below w.heap.size w W) (OwnFrom.and (Own.from (λs A B row hs hg hr=>⟨hs.1,cell_kept hs.2.1 hg hr,(frozen_kept hs.2.1 hg hr).trans hs.2.2.1,cell_kept hs.2.2.2 hg hr⟩) _) (ownFrom_below (Nat.le_refl _) (by simp;omega))) (λc=>OwnFrom.and (Own.from (λs A B row hs hg hr=>by grind[cell_kept]) _) (ownFrom_below (Nat.le_refl _) (by simp;omega))) ⟨⟨by simp,(bR.alloc _).cell,(bR.alloc _).frozen,((bS.alloc _).alloc _).cell⟩,hB0⟩ (λx=>{tmps:=#[.slice a zs.length cap,.string s,undef,.pointer (some ⟨w.heap.size,0,none⟩),.pointer (some ⟨w.heap.size+1,0,none⟩),.int .i64 x.1,.string x.2,.slice a zs.length cap,.func (.func 438) #[] #[.pointer (some ⟨w.heap.size+1+1,0,none⟩)],.int .i64 x.1,.string x.2,undef,undef,undef,undef],defers:=[]}) ?assign ?body ?done ?stop
 case assign=>intro l x W K hK;gi_wp2;exact hK
 case body=>
  rintro l pre x W⟨⟨hp,hcr,hfr,hcs⟩,hB⟩_
  gi_wp2
  .have hx:(x.2.toList==s.toList)=true:=by grind
   exact⟨(KeepsOthers.setCell _ _ _).from _,⟨rfl,pre,x,rfl,hp,hx,World.cell?_setCell_same' _ _ _ (by grind)⟩,hB.setCell (p:=⟨w.heap.size+1,0,none⟩) (by simp) _⟩
  .have hx:(x.2.toList==s.toList)=false:=by grind
   exact⟨KeepsFrom.refl _ _,Below.refl _ _,⟨λp hp'=>(List.mem_append.1 hp').elim (hp p) (λe=>by grind),hcr,hfr,hcs⟩,hB⟩
 case done=>
  rintro D ys W hD rfl⟨⟨hne,hcr,hfr,_⟩,hB⟩hK
  gi_wp2
  have hK':=(KeepsOthers.setCell W ⟨w.heap.size+1,0,none⟩ (.int .i64 (-1))).same D _ hK rfl
  refine⟨by simp,.inl ⟨_,_,rfl,run_takeDeferred hK',?_⟩⟩
  have hc5:=cell_kept (World.cell?_setCell_same' W ⟨w.heap.size+1,0,none⟩ (.int .i64 (-1)) (by grind)) (grownBy_putObj' _ D (.deferred none)) (λr e=>by cases e;exact⟨_,hK',rfl⟩)
  refine⟨.int .i64 (-1),?_,.inl ⟨rfl,λj hj=>?_⟩,(hB.setCell (p:=⟨w.heap.size+1,0,none⟩) (by simp) _).trans (belowK_b (w:=w) (Nat.le_refl _) _ D _ _ (by simp at hD;omega) hK' rfl rfl)⟩
  .simp[results,Tryz.f201,go_sem,hc5]
  .have:=hne (Lst.pr zs (zs.length-1-j)) (by simp only[Lst.upto,List.mem_map,List.mem_range];grind);simpa[Lst.pr,show zs.length-1-(zs.length-1-j)=j by omega]using this
 case stop=>
  rintro D c pre W hD⟨k,hk,rfl⟩⟨⟨rfl,ini,last,e1,e2,e3,hcr⟩,hB⟩hK
  gi_wp2
  refine⟨by simp,.inl ⟨_,_,rfl,run_takeDeferred hK,?_⟩⟩
  have hc5:=cell_kept hcr (grownBy_putObj' _ D (.deferred none)) (λr e=>by cases e;exact⟨_,hK,rfl⟩)
  obtain⟨k',rfl⟩:∃k',k=k'+1:=by cases k with|zero=>simp[Lst.upto]at e1|succ k'=>grind
  rw[Lst.upto_succ]at e1
  obtain⟨rfl,e5⟩:=List.append_inj' e1 rfl
  obtain rfl:Lst.pr zs k'=last:=by grind
  have e6:((zs.length:Int)-1-k')=((zs.length-1-k':Nat):Int):=by omega
  refine⟨.int .i64 ((zs.length:Int)-1-k'),?_,.inr ⟨zs.length-1-k',by omega,by rw[e6],e3,λj hj hj2=>?_⟩,hB.trans (belowK_b (w:=w) (Nat.le_refl _) W D _ _ (by simp at hD;omega) hK rfl rfl)⟩
  .simp[results,Tryz.f201,go_sem,hc5,Lst.pr]
  .have:=e2 (Lst.pr zs (zs.length-1-j)) (by simp only[Lst.upto,List.mem_map,List.mem_range];grind);simpa[Lst.pr,show zs.length-1-(zs.length-1-j)=j by omega]using this
end Go.Proofs
end

section
namespace Go.Proofs
open Go Go.RowKit
set_option maxRecDepth 100000
theorem SG(a:Option Addr)(n c:Nat)(h:n<=c)(w:World):Calls Tryz.prog 93 #[.slice a n c] w λe w'=>e=.returned (.slice a n n)/\w'=w:=by go_enter Tryz.func93,Tryz.ntmps93;go_wp2;go_ret;simp_all
end Go.Proofs
end
