/- A part of the proof. -/
import Derived.Shelf.SlIter.Nil
import Derived.Shelf.SortM.Plain
import Derived.Shelf.SortM.SortNone
import Derived.Test.YteibmaelhdbgfaaGreatDoorProg
import Derived.RangeFuncBox
import Derived.Test.YteibmaelhdbgfaaGreatDoorAe
set_option linter.all false

section
namespace Go.Proofs
open Go.Shelf
def Tryz.Jx:Go.Shelf.Ren:=⟨λ|7=>181|10=>281|n=>n,λ|23=>104|26=>9|3=>4|28=>225|0=>0|27=>224|33=>83|4=>4|n=>n,λ|n=>n⟩
theorem Tryz.abj:Go.Proofs.SlLaysZ.n7 Tryz.prog Tryz.Jx:={
 mixed:=by kernel_rfl
 f7:=⟨Tryz.f181.name,by decide,Tryz.func181.trans (congrArg some (by kernel_rfl))⟩
 f10:=⟨Tryz.f281.name,by decide,Tryz.func281.trans (congrArg some (by kernel_rfl))⟩
 t0:=Tryz.underlying0
 a0:=Tryz.isAgg0
 z0:=Tryz.sizeOf0
 v0:=Tryz.zeroValue0
 t4:=Tryz.underlying4
 a4:=Tryz.isAgg4
 z4:=Tryz.sizeOf4
 v4:=Tryz.zeroValue4
 t23:=Tryz.underlying104
 a23:=Tryz.isAgg104
 z23:=Tryz.sizeOf104
 v23:=Tryz.zeroValue104
 t26:=Tryz.underlying9
 a26:=Tryz.isAgg9
 z26:=Tryz.sizeOf9
 v26:=Tryz.zeroValue9
 t27:=Tryz.underlying224
 a27:=Tryz.isAgg224
 z27:=Tryz.sizeOf224
 v27:=Tryz.zeroValue224
 t28:=Tryz.underlying225
 a28:=Tryz.isAgg225
 z28:=Tryz.sizeOf225
 v28:=Tryz.zeroValue225
 t33:=Tryz.underlying83
 a33:=Tryz.isAgg83
 z33:=Tryz.sizeOf83
 v33:=Tryz.zeroValue83}
def Tryz.Ja:Go.Shelf.Ren:=⟨λ|6=>180|8=>279|9=>280|11=>367|13=>369|12=>368|23=>415|24=>416|14=>406|15=>407|16=>408|17=>409|18=>410|19=>411|20=>412|21=>413|22=>414|25=>433|26=>434|27=>435|28=>436|29=>437|30=>438|31=>457|n=>n,λ|26=>9|28=>225|24=>34|0=>0|3=>3|37=>308|48=>343|50=>356|4=>4|40=>369|39=>368|45=>339|5=>5|9=>9|51=>395|55=>399|57=>422|58=>423|33=>83|n=>n,λ|n=>n⟩
theorem Tryz.Xb:Go.Proofs.SlLaysZ.n6 Tryz.prog Tryz.Ja:={
 mixed:=by kernel_rfl
 f6:=⟨Tryz.f180.name,by decide,Tryz.func180.trans (congrArg some (by kernel_rfl))⟩
 f8:=⟨Tryz.f279.name,by decide,Tryz.func279.trans (congrArg some (by kernel_rfl))⟩
 f11:=⟨Tryz.f367.name,by decide,Tryz.func367.trans (congrArg some (by kernel_rfl))⟩
 t0:=Tryz.underlying0
 a0:=Tryz.isAgg0
 z0:=Tryz.sizeOf0
 v0:=Tryz.zeroValue0
 t24:=Tryz.underlying34
 a24:=Tryz.isAgg34
 z24:=Tryz.sizeOf34
 v24:=Tryz.zeroValue34
 t26:=Tryz.underlying9
 a26:=Tryz.isAgg9
 z26:=Tryz.sizeOf9
 v26:=Tryz.zeroValue9
 t28:=Tryz.underlying225
 a28:=Tryz.isAgg225
 z28:=Tryz.sizeOf225
 v28:=Tryz.zeroValue225
 i26:=by kernel_rfl}
def Tryz.VA:Go.Shelf.Ren:=⟨λ|6=>280|8=>369|9=>368|19=>415|20=>416|21=>406|22=>407|23=>408|24=>409|25=>410|26=>411|27=>412|28=>413|29=>414|36=>433|31=>434|32=>435|37=>436|38=>437|39=>438|41=>457|n=>n,λ|27=>34|29=>9|3=>3|32=>308|26=>34|0=>0|44=>343|46=>356|4=>4|36=>369|35=>368|41=>339|5=>5|9=>9|53=>395|57=>399|63=>422|64=>423|n=>n,λ|n=>n⟩
theorem Tryz.N8:Go.Proofs.SlLaysM.n6 Tryz.prog Tryz.VA:={
 mixed:=by kernel_rfl
 f6:=⟨Tryz.f280.name,by decide,Tryz.func280.trans (congrArg some (by kernel_rfl))⟩
 f8:=Tryz.func369.trans (congrArg some (by kernel_rfl))
 f9:=⟨Tryz.f368.name,by decide,Tryz.func368.trans (congrArg some (by kernel_rfl))⟩
 f19:=Tryz.func415.trans (congrArg some (by kernel_rfl))
 f20:=Tryz.func416.trans (congrArg some (by kernel_rfl))
 f21:=⟨Tryz.f406.name,by decide,Tryz.func406.trans (congrArg some (by kernel_rfl))⟩
 f22:=⟨Tryz.f407.name,by decide,Tryz.func407.trans (congrArg some (by kernel_rfl))⟩
 f23:=⟨Tryz.f408.name,by decide,Tryz.func408.trans (congrArg some (by kernel_rfl))⟩
 f24:=⟨Tryz.f409.name,by decide,Tryz.func409.trans (congrArg some (by kernel_rfl))⟩
 f25:=⟨Tryz.f410.name,by decide,Tryz.func410.trans (congrArg some (by kernel_rfl))⟩
 f26:=⟨Tryz.f411.name,by decide,Tryz.func411.trans (congrArg some (by kernel_rfl))⟩
 f27:=⟨Tryz.f412.name,by decide,Tryz.func412.trans (congrArg some (by kernel_rfl))⟩
 f28:=⟨Tryz.f413.name,by decide,Tryz.func413.trans (congrArg some (by kernel_rfl))⟩
 f29:=⟨Tryz.f414.name,by decide,Tryz.func414.trans (congrArg some (by kernel_rfl))⟩
 f31:=Tryz.func434.trans (congrArg some (by kernel_rfl))
 f32:=Tryz.func435.trans (congrArg some (by kernel_rfl))
 f36:=⟨Tryz.f433.name,by decide,Tryz.func433.trans (congrArg some (by kernel_rfl))⟩
 f37:=⟨Tryz.f436.name,by decide,Tryz.func436.trans (congrArg some (by kernel_rfl))⟩
 f38:=⟨Tryz.f437.name,by decide,Tryz.func437.trans (congrArg some (by kernel_rfl))⟩
 f39:=⟨Tryz.f438.name,by decide,Tryz.func438.trans (congrArg some (by kernel_rfl))⟩
 f41:=⟨Tryz.f457.name,by decide,Tryz.func457.trans (congrArg some (by kernel_rfl))⟩
 t0:=Tryz.underlying0
 a0:=Tryz.isAgg0
 z0:=Tryz.sizeOf0
 v0:=Tryz.zeroValue0
 t3:=Tryz.underlying3
 a3:=Tryz.isAgg3
 z3:=Tryz.sizeOf3
 v3:=Tryz.zeroValue3
 t4:=Tryz.underlying4
 a4:=Tryz.isAgg4
 z4:=Tryz.sizeOf4
 v4:=Tryz.zeroValue4
 t5:=Tryz.underlying5
 a5:=Tryz.isAgg5
 z5:=Tryz.sizeOf5
 v5:=Tryz.zeroValue5
 t9:=Tryz.underlying9
 a9:=Tryz.isAgg9
 z9:=Tryz.sizeOf9
 v9:=Tryz.zeroValue9
 t26:=Tryz.underlying34
 a26:=Tryz.isAgg34
 z26:=Tryz.sizeOf34
 v26:=Tryz.zeroValue34
 t27:=Tryz.underlying34
 a27:=Tryz.isAgg34
 z27:=Tryz.sizeOf34
 v27:=Tryz.zeroValue34
 t29:=Tryz.underlying9
 a29:=Tryz.isAgg9
 z29:=Tryz.sizeOf9
 v29:=Tryz.zeroValue9
 t32:=Tryz.underlying308
 a32:=Tryz.isAgg308
 z32:=Tryz.sizeOf308
 v32:=Tryz.zeroValue308
 t35:=Tryz.underlying368
 a35:=Tryz.isAgg368
 z35:=Tryz.sizeOf368
 v35:=Tryz.zeroValue368
 t36:=Tryz.underlying369
 a36:=Tryz.isAgg369
 z36:=Tryz.sizeOf369
 v36:=Tryz.zeroValue369
 t41:=Tryz.underlying339
 a41:=Tryz.isAgg339
 z41:=Tryz.sizeOf339
 v41:=Tryz.zeroValue339
 t44:=Tryz.underlying343
 a44:=Tryz.isAgg343
 z44:=Tryz.sizeOf343
 v44:=Tryz.zeroValue343
 t46:=Tryz.underlying356
 a46:=Tryz.isAgg356
 z46:=Tryz.sizeOf356
 v46:=Tryz.zeroValue356
 t53:=Tryz.underlying395
 a53:=Tryz.isAgg395
 z53:=Tryz.sizeOf395
 v53:=Tryz.zeroValue395
 t57:=Tryz.underlying399
 a57:=Tryz.isAgg399
 z57:=Tryz.sizeOf399
 v57:=Tryz.zeroValue399
 t63:=Tryz.underlying422
 a63:=Tryz.isAgg422
 z63:=Tryz.sizeOf422
 v63:=Tryz.zeroValue422
 t64:=Tryz.underlying423
 a64:=Tryz.isAgg423
 z64:=Tryz.sizeOf423
 v64:=Tryz.zeroValue423}
end Go.Proofs
end

section
namespace Go.Proofs
open Go.RowKit Go.Maps Go.Sort Go.Shelf
theorem Tryz.Ys(m:Nat):AnyZ.SortsIn Tryz.prog Tryz.Ja Fence.wide m:=⟨λblk off cap ss W z c o=>callsIn_wide.2 (AnyM.slices_Sort_string Tryz.N8 blk off cap ss W z c o),λp cap W=>callsIn_wide.2 (AnyM.slices_Sort_string_none Tryz.N8 p cap W)⟩
open Go.AI in
set_option maxHeartbeats 1000000 in
theorem Tryz.Ll:Ww Tryz.prog 180 281 9:=by
 intro w Bm b c clock ks Z E hb T o hlen Q
 have Y:Tryz.prog.underlying 9=some .string:=Tryz.underlying9
 let R:Value->Option (DataW Unit×List MemPlace):=λ_=>some (.nil,[])
 have S:c.size=ks.length:=by have:=congrArg List.length o;simpa using this
 have V:∀x∈c.toList,∃k,k∈ks/\x.key=encStr k:=by intro x hx;have hm:x.key∈c.toList.map (·.key):=List.mem_map.2 ⟨x,hx,rfl⟩;rw[o,List.mem_map]at hm;obtain⟨k,hk,e⟩:=hm;exact⟨k,hk,e.symm⟩
 have N:∀k:List UInt8,k.length<=maxLen->keyOf Tryz.prog 9 (encStr k)=some (.string k):=by intro k hk;simp only[keyOf,Y,mapKey,encStr];simp;exact hk
 have z:∀x∈c.toList,∃k,k∈ks/\x.key=encStr k/\WideElems.rd Tryz.prog 9 R x=some (.string k,.nil):=by intro x hx;obtain⟨k,hk,e⟩:=V x hx;refine⟨k,hk,e,?_⟩;simp only[WideElems.rd,e,N k (hlen k hk),Option.bind_some,R,Option.map_some]
 have X:ks.length<=maxLen:=by
  have:maxLen=9223372036854775807:=by decide
  omega
 have K:w.ownsMap Tryz.prog 9 R b c.size (.map ((c.toList.map (WideElems.rg Tryz.prog 9 R)).foldr DataW.insert [])):=⟨c,clock,hb,⟨by omega,T,λx hx=>let⟨_,_,_,h⟩:=z x hx;⟨_,h⟩⟩,Nat.le_refl _,rfl⟩
 have M:(c.toList.map (WideElems.rg Tryz.prog 9 R)).map (λp=>strOf p.1)=ks:=by
  rw[List.map_map]
  have h1:c.toList.map ((λp=>strOf p.1)∘WideElems.rg Tryz.prog 9 R)=(c.toList.map (·.key)).map λv=>match v with|.string s=>s.data.toList|_=>[]:=by rw[List.map_map];refine List.map_congr_left λx hx=>?_;obtain⟨k,hk,e,h⟩:=z x hx;simp only[Function.comp,WideElems.rg_of h,e,encStr,strOf]
  rw[h1,o,List.map_map]
  have h2:((λv:Value=>match v with|.string s=>s.data.toList|_=>[])∘encStr)=id:=by grind
  simp_all
 have D:(strKeys (.map ((c.toList.map (WideElems.rg Tryz.prog 9 R)).foldr DataW.insert []))).Perm ks:=by have:=(WideShapes.sorted_perm (c.toList.map (WideElems.rg Tryz.prog 9 R))).map (λp=>strOf p.1);rw[M]at this;exact this
 have U:Maps.size (.map ((c.toList.map (WideElems.rg Tryz.prog 9 R)).foldr DataW.insert []))=ks.length:=by simp only[Maps.size,length_sorted,List.length_map,Array.length_toList,S]
 have F:SeqGives Fence.wide 2 Tryz.prog 281 #[.pointer (some ⟨Bm,0,none⟩)] encStr (λss=>ss.Perm (strKeys (.map ((c.toList.map (WideElems.rg Tryz.prog 9 R)).foldr DataW.insert [])))) (Maps.size (.map ((c.toList.map (WideElems.rg Tryz.prog 9 R)).foldr DataW.insert []))) w:=AnyZ.keys_gives (ρ:=Tryz.Jx) {Tryz.abj with} Fence.wide _ trivial rfl (by omega) Bm b c.size _ w Z E K
 refine(callsIn_wide.1 (AnyZ.sorted_in Tryz.Xb Fence.wide 5 trivial trivial trivial trivial rfl (by omega) (Tryz.Ys _) (enters_of Tryz.func280 (by kernel_rfl) rfl) 281 #[.pointer (some ⟨Bm,0,none⟩)] trivial (enters_of Tryz.func281 (by kernel_rfl) rfl) _ _ (by grind) (by grind) _ F)).mono ?_
 rintro e w'⟨v,ss,rfl,hp,I,L,O⟩
 have J:=hp.trans D
 refine⟨v,rfl,?_,?_,O⟩
 .rw[<-J.length_eq,<-mergeSort_of_perm J];exact I
 .rw[L]
  constructor
  .rintro rfl;simp_all
  .rintro rfl;simp_all
end Go.Proofs
end

section
namespace Go.Proofs
open Go.RowKit Go.Shelf
attribute [local go_sem] Oper.semAt_some
def Lst.upto {α: Type} (f: Nat→ α) (k: Nat): List α:= (List.range k).map f
theorem Lst.upto_succ {α: Type} (f: Nat→ α) (k: Nat): Lst.upto f (k+ 1)= Lst.upto f k++ [f k]:= by simp[Lst.upto,List.range_succ]
theorem Lst.upto_length {α: Type} (f: Nat→ α) (k: Nat): (Lst.upto f k).length= k:= by simp[Lst.upto]
def Lst.pr (zs: List ByteArray) (j: Nat): Int× ByteArray:= ((zs.length: Int) - 1 - j,zs[zs.length - 1 - j]?.getD ⟨#[]⟩)
set_option maxRecDepth 100000 in
set_option maxHeartbeats 2000000 in
theorem Lst.back1_in (F: Fence) (n: Nat) (h7: F.fn 467) (hro: F.round= none) (hn: 1≤ n) (l Bs n₀: Nat) (a: Option Addr) (cap: Nat) (zs: List ByteArray) (hreach: zs.length* 16≤ 140737488351232) (J Jx: List (Int× ByteArray)→ World→ Prop)
 (hY: ∀ pre x W,J pre W→ pre.length< zs.length→ YieldAt F (n - 1) Tryz.prog l #[.int .i64 x.1,.string x.2] W fun e W'=>
  (e= .returned (.bool true)∧ J (pre++ [x]) W'∧ Below n₀ W W')∨ (e= .returned (.bool false)∧ Jx (pre++ [x]) W'))
 (W: World) (hBs: W.cell? ⟨Bs,0,none⟩= some (.slice a zs.length cap)) (hB0: Bs< n₀) (hc: zs= []∨ ∃ b off,a= some ⟨b,off,none⟩∧ b< n₀∧ ∀ j,j< zs.length→ W.cell? ⟨b,off+ j,none⟩= some (.string (zs[j]?.getD ⟨#[]⟩))) (h0: J [] W):
 CallsIn F n Tryz.prog 467 #[.func (.yield l) #[] #[],.pointer (some ⟨Bs,0,none⟩)] W fun e W'=> (∃ v,e= .returned v)∧
  ((∃ ys,ys= Lst.upto (Lst.pr zs) zs.length∧ J ys W')∨ (∃ pre,(∃ k,k≤ zs.length∧ pre= Lst.upto (Lst.pr zs) k)∧ Jx pre W')):= by
 refine callsIn_of_wp Tryz.func467 rfl h7 ?_ hro
 simp only[Tryz.ntmps467,List.size_toArray,List.length_cons,List.length_nil,Nat.reduceAdd,Nat.reduceSub,Array.replicate_succ,Array.replicate_zero,List.push_toArray,List.append_toArray,List.nil_append,List.cons_append]
 gi_wp2
 gi_loopw [3] (fun i wr=> ∃ k: Nat,k≤ zs.length∧ i= .int .i64 ((zs.length: Int) - 1 - k)∧ J (Lst.upto (Lst.pr zs) k) wr∧ Below n₀ W wr)
  (fun i _=> (intOf i+ 1).toNat)
 case atStart=> exact⟨0,Nat.zero_le _,by simp,h0,Below.refl _ _⟩
 case round=>
  obtain⟨k,hk,rfl,hJs,hnx⟩:= hrel
  have hBx: wr.cell? ⟨Bs,0,none⟩= some (.slice a zs.length cap):= (hnx.cell (p:= ⟨Bs,0,none⟩) hB0).trans hBs
  by_cases hlt: k< zs.length
  · have hne: zs≠ []:= fun e=> by grind
    obtain⟨b,off,rfl,hb,hcs⟩:= hc.resolve_left hne
    have hge: (zs.length: Int) - 1 - k≥ 0:= by omega
    have hcx: wr.cell? ⟨b,off+ (zs.length - 1 - k),none⟩= some (.string (zs[zs.length - 1 - k]?.getD ⟨#[]⟩)):= (hnx.cell (p:= ⟨b,off+ (zs.length - 1 - k),none⟩) hb).trans (hcs _ (by omega))
    obtain⟨fn,tmps,assign,body,hy,hR⟩:= hY _ (Lst.pr zs k) wr hJs (by rw[Lst.upto_length];exact hlt)
    dsimp only[Lst.pr]at hy
    have et: ((zs.length: Int) - 1 - k).toNat= zs.length - 1 - k:= by omega
    have hl1: ((zs.length: Int) - 1 - k)< zs.length:= by omega
    gi_wp2
    refine hR.mono ?_
    rintro e W3 (⟨rfl,hJ3,hk3⟩| ⟨rfl,hJx3⟩)
    · gi_wp2
      go_roundw
      case rel=> exact⟨k+ 1,by omega,by simp;omega,by rw[Lst.upto_succ];exact hJ3,hnx.trans hk3⟩
      case measure=> simp[intOf];omega
    · gi_wp2
      refine bodyPost_ret (results_none rfl _ _ _) rfl ?_
      exact⟨⟨_,rfl⟩,.inr ⟨_,⟨k+ 1,by omega,(Lst.upto_succ _ _).symm⟩,hJx3⟩⟩
  · obtain rfl: k= zs.length:= by omega
    gi_wp2
    go_end0
    simp_all
def cw.nu (n₀: Nat) (W: World) (a: Option Addr) (zs: List ByteArray): Prop:=
 zs= []∨ ∃ b off,a= some ⟨b,off,none⟩∧ b< n₀∧ ∀ j,j< zs.length→ W.cell? ⟨b,off+ j,none⟩= some (.string (zs[j]?.getD ⟨#[]⟩))
theorem cw.nu.below {n₀: Nat} {A B: World} (h: Below n₀ A B) {a: Option Addr} {zs: List ByteArray}: cw.nu n₀ A a zs→ cw.nu n₀ B a zs
 |.inl e=> .inl e
 |.inr ⟨b,off,e,hb,hc⟩=> .inr ⟨b,off,e,hb,fun j hj=> (h.cell (p:= ⟨b,off+ j,none⟩) hb).trans (hc j hj)⟩
theorem cw.nu.mono {n₀ n₁: Nat} {A: World} (h: n₀≤ n₁) {a: Option Addr} {zs: List ByteArray}: cw.nu n₀ A a zs→ cw.nu n₁ A a zs
 |.inl e=> .inl e
 |.inr ⟨b,off,e,hb,hc⟩=> .inr ⟨b,off,e,Nat.lt_of_lt_of_le hb h,hc⟩
set_option maxHeartbeats 1000000 in
theorem Lst.back_in (F: Fence) (n: Nat) (h5: F.fn 456) (hro: F.round= none) (a: Option Addr) (len cap: Nat) (w: World):
 CallsIn F n Tryz.prog 456 #[.slice a len cap] w fun e w'=> e= .returned (.func (.func 467) #[] #[.pointer (some ⟨w.heap.size,0,none⟩)])∧ w'= w.alloc (.cells #[.slice a len cap] 34):= by
 refine callsIn_of_wp Tryz.func456 rfl h5 ?_ hro
 simp only[Tryz.ntmps456,List.size_toArray,List.length_cons,List.length_nil,Nat.reduceAdd,Nat.reduceSub,Array.replicate_succ,Array.replicate_zero,List.push_toArray,List.append_toArray,List.nil_append,List.cons_append]
 gi_wp2
 go_ret
 simp_all
theorem Lst.back_stops (F: Fence) (n: Nat) (h7: F.fn 467) (hro: F.round= none) (hn: 1≤ n) (Bs n₀: Nat) (a: Option Addr) (cap: Nat) (zs: List ByteArray) (hreach: zs.length* 16≤ 140737488351232) (w: World) (hB0: Bs< n₀) (hn₀: n₀≤ w.heap.size)
 (hc: w.cell? ⟨Bs,0,none⟩= some (.slice a zs.length cap)) (hI: cw.nu n₀ w a zs):
 SeqStopsK F n Tryz.prog 467 #[.pointer (some ⟨Bs,0,none⟩)] (fun x: Int× ByteArray=> #[Value.int .i64 x.1,Value.string x.2]) (Below n₀) (fun ys=> ys= Lst.upto (Lst.pr zs) zs.length)
  (fun pre=> ∃ k,k≤ zs.length∧ pre= Lst.upto (Lst.pr zs) k) zs.length w:= fun l J Jx W hW _ _ hY h0=>
 Lst.back1_in F n h7 hro hn l Bs n₀ a cap zs hreach J Jx hY W (((hW.mono hn₀).cell (p:= ⟨Bs,0,none⟩) hB0).trans hc) hB0 (hI.below (hW.mono hn₀)) h0
set_option maxRecDepth 100000 in
set_option maxHeartbeats 2000000 in
theorem cw.abl (F: Fence) (n: Nat) (h4: F.fn 432) (h6: F.fn 456) (h8: F.fn 467) (hro: F.round= none) (hn: 3≤ n) (a: Option Addr) (cap: Nat) (s: ByteArray) (zs: List ByteArray) (hreach: zs.length* 16≤ 140737488351232) (w: World) (hI: cw.nu w.heap.size w a zs):
 CallsIn F n Tryz.prog 432 #[.slice a zs.length cap,.string s] w fun e W'=>
  ((e= .returned (.int .i64 (-1))∧ ∀ j,j< zs.length→ ((zs[j]?.getD ⟨#[]⟩).toList== s.toList)= false)∨ (∃ k: Nat,k< zs.length∧ e= .returned (.int .i64 k)∧ ((zs[k]?.getD ⟨#[]⟩).toList== s.toList)= true∧ ∀ j,k< j→ j< zs.length→ ((zs[j]?.getD ⟨#[]⟩).toList== s.toList)= false))∧ Below w.heap.size w W':= by
 have h1: 1≤ n:= by omega
 refine callsIn_of_wp_marks Tryz.func432 rfl h4 ?_ hro
 simp only[Tryz.ntmps432,List.size_toArray,List.length_cons,List.length_nil,Nat.reduceAdd,Nat.reduceSub,Array.replicate_succ,Array.replicate_zero,List.push_toArray,List.append_toArray,List.nil_append,List.cons_append]
 gi_wp2_with (gi_at_call 456;refine (Lst.back_in F (n - 1) h6 hro _ _ _ _).mono ?_;rintro e w' ⟨rfl,rfl⟩)
 have bS:= Boxed.new w 9 (.string s)
 have bR:= Boxed.new (w.alloc (.cells #[.string s] 9)) 3 (.int .i64 0)
 have bN:= Boxed.new ((w.alloc (.cells #[.string s] 9)).alloc (.cells #[.int .i64 0] 3)) 34 (.slice a zs.length cap)
 rw[World.size_alloc]at bR
 rw[World.size_alloc,World.size_alloc]at bN
 have hB0: Below w.heap.size w (((w.alloc (.cells #[.string s] 9)).alloc (.cells #[.int .i64 0] 3)).alloc (.cells #[.slice a zs.length cap] 34)):= (((Below.refl _ w).alloc (Nat.le_refl _) _).alloc (by simp) _).alloc (by simp;omega) _
 refine wpIn_rangeFunc_ownG hro h1 (gf:= 467) (lb:= #[.pointer (some ⟨w.heap.size+ 1+ 1,0,none⟩)]) rfl h8 (enters_of Tryz.func467 (by kernel_rfl) rfl)
  (Lst.back_stops F (n - 1) h8 hro (by omega) (w.heap.size+ 1+ 1) (w.heap.size+ 3) a cap zs hreach _ (by omega) (by simp) bN.cell ((hI.below hB0).mono (by omega))) belowK_t (belowK_b (by simp)) (Below.refl _ _) (fun _=> rfl)
  (fun pre W=> ((∀ p∈ pre,(p.2.toList== s.toList)= false)∧ W.cell? ⟨w.heap.size+ 1,0,none⟩= some (.int .i64 0)∧ W.frozen? ⟨w.heap.size+ 1,0,none⟩= false∧ W.cell? ⟨w.heap.size,0,none⟩= some (.string s))∧ Below w.heap.size w W)
  (fun c pre W=> (c= .ret∧ ∃ ini last,pre= ini++ [last]∧ (∀ p∈ ini,(p.2.toList== s.toList)= false)∧ (last.2.toList== s.toList)= true∧ W.cell? ⟨w.heap.size+ 1,0,none⟩= some (.int .i64 last.1))∧ Below w.heap.size w W)
  (OwnFrom.and (Own.from (fun s A B row hs hg hr=> ⟨hs.1,cell_kept hs.2.1 hg hr,(frozen_kept hs.2.1 hg hr).trans hs.2.2.1,cell_kept hs.2.2.2 hg hr⟩) _) (ownFrom_below (Nat.le_refl _) (by simp;omega)))
  (fun c=> OwnFrom.and (Own.from (fun s A B row hs hg hr=> by obtain⟨hc,ini,last,e1,e2,e3,e4⟩:= hs;exact⟨hc,ini,last,e1,e2,e3,cell_kept e4 hg hr⟩) _) (ownFrom_below (Nat.le_refl _) (by simp;omega)))
  ⟨⟨by simp,(bR.alloc _).cell,(bR.alloc _).frozen,((bS.alloc _).alloc _).cell⟩,hB0⟩
  (fun x=> { tmps:= #[.slice a zs.length cap,.string s,undef,.pointer (some ⟨w.heap.size,0,none⟩),.pointer (some ⟨w.heap.size+ 1,0,none⟩),.int .i64 x.1,.string x.2,.slice a zs.length cap,.func (.func 467) #[] #[.pointer (some ⟨w.heap.size+ 1+ 1,0,none⟩)],.int .i64 x.1,.string x.2,undef,undef,undef,undef],defers:= [] }) ?assign ?body ?done ?stop
 case assign=>
  intro l x W K hK
  gi_wp2
  exact hK
 case body=>
  rintro l pre x W ⟨⟨hp,hcr,hfr,hcs⟩,hB⟩ _
  gi_wp2
  · have hx: (x.2.toList== s.toList)= true:= by grind
    exact⟨(KeepsOthers.setCell _ _ _).from _,⟨rfl,pre,x,rfl,hp,hx,World.cell?_setCell_same' _ _ _ (by grind)⟩,hB.setCell (p:= ⟨w.heap.size+ 1,0,none⟩) (by simp) _⟩
  · have hx: (x.2.toList== s.toList)= false:= by grind
    exact⟨KeepsFrom.refl _ _,Below.refl _ _,⟨fun p hp'=> (List.mem_append.1 hp').elim (hp p) (fun e=> by grind),hcr,hfr,hcs⟩,hB⟩
 case done=>
  rintro D ys W hD rfl ⟨⟨hne,hcr,hfr,_⟩,hB⟩ hK
  gi_wp2
  have hK':= (KeepsOthers.setCell W ⟨w.heap.size+ 1,0,none⟩ (.int .i64 (-1))).same D _ hK rfl
  refine⟨by simp,.inl ⟨_,_,rfl,run_takeDeferred hK',?_⟩⟩
  have hc5:= cell_kept (World.cell?_setCell_same' W ⟨w.heap.size+ 1,0,none⟩ (.int .i64 (-1)) (by grind)) (grownBy_putObj' _ D (.deferred none)) (fun r e=> by cases e;exact⟨_,hK',rfl⟩)
  refine⟨.int .i64 (-1),?_,.inl ⟨rfl,fun j hj=> ?_⟩,(hB.setCell (p:= ⟨w.heap.size+ 1,0,none⟩) (by simp) _).trans (belowK_b (w:= w) (Nat.le_refl _) _ D _ _ (by simp at hD;omega) hK' rfl rfl)⟩
  · simp[results,Tryz.f432,go_sem,hc5]
  · have:= hne (Lst.pr zs (zs.length - 1 - j)) (by simp only[Lst.upto,List.mem_map,List.mem_range];grind)
    simpa [Lst.pr,show zs.length - 1 - (zs.length - 1 - j)= j by omega]using this
 case stop=>
  rintro D c pre W hD ⟨k,hk,rfl⟩ ⟨⟨rfl,ini,last,e1,e2,e3,hcr⟩,hB⟩ hK
  gi_wp2
  refine⟨by simp,.inl ⟨_,_,rfl,run_takeDeferred hK,?_⟩⟩
  have hc5:= cell_kept hcr (grownBy_putObj' _ D (.deferred none)) (fun r e=> by cases e;exact⟨_,hK,rfl⟩)
  obtain⟨k',rfl⟩: ∃ k',k= k'+ 1:= by
   cases k with
   |zero=> simp[Lst.upto]at e1
   |succ k'=> grind
  rw[Lst.upto_succ]at e1
  obtain⟨rfl,e5⟩:= List.append_inj' e1 rfl
  obtain rfl: Lst.pr zs k'= last:= by grind
  have e6: ((zs.length: Int) - 1 - k')= ((zs.length - 1 - k': Nat): Int):= by omega
  refine⟨.int .i64 ((zs.length: Int) - 1 - k'),?_,.inr ⟨zs.length - 1 - k',by omega,by rw[e6],e3,fun j hj hj2=> ?_⟩,hB.trans (belowK_b (w:= w) (Nat.le_refl _) W D _ _ (by simp at hD;omega) hK rfl rfl)⟩
  · simp[results,Tryz.f432,go_sem,hc5,Lst.pr]
  · have:= e2 (Lst.pr zs (zs.length - 1 - j)) (by simp only[Lst.upto,List.mem_map,List.mem_range];grind)
    simpa [Lst.pr,show zs.length - 1 - (zs.length - 1 - j)= j by omega]using this
end Go.Proofs
end
