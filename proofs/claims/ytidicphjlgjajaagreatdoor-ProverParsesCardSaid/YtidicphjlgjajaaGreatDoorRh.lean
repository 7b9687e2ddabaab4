/-
  A part of the proof: R2.
-/
import Derived.Test.YtidicphjlgjajaaGreatDoorRows
import Derived.Test.YtidicphjlgjajaaGreatDoorChecked
import Derived.Deep.DeepWitnessRowRef
import Derived.Lib.LaidTab
import Derived.LaidLaws
import Derived.Shelf.Vars
import Derived.ProofKit
import Derived.OpenShut
import Derived.LaidMore
import Derived.Lay
import Derived.SevenTiedAt
import Derived.Stop.Joined
import Derived.ReadAgain
import Derived.KernelRfl
import Derived.Test.YtidicphjlgjajaaGreatDoorW
import Derived.Test.YtidicphjlgjajaaGreatDoorRg
set_option linter.all false

namespace Go.Proofs.YtidicphjlgjajaaGreatDoor
open Go.ChangeShapes Go.WideShapes Go.ChangeAt Go.RowKit Go.AI
set_option linter.all false
theorem RW{w w':World}(hold:∀b,b<w.heap.size->w'.heap[b]?=w.heap[b]?){p:MemPlace}(hp:p.block<w.heap.size):w.sameAt w' p:=by cases p with|cell b off=>show w'.cell? _=w.cell? _;unfold World.cell?;rw[hold b hp]|map b=>exact hold b hp
theorem JK{H:Type}{enc:TypeId×Value->H}{P:Program}{w w':World}{base:Nat}{sp:Nat->Bool}{held:Bool}:∀{ts:List TypeId}{vs:List Value}{ds:List (DataW H)}{ps:List MemPlace},DataW.TrodAll enc P w base sp held ts vs ds ps->(∀p∈ps,w.sameAt w' p)->DataW.TrodAll enc P w' base sp held ts vs ds ps|[],[],[],_,h,_=>h|_::_,_::_,_::_,_,⟨p,q,⟨n,h1⟩,h2,e⟩,hs=>⟨p,q,⟨n,DataW.trod_carry n _ _ _ h1 λx hx=>hs x (by rw[e];exact List.mem_append_left _ hx)⟩,JK h2 (λx hx=>hs x (by rw[e];exact List.mem_append_right _ hx)),e⟩
theorem S4{w w':World}(ho:w'.os=w.os)(e:w'.output=w.output)(hold:∀b,b<w.heap.size->w'.heap[b]?=w.heap[b]?)(c:MemPlace->Prop):w.keptBut w' c:=by
 refine⟨ho,e,λi hi=>?_⟩
 rw[hold i hi]
 split
 .rename_i a b;cases a.symm.trans b;exact⟨rfl,rfl,rfl,λ_ _=>rfl⟩
 .rename_i a b;cases a.symm.trans b;exact .inr ⟨rfl,rfl⟩
 .rfl
theorem VP{H:Type}{enc:TypeId×Value->H}{P:Program}{w:World}{base:Nat}{t:TypeId}{v:Value}{d:DataW H}{p:List MemPlace}(ht:P.underlying t=some .string)(aS:Value.okWide P w .any base t v)(h:DataW.Trod enc P w 0 (λ_=>true) true t v d p):∃s,v=.string s:=by
 obtain⟨n,h⟩:=h
 obtain⟨s,e,_⟩:=DataW.trod_string ht h
 have b:∀cs,v≠.agg cs:=by rintro cs rfl;unfold Value.okWide at aS;rw[ht]at aS;unfold Cell.okWide Cell.ok at aS;rw[ht]at aS;exact aS
 cases v<;>first|exact absurd rfl (b _)|(simp[Value.cells]at e;done)|(simp only[Value.cells,List.cons.injEq,and_true]at e;exact⟨_,e⟩)
theorem UC:(Tryz.prog.globals[5]?).map (·.type)=some 316:=by kernel_rfl
theorem UD:(Tryz.prog.globals[3]?).map (·.type)=some 86:=by kernel_rfl
theorem UE:(Tryz.prog.globals[4]?).map (·.type)=some 86:=by kernel_rfl
theorem VQ{w:World}(h:laidMetH Tryz.prog Rows.proverParsesRow.laid w)(hs:w.ShapedOpen Tryz.prog):te w:=by
 rw[MakeChecks.laidMetH_plain _ _ _ (by kernel_rfl)]at h
 obtain⟨ps,h,_⟩:=h
 obtain⟨_,_,_,_,_,_,_,_,_,_,h,_⟩:=h
 obtain⟨_,_,_,_,_,_,_,_,_,_,h,_⟩:=h
 obtain⟨g,t,cs,fuel,p,q,hg,I,hv,hd,h,_⟩:=h
 obtain⟨_,_,_,_,_,_,_,_,_,_,h,_⟩:=h
 obtain⟨_,_,_,_,_,_,_,_,_,_,h,_⟩:=h
 obtain⟨P,t1,K,R,p1,q1,D,B,u,F,h,_⟩:=h
 obtain⟨g2,t2,J,Q,p2,q2,C,v,o,E,_,_⟩:=h
 have j:Tryz.prog.globalNamed "internal/strconv.uint64pow10"=some 5:=by kernel_rfl
 have i:Tryz.prog.globalNamed "strconv.ErrSyntax"=some 3:=by kernel_rfl
 have f:Tryz.prog.globalNamed "strconv.ErrRange"=some 4:=by kernel_rfl
 obtain rfl:=Option.some.inj (j.symm.trans hg)
 obtain rfl:=Option.some.inj (UC.symm.trans I)
 obtain rfl:=Option.some.inj (i.symm.trans D)
 obtain rfl:=Option.some.inj (UD.symm.trans B)
 obtain rfl:=Option.some.inj (f.symm.trans C)
 obtain rfl:=Option.some.inj (UE.symm.trans v)
 have eY:=Lib.cells_of_tab (k:=.u64) (zs:=Lib.pow10Tab) Tryz.underlying316 Tryz.underlying176 (by kernel_rfl) (by kernel_rfl) (p:=p) (by rw[hd];exact congrArg (λd=>some (d,p)) (by kernel_rfl))
 have G:cs=(Lib.pow10Tab.map λz=>Value.int .u64 z).toArray:=Array.ext' (eY.trans rfl)
 obtain⟨_,O,M,n,_,_⟩:=iface_of_trod Tryz.underlying86 F
 obtain⟨_,N,L,l,_,_⟩:=iface_of_trod Tryz.underlying86 E
 intro b c e
 unfold Bk at e
 split at e
 .cases e;obtain⟨m,hm⟩:=cell_of_shapedOpen_int (zero:=#[.int .i64 0]) (t:=3) hs (of_decide_eq_true (by kernel_rfl)) (by kernel_rfl) rfl (by kernel_rfl) (by kernel_rfl) Tryz.underlying3;exact Pc hm λcs hc=>⟨m,hc⟩
 .cases e;exact B9 i u (xG n).1 (xG n).2
 .cases e;exact B9 f o (xG l).1 (xG l).2
 .cases e;exact B9 j hv (by rw[G];decide) G
 .cases e
set_option maxRecDepth 100000 in
theorem lifted(os:Os)(c:os.Started)(H:Type)(enc:TypeId×Value->H)(G:Stop.Interp):
 ReturnsInHanded Rows.proverParsesRow.assume Tryz.checked os 3 .any (Rows.proverParsesRow.pre enc Tryz.prog Tryz.f3 (OpenSpec.ofChange Rows.proverParsesSpec)) (((OpenSpec.ofChange Rows.proverParsesSpec).at G).post enc Tryz.prog Tryz.f3 Rows.proverParsesRow.apart Rows.proverParsesRow.fresh Rows.proverParsesRow.handsOn Rows.proverParsesRow.again):=by
 rw[OpenClaim.pre_eq_preRow]
 refine returnsInHanded_of_row (C:=Tryz.checked) own c (by kernel_rfl) Tryz.func3 (witness_row_atRef (enc:=enc) (C:=Tryz.checked) (os:=os) false (World.laidAll Tryz.prog os Rows.proverParsesRow.laid) #[.string ⟨#[]⟩] (World.laidAll_os _ _ _) (by kernel_rfl) (by kernel_rfl) (by kernel_rfl) ⟨⟨OpenSpec.pre_of_parts (DataW.Whole_of_whole (fuel:=8) (x:=([.lit (.string [])],[],[])) (by kernel_rfl)) (by kernel_rfl) (λk hk=>by cases hk),by rw[MakeChecks.laidMetH_plain _ _ _ (by kernel_rfl)];exact laidMet_laidAll _ (by kernel_rfl) (by kernel_rfl)⟩,sizedMet_of_sizedB (fuel:=8) (by kernel_rfl)⟩) ?_
 intro W base args ds gs before g hW _ _ _ i n _
 have f:∀(j:Nat)t v,Tryz.f3.params[j]?=some t->args[j]?=some v->Value.okWide Tryz.prog W .any base t v:=g
 have m:=hW
 obtain⟨p,q,o,B,rfl,_,_⟩:=hW
 have hA:DataW.TrodAll enc Tryz.prog W 0 (λ_=>true) true Tryz.f3.params.toList args.toList ds p:=o
 rw[Tryz.params3]at hA f
 obtain⟨rfl,rfl⟩:=trodVars_none B
 have hB:=hA
 obtain⟨w,d0,rfl,rfl,t0⟩:=trodAll_one hA
 obtain⟨s,rfl⟩:=VP Tryz.underlying9 (f 0 9 w rfl rfl) t0
 refine(RU VO (VQ i n)).mono ?_
 rintro e D⟨rfl,ho,z,hold⟩
 refine⟨_,rfl,_,_,_,[],p,[],m,?_,?_,rfl,S4 ho z hold _,λh=>by cases h⟩
 .exact trodAll_mk1 (shut_bool Tryz.underlying4 _)
 .have l:∀x∈p,x.block<W.heap.size:=λx hx=>m.lt x (by simpa using hx);have:=DataW.TrodAll.respare (spare':=λb=>decide (b<W.heap.size)) (kids_rows laidOut XB) (slices_full_of Tryz.prog full) (by intro t u;simp only[List.mem_cons,List.mem_nil_iff,or_false]at u;rcases u with rfl;exact XC) hB (λx hx=>by simpa using l x hx);have h2:=JK this (λx hx=>RW hold (l x hx));show DataW.TrodAll enc Tryz.prog D 0 _ true Tryz.f3.params.toList _ _ _;rw[Tryz.params3];exact h2
end Go.Proofs.YtidicphjlgjajaaGreatDoor
