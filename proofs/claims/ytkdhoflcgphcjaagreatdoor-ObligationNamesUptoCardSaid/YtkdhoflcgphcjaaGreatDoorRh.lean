/- A part of the proof. -/
import Derived.Lib.LaidTab
import Derived.Test.YtkdhoflcgphcjaaGreatDoorW
import Derived.Test.YtkdhoflcgphcjaaGreatDoorRg
import Derived.Test.YtkdhoflcgphcjaaGreatDoorRj
import Derived.Test.YtkdhoflcgphcjaaGreatDoorRk
set_option linter.all false

namespace Go.Proofs.YtkdhoflcgphcjaaGreatDoor
open Go.ChangeShapes Go.WideShapes Go.ChangeAt Go.RowKit Go.AI
theorem same_heap{w w':World}(hold:∀b,b<w.heap.size->w'.heap[b]?=w.heap[b]?){p:MemPlace}(hp:p.block<w.heap.size):w.sameAt w' p:=by cases p with|cell b off=>show w'.cell? _=w.cell? _;unfold World.cell?;rw[hold b hp]|map b=>exact hold b hp
theorem carryAll{H:Type}{enc:TypeId×Value->H}{P:Program}{w w':World}{base:Nat}{sp:Nat->Bool}{held:Bool}:∀{ts:List TypeId}{vs:List Value}{ds:List (DataW H)}{ps:List MemPlace},DataW.TrodAll enc P w base sp held ts vs ds ps->(∀p∈ps,w.sameAt w' p)->DataW.TrodAll enc P w' base sp held ts vs ds ps|[],[],[],_,h,_=>h|_::_,_::_,_::_,_,⟨p,q,⟨n,h1⟩,h2,e⟩,hs=>⟨p,q,⟨n,DataW.trod_carry n _ _ _ h1 λx hx=>hs x (by rw[e];exact List.mem_append_left _ hx)⟩,carryAll h2 (λx hx=>hs x (by rw[e];exact List.mem_append_right _ hx)),e⟩
theorem kept_old{w w':World}(ho:w'.os=w.os)(hu:w'.output=w.output)(hold:∀b,b<w.heap.size->w'.heap[b]?=w.heap[b]?)(may:MemPlace->Prop):w.keptBut w' may:=by
 refine⟨ho,hu,λi hi=>?_⟩
 rw[hold i hi]
 split
 .rename_i a b;cases a.symm.trans b;exact⟨rfl,rfl,rfl,λ_ _=>rfl⟩
 .rename_i a b;cases a.symm.trans b;exact .inr ⟨rfl,rfl⟩
 .rfl
def blkOf(H:Type):Blk H where
 blk:=Rows.uptoBulk
 all:=Rows.uptoBulkAll
 str:=λb=>by simp[Rows.uptoBulk]
 lit:=λl=>by cases l<;>simp[Rows.uptoBulk]
 nil:=by simp[Rows.uptoBulk]
 sl:=λes sp=>by simp only[Rows.uptoBulk];omega
 agg:=λps=>by simp[Rows.uptoBulk]
 none:=by simp[Rows.uptoBulkAll]
 cons:=λd r=>by simp[Rows.uptoBulkAll]
theorem one_cell{P:Program}{w:World}{base:Nat}{t:TypeId}{v:Value}(ht:(∃e,P.underlying t=some (.slice e))\/P.underlying t=some .string)(hok:Value.okWide P w .any base t v):v.cells.toList=[v]:=by
 cases v with
 |agg cs=>
  exfalso
  unfold Value.okWide at hok
  rcases ht with⟨e,ht⟩|ht
  .rw[ht]at hok;unfold Cell.okWide Cell.ok at hok;rw[ht]at hok;exact hok
  .rw[ht]at hok;unfold Cell.okWide Cell.ok at hok;rw[ht]at hok;exact hok|_=>rfl
set_option maxRecDepth 100000 in
theorem list_of{H:Type}{enc:TypeId×Value->H}{w:World}{base:Nat}{v:Value}{d:DataW H}{p:List MemPlace}(hok:Value.okWide Tryz.prog w .any base 22 v)(h:DataW.Trod enc Tryz.prog w 0 (λ_=>true) true 22 v d p):∃rows x,Rd Tryz.prog w00S 52 rows x/\wtRs rows+2<=2*(blkOf H).blk d/\(∀r,r∈rows->Cn Tryz.prog (lay Tryz.prog 52) r)/\VR (gw w) x v:=by
 obtain⟨n,h⟩:=h
 obtain⟨r,r',⟨q1,qc⟩,q2,q3,q4⟩:=br (B:=blkOf H) okS n 22 _ _ (by decide) h
 have hl:lay Tryz.prog 22=[.sl 52]:=by kernel_rfl
 rw[hl]at q1 qc;cases qc with|sl g hn0=>cases hn0;cases q1 with|cons hc hn=>cases hn;cases hc with|sl hd=>rw[one_cell (.inl ⟨_,Tryz.underlying22⟩) hok]at q3;refine⟨_,_,hd,?_,g,q3.1⟩;simp only[wtR,wtA]at q4;have q4:_<=2*(blkOf H).blk d:=q4;omega
set_option maxRecDepth 100000 in
theorem text_of{H:Type}{enc:TypeId×Value->H}{w:World}{base:Nat}{v:Value}{d:DataW H}{p:List MemPlace}(hok:Value.okWide Tryz.prog w .any base 9 v)(h:DataW.Trod enc Tryz.prog w 0 (λ_=>true) true 9 v d p):∃s:ByteArray,v=.string s/\s.size+2<=2*(blkOf H).blk d:=by
 obtain⟨n,h⟩:=h
 rw[one_cell (.inr Tryz.underlying9) hok]at h
 obtain⟨s,e,hq,_⟩:=DataW.trod_string Tryz.underlying9 h
 cases hq
 have:=(blkOf H).str s.data.toList
 have e1:s.data.toList.length=s.size:=by simp
 refine⟨s,by simpa using e,?_⟩;show s.size+2<=2*(blkOf H).blk (.lit (.string s.data.toList));omega
set_option maxRecDepth 100000 in
theorem lifted(os:Os)(started:os.Started)(H:Type)(enc:TypeId×Value->H)(G:Stop.Interp):ReturnsInHanded Rows.obligationNamesUptoRow.assume Tryz.checked os 3 .any (Rows.obligationNamesUptoRow.pre enc Tryz.prog Tryz.f3 (Rows.OpenSpec.upto Rows.obligationNamesSpec)) (((Rows.OpenSpec.upto Rows.obligationNamesSpec).at G).post enc Tryz.prog Tryz.f3 Rows.obligationNamesUptoRow.apart Rows.obligationNamesUptoRow.fresh Rows.obligationNamesUptoRow.handsOn Rows.obligationNamesUptoRow.again):=by
 rw[OpenClaim.pre_eq_preRow]
 refine returnsInHanded_of_row (C:=Tryz.checked) own started (by kernel_rfl) Tryz.func3 (witness_row_atRef (enc:=enc) (C:=Tryz.checked) (os:=os) false (World.laidAll Tryz.prog os Rows.obligationNamesUptoRow.laid) #[.slice none 0 0,.slice none 0 0,.string ⟨#[]⟩] (World.laidAll_os _ _ _) (wit1 os) (wit2 os) (wit3 os) ⟨⟨(OpenSpec.pre_some rfl _ _ _ _).2 ⟨[.nil,.nil,.lit (.string [])],[],[],DataW.Whole_of_whole (fuel:=8) (x:=([.nil,.nil,.lit (.string [])],[],[])) (by kernel_rfl),by kernel_rfl,by kernel_rfl⟩,by rw[MakeChecks.laidMetH_plain _ _ _ (by kernel_rfl)];exact laidMet_laidAll _ (by kernel_rfl) (by kernel_rfl)⟩,sizedMet_of_sizedB (fuel:=8) (by kernel_rfl)⟩) ?_
 intro W base args ds gs before hval0 hW _ hcond _ _ _ _
 have hval:∀(j:Nat)t v,Tryz.f3.params[j]?=some t->args[j]?=some v->Value.okWide Tryz.prog W .any base t v:=hval0
 have hW':=hW
 obtain⟨p,q,hA0,hV,rfl,_,_⟩:=hW
 have hA:DataW.TrodAll enc Tryz.prog W 0 (λ_=>true) true Tryz.f3.params.toList args.toList ds p:=hA0
 rw[Tryz.params3]at hA hval
 obtain⟨rfl,rfl⟩:=trodVars_none hV
 have hB:=hA
 obtain⟨v0,v1,v2,d0,d1,d2,p0,p1,p2,rfl,rfl,rfl,t0,t1,t2⟩:=trodAll_three hA
 have hb:=hcond Rows.uptoSmall rfl
 have hb:Rows.uptoBulkAll ([d0,d1,d2]++[])<=1048576:=of_decide_eq_true hb
 simp only[List.append_nil,Rows.uptoBulkAll]at hb
 obtain⟨l,x,hd1,hw1,hc1,r1⟩:=list_of (hval 0 22 v0 rfl rfl) t0
 obtain⟨k,y,hd2,hw2,hc2,r2⟩:=list_of (hval 1 22 v1 rfl rfl) t1
 obtain⟨s,rfl,hw3⟩:=text_of (hval 2 9 v2 rfl rfl) t2
 have hw1:wtRs l+2<=2*Rows.uptoBulk d0:=hw1
 have hw2:wtRs k+2<=2*Rows.uptoBulk d1:=hw2
 have hw3:s.size+2<=2*Rows.uptoBulk d2:=hw3
 refine(law_calls progOK hd1 hd2 (by omega) hc1 hc2 r1 r2).mono ?_
 rintro e W'⟨rfl,ho,hu,hold⟩
 refine⟨_,rfl,_,_,_,[],(p0++p1++p2),[],hW',?_,?_,rfl,kept_old ho hu hold _,λh=>by cases h⟩
 .exact trodAll_mk1 (shut_bool Tryz.underlying4 _)
 .have hlt:∀x∈p0++p1++p2,x.block<W.heap.size:=λx hx=>hW'.lt x (by simpa using hx);have:=DataW.TrodAll.respare (spare':=λb=>decide (b<W.heap.size)) (kids_rows laidOut rowed) (slices_full_of Tryz.prog full) (by
  intro t ht
  simp only[List.mem_cons,List.mem_nil_iff,or_false]at ht
  rcases ht with rfl|rfl|rfl
  .exact sizes.1
  .exact sizes.1
  .exact sizes.2) hB (λx hx=>by simpa using hlt x hx);have h2:=carryAll this (λx hx=>same_heap hold (hlt x hx));show DataW.TrodAll enc Tryz.prog W' 0 _ true Tryz.f3.params.toList _ _ _;rw[Tryz.params3];exact h2
end Go.Proofs.YtkdhoflcgphcjaaGreatDoor
