/- A part of the proof. -/
import Derived.Lib.LaidTab
import Derived.Test.YteibmaelhdbgfaaGreatDoorW
import Derived.Test.YteibmaelhdbgfaaGreatDoorRg
import Derived.Test.YteibmaelhdbgfaaGreatDoorRj
import Derived.Test.YteibmaelhdbgfaaGreatDoorRk
set_option linter.all false

namespace Go.Proofs.YteibmaelhdbgfaaGreatDoor
open Go.ChangeShapes Go.WideShapes Go.ChangeAt Go.RowKit Go.AI
theorem same_heap{w w':World}(hold:∀b,b<w.heap.size->w'.heap[b]?=w.heap[b]?){p:MemPlace}(hp:p.block<w.heap.size):w.sameAt w' p:=by cases p with|cell b off=>show w'.cell? _=w.cell? _;unfold World.cell?;rw[hold b hp]|map b=>exact hold b hp
theorem carryAll{H:Type}{enc:TypeId×Value->H}{P:Program}{w w':World}{base:Nat}{sp:Nat->Bool}{held:Bool}:∀{ts:List TypeId}{vs:List Value}{ds:List (DataW H)}{ps:List MemPlace},DataW.TrodAll enc P w base sp held ts vs ds ps->(∀p∈ps,w.sameAt w' p)->DataW.TrodAll enc P w' base sp held ts vs ds ps|[],[],[],_,h,_=>h|_::_,_::_,_::_,_,⟨p,q,⟨n,h1⟩,h2,e⟩,hs=>⟨p,q,⟨n,DataW.trod_carry n _ _ _ h1 λx hx=>hs x (by rw[e];exact List.mem_append_left _ hx)⟩,carryAll h2 (λx hx=>hs x (by rw[e];exact List.mem_append_right _ hx)),e⟩
theorem kept_old{w w':World}(ho:w'.os=w.os)(hu:w'.output=w.output)(hold:∀b,b<w.heap.size->w'.heap[b]?=w.heap[b]?)(may:MemPlace->Prop):w.keptBut w' may:=by
 refine⟨ho,hu,λi hi=>?_⟩
 rw[hold i hi]
 split
 .rename_i a b;cases a.symm.trans b;exact⟨rfl,rfl,rfl,λ_ _=>rfl⟩
 .rename_i a b;cases a.symm.trans b;exact .inr ⟨rfl,rfl⟩
 .rfl
def blkOf(H:Type):Blk H where
 blk:=Rows.uptoBulk
 all:=Rows.uptoBulkAll
 str:=λb=>by simp[Rows.uptoBulk]
 lit:=λl=>by cases l<;>simp[Rows.uptoBulk]
 nil:=by simp[Rows.uptoBulk]
 sl:=λes sp=>by simp only[Rows.uptoBulk];omega
 agg:=λps=>by simp[Rows.uptoBulk]
 none:=by simp[Rows.uptoBulkAll]
 cons:=λd r=>by simp[Rows.uptoBulkAll]
set_option maxRecDepth 100000 in
theorem proj_of{H:Type}{enc:TypeId×Value->H}{w:World}{base:Nat}{v:Value}{d:DataW H}{p:List MemPlace}(hok:Value.okWide Tryz.prog w .any base 24 v)(h:DataW.Trod enc Tryz.prog w 0 (λ_=>true) true 24 v d p)(hb:(blkOf H).blk d<=1048576):∃rows x,Rd Tryz.prog w00S 43 rows x/\wtRs rows<=2097152/\(∀r,r∈rows->aje Tryz.prog (lay Tryz.prog 43) r)/\VR (gw w) (.agg [x]) v:=by
 obtain⟨n,h⟩:=h
 obtain⟨r,r',⟨q1,qc⟩,q2,q3,q4⟩:=br (B:=blkOf H) okS n 24 _ _ (by decide) h
 have hl:lay Tryz.prog 24=[.sl 43]:=by kernel_rfl
 rw[hl]at q1 qc
 cases qc with
 |sl g hn0=>
 cases hn0
 cases q1 with
 |cons hc hn=>
  cases hn
  cases hc with
  |sl hd=>
   have hv:∃cs,v=.agg cs:=by unfold Value.okWide at hok;rw[Tryz.underlying24]at hok;obtain⟨cs,rfl,_⟩:=hok;exact⟨cs,rfl⟩
   obtain⟨cs,rfl⟩:=hv;refine⟨_,_,hd,?_,g,VR.agg_iff.2 ⟨cs,rfl,q3⟩⟩;simp only[wtR,wtA]at q4;have q4:_<=2*(blkOf H).blk d:=q4;omega
set_option maxRecDepth 100000 in
theorem lifted(os:Os)(started:os.Started)(H:Type)(enc:TypeId×Value->H)(G:Stop.Interp):ReturnsInHanded Rows.modelTypesUptoRow.assume Tryz.checked os 6 .any (Rows.modelTypesUptoRow.pre enc Tryz.prog Tryz.f6 (Rows.OpenSpec.upto Rows.modelTypesSpec)) (((Rows.OpenSpec.upto Rows.modelTypesSpec).at G).post enc Tryz.prog Tryz.f6 Rows.modelTypesUptoRow.apart Rows.modelTypesUptoRow.fresh Rows.modelTypesUptoRow.handsOn Rows.modelTypesUptoRow.again):=by
 rw[OpenClaim.pre_eq_preRow]
 refine returnsInHanded_of_row (C:=Tryz.checked) own started (by kernel_rfl) Tryz.func6 (witness_row_atRef (enc:=enc) (C:=Tryz.checked) (os:=os) false (World.laidAll Tryz.prog os Rows.modelTypesUptoRow.laid) #[.agg #[.slice none 0 0]] (World.laidAll_os _ _ _) (wit1 os) (wit2 os) (wit3 os) ⟨⟨(OpenSpec.pre_some rfl _ _ _ _).2 ⟨[.agg [.nil]],[],[],DataW.Whole_of_whole (fuel:=8) (x:=([.agg [.nil]],[],[])) (by kernel_rfl),by kernel_rfl,by kernel_rfl⟩,by rw[MakeChecks.laidMetH_plain _ _ _ (by kernel_rfl)];exact laidMet_laidAll _ (by kernel_rfl) (by kernel_rfl)⟩,sizedMet_of_sizedB (fuel:=8) (by kernel_rfl)⟩) ?_
 intro W base args ds gs before hval0 hW _ hcond _ _ _ _
 have hval:∀(j:Nat)t v,Tryz.f6.params[j]?=some t->args[j]?=some v->Value.okWide Tryz.prog W .any base t v:=hval0
 have hW':=hW
 obtain⟨p,q,hA0,hV,rfl,_,_⟩:=hW
 have hA:DataW.TrodAll enc Tryz.prog W 0 (λ_=>true) true Tryz.f6.params.toList args.toList ds p:=hA0
 rw[Tryz.params6]at hA hval
 obtain⟨rfl,rfl⟩:=trodVars_none hV
 have hB:=hA
 obtain⟨v0,d0,rfl,rfl,t0⟩:=trodAll_one hA
 have hb:=hcond Rows.uptoSmall rfl
 have hb:Rows.uptoBulkAll ([d0]++[])<=1048576:=of_decide_eq_true hb
 simp only[List.append_nil,Rows.uptoBulkAll]at hb
 obtain⟨rows,x,hd,hwt,hcn,r0⟩:=proj_of (hval 0 24 v0 rfl rfl) t0 (by show Rows.uptoBulk d0<=_;omega)
 refine(law_callsV progOK hd hwt hcn r0).mono ?_
 rintro e W'⟨rfl,ho,hu,hold⟩
 refine⟨_,rfl,_,_,_,[],p,[],hW',?_,?_,rfl,kept_old ho hu hold _,λh=>by cases h⟩
 .exact trodAll_mk1 (shut_bool Tryz.underlying4 _)
 .have hlt:∀x∈p,x.block<W.heap.size:=λx hx=>hW'.lt x (by simpa using hx);have:=DataW.TrodAll.respare (spare':=λb=>decide (b<W.heap.size)) (kids_rows laidOut rowed) (slices_full_of Tryz.prog full) (by intro t ht;simp only[List.mem_cons,List.mem_nil_iff,or_false]at ht;rcases ht with rfl;exact sizes) hB (λx hx=>by simpa using hlt x hx);have h2:=carryAll this (λx hx=>same_heap hold (hlt x hx));show DataW.TrodAll enc Tryz.prog W' 0 _ true Tryz.f6.params.toList _ _ _;rw[Tryz.params6];exact h2
end Go.Proofs.YteibmaelhdbgfaaGreatDoor
