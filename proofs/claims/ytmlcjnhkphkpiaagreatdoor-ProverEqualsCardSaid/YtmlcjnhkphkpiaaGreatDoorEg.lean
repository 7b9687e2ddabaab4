/-
  A part of the proof: V117 V17.
-/
import Derived.Test.YtmlcjnhkphkpiaaGreatDoorProg
import Derived.KernelRfl
import Derived.Test.YtmlcjnhkphkpiaaGreatDoorDat
set_option linter.all false

section
namespace Go.AI
open Go Go.Proofs
set_option maxRecDepth 10000
set_option maxHeartbeats 4000000

theorem app23 : AppT Tryz.prog 23 23 49 7 104 := ⟨rfl, rfl, rfl, rfl, ⟨_, rfl, rfl⟩, by decide, by decide⟩

theorem w117 {R : Rec} (hP : ProgOK Tryz.prog) (hR : RecOK Tryz.prog R) (l : List Tm) (hl : l.length * 104 ≤ 140737488355328)
    (hC : ∀ (a : Tm), a ∈ l → ∀ h, R.call .normal 187 [.agg a.cells] .none h = some (.ret (.agg a.cells), .none, h)) (h : AHeap) :
    CallOK Tryz.prog 117 [.isl (Tm.rows l) 7] h (.ret (.isl (Tm.rows l) 7)) h := by
  have hlen := Tm.rows_length l
  refine PR.callW hP Tryz.func117 rfl rfl ?_ h
  repeat' first
  | (refine OpsW.id ?_; first
   | (refine OpsW.guarded ?_; first | refine OpsW.met rfl rfl rfl ?_ | refine OpsW.unmet rfl rfl rfl rfl ?_ | refine OpsW.gone rfl rfl rfl ?_)
   | (refine OpsW.as (.fieldAddr _ _ _) ?_; first | refine OpsW.val (v := .ref _ _ _ _) rfl rfl ?_ | refine OpsW.val (v := .pref _) rfl rfl ?_)
   | ((first | refine OpsW.as (.load _ _) ?_ | refine OpsW.as (.move _) ?_ | refine OpsW.as (.pick _ _ _) ?_ | refine OpsW.as (.assign _) ?_ | refine OpsW.as (.extract _ _) ?_); first | refine OpsW.val (v := .sc (.bool _)) rfl rfl ?_ | refine OpsW.val (v := .sc (.int _ _)) rfl rfl ?_ | refine OpsW.val (v := .ref _ _ _ _) rfl rfl ?_ | refine OpsW.val (v := .isl _ _) rfl rfl ?_ | refine OpsW.val (v := .sc (.string _)) rfl rfl ?_ | refine OpsW.val (v := .agg _) rfl rfl ?_ | refine OpsW.val rfl rfl ?_)
   | (refine OpsW.as (.binOp _ _ _ _ _) ?_; first | refine OpsW.test rfl rfl (fun hb => ?_) (fun hb => ?_) | refine OpsW.val (v := .sc (.int _ _)) rfl rfl ?_ | refine OpsW.val rfl rfl ?_)
   | (refine OpsW.as (.indexAddr _ _ _) ?_; first | refine OpsW.index rfl rfl rfl rfl (Int.natCast_nonneg _) (hidx1) rfl ?_ | refine OpsW.val rfl rfl ?_)
   | (refine OpsW.as (.call _) ?_; first | refine OpsW.val (v := .sc (.int _ _)) rfl rfl ?_ | refine OpsW.call (v := .sc (.bool true)) rfl (hcall1 _) rfl ?_ | refine OpsW.call (v := .sc (.bool false)) rfl (hcall1 _) rfl ?_ | refine OpsW.callB rfl (hcall1 _) rfl (fun hb => ?_) (fun hb => ?_) | refine OpsW.call rfl (hcall1 _) rfl ?_ | refine OpsW.appNil happ1 (by decide) rfl rfl rfl rfl rfl rfl ?_ | refine OpsW.app happ1 rfl rfl rfl hclen rfl rfl rfl hbnd rfl ?_ | refine OpsW.val rfl rfl ?_)
   | (refine OpsW.as (.unOp _ _ _) ?_; first | refine OpsW.val (v := .sc (.bool _)) rfl rfl ?_ | refine OpsW.val (v := .sc (.int _ _)) rfl rfl ?_)
   | (refine OpsW.as (.box _ _) ?_; refine OpsW.box rfl rfl rfl rfl ?_)
   | (refine OpsW.as (.alloc _) ?_; refine OpsW.alloc rfl rfl rfl rfl rfl ?_)
   | (refine OpsW.as (.store _ _ _) ?_; refine OpsW.put rfl rfl rfl rfl rfl rfl rfl rfl rfl ?_)
   | (refine OpsW.as (.buildSlice _ _ _) ?_; refine OpsW.buildSlice rfl rfl rfl rfl rfl rfl rfl rfl ?_)
   | refine OpsW.unit rfl ?_
   | refine OpsW.nil ?_
   | refine OpsW.val rfl rfl ?_)
  | (refine DrawW.id ?_; first
   | (refine DrawW.guarded ?_; first | refine DrawW.met rfl rfl ?_ | refine DrawW.unmet rfl rfl rfl rfl rfl ?_ | refine DrawW.gone rfl rfl rfl rfl ?_)
   | (refine DrawW.as (.fieldAddr _ _ _) ?_; first | refine DrawW.val (v := .ref _ _ _ _) rfl rfl rfl rfl rfl rfl ?_ | refine DrawW.val (v := .pref _) rfl rfl rfl rfl rfl rfl ?_)
   | ((first | refine DrawW.as (.load _ _) ?_ | refine DrawW.as (.move _) ?_ | refine DrawW.as (.pick _ _ _) ?_ | refine DrawW.as (.assign _) ?_ | refine DrawW.as (.extract _ _) ?_); first | refine DrawW.val (v := .sc (.bool _)) rfl rfl rfl rfl rfl rfl ?_ | refine DrawW.val (v := .sc (.int _ _)) rfl rfl rfl rfl rfl rfl ?_ | refine DrawW.val (v := .ref _ _ _ _) rfl rfl rfl rfl rfl rfl ?_ | refine DrawW.val (v := .isl _ _) rfl rfl rfl rfl rfl rfl ?_ | refine DrawW.val (v := .sc (.string _)) rfl rfl rfl rfl rfl rfl ?_ | refine DrawW.val (v := .agg _) rfl rfl rfl rfl rfl rfl ?_ | refine DrawW.val rfl rfl rfl rfl rfl rfl ?_)
   | (refine DrawW.as (.binOp _ _ _ _ _) ?_; first | refine DrawW.test rfl rfl rfl (fun hb => ?_) (fun hb => ?_) | refine DrawW.val (v := .sc (.int _ _)) rfl rfl rfl rfl rfl rfl ?_ | refine DrawW.val rfl rfl rfl rfl rfl rfl ?_)
   | (refine DrawW.as (.indexAddr _ _ _) ?_; first | refine DrawW.index rfl rfl rfl rfl (Int.natCast_nonneg _) (hidx1) rfl ?_ | refine DrawW.val rfl rfl rfl rfl rfl rfl ?_)
   | (refine DrawW.as (.call _) ?_; first | refine DrawW.val (v := .sc (.int _ _)) rfl rfl rfl rfl rfl rfl ?_ | refine DrawW.call (v := .sc (.bool true)) rfl rfl rfl (hcall1 _) rfl ?_ | refine DrawW.call (v := .sc (.bool false)) rfl rfl rfl (hcall1 _) rfl ?_ | refine DrawW.callB rfl rfl rfl (hcall1 _) rfl (fun hb => ?_) (fun hb => ?_) | refine DrawW.call rfl rfl rfl (hcall1 _) rfl ?_ | refine DrawW.appNil happ1 (by decide) rfl rfl rfl rfl rfl rfl ?_ | refine DrawW.app happ1 rfl rfl rfl hclen rfl rfl rfl hbnd rfl ?_ | refine DrawW.actv rfl rfl rfl rfl ?_)
   | (refine DrawW.as (.unOp _ _ _) ?_; first | refine DrawW.val (v := .sc (.bool _)) rfl rfl rfl rfl rfl rfl ?_ | refine DrawW.val (v := .sc (.int _ _)) rfl rfl rfl rfl rfl rfl ?_)
   | (refine DrawW.as (.box _ _) ?_; refine DrawW.box rfl rfl rfl rfl ?_)
   | (refine DrawW.as (.alloc _) ?_; refine DrawW.alloc rfl rfl rfl rfl rfl ?_)
   | (refine DrawW.as (.store _ _ _) ?_; refine DrawW.put rfl rfl rfl rfl rfl rfl rfl rfl rfl ?_)
   | refine DrawW.store rfl ?_
   | refine DrawW.fin (by kernel_rfl) ?_
   | (refine DrawW.as (.buildSlice _ _ _) ?_; refine DrawW.buildSlice rfl rfl rfl rfl rfl rfl rfl rfl ?_)
   | refine DrawW.val rfl rfl rfl rfl rfl rfl ?_
   | refine DrawW.actv rfl rfl rfl rfl ?_)
  | refine PR.seq ?_
  | refine PR.region hP hR rfl rfl ?_
  | refine PR.draw hP hR rfl rfl (by kernel_rfl) ?_
  | refine PR.yes rfl ?_
  | refine PR.no rfl ?_
  | refine PR.block ?_
  | refine PR.skip hP rfl rfl ?_
  | refine PR.exit hP rfl rfl ?_
  | refine PR.ret hP rfl rfl ?_
  refine PR.loop ?_
  have happ1 := app23
  rcases Nat.eq_zero_or_pos l.length with h0 | h0
  · refine PR.around ?_
    repeat' first
    | (refine OpsW.id ?_; first
     | (refine OpsW.guarded ?_; first | refine OpsW.met rfl rfl rfl ?_ | refine OpsW.unmet rfl rfl rfl rfl ?_ | refine OpsW.gone rfl rfl rfl ?_)
     | (refine OpsW.as (.fieldAddr _ _ _) ?_; first | refine OpsW.val (v := .ref _ _ _ _) rfl rfl ?_ | refine OpsW.val (v := .pref _) rfl rfl ?_)
     | ((first | refine OpsW.as (.load _ _) ?_ | refine OpsW.as (.move _) ?_ | refine OpsW.as (.pick _ _ _) ?_ | refine OpsW.as (.assign _) ?_ | refine OpsW.as (.extract _ _) ?_); first | refine OpsW.val (v := .sc (.bool _)) rfl rfl ?_ | refine OpsW.val (v := .sc (.int _ _)) rfl rfl ?_ | refine OpsW.val (v := .ref _ _ _ _) rfl rfl ?_ | refine OpsW.val (v := .isl _ _) rfl rfl ?_ | refine OpsW.val (v := .sc (.string _)) rfl rfl ?_ | refine OpsW.val (v := .agg _) rfl rfl ?_ | refine OpsW.val rfl rfl ?_)
     | (refine OpsW.as (.binOp _ _ _ _ _) ?_; first | refine OpsW.test rfl rfl (fun hb => ?_) (fun hb => ?_) | refine OpsW.val (v := .sc (.int _ _)) rfl rfl ?_ | refine OpsW.val rfl rfl ?_)
     | (refine OpsW.as (.indexAddr _ _ _) ?_; first | refine OpsW.index rfl rfl rfl rfl (Int.natCast_nonneg _) (hidx1) rfl ?_ | refine OpsW.val rfl rfl ?_)
     | (refine OpsW.as (.call _) ?_; first | refine OpsW.val (v := .sc (.int _ _)) rfl rfl ?_ | refine OpsW.call (v := .sc (.bool true)) rfl (hcall1 _) rfl ?_ | refine OpsW.call (v := .sc (.bool false)) rfl (hcall1 _) rfl ?_ | refine OpsW.callB rfl (hcall1 _) rfl (fun hb => ?_) (fun hb => ?_) | refine OpsW.call rfl (hcall1 _) rfl ?_ | refine OpsW.appNil happ1 (by decide) rfl rfl rfl rfl rfl rfl ?_ | refine OpsW.app happ1 rfl rfl rfl hclen rfl rfl rfl hbnd rfl ?_ | refine OpsW.val rfl rfl ?_)
     | (refine OpsW.as (.unOp _ _ _) ?_; first | refine OpsW.val (v := .sc (.bool _)) rfl rfl ?_ | refine OpsW.val (v := .sc (.int _ _)) rfl rfl ?_)
     | (refine OpsW.as (.box _ _) ?_; refine OpsW.box rfl rfl rfl rfl ?_)
     | (refine OpsW.as (.alloc _) ?_; refine OpsW.alloc rfl rfl rfl rfl rfl ?_)
     | (refine OpsW.as (.store _ _ _) ?_; refine OpsW.put rfl rfl rfl rfl rfl rfl rfl rfl rfl ?_)
     | (refine OpsW.as (.buildSlice _ _ _) ?_; refine OpsW.buildSlice rfl rfl rfl rfl rfl rfl rfl rfl ?_)
     | refine OpsW.unit rfl ?_
     | refine OpsW.nil ?_
     | refine OpsW.val rfl rfl ?_)
    | (refine DrawW.id ?_; first
     | (refine DrawW.guarded ?_; first | refine DrawW.met rfl rfl ?_ | refine DrawW.unmet rfl rfl rfl rfl rfl ?_ | refine DrawW.gone rfl rfl rfl rfl ?_)
     | (refine DrawW.as (.fieldAddr _ _ _) ?_; first | refine DrawW.val (v := .ref _ _ _ _) rfl rfl rfl rfl rfl rfl ?_ | refine DrawW.val (v := .pref _) rfl rfl rfl rfl rfl rfl ?_)
     | ((first | refine DrawW.as (.load _ _) ?_ | refine DrawW.as (.move _) ?_ | refine DrawW.as (.pick _ _ _) ?_ | refine DrawW.as (.assign _) ?_ | refine DrawW.as (.extract _ _) ?_); first | refine DrawW.val (v := .sc (.bool _)) rfl rfl rfl rfl rfl rfl ?_ | refine DrawW.val (v := .sc (.int _ _)) rfl rfl rfl rfl rfl rfl ?_ | refine DrawW.val (v := .ref _ _ _ _) rfl rfl rfl rfl rfl rfl ?_ | refine DrawW.val (v := .isl _ _) rfl rfl rfl rfl rfl rfl ?_ | refine DrawW.val (v := .sc (.string _)) rfl rfl rfl rfl rfl rfl ?_ | refine DrawW.val (v := .agg _) rfl rfl rfl rfl rfl rfl ?_ | refine DrawW.val rfl rfl rfl rfl rfl rfl ?_)
     | (refine DrawW.as (.binOp _ _ _ _ _) ?_; first | refine DrawW.test rfl rfl rfl (fun hb => ?_) (fun hb => ?_) | refine DrawW.val (v := .sc (.int _ _)) rfl rfl rfl rfl rfl rfl ?_ | refine DrawW.val rfl rfl rfl rfl rfl rfl ?_)
     | (refine DrawW.as (.indexAddr _ _ _) ?_; first | refine DrawW.index rfl rfl rfl rfl (Int.natCast_nonneg _) (hidx1) rfl ?_ | refine DrawW.val rfl rfl rfl rfl rfl rfl ?_)
     | (refine DrawW.as (.call _) ?_; first | refine DrawW.val (v := .sc (.int _ _)) rfl rfl rfl rfl rfl rfl ?_ | refine DrawW.call (v := .sc (.bool true)) rfl rfl rfl (hcall1 _) rfl ?_ | refine DrawW.call (v := .sc (.bool false)) rfl rfl rfl (hcall1 _) rfl ?_ | refine DrawW.callB rfl rfl rfl (hcall1 _) rfl (fun hb => ?_) (fun hb => ?_) | refine DrawW.call rfl rfl rfl (hcall1 _) rfl ?_ | refine DrawW.appNil happ1 (by decide) rfl rfl rfl rfl rfl rfl ?_ | refine DrawW.app happ1 rfl rfl rfl hclen rfl rfl rfl hbnd rfl ?_ | refine DrawW.actv rfl rfl rfl rfl ?_)
     | (refine DrawW.as (.unOp _ _ _) ?_; first | refine DrawW.val (v := .sc (.bool _)) rfl rfl rfl rfl rfl rfl ?_ | refine DrawW.val (v := .sc (.int _ _)) rfl rfl rfl rfl rfl rfl ?_)
     | (refine DrawW.as (.box _ _) ?_; refine DrawW.box rfl rfl rfl rfl ?_)
     | (refine DrawW.as (.alloc _) ?_; refine DrawW.alloc rfl rfl rfl rfl rfl ?_)
     | (refine DrawW.as (.store _ _ _) ?_; refine DrawW.put rfl rfl rfl rfl rfl rfl rfl rfl rfl ?_)
     | refine DrawW.store rfl ?_
     | refine DrawW.fin (by kernel_rfl) ?_
     | (refine DrawW.as (.buildSlice _ _ _) ?_; refine DrawW.buildSlice rfl rfl rfl rfl rfl rfl rfl rfl ?_)
     | refine DrawW.val rfl rfl rfl rfl rfl rfl ?_
     | refine DrawW.actv rfl rfl rfl rfl ?_)
    | refine PR.seq ?_
    | refine PR.region hP hR rfl rfl ?_
    | refine PR.draw hP hR rfl rfl (by kernel_rfl) ?_
    | refine PR.yes rfl ?_
    | refine PR.no rfl ?_
    | refine PR.block ?_
    | refine PR.skip hP rfl rfl ?_
    | refine PR.exit hP rfl rfl ?_
    | refine PR.ret hP rfl rfl ?_
    · exact absurd (of_decide_eq_true hb) (by omega)
    · have : l = [] := List.eq_nil_of_length_eq_zero h0
      subst this
      exact ⟨.inl rfl, rfl, _, 9, _, rfl, rfl, ⟨rfl, rfl⟩⟩
  · have hx : l[0]? = some l[0] := List.getElem?_eq_getElem h0
    have hmem : l[0] ∈ l := List.getElem_mem h0
    generalize l[0] = x at hx hmem
    have hcall1 := hC x hmem
    have hsn := Tm.rows_snoc l 0 x hx
    obtain ⟨xo, xn, xi, ⟨xa, xb, xc⟩, xs⟩ := x
    have hidx1 : (Tm.rows l)[((0 : Nat) : Int).toNat]? = some (Tm.mk xo xn xi (.mk xa xb xc) xs).cells := by rw [Tm.rows_get, Int.toNat_natCast, hx]; rfl
    refine PR.around ?_
    repeat' first
    | (refine OpsW.id ?_; first
     | (refine OpsW.guarded ?_; first | refine OpsW.met rfl rfl rfl ?_ | refine OpsW.unmet rfl rfl rfl rfl ?_ | refine OpsW.gone rfl rfl rfl ?_)
     | (refine OpsW.as (.fieldAddr _ _ _) ?_; first | refine OpsW.val (v := .ref _ _ _ _) rfl rfl ?_ | refine OpsW.val (v := .pref _) rfl rfl ?_)
     | ((first | refine OpsW.as (.load _ _) ?_ | refine OpsW.as (.move _) ?_ | refine OpsW.as (.pick _ _ _) ?_ | refine OpsW.as (.assign _) ?_ | refine OpsW.as (.extract _ _) ?_); first | refine OpsW.val (v := .sc (.bool _)) rfl rfl ?_ | refine OpsW.val (v := .sc (.int _ _)) rfl rfl ?_ | refine OpsW.val (v := .ref _ _ _ _) rfl rfl ?_ | refine OpsW.val (v := .isl _ _) rfl rfl ?_ | refine OpsW.val (v := .sc (.string _)) rfl rfl ?_ | refine OpsW.val (v := .agg _) rfl rfl ?_ | refine OpsW.val rfl rfl ?_)
     | (refine OpsW.as (.binOp _ _ _ _ _) ?_; first | refine OpsW.test rfl rfl (fun hb => ?_) (fun hb => ?_) | refine OpsW.val (v := .sc (.int _ _)) rfl rfl ?_ | refine OpsW.val rfl rfl ?_)
     | (refine OpsW.as (.indexAddr _ _ _) ?_; first | refine OpsW.index rfl rfl rfl rfl (Int.natCast_nonneg _) (hidx1) rfl ?_ | refine OpsW.val rfl rfl ?_)
     | (refine OpsW.as (.call _) ?_; first | refine OpsW.val (v := .sc (.int _ _)) rfl rfl ?_ | refine OpsW.call (v := .sc (.bool true)) rfl (hcall1 _) rfl ?_ | refine OpsW.call (v := .sc (.bool false)) rfl (hcall1 _) rfl ?_ | refine OpsW.callB rfl (hcall1 _) rfl (fun hb => ?_) (fun hb => ?_) | refine OpsW.call rfl (hcall1 _) rfl ?_ | refine OpsW.appNil happ1 (by decide) rfl rfl rfl rfl rfl rfl ?_ | refine OpsW.app happ1 rfl rfl rfl hclen rfl rfl rfl hbnd rfl ?_ | refine OpsW.val rfl rfl ?_)
     | (refine OpsW.as (.unOp _ _ _) ?_; first | refine OpsW.val (v := .sc (.bool _)) rfl rfl ?_ | refine OpsW.val (v := .sc (.int _ _)) rfl rfl ?_)
     | (refine OpsW.as (.box _ _) ?_; refine OpsW.box rfl rfl rfl rfl ?_)
     | (refine OpsW.as (.alloc _) ?_; refine OpsW.alloc rfl rfl rfl rfl rfl ?_)
     | (refine OpsW.as (.store _ _ _) ?_; refine OpsW.put rfl rfl rfl rfl rfl rfl rfl rfl rfl ?_)
     | (refine OpsW.as (.buildSlice _ _ _) ?_; refine OpsW.buildSlice rfl rfl rfl rfl rfl rfl rfl rfl ?_)
     | refine OpsW.unit rfl ?_
     | refine OpsW.nil ?_
     | refine OpsW.val rfl rfl ?_)
    | (refine DrawW.id ?_; first
     | (refine DrawW.guarded ?_; first | refine DrawW.met rfl rfl ?_ | refine DrawW.unmet rfl rfl rfl rfl rfl ?_ | refine DrawW.gone rfl rfl rfl rfl ?_)
     | (refine DrawW.as (.fieldAddr _ _ _) ?_; first | refine DrawW.val (v := .ref _ _ _ _) rfl rfl rfl rfl rfl rfl ?_ | refine DrawW.val (v := .pref _) rfl rfl rfl rfl rfl rfl ?_)
     | ((first | refine DrawW.as (.load _ _) ?_ | refine DrawW.as (.move _) ?_ | refine DrawW.as (.pick _ _ _) ?_ | refine DrawW.as (.assign _) ?_ | refine DrawW.as (.extract _ _) ?_); first | refine DrawW.val (v := .sc (.bool _)) rfl rfl rfl rfl rfl rfl ?_ | refine DrawW.val (v := .sc (.int _ _)) rfl rfl rfl rfl rfl rfl ?_ | refine DrawW.val (v := .ref _ _ _ _) rfl rfl rfl rfl rfl rfl ?_ | refine DrawW.val (v := .isl _ _) rfl rfl rfl rfl rfl rfl ?_ | refine DrawW.val (v := .sc (.string _)) rfl rfl rfl rfl rfl rfl ?_ | refine DrawW.val (v := .agg _) rfl rfl rfl rfl rfl rfl ?_ | refine DrawW.val rfl rfl rfl rfl rfl rfl ?_)
     | (refine DrawW.as (.binOp _ _ _ _ _) ?_; first | refine DrawW.test rfl rfl rfl (fun hb => ?_) (fun hb => ?_) | refine DrawW.val (v := .sc (.int _ _)) rfl rfl rfl rfl rfl rfl ?_ | refine DrawW.val rfl rfl rfl rfl rfl rfl ?_)
     | (refine DrawW.as (.indexAddr _ _ _) ?_; first | refine DrawW.index rfl rfl rfl rfl (Int.natCast_nonneg _) (hidx1) rfl ?_ | refine DrawW.val rfl rfl rfl rfl rfl rfl ?_)
     | (refine DrawW.as (.call _) ?_; first | refine DrawW.val (v := .sc (.int _ _)) rfl rfl rfl rfl rfl rfl ?_ | refine DrawW.call (v := .sc (.bool true)) rfl rfl rfl (hcall1 _) rfl ?_ | refine DrawW.call (v := .sc (.bool false)) rfl rfl rfl (hcall1 _) rfl ?_ | refine DrawW.callB rfl rfl rfl (hcall1 _) rfl (fun hb => ?_) (fun hb => ?_) | refine DrawW.call rfl rfl rfl (hcall1 _) rfl ?_ | refine DrawW.appNil happ1 (by decide) rfl rfl rfl rfl rfl rfl ?_ | refine DrawW.app happ1 rfl rfl rfl hclen rfl rfl rfl hbnd rfl ?_ | refine DrawW.actv rfl rfl rfl rfl ?_)
     | (refine DrawW.as (.unOp _ _ _) ?_; first | refine DrawW.val (v := .sc (.bool _)) rfl rfl rfl rfl rfl rfl ?_ | refine DrawW.val (v := .sc (.int _ _)) rfl rfl rfl rfl rfl rfl ?_)
     | (refine DrawW.as (.box _ _) ?_; refine DrawW.box rfl rfl rfl rfl ?_)
     | (refine DrawW.as (.alloc _) ?_; refine DrawW.alloc rfl rfl rfl rfl rfl ?_)
     | (refine DrawW.as (.store _ _ _) ?_; refine DrawW.put rfl rfl rfl rfl rfl rfl rfl rfl rfl ?_)
     | refine DrawW.store rfl ?_
     | refine DrawW.fin (by kernel_rfl) ?_
     | (refine DrawW.as (.buildSlice _ _ _) ?_; refine DrawW.buildSlice rfl rfl rfl rfl rfl rfl rfl rfl ?_)
     | refine DrawW.val rfl rfl rfl rfl rfl rfl ?_
     | refine DrawW.actv rfl rfl rfl rfl ?_)
    | refine PR.seq ?_
    | refine PR.region hP hR rfl rfl ?_
    | refine PR.draw hP hR rfl rfl (by kernel_rfl) ?_
    | refine PR.yes rfl ?_
    | refine PR.no rfl ?_
    | refine PR.block ?_
    | refine PR.skip hP rfl rfl ?_
    | refine PR.exit hP rfl rfl ?_
    | refine PR.ret hP rfl rfl ?_
    · clear hcall1 hidx1 hmem
      obtain ⟨i, hi0⟩ : ∃ i : Nat, i = 1 := ⟨1, rfl⟩
      refine PR.ren [(0, 1, 0)] [(0, .isl (Tm.rows l) 7), (3, .sl 0 0 (i * 7) 0 7 i none), (4, .sc (.int .i64 (i : Int)))]
        [⟨0, (Tm.rows (l.take i)).flatten, 0, 49, false, false, 1, 0, 0, (Tm.rows (l.take i)).flatten⟩] 1 rfl rfl
        ⟨rfl, rfl, by subst hi0; rfl, rfl, by subst hi0; rfl, rfl, trivial⟩
        ⟨⟨rfl, rfl, by subst hi0; rw [hsn]; rfl, rfl, rens_dat (Tm.rows_dat _)⟩, trivial⟩ ?_
      have hi1 : 1 ≤ i := by omega
      have hil : i ≤ l.length := by omega
      clear hi0 hb hsn hx
      induction hm : l.length - i generalizing i with
      | zero =>
        refine PR.around ?_
        repeat' first
        | (refine OpsW.id ?_; first
         | (refine OpsW.guarded ?_; first | refine OpsW.met rfl rfl rfl ?_ | refine OpsW.unmet rfl rfl rfl rfl ?_ | refine OpsW.gone rfl rfl rfl ?_)
         | (refine OpsW.as (.fieldAddr _ _ _) ?_; first | refine OpsW.val (v := .ref _ _ _ _) rfl rfl ?_ | refine OpsW.val (v := .pref _) rfl rfl ?_)
         | ((first | refine OpsW.as (.load _ _) ?_ | refine OpsW.as (.move _) ?_ | refine OpsW.as (.pick _ _ _) ?_ | refine OpsW.as (.assign _) ?_ | refine OpsW.as (.extract _ _) ?_); first | refine OpsW.val (v := .sc (.bool _)) rfl rfl ?_ | refine OpsW.val (v := .sc (.int _ _)) rfl rfl ?_ | refine OpsW.val (v := .ref _ _ _ _) rfl rfl ?_ | refine OpsW.val (v := .isl _ _) rfl rfl ?_ | refine OpsW.val (v := .sc (.string _)) rfl rfl ?_ | refine OpsW.val (v := .agg _) rfl rfl ?_ | refine OpsW.val rfl rfl ?_)
         | (refine OpsW.as (.binOp _ _ _ _ _) ?_; first | refine OpsW.test rfl rfl (fun hb => ?_) (fun hb => ?_) | refine OpsW.val (v := .sc (.int _ _)) rfl rfl ?_ | refine OpsW.val rfl rfl ?_)
         | (refine OpsW.as (.indexAddr _ _ _) ?_; first | refine OpsW.index rfl rfl rfl rfl (Int.natCast_nonneg _) (hidx1) rfl ?_ | refine OpsW.val rfl rfl ?_)
         | (refine OpsW.as (.call _) ?_; first | refine OpsW.val (v := .sc (.int _ _)) rfl rfl ?_ | refine OpsW.call (v := .sc (.bool true)) rfl (hcall1 _) rfl ?_ | refine OpsW.call (v := .sc (.bool false)) rfl (hcall1 _) rfl ?_ | refine OpsW.callB rfl (hcall1 _) rfl (fun hb => ?_) (fun hb => ?_) | refine OpsW.call rfl (hcall1 _) rfl ?_ | refine OpsW.appNil happ1 (by decide) rfl rfl rfl rfl rfl rfl ?_ | refine OpsW.app happ1 rfl rfl rfl hclen rfl rfl rfl hbnd rfl ?_ | refine OpsW.val rfl rfl ?_)
         | (refine OpsW.as (.unOp _ _ _) ?_; first | refine OpsW.val (v := .sc (.bool _)) rfl rfl ?_ | refine OpsW.val (v := .sc (.int _ _)) rfl rfl ?_)
         | (refine OpsW.as (.box _ _) ?_; refine OpsW.box rfl rfl rfl rfl ?_)
         | (refine OpsW.as (.alloc _) ?_; refine OpsW.alloc rfl rfl rfl rfl rfl ?_)
         | (refine OpsW.as (.store _ _ _) ?_; refine OpsW.put rfl rfl rfl rfl rfl rfl rfl rfl rfl ?_)
         | (refine OpsW.as (.buildSlice _ _ _) ?_; refine OpsW.buildSlice rfl rfl rfl rfl rfl rfl rfl rfl ?_)
         | refine OpsW.unit rfl ?_
         | refine OpsW.nil ?_
         | refine OpsW.val rfl rfl ?_)
        | (refine DrawW.id ?_; first
         | (refine DrawW.guarded ?_; first | refine DrawW.met rfl rfl ?_ | refine DrawW.unmet rfl rfl rfl rfl rfl ?_ | refine DrawW.gone rfl rfl rfl rfl ?_)
         | (refine DrawW.as (.fieldAddr _ _ _) ?_; first | refine DrawW.val (v := .ref _ _ _ _) rfl rfl rfl rfl rfl rfl ?_ | refine DrawW.val (v := .pref _) rfl rfl rfl rfl rfl rfl ?_)
         | ((first | refine DrawW.as (.load _ _) ?_ | refine DrawW.as (.move _) ?_ | refine DrawW.as (.pick _ _ _) ?_ | refine DrawW.as (.assign _) ?_ | refine DrawW.as (.extract _ _) ?_); first | refine DrawW.val (v := .sc (.bool _)) rfl rfl rfl rfl rfl rfl ?_ | refine DrawW.val (v := .sc (.int _ _)) rfl rfl rfl rfl rfl rfl ?_ | refine DrawW.val (v := .ref _ _ _ _) rfl rfl rfl rfl rfl rfl ?_ | refine DrawW.val (v := .isl _ _) rfl rfl rfl rfl rfl rfl ?_ | refine DrawW.val (v := .sc (.string _)) rfl rfl rfl rfl rfl rfl ?_ | refine DrawW.val (v := .agg _) rfl rfl rfl rfl rfl rfl ?_ | refine DrawW.val rfl rfl rfl rfl rfl rfl ?_)
         | (refine DrawW.as (.binOp _ _ _ _ _) ?_; first | refine DrawW.test rfl rfl rfl (fun hb => ?_) (fun hb => ?_) | refine DrawW.val (v := .sc (.int _ _)) rfl rfl rfl rfl rfl rfl ?_ | refine DrawW.val rfl rfl rfl rfl rfl rfl ?_)
         | (refine DrawW.as (.indexAddr _ _ _) ?_; first | refine DrawW.index rfl rfl rfl rfl (Int.natCast_nonneg _) (hidx1) rfl ?_ | refine DrawW.val rfl rfl rfl rfl rfl rfl ?_)
         | (refine DrawW.as (.call _) ?_; first | refine DrawW.val (v := .sc (.int _ _)) rfl rfl rfl rfl rfl rfl ?_ | refine DrawW.call (v := .sc (.bool true)) rfl rfl rfl (hcall1 _) rfl ?_ | refine DrawW.call (v := .sc (.bool false)) rfl rfl rfl (hcall1 _) rfl ?_ | refine DrawW.callB rfl rfl rfl (hcall1 _) rfl (fun hb => ?_) (fun hb => ?_) | refine DrawW.call rfl rfl rfl (hcall1 _) rfl ?_ | refine DrawW.appNil happ1 (by decide) rfl rfl rfl rfl rfl rfl ?_ | refine DrawW.app happ1 rfl rfl rfl hclen rfl rfl rfl hbnd rfl ?_ | refine DrawW.actv rfl rfl rfl rfl ?_)
         | (refine DrawW.as (.unOp _ _ _) ?_; first | refine DrawW.val (v := .sc (.bool _)) rfl rfl rfl rfl rfl rfl ?_ | refine DrawW.val (v := .sc (.int _ _)) rfl rfl rfl rfl rfl rfl ?_)
         | (refine DrawW.as (.box _ _) ?_; refine DrawW.box rfl rfl rfl rfl ?_)
         | (refine DrawW.as (.alloc _) ?_; refine DrawW.alloc rfl rfl rfl rfl rfl ?_)
         | (refine DrawW.as (.store _ _ _) ?_; refine DrawW.put rfl rfl rfl rfl rfl rfl rfl rfl rfl ?_)
         | refine DrawW.store rfl ?_
         | refine DrawW.fin (by kernel_rfl) ?_
         | (refine DrawW.as (.buildSlice _ _ _) ?_; refine DrawW.buildSlice rfl rfl rfl rfl rfl rfl rfl rfl ?_)
         | refine DrawW.val rfl rfl rfl rfl rfl rfl ?_
         | refine DrawW.actv rfl rfl rfl rfl ?_)
        | refine PR.seq ?_
        | refine PR.region hP hR rfl rfl ?_
        | refine PR.draw hP hR rfl rfl (by kernel_rfl) ?_
        | refine PR.yes rfl ?_
        | refine PR.no rfl ?_
        | refine PR.block ?_
        | refine PR.skip hP rfl rfl ?_
        | refine PR.exit hP rfl rfl ?_
        | refine PR.ret hP rfl rfl ?_
        · exact absurd (of_decide_eq_true hb) (by omega)
        · have hil' : i = l.length := by omega
          have htk : l.take i = l := by rw [hil']; simp
          refine ⟨.inl rfl, rfl, .sl 0 0 (i * 7) 0 7 i none, i * 7 + 2, .isl (Tm.rows (l.take i)) 7, rfl,
            snap_sl (fz := 0) (el := 49) (ex := false) (sh := false) rfl (by decide) (Tm.rows_len _) (Tm.rows_dat _) (by rw [Tm.rows_length, htk]; omega) (by omega), ?_⟩
          rw [htk]
          rfl
      | succ m ih =>
        have hlt : i < l.length := by omega
        have hx : l[i]? = some l[i] := List.getElem?_eq_getElem hlt
        have hmem : l[i] ∈ l := List.getElem_mem hlt
        generalize l[i] = x at hx hmem
        have hcall1 := hC x hmem
        have hsn := Tm.rows_snoc l i x hx
        obtain ⟨xo, xn, xi, ⟨xa, xb, xc⟩, xs⟩ := x
        have hidx1 : (Tm.rows l)[(i : Int).toNat]? = some (Tm.mk xo xn xi (.mk xa xb xc) xs).cells := by rw [Tm.rows_get, Int.toNat_natCast, hx]; rfl
        have hclen : (Tm.rows (l.take i)).flatten.length = i * 7 := by rw [Tm.flat_len, List.length_take, Nat.min_eq_left hil]
        have hbnd : (i + 1) * 104 ≤ 140737488355328 := by omega
        refine PR.around ?_
        repeat' first
        | (refine OpsW.id ?_; first
         | (refine OpsW.guarded ?_; first | refine OpsW.met rfl rfl rfl ?_ | refine OpsW.unmet rfl rfl rfl rfl ?_ | refine OpsW.gone rfl rfl rfl ?_)
         | (refine OpsW.as (.fieldAddr _ _ _) ?_; first | refine OpsW.val (v := .ref _ _ _ _) rfl rfl ?_ | refine OpsW.val (v := .pref _) rfl rfl ?_)
         | ((first | refine OpsW.as (.load _ _) ?_ | refine OpsW.as (.move _) ?_ | refine OpsW.as (.pick _ _ _) ?_ | refine OpsW.as (.assign _) ?_ | refine OpsW.as (.extract _ _) ?_); first | refine OpsW.val (v := .sc (.bool _)) rfl rfl ?_ | refine OpsW.val (v := .sc (.int _ _)) rfl rfl ?_ | refine OpsW.val (v := .ref _ _ _ _) rfl rfl ?_ | refine OpsW.val (v := .isl _ _) rfl rfl ?_ | refine OpsW.val (v := .sc (.string _)) rfl rfl ?_ | refine OpsW.val (v := .agg _) rfl rfl ?_ | refine OpsW.val rfl rfl ?_)
         | (refine OpsW.as (.binOp _ _ _ _ _) ?_; first | refine OpsW.test rfl rfl (fun hb => ?_) (fun hb => ?_) | refine OpsW.val (v := .sc (.int _ _)) rfl rfl ?_ | refine OpsW.val rfl rfl ?_)
         | (refine OpsW.as (.indexAddr _ _ _) ?_; first | refine OpsW.index rfl rfl rfl rfl (Int.natCast_nonneg _) (hidx1) rfl ?_ | refine OpsW.val rfl rfl ?_)
         | (refine OpsW.as (.call _) ?_; first | refine OpsW.val (v := .sc (.int _ _)) rfl rfl ?_ | refine OpsW.call (v := .sc (.bool true)) rfl (hcall1 _) rfl ?_ | refine OpsW.call (v := .sc (.bool false)) rfl (hcall1 _) rfl ?_ | refine OpsW.callB rfl (hcall1 _) rfl (fun hb => ?_) (fun hb => ?_) | refine OpsW.call rfl (hcall1 _) rfl ?_ | refine OpsW.appNil happ1 (by decide) rfl rfl rfl rfl rfl rfl ?_ | refine OpsW.app happ1 rfl rfl rfl hclen rfl rfl rfl hbnd rfl ?_ | refine OpsW.val rfl rfl ?_)
         | (refine OpsW.as (.unOp _ _ _) ?_; first | refine OpsW.val (v := .sc (.bool _)) rfl rfl ?_ | refine OpsW.val (v := .sc (.int _ _)) rfl rfl ?_)
         | (refine OpsW.as (.box _ _) ?_; refine OpsW.box rfl rfl rfl rfl ?_)
         | (refine OpsW.as (.alloc _) ?_; refine OpsW.alloc rfl rfl rfl rfl rfl ?_)
         | (refine OpsW.as (.store _ _ _) ?_; refine OpsW.put rfl rfl rfl rfl rfl rfl rfl rfl rfl ?_)
         | (refine OpsW.as (.buildSlice _ _ _) ?_; refine OpsW.buildSlice rfl rfl rfl rfl rfl rfl rfl rfl ?_)
         | refine OpsW.unit rfl ?_
         | refine OpsW.nil ?_
         | refine OpsW.val rfl rfl ?_)
        | (refine DrawW.id ?_; first
         | (refine DrawW.guarded ?_; first | refine DrawW.met rfl rfl ?_ | refine DrawW.unmet rfl rfl rfl rfl rfl ?_ | refine DrawW.gone rfl rfl rfl rfl ?_)
         | (refine DrawW.as (.fieldAddr _ _ _) ?_; first | refine DrawW.val (v := .ref _ _ _ _) rfl rfl rfl rfl rfl rfl ?_ | refine DrawW.val (v := .pref _) rfl rfl rfl rfl rfl rfl ?_)
         | ((first | refine DrawW.as (.load _ _) ?_ | refine DrawW.as (.move _) ?_ | refine DrawW.as (.pick _ _ _) ?_ | refine DrawW.as (.assign _) ?_ | refine DrawW.as (.extract _ _) ?_); first | refine DrawW.val (v := .sc (.bool _)) rfl rfl rfl rfl rfl rfl ?_ | refine DrawW.val (v := .sc (.int _ _)) rfl rfl rfl rfl rfl rfl ?_ | refine DrawW.val (v := .ref _ _ _ _) rfl rfl rfl rfl rfl rfl ?_ | refine DrawW.val (v := .isl _ _) rfl rfl rfl rfl rfl rfl ?_ | refine DrawW.val (v := .sc (.string _)) rfl rfl rfl rfl rfl rfl ?_ | refine DrawW.val (v := .agg _) rfl rfl rfl rfl rfl rfl ?_ | refine DrawW.val rfl rfl rfl rfl rfl rfl ?_)
         | (refine DrawW.as (.binOp _ _ _ _ _) ?_; first | refine DrawW.test rfl rfl rfl (fun hb => ?_) (fun hb => ?_) | refine DrawW.val (v := .sc (.int _ _)) rfl rfl rfl rfl rfl rfl ?_ | refine DrawW.val rfl rfl rfl rfl rfl rfl ?_)
         | (refine DrawW.as (.indexAddr _ _ _) ?_; first | refine DrawW.index rfl rfl rfl rfl (Int.natCast_nonneg _) (hidx1) rfl ?_ | refine DrawW.val rfl rfl rfl rfl rfl rfl ?_)
         | (refine DrawW.as (.call _) ?_; first | refine DrawW.val (v := .sc (.int _ _)) rfl rfl rfl rfl rfl rfl ?_ | refine DrawW.call (v := .sc (.bool true)) rfl rfl rfl (hcall1 _) rfl ?_ | refine DrawW.call (v := .sc (.bool false)) rfl rfl rfl (hcall1 _) rfl ?_ | refine DrawW.callB rfl rfl rfl (hcall1 _) rfl (fun hb => ?_) (fun hb => ?_) | refine DrawW.call rfl rfl rfl (hcall1 _) rfl ?_ | refine DrawW.appNil happ1 (by decide) rfl rfl rfl rfl rfl rfl ?_ | refine DrawW.app happ1 rfl rfl rfl hclen rfl rfl rfl hbnd rfl ?_ | refine DrawW.actv rfl rfl rfl rfl ?_)
         | (refine DrawW.as (.unOp _ _ _) ?_; first | refine DrawW.val (v := .sc (.bool _)) rfl rfl rfl rfl rfl rfl ?_ | refine DrawW.val (v := .sc (.int _ _)) rfl rfl rfl rfl rfl rfl ?_)
         | (refine DrawW.as (.box _ _) ?_; refine DrawW.box rfl rfl rfl rfl ?_)
         | (refine DrawW.as (.alloc _) ?_; refine DrawW.alloc rfl rfl rfl rfl rfl ?_)
         | (refine DrawW.as (.store _ _ _) ?_; refine DrawW.put rfl rfl rfl rfl rfl rfl rfl rfl rfl ?_)
         | refine DrawW.store rfl ?_
         | refine DrawW.fin (by kernel_rfl) ?_
         | (refine DrawW.as (.buildSlice _ _ _) ?_; refine DrawW.buildSlice rfl rfl rfl rfl rfl rfl rfl rfl ?_)
         | refine DrawW.val rfl rfl rfl rfl rfl rfl ?_
         | refine DrawW.actv rfl rfl rfl rfl ?_)
        | refine PR.seq ?_
        | refine PR.region hP hR rfl rfl ?_
        | refine PR.draw hP hR rfl rfl (by kernel_rfl) ?_
        | refine PR.yes rfl ?_
        | refine PR.no rfl ?_
        | refine PR.block ?_
        | refine PR.skip hP rfl rfl ?_
        | refine PR.exit hP rfl rfl ?_
        | refine PR.ret hP rfl rfl ?_
        · refine PR.ren [(0, 0, 1)] [(0, .isl (Tm.rows l) 7), (3, .sl 0 0 ((i + 1) * 7) 0 7 (i + 1) none), (4, .sc (.int .i64 ((i + 1 : Nat) : Int)))]
            [⟨0, (Tm.rows (l.take (i + 1))).flatten, 0, 49, false, false, 0, 1, 0, (Tm.rows (l.take (i + 1))).flatten⟩] 1 rfl rfl
            ⟨rfl, rfl, rfl, rfl, congrArg (fun z => some (AV.sc (.int .i64 z))) (wrap_succ hlt (by omega)), rfl, trivial⟩
            ⟨⟨rfl, rfl, by rw [hsn]; rfl, rfl, rens_dat (Tm.rows_dat _)⟩, trivial⟩ ?_
          exact ih (i + 1) (by omega) (by omega) (by omega)
        · exact absurd (of_decide_eq_false hb) (by omega)
    · exact absurd (of_decide_eq_false hb) (by omega)
end Go.AI
end

section
namespace Go.AI
open Go Go.Proofs
set_option maxRecDepth 10000
set_option maxHeartbeats 4000000

/-- does a path lead to a node? -/
def Prf.at? : Prf → List Int → Bool
  | _, [] => true
  | .mk _ ks, i :: is => if i < 0 then false else match ks[i.toNat]? with
    | some q => q.at? is
    | none => false

theorem w17 (hP : ProgOK Tryz.prog) (a : Prf) (path : List Int) (hp : path.length ≤ 9223372036854775807) (h : AHeap) :
    CallOK Tryz.prog 17 [.agg a.cells, .isl (intRows path) 1] h (.ret (.sc (.bool (a.at? path)))) h := by
  have hR := rec_zero (P := Tryz.prog)
  have hlen := intRows_length path
  obtain ⟨⟨r, b, n, p, ts, u⟩, l⟩ := a
  refine PR.call hP Tryz.func17 rfl rfl ?_ h
  repeat' first
  | (refine OpsW.id ?_; first
   | (refine OpsW.guarded ?_; first | refine OpsW.met rfl rfl rfl ?_ | refine OpsW.unmet rfl rfl rfl rfl ?_ | refine OpsW.gone rfl rfl rfl ?_)
   | (refine OpsW.as (.fieldAddr _ _ _) ?_; first | refine OpsW.val (v := .ref _ _ _ _) rfl rfl ?_ | refine OpsW.val (v := .pref _) rfl rfl ?_)
   | ((first | refine OpsW.as (.load _ _) ?_ | refine OpsW.as (.move _) ?_ | refine OpsW.as (.pick _ _ _) ?_ | refine OpsW.as (.assign _) ?_ | refine OpsW.as (.extract _ _) ?_); first | refine OpsW.val (v := .sc (.bool _)) rfl rfl ?_ | refine OpsW.val (v := .sc (.int _ _)) rfl rfl ?_ | refine OpsW.val (v := .ref _ _ _ _) rfl rfl ?_ | refine OpsW.val (v := .isl _ _) rfl rfl ?_ | refine OpsW.val (v := .sc (.string _)) rfl rfl ?_ | refine OpsW.val (v := .agg _) rfl rfl ?_ | refine OpsW.val rfl rfl ?_)
   | (refine OpsW.as (.binOp _ _ _ _ _) ?_; first | refine OpsW.test rfl rfl (fun hb => ?_) (fun hb => ?_) | refine OpsW.val (v := .sc (.int _ _)) rfl rfl ?_ | refine OpsW.val rfl rfl ?_)
   | (refine OpsW.as (.indexAddr _ _ _) ?_; first | refine OpsW.index rfl rfl rfl rfl (Int.natCast_nonneg _) (by first | exact hidx1 | exact hidx2) rfl ?_ | refine OpsW.val rfl rfl ?_)
   | (refine OpsW.as (.call _) ?_; first | refine OpsW.val (v := .sc (.int _ _)) rfl rfl ?_ | refine OpsW.val rfl rfl ?_)
   | (refine OpsW.as (.unOp _ _ _) ?_; first | refine OpsW.val (v := .sc (.bool _)) rfl rfl ?_ | refine OpsW.val (v := .sc (.int _ _)) rfl rfl ?_)
   | (refine OpsW.as (.box _ _) ?_; refine OpsW.box rfl rfl rfl rfl ?_)
   | (refine OpsW.as (.alloc _) ?_; refine OpsW.alloc rfl rfl rfl rfl rfl ?_)
   | (refine OpsW.as (.store _ _ _) ?_; refine OpsW.put rfl rfl rfl rfl rfl rfl rfl rfl rfl ?_)
   | (refine OpsW.as (.buildSlice _ _ _) ?_; refine OpsW.buildSlice rfl rfl rfl rfl rfl rfl rfl rfl ?_)
   | refine OpsW.unit rfl ?_
   | refine OpsW.nil ?_
   | refine OpsW.val rfl rfl ?_)
  | (refine DrawW.id ?_; first
   | (refine DrawW.guarded ?_; first | refine DrawW.met rfl rfl ?_ | refine DrawW.unmet rfl rfl rfl rfl rfl ?_ | refine DrawW.gone rfl rfl rfl rfl ?_)
   | (refine DrawW.as (.fieldAddr _ _ _) ?_; first | refine DrawW.val (v := .ref _ _ _ _) rfl rfl rfl rfl rfl rfl ?_ | refine DrawW.val (v := .pref _) rfl rfl rfl rfl rfl rfl ?_)
   | ((first | refine DrawW.as (.load _ _) ?_ | refine DrawW.as (.move _) ?_ | refine DrawW.as (.pick _ _ _) ?_ | refine DrawW.as (.assign _) ?_ | refine DrawW.as (.extract _ _) ?_); first | refine DrawW.val (v := .sc (.bool _)) rfl rfl rfl rfl rfl rfl ?_ | refine DrawW.val (v := .sc (.int _ _)) rfl rfl rfl rfl rfl rfl ?_ | refine DrawW.val (v := .ref _ _ _ _) rfl rfl rfl rfl rfl rfl ?_ | refine DrawW.val (v := .isl _ _) rfl rfl rfl rfl rfl rfl ?_ | refine DrawW.val (v := .sc (.string _)) rfl rfl rfl rfl rfl rfl ?_ | refine DrawW.val (v := .agg _) rfl rfl rfl rfl rfl rfl ?_ | refine DrawW.val rfl rfl rfl rfl rfl rfl ?_)
   | (refine DrawW.as (.binOp _ _ _ _ _) ?_; first | refine DrawW.test rfl rfl rfl (fun hb => ?_) (fun hb => ?_) | refine DrawW.val (v := .sc (.int _ _)) rfl rfl rfl rfl rfl rfl ?_ | refine DrawW.val rfl rfl rfl rfl rfl rfl ?_)
   | (refine DrawW.as (.indexAddr _ _ _) ?_; first | refine DrawW.index rfl rfl rfl rfl (Int.natCast_nonneg _) (by first | exact hidx1 | exact hidx2) rfl ?_ | refine DrawW.val rfl rfl rfl rfl rfl rfl ?_)
   | (refine DrawW.as (.call _) ?_; first | refine DrawW.val (v := .sc (.int _ _)) rfl rfl rfl rfl rfl rfl ?_ | refine DrawW.actv rfl rfl rfl rfl ?_)
   | (refine DrawW.as (.unOp _ _ _) ?_; first | refine DrawW.val (v := .sc (.bool _)) rfl rfl rfl rfl rfl rfl ?_ | refine DrawW.val (v := .sc (.int _ _)) rfl rfl rfl rfl rfl rfl ?_)
   | (refine DrawW.as (.box _ _) ?_; refine DrawW.box rfl rfl rfl rfl ?_)
   | (refine DrawW.as (.alloc _) ?_; refine DrawW.alloc rfl rfl rfl rfl rfl ?_)
   | (refine DrawW.as (.store _ _ _) ?_; refine DrawW.put rfl rfl rfl rfl rfl rfl rfl rfl rfl ?_)
   | refine DrawW.store rfl ?_
   | refine DrawW.fin (by kernel_rfl) ?_
   | (refine DrawW.as (.buildSlice _ _ _) ?_; refine DrawW.buildSlice rfl rfl rfl rfl rfl rfl rfl rfl ?_)
   | refine DrawW.val rfl rfl rfl rfl rfl rfl ?_
   | refine DrawW.actv rfl rfl rfl rfl ?_)
  | refine PR.seq ?_
  | refine PR.region hP hR rfl rfl ?_
  | refine PR.draw hP hR rfl rfl (by kernel_rfl) ?_
  | refine PR.yes rfl ?_
  | refine PR.no rfl ?_
  | refine PR.block ?_
  | refine PR.skip hP rfl rfl ?_
  | refine PR.exit hP rfl rfl ?_
  | refine PR.ret hP rfl rfl ?_
  refine PR.loop ?_
  obtain ⟨i, hi0⟩ : ∃ i : Nat, i = 0 := ⟨0, rfl⟩
  refine PR.to [(1, .isl (intRows path) 1), (2, .ref 0 0 7 0), (5, .sc (.int .i64 (i : Int)))]
    [(0, .cells 0 0 (Prf.mk ⟨r, b, n, p, ts, u⟩ l).cells 0 28 true false)] 1 rfl ⟨rfl, rfl, rfl, rfl, by subst hi0; rfl, rfl, trivial⟩ ⟨rfl, rfl, rfl, trivial⟩ ?_
  have hil : i ≤ path.length := by omega
  have hinv : (Prf.mk ⟨r, b, n, p, ts, u⟩ l).at? path = (Prf.mk ⟨r, b, n, p, ts, u⟩ l).at? (path.drop i) := by subst hi0; rfl
  generalize (Prf.mk ⟨r, b, n, p, ts, u⟩ l).at? path = t at hinv ⊢
  clear hi0
  induction hm : path.length - i generalizing i r b n p ts u l with
  | zero =>
    refine PR.around ?_
    repeat' first
    | (refine OpsW.id ?_; first
     | (refine OpsW.guarded ?_; first | refine OpsW.met rfl rfl rfl ?_ | refine OpsW.unmet rfl rfl rfl rfl ?_ | refine OpsW.gone rfl rfl rfl ?_)
     | (refine OpsW.as (.fieldAddr _ _ _) ?_; first | refine OpsW.val (v := .ref _ _ _ _) rfl rfl ?_ | refine OpsW.val (v := .pref _) rfl rfl ?_)
     | ((first | refine OpsW.as (.load _ _) ?_ | refine OpsW.as (.move _) ?_ | refine OpsW.as (.pick _ _ _) ?_ | refine OpsW.as (.assign _) ?_ | refine OpsW.as (.extract _ _) ?_); first | refine OpsW.val (v := .sc (.bool _)) rfl rfl ?_ | refine OpsW.val (v := .sc (.int _ _)) rfl rfl ?_ | refine OpsW.val (v := .ref _ _ _ _) rfl rfl ?_ | refine OpsW.val (v := .isl _ _) rfl rfl ?_ | refine OpsW.val (v := .sc (.string _)) rfl rfl ?_ | refine OpsW.val (v := .agg _) rfl rfl ?_ | refine OpsW.val rfl rfl ?_)
     | (refine OpsW.as (.binOp _ _ _ _ _) ?_; first | refine OpsW.test rfl rfl (fun hb => ?_) (fun hb => ?_) | refine OpsW.val (v := .sc (.int _ _)) rfl rfl ?_ | refine OpsW.val rfl rfl ?_)
     | (refine OpsW.as (.indexAddr _ _ _) ?_; first | refine OpsW.index rfl rfl rfl rfl (Int.natCast_nonneg _) (by first | exact hidx1 | exact hidx2) rfl ?_ | refine OpsW.val rfl rfl ?_)
     | (refine OpsW.as (.call _) ?_; first | refine OpsW.val (v := .sc (.int _ _)) rfl rfl ?_ | refine OpsW.val rfl rfl ?_)
     | (refine OpsW.as (.unOp _ _ _) ?_; first | refine OpsW.val (v := .sc (.bool _)) rfl rfl ?_ | refine OpsW.val (v := .sc (.int _ _)) rfl rfl ?_)
     | (refine OpsW.as (.box _ _) ?_; refine OpsW.box rfl rfl rfl rfl ?_)
     | (refine OpsW.as (.alloc _) ?_; refine OpsW.alloc rfl rfl rfl rfl rfl ?_)
     | (refine OpsW.as (.store _ _ _) ?_; refine OpsW.put rfl rfl rfl rfl rfl rfl rfl rfl rfl ?_)
     | (refine OpsW.as (.buildSlice _ _ _) ?_; refine OpsW.buildSlice rfl rfl rfl rfl rfl rfl rfl rfl ?_)
     | refine OpsW.unit rfl ?_
     | refine OpsW.nil ?_
     | refine OpsW.val rfl rfl ?_)
    | (refine DrawW.id ?_; first
     | (refine DrawW.guarded ?_; first | refine DrawW.met rfl rfl ?_ | refine DrawW.unmet rfl rfl rfl rfl rfl ?_ | refine DrawW.gone rfl rfl rfl rfl ?_)
     | (refine DrawW.as (.fieldAddr _ _ _) ?_; first | refine DrawW.val (v := .ref _ _ _ _) rfl rfl rfl rfl rfl rfl ?_ | refine DrawW.val (v := .pref _) rfl rfl rfl rfl rfl rfl ?_)
     | ((first | refine DrawW.as (.load _ _) ?_ | refine DrawW.as (.move _) ?_ | refine DrawW.as (.pick _ _ _) ?_ | refine DrawW.as (.assign _) ?_ | refine DrawW.as (.extract _ _) ?_); first | refine DrawW.val (v := .sc (.bool _)) rfl rfl rfl rfl rfl rfl ?_ | refine DrawW.val (v := .sc (.int _ _)) rfl rfl rfl rfl rfl rfl ?_ | refine DrawW.val (v := .ref _ _ _ _) rfl rfl rfl rfl rfl rfl ?_ | refine DrawW.val (v := .isl _ _) rfl rfl rfl rfl rfl rfl ?_ | refine DrawW.val (v := .sc (.string _)) rfl rfl rfl rfl rfl rfl ?_ | refine DrawW.val (v := .agg _) rfl rfl rfl rfl rfl rfl ?_ | refine DrawW.val rfl rfl rfl rfl rfl rfl ?_)
     | (refine DrawW.as (.binOp _ _ _ _ _) ?_; first | refine DrawW.test rfl rfl rfl (fun hb => ?_) (fun hb => ?_) | refine DrawW.val (v := .sc (.int _ _)) rfl rfl rfl rfl rfl rfl ?_ | refine DrawW.val rfl rfl rfl rfl rfl rfl ?_)
     | (refine DrawW.as (.indexAddr _ _ _) ?_; first | refine DrawW.index rfl rfl rfl rfl (Int.natCast_nonneg _) (by first | exact hidx1 | exact hidx2) rfl ?_ | refine DrawW.val rfl rfl rfl rfl rfl rfl ?_)
     | (refine DrawW.as (.call _) ?_; first | refine DrawW.val (v := .sc (.int _ _)) rfl rfl rfl rfl rfl rfl ?_ | refine DrawW.actv rfl rfl rfl rfl ?_)
     | (refine DrawW.as (.unOp _ _ _) ?_; first | refine DrawW.val (v := .sc (.bool _)) rfl rfl rfl rfl rfl rfl ?_ | refine DrawW.val (v := .sc (.int _ _)) rfl rfl rfl rfl rfl rfl ?_)
     | (refine DrawW.as (.box _ _) ?_; refine DrawW.box rfl rfl rfl rfl ?_)
     | (refine DrawW.as (.alloc _) ?_; refine DrawW.alloc rfl rfl rfl rfl rfl ?_)
     | (refine DrawW.as (.store _ _ _) ?_; refine DrawW.put rfl rfl rfl rfl rfl rfl rfl rfl rfl ?_)
     | refine DrawW.store rfl ?_
     | refine DrawW.fin (by kernel_rfl) ?_
     | (refine DrawW.as (.buildSlice _ _ _) ?_; refine DrawW.buildSlice rfl rfl rfl rfl rfl rfl rfl rfl ?_)
     | refine DrawW.val rfl rfl rfl rfl rfl rfl ?_
     | refine DrawW.actv rfl rfl rfl rfl ?_)
    | refine PR.seq ?_
    | refine PR.region hP hR rfl rfl ?_
    | refine PR.draw hP hR rfl rfl (by kernel_rfl) ?_
    | refine PR.yes rfl ?_
    | refine PR.no rfl ?_
    | refine PR.block ?_
    | refine PR.skip hP rfl rfl ?_
    | refine PR.exit hP rfl rfl ?_
    | refine PR.ret hP rfl rfl ?_
    · exact absurd (of_decide_eq_true hb) (by omega)
    · have : path.drop i = [] := List.drop_eq_nil_of_le (by omega)
      rw [this] at hinv
      simp only [Prf.at?] at hinv
      subst hinv
      exact ⟨.inl rfl, rfl, _, 9, rfl, rfl⟩
  | succ m ih =>
    have hlt : i < path.length := by omega
    have hx : path[i]? = some path[i] := List.getElem?_eq_getElem hlt
    have hdr : path.drop i = path[i] :: path.drop (i + 1) := List.drop_eq_getElem_cons hlt
    generalize path[i] = x at hx hdr
    have hidx1 : (intRows path)[(i : Int).toNat]? = some [.sc (.int .i64 x)] := by rw [intRows_get, Int.toNat_natCast, hx]; rfl
    rw [hdr, Prf.at?] at hinv
    have hl2 := Prf.rows_length l
    by_cases hx0 : x < 0
    · rw [if_pos hx0] at hinv
      subst hinv
      refine PR.around ?_
      repeat' first
      | (refine OpsW.id ?_; first
       | (refine OpsW.guarded ?_; first | refine OpsW.met rfl rfl rfl ?_ | refine OpsW.unmet rfl rfl rfl rfl ?_ | refine OpsW.gone rfl rfl rfl ?_)
       | (refine OpsW.as (.fieldAddr _ _ _) ?_; first | refine OpsW.val (v := .ref _ _ _ _) rfl rfl ?_ | refine OpsW.val (v := .pref _) rfl rfl ?_)
       | ((first | refine OpsW.as (.load _ _) ?_ | refine OpsW.as (.move _) ?_ | refine OpsW.as (.pick _ _ _) ?_ | refine OpsW.as (.assign _) ?_ | refine OpsW.as (.extract _ _) ?_); first | refine OpsW.val (v := .sc (.bool _)) rfl rfl ?_ | refine OpsW.val (v := .sc (.int _ _)) rfl rfl ?_ | refine OpsW.val (v := .ref _ _ _ _) rfl rfl ?_ | refine OpsW.val (v := .isl _ _) rfl rfl ?_ | refine OpsW.val (v := .sc (.string _)) rfl rfl ?_ | refine OpsW.val (v := .agg _) rfl rfl ?_ | refine OpsW.val rfl rfl ?_)
       | (refine OpsW.as (.binOp _ _ _ _ _) ?_; first | refine OpsW.test rfl rfl (fun hb => ?_) (fun hb => ?_) | refine OpsW.val (v := .sc (.int _ _)) rfl rfl ?_ | refine OpsW.val rfl rfl ?_)
       | (refine OpsW.as (.indexAddr _ _ _) ?_; first | refine OpsW.index rfl rfl rfl rfl (Int.natCast_nonneg _) (by first | exact hidx1 | exact hidx2) rfl ?_ | refine OpsW.val rfl rfl ?_)
       | (refine OpsW.as (.call _) ?_; first | refine OpsW.val (v := .sc (.int _ _)) rfl rfl ?_ | refine OpsW.val rfl rfl ?_)
       | (refine OpsW.as (.unOp _ _ _) ?_; first | refine OpsW.val (v := .sc (.bool _)) rfl rfl ?_ | refine OpsW.val (v := .sc (.int _ _)) rfl rfl ?_)
       | (refine OpsW.as (.box _ _) ?_; refine OpsW.box rfl rfl rfl rfl ?_)
       | (refine OpsW.as (.alloc _) ?_; refine OpsW.alloc rfl rfl rfl rfl rfl ?_)
       | (refine OpsW.as (.store _ _ _) ?_; refine OpsW.put rfl rfl rfl rfl rfl rfl rfl rfl rfl ?_)
       | (refine OpsW.as (.buildSlice _ _ _) ?_; refine OpsW.buildSlice rfl rfl rfl rfl rfl rfl rfl rfl ?_)
       | refine OpsW.unit rfl ?_
       | refine OpsW.nil ?_
       | refine OpsW.val rfl rfl ?_)
      | (refine DrawW.id ?_; first
       | (refine DrawW.guarded ?_; first | refine DrawW.met rfl rfl ?_ | refine DrawW.unmet rfl rfl rfl rfl rfl ?_ | refine DrawW.gone rfl rfl rfl rfl ?_)
       | (refine DrawW.as (.fieldAddr _ _ _) ?_; first | refine DrawW.val (v := .ref _ _ _ _) rfl rfl rfl rfl rfl rfl ?_ | refine DrawW.val (v := .pref _) rfl rfl rfl rfl rfl rfl ?_)
       | ((first | refine DrawW.as (.load _ _) ?_ | refine DrawW.as (.move _) ?_ | refine DrawW.as (.pick _ _ _) ?_ | refine DrawW.as (.assign _) ?_ | refine DrawW.as (.extract _ _) ?_); first | refine DrawW.val (v := .sc (.bool _)) rfl rfl rfl rfl rfl rfl ?_ | refine DrawW.val (v := .sc (.int _ _)) rfl rfl rfl rfl rfl rfl ?_ | refine DrawW.val (v := .ref _ _ _ _) rfl rfl rfl rfl rfl rfl ?_ | refine DrawW.val (v := .isl _ _) rfl rfl rfl rfl rfl rfl ?_ | refine DrawW.val (v := .sc (.string _)) rfl rfl rfl rfl rfl rfl ?_ | refine DrawW.val (v := .agg _) rfl rfl rfl rfl rfl rfl ?_ | refine DrawW.val rfl rfl rfl rfl rfl rfl ?_)
       | (refine DrawW.as (.binOp _ _ _ _ _) ?_; first | refine DrawW.test rfl rfl rfl (fun hb => ?_) (fun hb => ?_) | refine DrawW.val (v := .sc (.int _ _)) rfl rfl rfl rfl rfl rfl ?_ | refine DrawW.val rfl rfl rfl rfl rfl rfl ?_)
       | (refine DrawW.as (.indexAddr _ _ _) ?_; first | refine DrawW.index rfl rfl rfl rfl (Int.natCast_nonneg _) (by first | exact hidx1 | exact hidx2) rfl ?_ | refine DrawW.val rfl rfl rfl rfl rfl rfl ?_)
       | (refine DrawW.as (.call _) ?_; first | refine DrawW.val (v := .sc (.int _ _)) rfl rfl rfl rfl rfl rfl ?_ | refine DrawW.actv rfl rfl rfl rfl ?_)
       | (refine DrawW.as (.unOp _ _ _) ?_; first | refine DrawW.val (v := .sc (.bool _)) rfl rfl rfl rfl rfl rfl ?_ | refine DrawW.val (v := .sc (.int _ _)) rfl rfl rfl rfl rfl rfl ?_)
       | (refine DrawW.as (.box _ _) ?_; refine DrawW.box rfl rfl rfl rfl ?_)
       | (refine DrawW.as (.alloc _) ?_; refine DrawW.alloc rfl rfl rfl rfl rfl ?_)
       | (refine DrawW.as (.store _ _ _) ?_; refine DrawW.put rfl rfl rfl rfl rfl rfl rfl rfl rfl ?_)
       | refine DrawW.store rfl ?_
       | refine DrawW.fin (by kernel_rfl) ?_
       | (refine DrawW.as (.buildSlice _ _ _) ?_; refine DrawW.buildSlice rfl rfl rfl rfl rfl rfl rfl rfl ?_)
       | refine DrawW.val rfl rfl rfl rfl rfl rfl ?_
       | refine DrawW.actv rfl rfl rfl rfl ?_)
      | refine PR.seq ?_
      | refine PR.region hP hR rfl rfl ?_
      | refine PR.draw hP hR rfl rfl (by kernel_rfl) ?_
      | refine PR.yes rfl ?_
      | refine PR.no rfl ?_
      | refine PR.block ?_
      | refine PR.skip hP rfl rfl ?_
      | refine PR.exit hP rfl rfl ?_
      | refine PR.ret hP rfl rfl ?_
      · exact ⟨.inl rfl, rfl, _, 9, rfl, rfl⟩
      · rename_i h2
        exact absurd (of_decide_eq_false h2) (by omega)
      · rename_i h2
        exact absurd (of_decide_eq_false h2) (by omega)
      · exact absurd (of_decide_eq_false hb) (by omega)
    · rw [if_neg hx0] at hinv
      obtain ⟨k, rfl⟩ : ∃ k : Nat, x = (k : Int) := ⟨x.toNat, by omega⟩
      rw [Int.toNat_natCast] at hinv
      rcases Nat.lt_or_ge k l.length with hk | hk
      · have hy : l[k]? = some l[k] := List.getElem?_eq_getElem hk
        generalize l[k] = y at hy
        rw [hy] at hinv
        simp only at hinv
        obtain ⟨⟨y1, y2, y3, y4, y5, y6⟩, ys⟩ := y
        have hidx2 : (Prf.rows l)[(k : Int).toNat]? = some (Prf.mk ⟨y1, y2, y3, y4, y5, y6⟩ ys).cells := by rw [Prf.rows_get, Int.toNat_natCast, hy]; rfl
        refine PR.around ?_
        repeat' first
        | (refine OpsW.id ?_; first
         | (refine OpsW.guarded ?_; first | refine OpsW.met rfl rfl rfl ?_ | refine OpsW.unmet rfl rfl rfl rfl ?_ | refine OpsW.gone rfl rfl rfl ?_)
         | (refine OpsW.as (.fieldAddr _ _ _) ?_; first | refine OpsW.val (v := .ref _ _ _ _) rfl rfl ?_ | refine OpsW.val (v := .pref _) rfl rfl ?_)
         | ((first | refine OpsW.as (.load _ _) ?_ | refine OpsW.as (.move _) ?_ | refine OpsW.as (.pick _ _ _) ?_ | refine OpsW.as (.assign _) ?_ | refine OpsW.as (.extract _ _) ?_); first | refine OpsW.val (v := .sc (.bool _)) rfl rfl ?_ | refine OpsW.val (v := .sc (.int _ _)) rfl rfl ?_ | refine OpsW.val (v := .ref _ _ _ _) rfl rfl ?_ | refine OpsW.val (v := .isl _ _) rfl rfl ?_ | refine OpsW.val (v := .sc (.string _)) rfl rfl ?_ | refine OpsW.val (v := .agg _) rfl rfl ?_ | refine OpsW.val rfl rfl ?_)
         | (refine OpsW.as (.binOp _ _ _ _ _) ?_; first | refine OpsW.test rfl rfl (fun hb => ?_) (fun hb => ?_) | refine OpsW.val (v := .sc (.int _ _)) rfl rfl ?_ | refine OpsW.val rfl rfl ?_)
         | (refine OpsW.as (.indexAddr _ _ _) ?_; first | refine OpsW.index rfl rfl rfl rfl (Int.natCast_nonneg _) (by first | exact hidx1 | exact hidx2) rfl ?_ | refine OpsW.val rfl rfl ?_)
         | (refine OpsW.as (.call _) ?_; first | refine OpsW.val (v := .sc (.int _ _)) rfl rfl ?_ | refine OpsW.val rfl rfl ?_)
         | (refine OpsW.as (.unOp _ _ _) ?_; first | refine OpsW.val (v := .sc (.bool _)) rfl rfl ?_ | refine OpsW.val (v := .sc (.int _ _)) rfl rfl ?_)
         | (refine OpsW.as (.box _ _) ?_; refine OpsW.box rfl rfl rfl rfl ?_)
         | (refine OpsW.as (.alloc _) ?_; refine OpsW.alloc rfl rfl rfl rfl rfl ?_)
         | (refine OpsW.as (.store _ _ _) ?_; refine OpsW.put rfl rfl rfl rfl rfl rfl rfl rfl rfl ?_)
         | (refine OpsW.as (.buildSlice _ _ _) ?_; refine OpsW.buildSlice rfl rfl rfl rfl rfl rfl rfl rfl ?_)
         | refine OpsW.unit rfl ?_
         | refine OpsW.nil ?_
         | refine OpsW.val rfl rfl ?_)
        | (refine DrawW.id ?_; first
         | (refine DrawW.guarded ?_; first | refine DrawW.met rfl rfl ?_ | refine DrawW.unmet rfl rfl rfl rfl rfl ?_ | refine DrawW.gone rfl rfl rfl rfl ?_)
         | (refine DrawW.as (.fieldAddr _ _ _) ?_; first | refine DrawW.val (v := .ref _ _ _ _) rfl rfl rfl rfl rfl rfl ?_ | refine DrawW.val (v := .pref _) rfl rfl rfl rfl rfl rfl ?_)
         | ((first | refine DrawW.as (.load _ _) ?_ | refine DrawW.as (.move _) ?_ | refine DrawW.as (.pick _ _ _) ?_ | refine DrawW.as (.assign _) ?_ | refine DrawW.as (.extract _ _) ?_); first | refine DrawW.val (v := .sc (.bool _)) rfl rfl rfl rfl rfl rfl ?_ | refine DrawW.val (v := .sc (.int _ _)) rfl rfl rfl rfl rfl rfl ?_ | refine DrawW.val (v := .ref _ _ _ _) rfl rfl rfl rfl rfl rfl ?_ | refine DrawW.val (v := .isl _ _) rfl rfl rfl rfl rfl rfl ?_ | refine DrawW.val (v := .sc (.string _)) rfl rfl rfl rfl rfl rfl ?_ | refine DrawW.val (v := .agg _) rfl rfl rfl rfl rfl rfl ?_ | refine DrawW.val rfl rfl rfl rfl rfl rfl ?_)
         | (refine DrawW.as (.binOp _ _ _ _ _) ?_; first | refine DrawW.test rfl rfl rfl (fun hb => ?_) (fun hb => ?_) | refine DrawW.val (v := .sc (.int _ _)) rfl rfl rfl rfl rfl rfl ?_ | refine DrawW.val rfl rfl rfl rfl rfl rfl ?_)
         | (refine DrawW.as (.indexAddr _ _ _) ?_; first | refine DrawW.index rfl rfl rfl rfl (Int.natCast_nonneg _) (by first | exact hidx1 | exact hidx2) rfl ?_ | refine DrawW.val rfl rfl rfl rfl rfl rfl ?_)
         | (refine DrawW.as (.call _) ?_; first | refine DrawW.val (v := .sc (.int _ _)) rfl rfl rfl rfl rfl rfl ?_ | refine DrawW.actv rfl rfl rfl rfl ?_)
         | (refine DrawW.as (.unOp _ _ _) ?_; first | refine DrawW.val (v := .sc (.bool _)) rfl rfl rfl rfl rfl rfl ?_ | refine DrawW.val (v := .sc (.int _ _)) rfl rfl rfl rfl rfl rfl ?_)
         | (refine DrawW.as (.box _ _) ?_; refine DrawW.box rfl rfl rfl rfl ?_)
         | (refine DrawW.as (.alloc _) ?_; refine DrawW.alloc rfl rfl rfl rfl rfl ?_)
         | (refine DrawW.as (.store _ _ _) ?_; refine DrawW.put rfl rfl rfl rfl rfl rfl rfl rfl rfl ?_)
         | refine DrawW.store rfl ?_
         | refine DrawW.fin (by kernel_rfl) ?_
         | (refine DrawW.as (.buildSlice _ _ _) ?_; refine DrawW.buildSlice rfl rfl rfl rfl rfl rfl rfl rfl ?_)
         | refine DrawW.val rfl rfl rfl rfl rfl rfl ?_
         | refine DrawW.actv rfl rfl rfl rfl ?_)
        | refine PR.seq ?_
        | refine PR.region hP hR rfl rfl ?_
        | refine PR.draw hP hR rfl rfl (by kernel_rfl) ?_
        | refine PR.yes rfl ?_
        | refine PR.no rfl ?_
        | refine PR.block ?_
        | refine PR.skip hP rfl rfl ?_
        | refine PR.exit hP rfl rfl ?_
        | refine PR.ret hP rfl rfl ?_
        · exact absurd (of_decide_eq_true hb) (by omega)
        · have h2 := of_decide_eq_true hb
          rw [hl2] at h2
          omega
        · refine PR.to [(1, .isl (intRows path) 1), (2, .ref 0 0 7 0), (5, .sc (.int .i64 ((i + 1 : Nat) : Int)))]
            [(0, .cells 0 0 (Prf.mk ⟨y1, y2, y3, y4, y5, y6⟩ ys).cells 0 28 true false)] 1 rfl ⟨rfl, rfl, rfl, rfl, congrArg (fun z => some (AV.sc (.int .i64 z))) (wrap_succ hlt hp), rfl, trivial⟩ ⟨rfl, rfl, rfl, trivial⟩ ?_
          exact ih ys y1 y2 y3 y4 y5 y6 (i + 1) (by omega) hinv (by omega)
        · exact absurd (of_decide_eq_false hb) (by omega)
      · rw [List.getElem?_eq_none hk] at hinv
        simp only at hinv
        subst hinv
        refine PR.around ?_
        repeat' first
        | (refine OpsW.id ?_; first
         | (refine OpsW.guarded ?_; first | refine OpsW.met rfl rfl rfl ?_ | refine OpsW.unmet rfl rfl rfl rfl ?_ | refine OpsW.gone rfl rfl rfl ?_)
         | (refine OpsW.as (.fieldAddr _ _ _) ?_; first | refine OpsW.val (v := .ref _ _ _ _) rfl rfl ?_ | refine OpsW.val (v := .pref _) rfl rfl ?_)
         | ((first | refine OpsW.as (.load _ _) ?_ | refine OpsW.as (.move _) ?_ | refine OpsW.as (.pick _ _ _) ?_ | refine OpsW.as (.assign _) ?_ | refine OpsW.as (.extract _ _) ?_); first | refine OpsW.val (v := .sc (.bool _)) rfl rfl ?_ | refine OpsW.val (v := .sc (.int _ _)) rfl rfl ?_ | refine OpsW.val (v := .ref _ _ _ _) rfl rfl ?_ | refine OpsW.val (v := .isl _ _) rfl rfl ?_ | refine OpsW.val (v := .sc (.string _)) rfl rfl ?_ | refine OpsW.val (v := .agg _) rfl rfl ?_ | refine OpsW.val rfl rfl ?_)
         | (refine OpsW.as (.binOp _ _ _ _ _) ?_; first | refine OpsW.test rfl rfl (fun hb => ?_) (fun hb => ?_) | refine OpsW.val (v := .sc (.int _ _)) rfl rfl ?_ | refine OpsW.val rfl rfl ?_)
         | (refine OpsW.as (.indexAddr _ _ _) ?_; first | refine OpsW.index rfl rfl rfl rfl (Int.natCast_nonneg _) (by first | exact hidx1 | exact hidx2) rfl ?_ | refine OpsW.val rfl rfl ?_)
         | (refine OpsW.as (.call _) ?_; first | refine OpsW.val (v := .sc (.int _ _)) rfl rfl ?_ | refine OpsW.val rfl rfl ?_)
         | (refine OpsW.as (.unOp _ _ _) ?_; first | refine OpsW.val (v := .sc (.bool _)) rfl rfl ?_ | refine OpsW.val (v := .sc (.int _ _)) rfl rfl ?_)
         | (refine OpsW.as (.box _ _) ?_; refine OpsW.box rfl rfl rfl rfl ?_)
         | (refine OpsW.as (.alloc _) ?_; refine OpsW.alloc rfl rfl rfl rfl rfl ?_)
         | (refine OpsW.as (.store _ _ _) ?_; refine OpsW.put rfl rfl rfl rfl rfl rfl rfl rfl rfl ?_)
         | (refine OpsW.as (.buildSlice _ _ _) ?_; refine OpsW.buildSlice rfl rfl rfl rfl rfl rfl rfl rfl ?_)
         | refine OpsW.unit rfl ?_
         | refine OpsW.nil ?_
         | refine OpsW.val rfl rfl ?_)
        | (refine DrawW.id ?_; first
         | (refine DrawW.guarded ?_; first | refine DrawW.met rfl rfl ?_ | refine DrawW.unmet rfl rfl rfl rfl rfl ?_ | refine DrawW.gone rfl rfl rfl rfl ?_)
         | (refine DrawW.as (.fieldAddr _ _ _) ?_; first | refine DrawW.val (v := .ref _ _ _ _) rfl rfl rfl rfl rfl rfl ?_ | refine DrawW.val (v := .pref _) rfl rfl rfl rfl rfl rfl ?_)
         | ((first | refine DrawW.as (.load _ _) ?_ | refine DrawW.as (.move _) ?_ | refine DrawW.as (.pick _ _ _) ?_ | refine DrawW.as (.assign _) ?_ | refine DrawW.as (.extract _ _) ?_); first | refine DrawW.val (v := .sc (.bool _)) rfl rfl rfl rfl rfl rfl ?_ | refine DrawW.val (v := .sc (.int _ _)) rfl rfl rfl rfl rfl rfl ?_ | refine DrawW.val (v := .ref _ _ _ _) rfl rfl rfl rfl rfl rfl ?_ | refine DrawW.val (v := .isl _ _) rfl rfl rfl rfl rfl rfl ?_ | refine DrawW.val (v := .sc (.string _)) rfl rfl rfl rfl rfl rfl ?_ | refine DrawW.val (v := .agg _) rfl rfl rfl rfl rfl rfl ?_ | refine DrawW.val rfl rfl rfl rfl rfl rfl ?_)
         | (refine DrawW.as (.binOp _ _ _ _ _) ?_; first | refine DrawW.test rfl rfl rfl (fun hb => ?_) (fun hb => ?_) | refine DrawW.val (v := .sc (.int _ _)) rfl rfl rfl rfl rfl rfl ?_ | refine DrawW.val rfl rfl rfl rfl rfl rfl ?_)
         | (refine DrawW.as (.indexAddr _ _ _) ?_; first | refine DrawW.index rfl rfl rfl rfl (Int.natCast_nonneg _) (by first | exact hidx1 | exact hidx2) rfl ?_ | refine DrawW.val rfl rfl rfl rfl rfl rfl ?_)
         | (refine DrawW.as (.call _) ?_; first | refine DrawW.val (v := .sc (.int _ _)) rfl rfl rfl rfl rfl rfl ?_ | refine DrawW.actv rfl rfl rfl rfl ?_)
         | (refine DrawW.as (.unOp _ _ _) ?_; first | refine DrawW.val (v := .sc (.bool _)) rfl rfl rfl rfl rfl rfl ?_ | refine DrawW.val (v := .sc (.int _ _)) rfl rfl rfl rfl rfl rfl ?_)
         | (refine DrawW.as (.box _ _) ?_; refine DrawW.box rfl rfl rfl rfl ?_)
         | (refine DrawW.as (.alloc _) ?_; refine DrawW.alloc rfl rfl rfl rfl rfl ?_)
         | (refine DrawW.as (.store _ _ _) ?_; refine DrawW.put rfl rfl rfl rfl rfl rfl rfl rfl rfl ?_)
         | refine DrawW.store rfl ?_
         | refine DrawW.fin (by kernel_rfl) ?_
         | (refine DrawW.as (.buildSlice _ _ _) ?_; refine DrawW.buildSlice rfl rfl rfl rfl rfl rfl rfl rfl ?_)
         | refine DrawW.val rfl rfl rfl rfl rfl rfl ?_
         | refine DrawW.actv rfl rfl rfl rfl ?_)
        | refine PR.seq ?_
        | refine PR.region hP hR rfl rfl ?_
        | refine PR.draw hP hR rfl rfl (by kernel_rfl) ?_
        | refine PR.yes rfl ?_
        | refine PR.no rfl ?_
        | refine PR.block ?_
        | refine PR.skip hP rfl rfl ?_
        | refine PR.exit hP rfl rfl ?_
        | refine PR.ret hP rfl rfl ?_
        · exact absurd (of_decide_eq_true hb) (by omega)
        · exact ⟨.inl rfl, rfl, _, 9, rfl, rfl⟩
        · exact absurd (of_decide_eq_false hb) (by omega)
        · exact absurd (of_decide_eq_false hb) (by omega)
end Go.AI
end
