/-
  A part of the proof: V43.
-/
import Derived.Test.YtmlcjnhkphkpiaaGreatDoorProg
import Derived.KernelRfl
import Derived.Test.YtmlcjnhkphkpiaaGreatDoorDat
set_option linter.all false

namespace Go.AI
open Go Go.Proofs
set_option maxRecDepth 10000
set_option maxHeartbeats 4000000
theorem app26 : AppT Tryz.prog 26 26 28 7 128 := ⟨rfl, rfl, rfl, rfl, ⟨_, rfl, rfl⟩, by decide, by decide⟩

theorem w43 {R : Rec} (hP : ProgOK Tryz.prog) (hR : RecOK Tryz.prog R) (r b : Int) (n : ByteArray) (p : List Int) (ts : List Tm) (u : List Int) (l : List Prf) (hl : l.length * 128 ≤ 140737488355328)
    (hC1 : ∀ h, R.call .normal 84 [.agg (Stp.mk r b n p ts u).cells] .none h = some (.ret (.agg (Stp.mk r b n p ts u).cells), .none, h))
    (hC : ∀ (a : Prf), a ∈ l → ∀ h, R.call .normal 43 [.agg a.cells] .none h = some (.ret (.agg a.cells), .none, h)) (h : AHeap) :
    CallOK Tryz.prog 43 [.agg (Prf.mk ⟨r, b, n, p, ts, u⟩ l).cells] h (.ret (.agg (Prf.mk ⟨r, b, n, p, ts, u⟩ l).cells)) h := by
  have hlen := Prf.rows_length l
  have hcall1 := hC1
  refine PR.callW hP Tryz.func43 rfl rfl ?_ h
  repeat' first
  | (refine OpsW.id ?_; first
   | (refine OpsW.guarded ?_; first | refine OpsW.met rfl rfl rfl ?_ | refine OpsW.unmet rfl rfl rfl rfl ?_ | refine OpsW.gone rfl rfl rfl ?_)
   | (refine OpsW.as (.fieldAddr _ _ _) ?_; first | refine OpsW.val (v := .ref _ _ _ _) rfl rfl ?_ | refine OpsW.val (v := .pref _) rfl rfl ?_)
   | ((first | refine OpsW.as (.load _ _) ?_ | refine OpsW.as (.move _) ?_ | refine OpsW.as (.pick _ _ _) ?_ | refine OpsW.as (.assign _) ?_ | refine OpsW.as (.extract _ _) ?_); first | refine OpsW.val (v := .sc (.bool _)) rfl rfl ?_ | refine OpsW.val (v := .sc (.int _ _)) rfl rfl ?_ | refine OpsW.val (v := .ref _ _ _ _) rfl rfl ?_ | refine OpsW.val (v := .isl _ _) rfl rfl ?_ | refine OpsW.val (v := .sc (.string _)) rfl rfl ?_ | refine OpsW.val (v := .agg _) rfl rfl ?_ | refine OpsW.val rfl rfl ?_)
   | (refine OpsW.as (.binOp _ _ _ _ _) ?_; first | refine OpsW.test rfl rfl (fun hb => ?_) (fun hb => ?_) | refine OpsW.val (v := .sc (.int _ _)) rfl rfl ?_ | refine OpsW.val rfl rfl ?_)
   | (refine OpsW.as (.indexAddr _ _ _) ?_; first | refine OpsW.index rfl rfl rfl rfl (Int.natCast_nonneg _) (hidx1) rfl ?_ | refine OpsW.val rfl rfl ?_)
   | (refine OpsW.as (.call _) ?_; first | refine OpsW.val (v := .sc (.int _ _)) rfl rfl ?_ | refine OpsW.call (v := .sc (.bool true)) rfl (hcall1 _) rfl ?_ | refine OpsW.call (v := .sc (.bool false)) rfl (hcall1 _) rfl ?_ | refine OpsW.callB rfl (hcall1 _) rfl (fun hb => ?_) (fun hb => ?_) | refine OpsW.call rfl (hcall1 _) rfl ?_ | refine OpsW.appNil happ1 (by decide) rfl rfl rfl rfl rfl rfl ?_ | refine OpsW.app happ1 rfl rfl rfl hclen rfl rfl rfl hbnd rfl ?_ | refine OpsW.val rfl rfl ?_)
   | (refine OpsW.as (.unOp _ _ _) ?_; first | refine OpsW.val (v := .sc (.bool _)) rfl rfl ?_ | refine OpsW.val (v := .sc (.int _ _)) rfl rfl ?_)
   | (refine OpsW.as (.box _ _) ?_; refine OpsW.box rfl rfl rfl rfl ?_)
   | (refine OpsW.as (.alloc _) ?_; refine OpsW.alloc rfl rfl rfl rfl rfl ?_)
   | (refine OpsW.as (.store _ _ _) ?_; refine OpsW.put rfl rfl rfl rfl rfl rfl rfl rfl rfl ?_)
   | (refine OpsW.as (.buildSlice _ _ _) ?_; refine OpsW.buildSlice rfl rfl rfl rfl rfl rfl rfl rfl ?_)
   | refine OpsW.unit rfl ?_
   | refine OpsW.nil ?_
   | refine OpsW.val rfl rfl ?_)
  | (refine DrawW.id ?_; first
   | (refine DrawW.guarded ?_; first | refine DrawW.met rfl rfl ?_ | refine DrawW.unmet rfl rfl rfl rfl rfl ?_ | refine DrawW.gone rfl rfl rfl rfl ?_)
   | (refine DrawW.as (.fieldAddr _ _ _) ?_; first | refine DrawW.val (v := .ref _ _ _ _) rfl rfl rfl rfl rfl rfl ?_ | refine DrawW.val (v := .pref _) rfl rfl rfl rfl rfl rfl ?_)
   | ((first | refine DrawW.as (.load _ _) ?_ | refine DrawW.as (.move _) ?_ | refine DrawW.as (.pick _ _ _) ?_ | refine DrawW.as (.assign _) ?_ | refine DrawW.as (.extract _ _) ?_); first | refine DrawW.val (v := .sc (.bool _)) rfl rfl rfl rfl rfl rfl ?_ | refine DrawW.val (v := .sc (.int _ _)) rfl rfl rfl rfl rfl rfl ?_ | refine DrawW.val (v := .ref _ _ _ _) rfl rfl rfl rfl rfl rfl ?_ | refine DrawW.val (v := .isl _ _) rfl rfl rfl rfl rfl rfl ?_ | refine DrawW.val (v := .sc (.string _)) rfl rfl rfl rfl rfl rfl ?_ | refine DrawW.val (v := .agg _) rfl rfl rfl rfl rfl rfl ?_ | refine DrawW.val rfl rfl rfl rfl rfl rfl ?_)
   | (refine DrawW.as (.binOp _ _ _ _ _) ?_; first | refine DrawW.test rfl rfl rfl (fun hb => ?_) (fun hb => ?_) | refine DrawW.val (v := .sc (.int _ _)) rfl rfl rfl rfl rfl rfl ?_ | refine DrawW.val rfl rfl rfl rfl rfl rfl ?_)
   | (refine DrawW.as (.indexAddr _ _ _) ?_; first | refine DrawW.index rfl rfl rfl rfl (Int.natCast_nonneg _) (hidx1) rfl ?_ | refine DrawW.val rfl rfl rfl rfl rfl rfl ?_)
   | (refine DrawW.as (.call _) ?_; first | refine DrawW.val (v := .sc (.int _ _)) rfl rfl rfl rfl rfl rfl ?_ | refine DrawW.call (v := .sc (.bool true)) rfl rfl rfl (hcall1 _) rfl ?_ | refine DrawW.call (v := .sc (.bool false)) rfl rfl rfl (hcall1 _) rfl ?_ | refine DrawW.callB rfl rfl rfl (hcall1 _) rfl (fun hb => ?_) (fun hb => ?_) | refine DrawW.call rfl rfl rfl (hcall1 _) rfl ?_ | refine DrawW.appNil happ1 (by decide) rfl rfl rfl rfl rfl rfl ?_ | refine DrawW.app happ1 rfl rfl rfl hclen rfl rfl rfl hbnd rfl ?_ | refine DrawW.actv rfl rfl rfl rfl ?_)
   | (refine DrawW.as (.unOp _ _ _) ?_; first | refine DrawW.val (v := .sc (.bool _)) rfl rfl rfl rfl rfl rfl ?_ | refine DrawW.val (v := .sc (.int _ _)) rfl rfl rfl rfl rfl rfl ?_)
   | (refine DrawW.as (.box _ _) ?_; refine DrawW.box rfl rfl rfl rfl ?_)
   | (refine DrawW.as (.alloc _) ?_; refine DrawW.alloc rfl rfl rfl rfl rfl ?_)
   | (refine DrawW.as (.store _ _ _) ?_; refine DrawW.put rfl rfl rfl rfl rfl rfl rfl rfl rfl ?_)
   | refine DrawW.store rfl ?_
   | refine DrawW.fin (by kernel_rfl) ?_
   | (refine DrawW.as (.buildSlice _ _ _) ?_; refine DrawW.buildSlice rfl rfl rfl rfl rfl rfl rfl rfl ?_)
   | refine DrawW.val rfl rfl rfl rfl rfl rfl ?_
   | refine DrawW.actv rfl rfl rfl rfl ?_)
  | refine PR.seq ?_
  | refine PR.region hP hR rfl rfl ?_
  | refine PR.draw hP hR rfl rfl (by kernel_rfl) ?_
  | refine PR.yes rfl ?_
  | refine PR.no rfl ?_
  | refine PR.block ?_
  | refine PR.skip hP rfl rfl ?_
  | refine PR.exit hP rfl rfl ?_
  | refine PR.ret hP rfl rfl ?_
  clear hcall1 hC1
  refine PR.loop ?_
  have happ1 := app26
  rcases Nat.eq_zero_or_pos l.length with h0 | h0
  · refine PR.around ?_
    repeat' first
    | (refine OpsW.id ?_; first
     | (refine OpsW.guarded ?_; first | refine OpsW.met rfl rfl rfl ?_ | refine OpsW.unmet rfl rfl rfl rfl ?_ | refine OpsW.gone rfl rfl rfl ?_)
     | (refine OpsW.as (.fieldAddr _ _ _) ?_; first | refine OpsW.val (v := .ref _ _ _ _) rfl rfl ?_ | refine OpsW.val (v := .pref _) rfl rfl ?_)
     | ((first | refine OpsW.as (.load _ _) ?_ | refine OpsW.as (.move _) ?_ | refine OpsW.as (.pick _ _ _) ?_ | refine OpsW.as (.assign _) ?_ | refine OpsW.as (.extract _ _) ?_); first | refine OpsW.val (v := .sc (.bool _)) rfl rfl ?_ | refine OpsW.val (v := .sc (.int _ _)) rfl rfl ?_ | refine OpsW.val (v := .ref _ _ _ _) rfl rfl ?_ | refine OpsW.val (v := .isl _ _) rfl rfl ?_ | refine OpsW.val (v := .sc (.string _)) rfl rfl ?_ | refine OpsW.val (v := .agg _) rfl rfl ?_ | refine OpsW.val rfl rfl ?_)
     | (refine OpsW.as (.binOp _ _ _ _ _) ?_; first | refine OpsW.test rfl rfl (fun hb => ?_) (fun hb => ?_) | refine OpsW.val (v := .sc (.int _ _)) rfl rfl ?_ | refine OpsW.val rfl rfl ?_)
     | (refine OpsW.as (.indexAddr _ _ _) ?_; first | refine OpsW.index rfl rfl rfl rfl (Int.natCast_nonneg _) (hidx1) rfl ?_ | refine OpsW.val rfl rfl ?_)
     | (refine OpsW.as (.call _) ?_; first | refine OpsW.val (v := .sc (.int _ _)) rfl rfl ?_ | refine OpsW.call (v := .sc (.bool true)) rfl (hcall1 _) rfl ?_ | refine OpsW.call (v := .sc (.bool false)) rfl (hcall1 _) rfl ?_ | refine OpsW.callB rfl (hcall1 _) rfl (fun hb => ?_) (fun hb => ?_) | refine OpsW.call rfl (hcall1 _) rfl ?_ | refine OpsW.appNil happ1 (by decide) rfl rfl rfl rfl rfl rfl ?_ | refine OpsW.app happ1 rfl rfl rfl hclen rfl rfl rfl hbnd rfl ?_ | refine OpsW.val rfl rfl ?_)
     | (refine OpsW.as (.unOp _ _ _) ?_; first | refine OpsW.val (v := .sc (.bool _)) rfl rfl ?_ | refine OpsW.val (v := .sc (.int _ _)) rfl rfl ?_)
     | (refine OpsW.as (.box _ _) ?_; refine OpsW.box rfl rfl rfl rfl ?_)
     | (refine OpsW.as (.alloc _) ?_; refine OpsW.alloc rfl rfl rfl rfl rfl ?_)
     | (refine OpsW.as (.store _ _ _) ?_; refine OpsW.put rfl rfl rfl rfl rfl rfl rfl rfl rfl ?_)
     | (refine OpsW.as (.buildSlice _ _ _) ?_; refine OpsW.buildSlice rfl rfl rfl rfl rfl rfl rfl rfl ?_)
     | refine OpsW.unit rfl ?_
     | refine OpsW.nil ?_
     | refine OpsW.val rfl rfl ?_)
    | (refine DrawW.id ?_; first
     | (refine DrawW.guarded ?_; first | refine DrawW.met rfl rfl ?_ | refine DrawW.unmet rfl rfl rfl rfl rfl ?_ | refine DrawW.gone rfl rfl rfl rfl ?_)
     | (refine DrawW.as (.fieldAddr _ _ _) ?_; first | refine DrawW.val (v := .ref _ _ _ _) rfl rfl rfl rfl rfl rfl ?_ | refine DrawW.val (v := .pref _) rfl rfl rfl rfl rfl rfl ?_)
     | ((first | refine DrawW.as (.load _ _) ?_ | refine DrawW.as (.move _) ?_ | refine DrawW.as (.pick _ _ _) ?_ | refine DrawW.as (.assign _) ?_ | refine DrawW.as (.extract _ _) ?_); first | refine DrawW.val (v := .sc (.bool _)) rfl rfl rfl rfl rfl rfl ?_ | refine DrawW.val (v := .sc (.int _ _)) rfl rfl rfl rfl rfl rfl ?_ | refine DrawW.val (v := .ref _ _ _ _) rfl rfl rfl rfl rfl rfl ?_ | refine DrawW.val (v := .isl _ _) rfl rfl rfl rfl rfl rfl ?_ | refine DrawW.val (v := .sc (.string _)) rfl rfl rfl rfl rfl rfl ?_ | refine DrawW.val (v := .agg _) rfl rfl rfl rfl rfl rfl ?_ | refine DrawW.val rfl rfl rfl rfl rfl rfl ?_)
     | (refine DrawW.as (.binOp _ _ _ _ _) ?_; first | refine DrawW.test rfl rfl rfl (fun hb => ?_) (fun hb => ?_) | refine DrawW.val (v := .sc (.int _ _)) rfl rfl rfl rfl rfl rfl ?_ | refine DrawW.val rfl rfl rfl rfl rfl rfl ?_)
     | (refine DrawW.as (.indexAddr _ _ _) ?_; first | refine DrawW.index rfl rfl rfl rfl (Int.natCast_nonneg _) (hidx1) rfl ?_ | refine DrawW.val rfl rfl rfl rfl rfl rfl ?_)
     | (refine DrawW.as (.call _) ?_; first | refine DrawW.val (v := .sc (.int _ _)) rfl rfl rfl rfl rfl rfl ?_ | refine DrawW.call (v := .sc (.bool true)) rfl rfl rfl (hcall1 _) rfl ?_ | refine DrawW.call (v := .sc (.bool false)) rfl rfl rfl (hcall1 _) rfl ?_ | refine DrawW.callB rfl rfl rfl (hcall1 _) rfl (fun hb => ?_) (fun hb => ?_) | refine DrawW.call rfl rfl rfl (hcall1 _) rfl ?_ | refine DrawW.appNil happ1 (by decide) rfl rfl rfl rfl rfl rfl ?_ | refine DrawW.app happ1 rfl rfl rfl hclen rfl rfl rfl hbnd rfl ?_ | refine DrawW.actv rfl rfl rfl rfl ?_)
     | (refine DrawW.as (.unOp _ _ _) ?_; first | refine DrawW.val (v := .sc (.bool _)) rfl rfl rfl rfl rfl rfl ?_ | refine DrawW.val (v := .sc (.int _ _)) rfl rfl rfl rfl rfl rfl ?_)
     | (refine DrawW.as (.box _ _) ?_; refine DrawW.box rfl rfl rfl rfl ?_)
     | (refine DrawW.as (.alloc _) ?_; refine DrawW.alloc rfl rfl rfl rfl rfl ?_)
     | (refine DrawW.as (.store _ _ _) ?_; refine DrawW.put rfl rfl rfl rfl rfl rfl rfl rfl rfl ?_)
     | refine DrawW.store rfl ?_
     | refine DrawW.fin (by kernel_rfl) ?_
     | (refine DrawW.as (.buildSlice _ _ _) ?_; refine DrawW.buildSlice rfl rfl rfl rfl rfl rfl rfl rfl ?_)
     | refine DrawW.val rfl rfl rfl rfl rfl rfl ?_
     | refine DrawW.actv rfl rfl rfl rfl ?_)
    | refine PR.seq ?_
    | refine PR.region hP hR rfl rfl ?_
    | refine PR.draw hP hR rfl rfl (by kernel_rfl) ?_
    | refine PR.yes rfl ?_
    | refine PR.no rfl ?_
    | refine PR.block ?_
    | refine PR.skip hP rfl rfl ?_
    | refine PR.exit hP rfl rfl ?_
    | refine PR.ret hP rfl rfl ?_
    · exact absurd (of_decide_eq_true hb) (by omega)
    · have : l = [] := List.eq_nil_of_length_eq_zero h0
      subst this
      exact ⟨.inl rfl, rfl, _, 19, _, rfl, rfl, ⟨rfl, rfl, rfl, rfl, rfl, rfl, ⟨rfl, rfl⟩, rfl⟩⟩
  · -- the first round
    have hx : l[0]? = some l[0] := List.getElem?_eq_getElem h0
    have hmem : l[0] ∈ l := List.getElem_mem h0
    generalize l[0] = x at hx hmem
    have hcall1 := hC x hmem
    have hsn := Prf.rows_snoc l 0 x hx
    obtain ⟨⟨x1, x2, x3, x4, x5, x6⟩, xs⟩ := x
    have hidx1 : (Prf.rows l)[((0 : Nat) : Int).toNat]? = some (Prf.mk ⟨x1, x2, x3, x4, x5, x6⟩ xs).cells := by rw [Prf.rows_get, Int.toNat_natCast, hx]; rfl
    refine PR.around ?_
    repeat' first
    | (refine OpsW.id ?_; first
     | (refine OpsW.guarded ?_; first | refine OpsW.met rfl rfl rfl ?_ | refine OpsW.unmet rfl rfl rfl rfl ?_ | refine OpsW.gone rfl rfl rfl ?_)
     | (refine OpsW.as (.fieldAddr _ _ _) ?_; first | refine OpsW.val (v := .ref _ _ _ _) rfl rfl ?_ | refine OpsW.val (v := .pref _) rfl rfl ?_)
     | ((first | refine OpsW.as (.load _ _) ?_ | refine OpsW.as (.move _) ?_ | refine OpsW.as (.pick _ _ _) ?_ | refine OpsW.as (.assign _) ?_ | refine OpsW.as (.extract _ _) ?_); first | refine OpsW.val (v := .sc (.bool _)) rfl rfl ?_ | refine OpsW.val (v := .sc (.int _ _)) rfl rfl ?_ | refine OpsW.val (v := .ref _ _ _ _) rfl rfl ?_ | refine OpsW.val (v := .isl _ _) rfl rfl ?_ | refine OpsW.val (v := .sc (.string _)) rfl rfl ?_ | refine OpsW.val (v := .agg _) rfl rfl ?_ | refine OpsW.val rfl rfl ?_)
     | (refine OpsW.as (.binOp _ _ _ _ _) ?_; first | refine OpsW.test rfl rfl (fun hb => ?_) (fun hb => ?_) | refine OpsW.val (v := .sc (.int _ _)) rfl rfl ?_ | refine OpsW.val rfl rfl ?_)
     | (refine OpsW.as (.indexAddr _ _ _) ?_; first | refine OpsW.index rfl rfl rfl rfl (Int.natCast_nonneg _) (hidx1) rfl ?_ | refine OpsW.val rfl rfl ?_)
     | (refine OpsW.as (.call _) ?_; first | refine OpsW.val (v := .sc (.int _ _)) rfl rfl ?_ | refine OpsW.call (v := .sc (.bool true)) rfl (hcall1 _) rfl ?_ | refine OpsW.call (v := .sc (.bool false)) rfl (hcall1 _) rfl ?_ | refine OpsW.callB rfl (hcall1 _) rfl (fun hb => ?_) (fun hb => ?_) | refine OpsW.call rfl (hcall1 _) rfl ?_ | refine OpsW.appNil happ1 (by decide) rfl rfl rfl rfl rfl rfl ?_ | refine OpsW.app happ1 rfl rfl rfl hclen rfl rfl rfl hbnd rfl ?_ | refine OpsW.val rfl rfl ?_)
     | (refine OpsW.as (.unOp _ _ _) ?_; first | refine OpsW.val (v := .sc (.bool _)) rfl rfl ?_ | refine OpsW.val (v := .sc (.int _ _)) rfl rfl ?_)
     | (refine OpsW.as (.box _ _) ?_; refine OpsW.box rfl rfl rfl rfl ?_)
     | (refine OpsW.as (.alloc _) ?_; refine OpsW.alloc rfl rfl rfl rfl rfl ?_)
     | (refine OpsW.as (.store _ _ _) ?_; refine OpsW.put rfl rfl rfl rfl rfl rfl rfl rfl rfl ?_)
     | (refine OpsW.as (.buildSlice _ _ _) ?_; refine OpsW.buildSlice rfl rfl rfl rfl rfl rfl rfl rfl ?_)
     | refine OpsW.unit rfl ?_
     | refine OpsW.nil ?_
     | refine OpsW.val rfl rfl ?_)
    | (refine DrawW.id ?_; first
     | (refine DrawW.guarded ?_; first | refine DrawW.met rfl rfl ?_ | refine DrawW.unmet rfl rfl rfl rfl rfl ?_ | refine DrawW.gone rfl rfl rfl rfl ?_)
     | (refine DrawW.as (.fieldAddr _ _ _) ?_; first | refine DrawW.val (v := .ref _ _ _ _) rfl rfl rfl rfl rfl rfl ?_ | refine DrawW.val (v := .pref _) rfl rfl rfl rfl rfl rfl ?_)
     | ((first | refine DrawW.as (.load _ _) ?_ | refine DrawW.as (.move _) ?_ | refine DrawW.as (.pick _ _ _) ?_ | refine DrawW.as (.assign _) ?_ | refine DrawW.as (.extract _ _) ?_); first | refine DrawW.val (v := .sc (.bool _)) rfl rfl rfl rfl rfl rfl ?_ | refine DrawW.val (v := .sc (.int _ _)) rfl rfl rfl rfl rfl rfl ?_ | refine DrawW.val (v := .ref _ _ _ _) rfl rfl rfl rfl rfl rfl ?_ | refine DrawW.val (v := .isl _ _) rfl rfl rfl rfl rfl rfl ?_ | refine DrawW.val (v := .sc (.string _)) rfl rfl rfl rfl rfl rfl ?_ | refine DrawW.val (v := .agg _) rfl rfl rfl rfl rfl rfl ?_ | refine DrawW.val rfl rfl rfl rfl rfl rfl ?_)
     | (refine DrawW.as (.binOp _ _ _ _ _) ?_; first | refine DrawW.test rfl rfl rfl (fun hb => ?_) (fun hb => ?_) | refine DrawW.val (v := .sc (.int _ _)) rfl rfl rfl rfl rfl rfl ?_ | refine DrawW.val rfl rfl rfl rfl rfl rfl ?_)
     | (refine DrawW.as (.indexAddr _ _ _) ?_; first | refine DrawW.index rfl rfl rfl rfl (Int.natCast_nonneg _) (hidx1) rfl ?_ | refine DrawW.val rfl rfl rfl rfl rfl rfl ?_)
     | (refine DrawW.as (.call _) ?_; first | refine DrawW.val (v := .sc (.int _ _)) rfl rfl rfl rfl rfl rfl ?_ | refine DrawW.call (v := .sc (.bool true)) rfl rfl rfl (hcall1 _) rfl ?_ | refine DrawW.call (v := .sc (.bool false)) rfl rfl rfl (hcall1 _) rfl ?_ | refine DrawW.callB rfl rfl rfl (hcall1 _) rfl (fun hb => ?_) (fun hb => ?_) | refine DrawW.call rfl rfl rfl (hcall1 _) rfl ?_ | refine DrawW.appNil happ1 (by decide) rfl rfl rfl rfl rfl rfl ?_ | refine DrawW.app happ1 rfl rfl rfl hclen rfl rfl rfl hbnd rfl ?_ | refine DrawW.actv rfl rfl rfl rfl ?_)
     | (refine DrawW.as (.unOp _ _ _) ?_; first | refine DrawW.val (v := .sc (.bool _)) rfl rfl rfl rfl rfl rfl ?_ | refine DrawW.val (v := .sc (.int _ _)) rfl rfl rfl rfl rfl rfl ?_)
     | (refine DrawW.as (.box _ _) ?_; refine DrawW.box rfl rfl rfl rfl ?_)
     | (refine DrawW.as (.alloc _) ?_; refine DrawW.alloc rfl rfl rfl rfl rfl ?_)
     | (refine DrawW.as (.store _ _ _) ?_; refine DrawW.put rfl rfl rfl rfl rfl rfl rfl rfl rfl ?_)
     | refine DrawW.store rfl ?_
     | refine DrawW.fin (by kernel_rfl) ?_
     | (refine DrawW.as (.buildSlice _ _ _) ?_; refine DrawW.buildSlice rfl rfl rfl rfl rfl rfl rfl rfl ?_)
     | refine DrawW.val rfl rfl rfl rfl rfl rfl ?_
     | refine DrawW.actv rfl rfl rfl rfl ?_)
    | refine PR.seq ?_
    | refine PR.region hP hR rfl rfl ?_
    | refine PR.draw hP hR rfl rfl (by kernel_rfl) ?_
    | refine PR.yes rfl ?_
    | refine PR.no rfl ?_
    | refine PR.block ?_
    | refine PR.skip hP rfl rfl ?_
    | refine PR.exit hP rfl rfl ?_
    | refine PR.ret hP rfl rfl ?_
    · clear hcall1 hidx1 hmem
      obtain ⟨i, hi0⟩ : ∃ i : Nat, i = 1 := ⟨1, rfl⟩
      refine PR.ren [(0, 0, 0), (1, 1, 0), (2, 2, 0), (3, 4, 0)] [(1, .ref 0 0 7 0), (2, .ref 1 0 7 0), (3, .ref 2 0 7 0), (4, .sc (.int .i64 (i : Int)))]
        [⟨0, (Prf.mk ⟨r, b, n, p, ts, u⟩ l).cells, 0, 28, true, false, 0, 0, 0, (Prf.mk ⟨r, b, n, p, ts, u⟩ l).cells⟩,
         ⟨1, [.sc (.int .i64 0), .sc (.int .i64 0), .sc (.string ⟨#[]⟩), .sc (.slice none 0 0), .sc (.slice none 0 0), .sc (.slice none 0 0), .sc (.slice none 0 0)], 0, 28, true, false, 1, 0, 0, _⟩,
         ⟨2, [.sc (.int .i64 r), .sc (.int .i64 b), .sc (.string n), .isl (intRows p) 1, .isl (Tm.rows ts) 7, .isl (intRows u) 1, .sl 3 0 (i * 7) 0 7 i none], 0, 28, true, false, 2, 0, 0, [.sc (.int .i64 r), .sc (.int .i64 b), .sc (.string n), .isl (intRows p) 1, .isl (Tm.rows ts) 7, .isl (intRows u) 1, .sl 4 0 (i * 7) 0 7 i none]⟩,
         ⟨3, (Prf.rows (l.take i)).flatten, 0, 28, false, false, 4, 0, 0, (Prf.rows (l.take i)).flatten⟩] 4 rfl rfl
        ⟨rfl, rfl, rfl, rfl, rfl, rfl, by subst hi0; rfl, rfl, trivial⟩
        ⟨⟨rfl, rfl, rfl, rfl, rfl⟩, ⟨rfl, rfl, rfl, rfl, rfl⟩, ⟨rfl, rfl, by subst hi0; rfl, rfl, rfl⟩, ⟨rfl, rfl, by subst hi0; rw [hsn]; rfl, rfl, rens_dat (Prf.rows_dat _)⟩, trivial⟩ ?_
      have hi1 : 1 ≤ i := by omega
      have hil : i ≤ l.length := by omega
      clear hi0 hb hsn hx
      induction hm : l.length - i generalizing i with
      | zero =>
        refine PR.around ?_
        repeat' first
        | (refine OpsW.id ?_; first
         | (refine OpsW.guarded ?_; first | refine OpsW.met rfl rfl rfl ?_ | refine OpsW.unmet rfl rfl rfl rfl ?_ | refine OpsW.gone rfl rfl rfl ?_)
         | (refine OpsW.as (.fieldAddr _ _ _) ?_; first | refine OpsW.val (v := .ref _ _ _ _) rfl rfl ?_ | refine OpsW.val (v := .pref _) rfl rfl ?_)
         | ((first | refine OpsW.as (.load _ _) ?_ | refine OpsW.as (.move _) ?_ | refine OpsW.as (.pick _ _ _) ?_ | refine OpsW.as (.assign _) ?_ | refine OpsW.as (.extract _ _) ?_); first | refine OpsW.val (v := .sc (.bool _)) rfl rfl ?_ | refine OpsW.val (v := .sc (.int _ _)) rfl rfl ?_ | refine OpsW.val (v := .ref _ _ _ _) rfl rfl ?_ | refine OpsW.val (v := .isl _ _) rfl rfl ?_ | refine OpsW.val (v := .sc (.string _)) rfl rfl ?_ | refine OpsW.val (v := .agg _) rfl rfl ?_ | refine OpsW.val rfl rfl ?_)
         | (refine OpsW.as (.binOp _ _ _ _ _) ?_; first | refine OpsW.test rfl rfl (fun hb => ?_) (fun hb => ?_) | refine OpsW.val (v := .sc (.int _ _)) rfl rfl ?_ | refine OpsW.val rfl rfl ?_)
         | (refine OpsW.as (.indexAddr _ _ _) ?_; first | refine OpsW.index rfl rfl rfl rfl (Int.natCast_nonneg _) (hidx1) rfl ?_ | refine OpsW.val rfl rfl ?_)
         | (refine OpsW.as (.call _) ?_; first | refine OpsW.val (v := .sc (.int _ _)) rfl rfl ?_ | refine OpsW.call (v := .sc (.bool true)) rfl (hcall1 _) rfl ?_ | refine OpsW.call (v := .sc (.bool false)) rfl (hcall1 _) rfl ?_ | refine OpsW.callB rfl (hcall1 _) rfl (fun hb => ?_) (fun hb => ?_) | refine OpsW.call rfl (hcall1 _) rfl ?_ | refine OpsW.appNil happ1 (by decide) rfl rfl rfl rfl rfl rfl ?_ | refine OpsW.app happ1 rfl rfl rfl hclen rfl rfl rfl hbnd rfl ?_ | refine OpsW.val rfl rfl ?_)
         | (refine OpsW.as (.unOp _ _ _) ?_; first | refine OpsW.val (v := .sc (.bool _)) rfl rfl ?_ | refine OpsW.val (v := .sc (.int _ _)) rfl rfl ?_)
         | (refine OpsW.as (.box _ _) ?_; refine OpsW.box rfl rfl rfl rfl ?_)
         | (refine OpsW.as (.alloc _) ?_; refine OpsW.alloc rfl rfl rfl rfl rfl ?_)
         | (refine OpsW.as (.store _ _ _) ?_; refine OpsW.put rfl rfl rfl rfl rfl rfl rfl rfl rfl ?_)
         | (refine OpsW.as (.buildSlice _ _ _) ?_; refine OpsW.buildSlice rfl rfl rfl rfl rfl rfl rfl rfl ?_)
         | refine OpsW.unit rfl ?_
         | refine OpsW.nil ?_
         | refine OpsW.val rfl rfl ?_)
        | (refine DrawW.id ?_; first
         | (refine DrawW.guarded ?_; first | refine DrawW.met rfl rfl ?_ | refine DrawW.unmet rfl rfl rfl rfl rfl ?_ | refine DrawW.gone rfl rfl rfl rfl ?_)
         | (refine DrawW.as (.fieldAddr _ _ _) ?_; first | refine DrawW.val (v := .ref _ _ _ _) rfl rfl rfl rfl rfl rfl ?_ | refine DrawW.val (v := .pref _) rfl rfl rfl rfl rfl rfl ?_)
         | ((first | refine DrawW.as (.load _ _) ?_ | refine DrawW.as (.move _) ?_ | refine DrawW.as (.pick _ _ _) ?_ | refine DrawW.as (.assign _) ?_ | refine DrawW.as (.extract _ _) ?_); first | refine DrawW.val (v := .sc (.bool _)) rfl rfl rfl rfl rfl rfl ?_ | refine DrawW.val (v := .sc (.int _ _)) rfl rfl rfl rfl rfl rfl ?_ | refine DrawW.val (v := .ref _ _ _ _) rfl rfl rfl rfl rfl rfl ?_ | refine DrawW.val (v := .isl _ _) rfl rfl rfl rfl rfl rfl ?_ | refine DrawW.val (v := .sc (.string _)) rfl rfl rfl rfl rfl rfl ?_ | refine DrawW.val (v := .agg _) rfl rfl rfl rfl rfl rfl ?_ | refine DrawW.val rfl rfl rfl rfl rfl rfl ?_)
         | (refine DrawW.as (.binOp _ _ _ _ _) ?_; first | refine DrawW.test rfl rfl rfl (fun hb => ?_) (fun hb => ?_) | refine DrawW.val (v := .sc (.int _ _)) rfl rfl rfl rfl rfl rfl ?_ | refine DrawW.val rfl rfl rfl rfl rfl rfl ?_)
         | (refine DrawW.as (.indexAddr _ _ _) ?_; first | refine DrawW.index rfl rfl rfl rfl (Int.natCast_nonneg _) (hidx1) rfl ?_ | refine DrawW.val rfl rfl rfl rfl rfl rfl ?_)
         | (refine DrawW.as (.call _) ?_; first | refine DrawW.val (v := .sc (.int _ _)) rfl rfl rfl rfl rfl rfl ?_ | refine DrawW.call (v := .sc (.bool true)) rfl rfl rfl (hcall1 _) rfl ?_ | refine DrawW.call (v := .sc (.bool false)) rfl rfl rfl (hcall1 _) rfl ?_ | refine DrawW.callB rfl rfl rfl (hcall1 _) rfl (fun hb => ?_) (fun hb => ?_) | refine DrawW.call rfl rfl rfl (hcall1 _) rfl ?_ | refine DrawW.appNil happ1 (by decide) rfl rfl rfl rfl rfl rfl ?_ | refine DrawW.app happ1 rfl rfl rfl hclen rfl rfl rfl hbnd rfl ?_ | refine DrawW.actv rfl rfl rfl rfl ?_)
         | (refine DrawW.as (.unOp _ _ _) ?_; first | refine DrawW.val (v := .sc (.bool _)) rfl rfl rfl rfl rfl rfl ?_ | refine DrawW.val (v := .sc (.int _ _)) rfl rfl rfl rfl rfl rfl ?_)
         | (refine DrawW.as (.box _ _) ?_; refine DrawW.box rfl rfl rfl rfl ?_)
         | (refine DrawW.as (.alloc _) ?_; refine DrawW.alloc rfl rfl rfl rfl rfl ?_)
         | (refine DrawW.as (.store _ _ _) ?_; refine DrawW.put rfl rfl rfl rfl rfl rfl rfl rfl rfl ?_)
         | refine DrawW.store rfl ?_
         | refine DrawW.fin (by kernel_rfl) ?_
         | (refine DrawW.as (.buildSlice _ _ _) ?_; refine DrawW.buildSlice rfl rfl rfl rfl rfl rfl rfl rfl ?_)
         | refine DrawW.val rfl rfl rfl rfl rfl rfl ?_
         | refine DrawW.actv rfl rfl rfl rfl ?_)
        | refine PR.seq ?_
        | refine PR.region hP hR rfl rfl ?_
        | refine PR.draw hP hR rfl rfl (by kernel_rfl) ?_
        | refine PR.yes rfl ?_
        | refine PR.no rfl ?_
        | refine PR.block ?_
        | refine PR.skip hP rfl rfl ?_
        | refine PR.exit hP rfl rfl ?_
        | refine PR.ret hP rfl rfl ?_
        · exact absurd (of_decide_eq_true hb) (by omega)
        · have hil' : i = l.length := by omega
          have htk : l.take i = l := by rw [hil']; simp
          refine ⟨.inl rfl, rfl, .agg ([.sc (.int .i64 r), .sc (.int .i64 b), .sc (.string n), .isl (intRows p) 1, .isl (Tm.rows ts) 7, .isl (intRows u) 1] ++ [.sl 3 0 (i * 7) 0 7 i none]), 6 + i * 7 + 9, .agg ([.sc (.int .i64 r), .sc (.int .i64 b), .sc (.string n), .isl (intRows p) 1, .isl (Tm.rows ts) 7, .isl (intRows u) 1] ++ [.isl (Prf.rows (l.take i)) 7]), rfl,
            snap_last (pre := [.sc (.int .i64 r), .sc (.int .i64 b), .sc (.string n), .isl (intRows p) 1, .isl (Tm.rows ts) 7, .isl (intRows u) 1]) (fz := 0) (el := 28) (ex := false) (sh := false) rfl rfl (by decide) (Prf.rows_len _) (Prf.rows_dat _) (by rw [Prf.rows_length, htk]; omega), ?_⟩
          show AV.sc (.int .i64 r) = .sc (.int .i64 r) ∧ AV.sc (.int .i64 b) = .sc (.int .i64 b) ∧ AV.sc (.string n) = .sc (.string n) ∧ AV.isl (intRows p) 1 = .isl (intRows p) 1 ∧ AV.isl (Tm.rows ts) 7 = .isl (Tm.rows ts) 7 ∧ AV.isl (intRows u) 1 = .isl (intRows u) 1 ∧ AV.isl (Prf.rows (l.take i)) 7 = .isl (Prf.rows l) 7 ∧ ([] : List AV) = []
          rw [htk]
          exact ⟨rfl, rfl, rfl, rfl, rfl, rfl, rfl, rfl⟩
      | succ m ih =>
        have hlt : i < l.length := by omega
        have hx : l[i]? = some l[i] := List.getElem?_eq_getElem hlt
        have hmem : l[i] ∈ l := List.getElem_mem hlt
        generalize l[i] = x at hx hmem
        have hcall1 := hC x hmem
        have hsn := Prf.rows_snoc l i x hx
        obtain ⟨⟨x1, x2, x3, x4, x5, x6⟩, xs⟩ := x
        have hidx1 : (Prf.rows l)[(i : Int).toNat]? = some (Prf.mk ⟨x1, x2, x3, x4, x5, x6⟩ xs).cells := by rw [Prf.rows_get, Int.toNat_natCast, hx]; rfl
        have hclen : (Prf.rows (l.take i)).flatten.length = i * 7 := by rw [Prf.flat_len, List.length_take, Nat.min_eq_left hil]
        have hbnd : (i + 1) * 128 ≤ 140737488355328 := by omega
        refine PR.around ?_
        repeat' first
        | (refine OpsW.id ?_; first
         | (refine OpsW.guarded ?_; first | refine OpsW.met rfl rfl rfl ?_ | refine OpsW.unmet rfl rfl rfl rfl ?_ | refine OpsW.gone rfl rfl rfl ?_)
         | (refine OpsW.as (.fieldAddr _ _ _) ?_; first | refine OpsW.val (v := .ref _ _ _ _) rfl rfl ?_ | refine OpsW.val (v := .pref _) rfl rfl ?_)
         | ((first | refine OpsW.as (.load _ _) ?_ | refine OpsW.as (.move _) ?_ | refine OpsW.as (.pick _ _ _) ?_ | refine OpsW.as (.assign _) ?_ | refine OpsW.as (.extract _ _) ?_); first | refine OpsW.val (v := .sc (.bool _)) rfl rfl ?_ | refine OpsW.val (v := .sc (.int _ _)) rfl rfl ?_ | refine OpsW.val (v := .ref _ _ _ _) rfl rfl ?_ | refine OpsW.val (v := .isl _ _) rfl rfl ?_ | refine OpsW.val (v := .sc (.string _)) rfl rfl ?_ | refine OpsW.val (v := .agg _) rfl rfl ?_ | refine OpsW.val rfl rfl ?_)
         | (refine OpsW.as (.binOp _ _ _ _ _) ?_; first | refine OpsW.test rfl rfl (fun hb => ?_) (fun hb => ?_) | refine OpsW.val (v := .sc (.int _ _)) rfl rfl ?_ | refine OpsW.val rfl rfl ?_)
         | (refine OpsW.as (.indexAddr _ _ _) ?_; first | refine OpsW.index rfl rfl rfl rfl (Int.natCast_nonneg _) (hidx1) rfl ?_ | refine OpsW.val rfl rfl ?_)
         | (refine OpsW.as (.call _) ?_; first | refine OpsW.val (v := .sc (.int _ _)) rfl rfl ?_ | refine OpsW.call (v := .sc (.bool true)) rfl (hcall1 _) rfl ?_ | refine OpsW.call (v := .sc (.bool false)) rfl (hcall1 _) rfl ?_ | refine OpsW.callB rfl (hcall1 _) rfl (fun hb => ?_) (fun hb => ?_) | refine OpsW.call rfl (hcall1 _) rfl ?_ | refine OpsW.appNil happ1 (by decide) rfl rfl rfl rfl rfl rfl ?_ | refine OpsW.app happ1 rfl rfl rfl hclen rfl rfl rfl hbnd rfl ?_ | refine OpsW.val rfl rfl ?_)
         | (refine OpsW.as (.unOp _ _ _) ?_; first | refine OpsW.val (v := .sc (.bool _)) rfl rfl ?_ | refine OpsW.val (v := .sc (.int _ _)) rfl rfl ?_)
         | (refine OpsW.as (.box _ _) ?_; refine OpsW.box rfl rfl rfl rfl ?_)
         | (refine OpsW.as (.alloc _) ?_; refine OpsW.alloc rfl rfl rfl rfl rfl ?_)
         | (refine OpsW.as (.store _ _ _) ?_; refine OpsW.put rfl rfl rfl rfl rfl rfl rfl rfl rfl ?_)
         | (refine OpsW.as (.buildSlice _ _ _) ?_; refine OpsW.buildSlice rfl rfl rfl rfl rfl rfl rfl rfl ?_)
         | refine OpsW.unit rfl ?_
         | refine OpsW.nil ?_
         | refine OpsW.val rfl rfl ?_)
        | (refine DrawW.id ?_; first
         | (refine DrawW.guarded ?_; first | refine DrawW.met rfl rfl ?_ | refine DrawW.unmet rfl rfl rfl rfl rfl ?_ | refine DrawW.gone rfl rfl rfl rfl ?_)
         | (refine DrawW.as (.fieldAddr _ _ _) ?_; first | refine DrawW.val (v := .ref _ _ _ _) rfl rfl rfl rfl rfl rfl ?_ | refine DrawW.val (v := .pref _) rfl rfl rfl rfl rfl rfl ?_)
         | ((first | refine DrawW.as (.load _ _) ?_ | refine DrawW.as (.move _) ?_ | refine DrawW.as (.pick _ _ _) ?_ | refine DrawW.as (.assign _) ?_ | refine DrawW.as (.extract _ _) ?_); first | refine DrawW.val (v := .sc (.bool _)) rfl rfl rfl rfl rfl rfl ?_ | refine DrawW.val (v := .sc (.int _ _)) rfl rfl rfl rfl rfl rfl ?_ | refine DrawW.val (v := .ref _ _ _ _) rfl rfl rfl rfl rfl rfl ?_ | refine DrawW.val (v := .isl _ _) rfl rfl rfl rfl rfl rfl ?_ | refine DrawW.val (v := .sc (.string _)) rfl rfl rfl rfl rfl rfl ?_ | refine DrawW.val (v := .agg _) rfl rfl rfl rfl rfl rfl ?_ | refine DrawW.val rfl rfl rfl rfl rfl rfl ?_)
         | (refine DrawW.as (.binOp _ _ _ _ _) ?_; first | refine DrawW.test rfl rfl rfl (fun hb => ?_) (fun hb => ?_) | refine DrawW.val (v := .sc (.int _ _)) rfl rfl rfl rfl rfl rfl ?_ | refine DrawW.val rfl rfl rfl rfl rfl rfl ?_)
         | (refine DrawW.as (.indexAddr _ _ _) ?_; first | refine DrawW.index rfl rfl rfl rfl (Int.natCast_nonneg _) (hidx1) rfl ?_ | refine DrawW.val rfl rfl rfl rfl rfl rfl ?_)
         | (refine DrawW.as (.call _) ?_; first | refine DrawW.val (v := .sc (.int _ _)) rfl rfl rfl rfl rfl rfl ?_ | refine DrawW.call (v := .sc (.bool true)) rfl rfl rfl (hcall1 _) rfl ?_ | refine DrawW.call (v := .sc (.bool false)) rfl rfl rfl (hcall1 _) rfl ?_ | refine DrawW.callB rfl rfl rfl (hcall1 _) rfl (fun hb => ?_) (fun hb => ?_) | refine DrawW.call rfl rfl rfl (hcall1 _) rfl ?_ | refine DrawW.appNil happ1 (by decide) rfl rfl rfl rfl rfl rfl ?_ | refine DrawW.app happ1 rfl rfl rfl hclen rfl rfl rfl hbnd rfl ?_ | refine DrawW.actv rfl rfl rfl rfl ?_)
         | (refine DrawW.as (.unOp _ _ _) ?_; first | refine DrawW.val (v := .sc (.bool _)) rfl rfl rfl rfl rfl rfl ?_ | refine DrawW.val (v := .sc (.int _ _)) rfl rfl rfl rfl rfl rfl ?_)
         | (refine DrawW.as (.box _ _) ?_; refine DrawW.box rfl rfl rfl rfl ?_)
         | (refine DrawW.as (.alloc _) ?_; refine DrawW.alloc rfl rfl rfl rfl rfl ?_)
         | (refine DrawW.as (.store _ _ _) ?_; refine DrawW.put rfl rfl rfl rfl rfl rfl rfl rfl rfl ?_)
         | refine DrawW.store rfl ?_
         | refine DrawW.fin (by kernel_rfl) ?_
         | (refine DrawW.as (.buildSlice _ _ _) ?_; refine DrawW.buildSlice rfl rfl rfl rfl rfl rfl rfl rfl ?_)
         | refine DrawW.val rfl rfl rfl rfl rfl rfl ?_
         | refine DrawW.actv rfl rfl rfl rfl ?_)
        | refine PR.seq ?_
        | refine PR.region hP hR rfl rfl ?_
        | refine PR.draw hP hR rfl rfl (by kernel_rfl) ?_
        | refine PR.yes rfl ?_
        | refine PR.no rfl ?_
        | refine PR.block ?_
        | refine PR.skip hP rfl rfl ?_
        | refine PR.exit hP rfl rfl ?_
        | refine PR.ret hP rfl rfl ?_
        · refine PR.ren [(0, 0, 0), (1, 1, 0), (2, 2, 0), (3, 3, 1)] [(1, .ref 0 0 7 0), (2, .ref 1 0 7 0), (3, .ref 2 0 7 0), (4, .sc (.int .i64 ((i + 1 : Nat) : Int)))]
            [⟨0, (Prf.mk ⟨r, b, n, p, ts, u⟩ l).cells, 0, 28, true, false, 0, 0, 0, (Prf.mk ⟨r, b, n, p, ts, u⟩ l).cells⟩,
             ⟨1, [.sc (.int .i64 0), .sc (.int .i64 0), .sc (.string ⟨#[]⟩), .sc (.slice none 0 0), .sc (.slice none 0 0), .sc (.slice none 0 0), .sc (.slice none 0 0)], 0, 28, true, false, 1, 0, 0, _⟩,
             ⟨2, [.sc (.int .i64 r), .sc (.int .i64 b), .sc (.string n), .isl (intRows p) 1, .isl (Tm.rows ts) 7, .isl (intRows u) 1, .sl 3 0 ((i + 1) * 7) 0 7 (i + 1) none], 0, 28, true, false, 2, 0, 0, [.sc (.int .i64 r), .sc (.int .i64 b), .sc (.string n), .isl (intRows p) 1, .isl (Tm.rows ts) 7, .isl (intRows u) 1, .sl 3 1 ((i + 1) * 7) 0 7 (i + 1) none]⟩,
             ⟨3, (Prf.rows (l.take (i + 1))).flatten, 0, 28, false, false, 3, 1, 0, (Prf.rows (l.take (i + 1))).flatten⟩] 4 rfl rfl
            ⟨rfl, rfl, rfl, rfl, rfl, rfl, congrArg (fun z => some (AV.sc (.int .i64 z))) (wrap_succ hlt (by omega)), rfl, trivial⟩
            ⟨⟨rfl, rfl, rfl, rfl, rfl⟩, ⟨rfl, rfl, rfl, rfl, rfl⟩, ⟨rfl, rfl, rfl, rfl, rfl⟩, ⟨rfl, rfl, by rw [hsn]; rfl, rfl, rens_dat (Prf.rows_dat _)⟩, trivial⟩ ?_
          exact ih (i + 1) (by omega) (by omega) (by omega)
        · exact absurd (of_decide_eq_false hb) (by omega)
    · exact absurd (of_decide_eq_false hb) (by omega)

end Go.AI
