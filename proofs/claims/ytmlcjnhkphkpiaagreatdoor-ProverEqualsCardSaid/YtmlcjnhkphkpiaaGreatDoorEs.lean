/-
  A part of the proof: V3f.
-/
import Derived.Test.YtmlcjnhkphkpiaaGreatDoorProg
import Derived.KernelRfl
import Derived.Test.YtmlcjnhkphkpiaaGreatDoorDat
set_option linter.all false

namespace Go.AI
open Go Go.Proofs
set_option maxRecDepth 10000
set_option maxHeartbeats 8000000

theorem w3f {R : Rec} (hP : ProgOK Tryz.prog) (hR : RecOK Tryz.prog R) (r b : Int) (n : ByteArray) (p : List Int) (ts : List Tm) (u : List Int) (l : List Prf) (r' b' : Int) (n' : ByteArray) (p' : List Int) (ts' : List Tm) (u' : List Int) (l' : List Prf)
    (c1 c2 : Int) (c3 : ByteArray) (c4 : List Int) (c5 : List Tm) (c6 : List Int) (cs : List Prf) (path : List Int)  (e : Int)
    (hcall1 : ∀ h, R.call .normal 4 [.agg (Prf.mk ⟨r, b, n, p, ts, u⟩ l).cells] .none h = some (.ret (.sc (.bool true)), .none, h))
    (hcall2 : ∀ h, R.call .normal 4 [.agg (Prf.mk ⟨r', b', n', p', ts', u'⟩ l').cells] .none h = some (.ret (.sc (.bool true)), .none, h))
    (hcall3 : ∀ h, R.call .normal 5 [] .none h = some (.ret (.sc (.bool true)), .none, h))
    (hcall4 : ∀ h, R.call .normal 6 [.agg (Prf.mk ⟨r, b, n, p, ts, u⟩ l).cells, .isl (intRows path) 1] .none h = some (.ret (.tuple [.agg (Prf.mk ⟨c1, c2, c3, c4, c5, c6⟩ cs).cells, .sc (.int .i64 e)]), .none, h))
    (hcall5 : ∀ h, R.call .normal 7 [.agg (Prf.mk ⟨r, b, n, p, ts, u⟩ l).cells, .agg (Prf.mk ⟨c1, c2, c3, c4, c5, c6⟩ cs).cells] .none h = some (.ret (.sc (.bool true)), .none, h))
    (hcall6 : ∀ h, R.call .normal 8 [.agg (Prf.mk ⟨r, b, n, p, ts, u⟩ l).cells, .agg (Prf.mk ⟨c1, c2, c3, c4, c5, c6⟩ cs).cells] .none h = some (.ret (.sc (.bool true)), .none, h))
    (hcall7 : ∀ h, R.call .normal 7 [.agg (Prf.mk ⟨r, b, n, p, ts, u⟩ l).cells, .agg (Prf.mk ⟨r', b', n', p', ts', u'⟩ l').cells] .none h = some (.ret (.sc (.bool true)), .none, h))
    (hcall8 : ∀ h, R.call .normal 8 [.agg (Prf.mk ⟨r, b, n, p, ts, u⟩ l).cells, .agg (Prf.mk ⟨r', b', n', p', ts', u'⟩ l').cells] .none h = some (.ret (.sc (.bool true)), .none, h))
    (hcall9 : ∀ h, R.call .normal 7 [.agg (Prf.mk ⟨r, b, n, p, ts, u⟩ l).cells, .agg (Prf.mk ⟨r, b, n, p, ts, u⟩ l).cells] .none h = some (.ret (.sc (.bool true)), .none, h))
    (hcall10 : ∀ h, R.call .normal 7 [.agg (Prf.mk ⟨r', b', n', p', ts', u'⟩ l').cells, .agg (Prf.mk ⟨r, b, n, p, ts, u⟩ l).cells] .none h = some (.ret (.sc (.bool true)), .none, h)) (h : AHeap) :
    CallOK Tryz.prog 3 [.agg (Prf.mk ⟨r, b, n, p, ts, u⟩ l).cells, .agg (Prf.mk ⟨r', b', n', p', ts', u'⟩ l').cells, .isl (intRows path) 1] h (.ret (.sc (.bool true))) h := by
  refine PR.call hP Tryz.func3 rfl rfl ?_ h
  repeat' first
  | (refine OpsW.id ?_; first
   | (refine OpsW.guarded ?_; first | refine OpsW.met rfl rfl rfl ?_ | refine OpsW.unmet rfl rfl rfl rfl ?_ | refine OpsW.gone rfl rfl rfl ?_)
   | (refine OpsW.as (.fieldAddr _ _ _) ?_; first | refine OpsW.val (v := .ref _ _ _ _) rfl rfl ?_ | refine OpsW.val (v := .pref _) rfl rfl ?_)
   | ((first | refine OpsW.as (.load _ _) ?_ | refine OpsW.as (.move _) ?_ | refine OpsW.as (.pick _ _ _) ?_ | refine OpsW.as (.assign _) ?_ | refine OpsW.as (.extract _ _) ?_); first | refine OpsW.val (v := .sc (.bool _)) rfl rfl ?_ | refine OpsW.val (v := .sc (.int _ _)) rfl rfl ?_ | refine OpsW.val (v := .ref _ _ _ _) rfl rfl ?_ | refine OpsW.val (v := .isl _ _) rfl rfl ?_ | refine OpsW.val (v := .sc (.string _)) rfl rfl ?_ | refine OpsW.val (v := .agg _) rfl rfl ?_ | refine OpsW.val rfl rfl ?_)
   | (refine OpsW.as (.binOp _ _ _ _ _) ?_; first | refine OpsW.test rfl rfl (fun hb => ?_) (fun hb => ?_) | refine OpsW.val (v := .sc (.int _ _)) rfl rfl ?_ | refine OpsW.val rfl rfl ?_)
   | (refine OpsW.as (.indexAddr _ _ _) ?_; refine OpsW.val rfl rfl ?_)
   | (refine OpsW.as (.call _) ?_; first | refine OpsW.val (v := .sc (.int _ _)) rfl rfl ?_ | refine OpsW.call (v := .sc (.bool true)) rfl (by first | exact hcall1 _ | exact hcall2 _ | exact hcall3 _ | exact hcall4 _ | exact hcall5 _ | exact hcall6 _ | exact hcall7 _ | exact hcall8 _ | exact hcall9 _ | exact hcall10 _) rfl ?_ | refine OpsW.call (v := .sc (.bool false)) rfl (by first | exact hcall1 _ | exact hcall2 _ | exact hcall3 _ | exact hcall4 _ | exact hcall5 _ | exact hcall6 _ | exact hcall7 _ | exact hcall8 _ | exact hcall9 _ | exact hcall10 _) rfl ?_ | refine OpsW.callB rfl (by first | exact hcall1 _ | exact hcall2 _ | exact hcall3 _ | exact hcall4 _ | exact hcall5 _ | exact hcall6 _ | exact hcall7 _ | exact hcall8 _ | exact hcall9 _ | exact hcall10 _) rfl (fun hb => ?_) (fun hb => ?_) | refine OpsW.call rfl (by first | exact hcall1 _ | exact hcall2 _ | exact hcall3 _ | exact hcall4 _ | exact hcall5 _ | exact hcall6 _ | exact hcall7 _ | exact hcall8 _ | exact hcall9 _ | exact hcall10 _) rfl ?_ | refine OpsW.val rfl rfl ?_)
   | (refine OpsW.as (.unOp _ _ _) ?_; first | refine OpsW.val (v := .sc (.bool _)) rfl rfl ?_ | refine OpsW.val (v := .sc (.int _ _)) rfl rfl ?_)
   | (refine OpsW.as (.box _ _) ?_; refine OpsW.box rfl rfl rfl rfl ?_)
   | (refine OpsW.as (.alloc _) ?_; refine OpsW.alloc rfl rfl rfl rfl rfl ?_)
   | (refine OpsW.as (.store _ _ _) ?_; refine OpsW.put rfl rfl rfl rfl rfl rfl rfl rfl rfl ?_)
   | (refine OpsW.as (.buildSlice _ _ _) ?_; refine OpsW.buildSlice rfl rfl rfl rfl rfl rfl rfl rfl ?_)
   | refine OpsW.unit rfl ?_
   | refine OpsW.nil ?_
   | refine OpsW.val rfl rfl ?_)
  | (refine DrawW.id ?_; first
   | (refine DrawW.guarded ?_; first | refine DrawW.met rfl rfl ?_ | refine DrawW.unmet rfl rfl rfl rfl rfl ?_ | refine DrawW.gone rfl rfl rfl rfl ?_)
   | (refine DrawW.as (.fieldAddr _ _ _) ?_; first | refine DrawW.val (v := .ref _ _ _ _) rfl rfl rfl rfl rfl rfl ?_ | refine DrawW.val (v := .pref _) rfl rfl rfl rfl rfl rfl ?_)
   | ((first | refine DrawW.as (.load _ _) ?_ | refine DrawW.as (.move _) ?_ | refine DrawW.as (.pick _ _ _) ?_ | refine DrawW.as (.assign _) ?_ | refine DrawW.as (.extract _ _) ?_); first | refine DrawW.val (v := .sc (.bool _)) rfl rfl rfl rfl rfl rfl ?_ | refine DrawW.val (v := .sc (.int _ _)) rfl rfl rfl rfl rfl rfl ?_ | refine DrawW.val (v := .ref _ _ _ _) rfl rfl rfl rfl rfl rfl ?_ | refine DrawW.val (v := .isl _ _) rfl rfl rfl rfl rfl rfl ?_ | refine DrawW.val (v := .sc (.string _)) rfl rfl rfl rfl rfl rfl ?_ | refine DrawW.val (v := .agg _) rfl rfl rfl rfl rfl rfl ?_ | refine DrawW.val rfl rfl rfl rfl rfl rfl ?_)
   | (refine DrawW.as (.binOp _ _ _ _ _) ?_; first | refine DrawW.test rfl rfl rfl (fun hb => ?_) (fun hb => ?_) | refine DrawW.val (v := .sc (.int _ _)) rfl rfl rfl rfl rfl rfl ?_ | refine DrawW.val rfl rfl rfl rfl rfl rfl ?_)
   | (refine DrawW.as (.indexAddr _ _ _) ?_; refine DrawW.val rfl rfl rfl rfl rfl rfl ?_)
   | (refine DrawW.as (.call _) ?_; first | refine DrawW.val (v := .sc (.int _ _)) rfl rfl rfl rfl rfl rfl ?_ | refine DrawW.call (v := .sc (.bool true)) rfl rfl rfl (by first | exact hcall1 _ | exact hcall2 _ | exact hcall3 _ | exact hcall4 _ | exact hcall5 _ | exact hcall6 _ | exact hcall7 _ | exact hcall8 _ | exact hcall9 _ | exact hcall10 _) rfl ?_ | refine DrawW.call (v := .sc (.bool false)) rfl rfl rfl (by first | exact hcall1 _ | exact hcall2 _ | exact hcall3 _ | exact hcall4 _ | exact hcall5 _ | exact hcall6 _ | exact hcall7 _ | exact hcall8 _ | exact hcall9 _ | exact hcall10 _) rfl ?_ | refine DrawW.callB rfl rfl rfl (by first | exact hcall1 _ | exact hcall2 _ | exact hcall3 _ | exact hcall4 _ | exact hcall5 _ | exact hcall6 _ | exact hcall7 _ | exact hcall8 _ | exact hcall9 _ | exact hcall10 _) rfl (fun hb => ?_) (fun hb => ?_) | refine DrawW.call rfl rfl rfl (by first | exact hcall1 _ | exact hcall2 _ | exact hcall3 _ | exact hcall4 _ | exact hcall5 _ | exact hcall6 _ | exact hcall7 _ | exact hcall8 _ | exact hcall9 _ | exact hcall10 _) rfl ?_ | refine DrawW.actv rfl rfl rfl rfl ?_)
   | (refine DrawW.as (.unOp _ _ _) ?_; first | refine DrawW.val (v := .sc (.bool _)) rfl rfl rfl rfl rfl rfl ?_ | refine DrawW.val (v := .sc (.int _ _)) rfl rfl rfl rfl rfl rfl ?_)
   | (refine DrawW.as (.box _ _) ?_; refine DrawW.box rfl rfl rfl rfl ?_)
   | (refine DrawW.as (.alloc _) ?_; refine DrawW.alloc rfl rfl rfl rfl rfl ?_)
   | (refine DrawW.as (.store _ _ _) ?_; refine DrawW.put rfl rfl rfl rfl rfl rfl rfl rfl rfl ?_)
   | refine DrawW.store rfl ?_
   | refine DrawW.fin (by kernel_rfl) ?_
   | (refine DrawW.as (.buildSlice _ _ _) ?_; refine DrawW.buildSlice rfl rfl rfl rfl rfl rfl rfl rfl ?_)
   | refine DrawW.val rfl rfl rfl rfl rfl rfl ?_
   | refine DrawW.actv rfl rfl rfl rfl ?_)
  | refine PR.seq ?_
  | refine PR.region hP hR rfl rfl ?_
  | refine PR.draw hP hR rfl rfl (by kernel_rfl) ?_
  | refine PR.yes rfl ?_
  | refine PR.no rfl ?_
  | refine PR.block ?_
  | refine PR.skip hP rfl rfl ?_
  | refine PR.exit hP rfl rfl ?_
  | refine PR.ret hP rfl rfl ?_
  all_goals first | exact ⟨.inl rfl, rfl, _, 9, rfl, rfl⟩ | (exfalso; simp at hb) | (exfalso; revert hb; decide)
end Go.AI
