/-
  A part of the proof: V7.
-/
import Derived.Test.YtmlcjnhkphkpiaaGreatDoorProg
import Derived.KernelRfl
import Derived.Test.YtmlcjnhkphkpiaaGreatDoorDat
set_option linter.all false

namespace Go.AI
open Go Go.Proofs
set_option maxRecDepth 10000
set_option maxHeartbeats 4000000

theorem w7 {R : Rec} (hP : ProgOK Tryz.prog) (hR : RecOK Tryz.prog R) (r r' b b' : Int) (n n' : ByteArray) (p p' : List Int) (ts ts' : List Tm) (u u' : List Int) (ks ks' : List Prf) (t : Bool) (ht : EqT (Prf.mk ⟨r, b, n, p, ts, u⟩ ks) (Prf.mk ⟨r', b', n', p', ts', u'⟩ ks') t)
    (hC1 : ∀ (t : Bool), EqT p p' t → ∀ h, R.call .normal 19 [.isl (intRows p) 1, .isl (intRows p') 1] .none h = some (.ret (.sc (.bool t)), .none, h))
    (hC2 : ∀ (t : Bool), EqT u u' t → ∀ h, R.call .normal 19 [.isl (intRows u) 1, .isl (intRows u') 1] .none h = some (.ret (.sc (.bool t)), .none, h))
    (hC3 : ∀ (t : Bool), EqT ts ts' t → ∀ h, R.call .normal 20 [.isl (Tm.rows ts) 7, .isl (Tm.rows ts') 7, .sc (.func (.func 21) #[] #[])] .none h = some (.ret (.sc (.bool t)), .none, h))
    (hC4 : ∀ (t : Bool), EqT ks ks' t → ∀ h, R.call .normal 22 [.isl (Prf.rows ks) 7, .isl (Prf.rows ks') 7, .sc (.func (.func 7) #[] #[])] .none h = some (.ret (.sc (.bool t)), .none, h)) (h : AHeap) :
    CallOK Tryz.prog 7 [.agg (Prf.mk ⟨r, b, n, p, ts, u⟩ ks).cells, .agg (Prf.mk ⟨r', b', n', p', ts', u'⟩ ks').cells] h (.ret (.sc (.bool t))) h := by
  obtain ⟨t1, ht1⟩ := EqT.ex p p'
  have hcall1 := hC1 t1 ht1
  obtain ⟨t2, ht2⟩ := EqT.ex u u'
  have hcall2 := hC2 t2 ht2
  obtain ⟨t3, ht3⟩ := EqT.ex ts ts'
  have hcall3 := hC3 t3 ht3
  obtain ⟨t4, ht4⟩ := EqT.ex ks ks'
  have hcall4 := hC4 t4 ht4
  refine PR.call hP Tryz.func7 rfl rfl ?_ h
  repeat' first
  | (refine OpsW.id ?_; first
   | (refine OpsW.guarded ?_; first | refine OpsW.met rfl rfl rfl ?_ | refine OpsW.unmet rfl rfl rfl rfl ?_ | refine OpsW.gone rfl rfl rfl ?_)
   | (refine OpsW.as (.fieldAddr _ _ _) ?_; first | refine OpsW.val (v := .ref _ _ _ _) rfl rfl ?_ | refine OpsW.val (v := .pref _) rfl rfl ?_)
   | ((first | refine OpsW.as (.load _ _) ?_ | refine OpsW.as (.move _) ?_ | refine OpsW.as (.pick _ _ _) ?_ | refine OpsW.as (.assign _) ?_ | refine OpsW.as (.extract _ _) ?_); first | refine OpsW.val (v := .sc (.bool _)) rfl rfl ?_ | refine OpsW.val (v := .sc (.int _ _)) rfl rfl ?_ | refine OpsW.val (v := .ref _ _ _ _) rfl rfl ?_ | refine OpsW.val (v := .isl _ _) rfl rfl ?_ | refine OpsW.val (v := .sc (.string _)) rfl rfl ?_ | refine OpsW.val (v := .agg _) rfl rfl ?_ | refine OpsW.val rfl rfl ?_)
   | (refine OpsW.as (.binOp _ _ _ _ _) ?_; first | refine OpsW.test rfl rfl (fun hb => ?_) (fun hb => ?_) | refine OpsW.val (v := .sc (.int _ _)) rfl rfl ?_ | refine OpsW.val rfl rfl ?_)
   | (refine OpsW.as (.indexAddr _ _ _) ?_; refine OpsW.val rfl rfl ?_)
   | (refine OpsW.as (.call _) ?_; first | refine OpsW.val (v := .sc (.int _ _)) rfl rfl ?_ | refine OpsW.call (v := .sc (.bool true)) rfl (by first | exact hcall1 _ | exact hcall2 _ | exact hcall3 _ | exact hcall4 _) rfl ?_ | refine OpsW.call (v := .sc (.bool false)) rfl (by first | exact hcall1 _ | exact hcall2 _ | exact hcall3 _ | exact hcall4 _) rfl ?_ | refine OpsW.callB rfl (by first | exact hcall1 _ | exact hcall2 _ | exact hcall3 _ | exact hcall4 _) rfl (fun hb => ?_) (fun hb => ?_) | refine OpsW.call rfl (by first | exact hcall1 _ | exact hcall2 _ | exact hcall3 _ | exact hcall4 _) rfl ?_ | refine OpsW.val rfl rfl ?_)
   | (refine OpsW.as (.unOp _ _ _) ?_; first | refine OpsW.val (v := .sc (.bool _)) rfl rfl ?_ | refine OpsW.val (v := .sc (.int _ _)) rfl rfl ?_)
   | (refine OpsW.as (.box _ _) ?_; refine OpsW.box rfl rfl rfl rfl ?_)
   | (refine OpsW.as (.alloc _) ?_; refine OpsW.alloc rfl rfl rfl rfl rfl ?_)
   | (refine OpsW.as (.store _ _ _) ?_; refine OpsW.put rfl rfl rfl rfl rfl rfl rfl rfl rfl ?_)
   | (refine OpsW.as (.buildSlice _ _ _) ?_; refine OpsW.buildSlice rfl rfl rfl rfl rfl rfl rfl rfl ?_)
   | refine OpsW.unit rfl ?_
   | refine OpsW.nil ?_
   | refine OpsW.val rfl rfl ?_)
  | (refine DrawW.id ?_; first
   | (refine DrawW.guarded ?_; first | refine DrawW.met rfl rfl ?_ | refine DrawW.unmet rfl rfl rfl rfl rfl ?_ | refine DrawW.gone rfl rfl rfl rfl ?_)
   | (refine DrawW.as (.fieldAddr _ _ _) ?_; first | refine DrawW.val (v := .ref _ _ _ _) rfl rfl rfl rfl rfl rfl ?_ | refine DrawW.val (v := .pref _) rfl rfl rfl rfl rfl rfl ?_)
   | ((first | refine DrawW.as (.load _ _) ?_ | refine DrawW.as (.move _) ?_ | refine DrawW.as (.pick _ _ _) ?_ | refine DrawW.as (.assign _) ?_ | refine DrawW.as (.extract _ _) ?_); first | refine DrawW.val (v := .sc (.bool _)) rfl rfl rfl rfl rfl rfl ?_ | refine DrawW.val (v := .sc (.int _ _)) rfl rfl rfl rfl rfl rfl ?_ | refine DrawW.val (v := .ref _ _ _ _) rfl rfl rfl rfl rfl rfl ?_ | refine DrawW.val (v := .isl _ _) rfl rfl rfl rfl rfl rfl ?_ | refine DrawW.val (v := .sc (.string _)) rfl rfl rfl rfl rfl rfl ?_ | refine DrawW.val (v := .agg _) rfl rfl rfl rfl rfl rfl ?_ | refine DrawW.val rfl rfl rfl rfl rfl rfl ?_)
   | (refine DrawW.as (.binOp _ _ _ _ _) ?_; first | refine DrawW.test rfl rfl rfl (fun hb => ?_) (fun hb => ?_) | refine DrawW.val (v := .sc (.int _ _)) rfl rfl rfl rfl rfl rfl ?_ | refine DrawW.val rfl rfl rfl rfl rfl rfl ?_)
   | (refine DrawW.as (.indexAddr _ _ _) ?_; refine DrawW.val rfl rfl rfl rfl rfl rfl ?_)
   | (refine DrawW.as (.call _) ?_; first | refine DrawW.val (v := .sc (.int _ _)) rfl rfl rfl rfl rfl rfl ?_ | refine DrawW.call (v := .sc (.bool true)) rfl rfl rfl (by first | exact hcall1 _ | exact hcall2 _ | exact hcall3 _ | exact hcall4 _) rfl ?_ | refine DrawW.call (v := .sc (.bool false)) rfl rfl rfl (by first | exact hcall1 _ | exact hcall2 _ | exact hcall3 _ | exact hcall4 _) rfl ?_ | refine DrawW.callB rfl rfl rfl (by first | exact hcall1 _ | exact hcall2 _ | exact hcall3 _ | exact hcall4 _) rfl (fun hb => ?_) (fun hb => ?_) | refine DrawW.call rfl rfl rfl (by first | exact hcall1 _ | exact hcall2 _ | exact hcall3 _ | exact hcall4 _) rfl ?_ | refine DrawW.actv rfl rfl rfl rfl ?_)
   | (refine DrawW.as (.unOp _ _ _) ?_; first | refine DrawW.val (v := .sc (.bool _)) rfl rfl rfl rfl rfl rfl ?_ | refine DrawW.val (v := .sc (.int _ _)) rfl rfl rfl rfl rfl rfl ?_)
   | (refine DrawW.as (.box _ _) ?_; refine DrawW.box rfl rfl rfl rfl ?_)
   | (refine DrawW.as (.alloc _) ?_; refine DrawW.alloc rfl rfl rfl rfl rfl ?_)
   | (refine DrawW.as (.store _ _ _) ?_; refine DrawW.put rfl rfl rfl rfl rfl rfl rfl rfl rfl ?_)
   | refine DrawW.store rfl ?_
   | refine DrawW.fin (by kernel_rfl) ?_
   | (refine DrawW.as (.buildSlice _ _ _) ?_; refine DrawW.buildSlice rfl rfl rfl rfl rfl rfl rfl rfl ?_)
   | refine DrawW.val rfl rfl rfl rfl rfl rfl ?_
   | refine DrawW.actv rfl rfl rfl rfl ?_)
  | refine PR.seq ?_
  | refine PR.region hP hR rfl rfl ?_
  | refine PR.draw hP hR rfl rfl (by kernel_rfl) ?_
  | refine PR.yes rfl ?_
  | refine PR.no rfl ?_
  | refine PR.block ?_
  | refine PR.skip hP rfl rfl ?_
  | refine PR.exit hP rfl rfl ?_
  | refine PR.ret hP rfl rfl ?_
  all_goals clear hP hR hC1 hcall1 hC2 hcall2 hC3 hcall3 hC4 hcall4
  all_goals
    (first
      | (have h9 := ht.ne (fun e => by simp_all [bytes_iff, EqT]); subst h9; exact ⟨.inl rfl, rfl, _, 1, rfl, rfl⟩)
      | (have h9 := ht.eq (by simp_all [bytes_iff, EqT]); subst h9; exact ⟨.inl rfl, rfl, _, 1, rfl, rfl⟩))
end Go.AI
