/-
  A part of the proof: V84.
-/
import Derived.Test.YtmlcjnhkphkpiaaGreatDoorProg
import Derived.KernelRfl
import Derived.Test.YtmlcjnhkphkpiaaGreatDoorDat
set_option linter.all false

namespace Go.AI
open Go Go.Proofs
set_option maxRecDepth 10000
set_option maxHeartbeats 4000000

theorem app22 : AppT Tryz.prog 22 22 3 1 8 := ⟨rfl, rfl, rfl, rfl, ⟨_, rfl, rfl⟩, by decide, by decide⟩

theorem w84 {R : Rec} (hP : ProgOK Tryz.prog) (hR : RecOK Tryz.prog R) (r b : Int) (n : ByteArray) (p : List Int) (ts : List Tm) (u : List Int) (hp : p.length * 8 ≤ 140737488355328) (hu : u.length * 8 ≤ 140737488355328)
    (hC1 : ∀ h, R.call .normal 117 [.isl (Tm.rows ts) 7] .none h = some (.ret (.isl (Tm.rows ts) 7), .none, h)) (h : AHeap) :
    CallOK Tryz.prog 84 [.agg (Stp.mk r b n p ts u).cells] h (.ret (.agg (Stp.mk r b n p ts u).cells)) h := by
  have hcall1 := hC1
  have happ2 := app22
  have hok1 := intRows_cell p
  have hok2 := intRows_cell u
  have hbd1 : (intRows p).length * 8 ≤ 140737488355328 := by rw [intRows_length]; exact hp
  have hbd2 : (intRows u).length * 8 ≤ 140737488355328 := by rw [intRows_length]; exact hu
  rcases Classical.em (p = []) with hp0 | hp0
  · rcases Classical.em (u = []) with hu0 | hu0
    · subst hp0; subst hu0
      refine PR.callW hP Tryz.func84 rfl rfl ?_ h
      repeat' first
      | (refine OpsW.id ?_; first
       | (refine OpsW.guarded ?_; first | refine OpsW.met rfl rfl rfl ?_ | refine OpsW.unmet rfl rfl rfl rfl ?_ | refine OpsW.gone rfl rfl rfl ?_)
       | (refine OpsW.as (.fieldAddr _ _ _) ?_; first | refine OpsW.val (v := .ref _ _ _ _) rfl rfl ?_ | refine OpsW.val (v := .pref _) rfl rfl ?_)
       | ((first | refine OpsW.as (.load _ _) ?_ | refine OpsW.as (.move _) ?_ | refine OpsW.as (.pick _ _ _) ?_ | refine OpsW.as (.assign _) ?_ | refine OpsW.as (.extract _ _) ?_); first | refine OpsW.val (v := .sc (.bool _)) rfl rfl ?_ | refine OpsW.val (v := .sc (.int _ _)) rfl rfl ?_ | refine OpsW.val (v := .ref _ _ _ _) rfl rfl ?_ | refine OpsW.val (v := .isl _ _) rfl rfl ?_ | refine OpsW.val (v := .sc (.string _)) rfl rfl ?_ | refine OpsW.val (v := .agg _) rfl rfl ?_ | refine OpsW.val rfl rfl ?_)
       | (refine OpsW.as (.binOp _ _ _ _ _) ?_; first | refine OpsW.test rfl rfl (fun hb => ?_) (fun hb => ?_) | refine OpsW.val (v := .sc (.int _ _)) rfl rfl ?_ | refine OpsW.val rfl rfl ?_)
       | (refine OpsW.as (.indexAddr _ _ _) ?_; refine OpsW.val rfl rfl ?_)
       | (refine OpsW.as (.call _) ?_; first | refine OpsW.val (v := .sc (.int _ _)) rfl rfl ?_ | refine OpsW.call (v := .sc (.bool true)) rfl (hcall1 _) rfl ?_ | refine OpsW.call (v := .sc (.bool false)) rfl (hcall1 _) rfl ?_ | refine OpsW.callB rfl (hcall1 _) rfl (fun hb => ?_) (fun hb => ?_) | refine OpsW.call rfl (hcall1 _) rfl ?_ | refine OpsW.val rfl rfl ?_)
       | (refine OpsW.as (.unOp _ _ _) ?_; first | refine OpsW.val (v := .sc (.bool _)) rfl rfl ?_ | refine OpsW.val (v := .sc (.int _ _)) rfl rfl ?_)
       | (refine OpsW.as (.box _ _) ?_; refine OpsW.box rfl rfl rfl rfl ?_)
       | (refine OpsW.as (.alloc _) ?_; refine OpsW.alloc rfl rfl rfl rfl rfl ?_)
       | (refine OpsW.as (.store _ _ _) ?_; refine OpsW.put rfl rfl rfl rfl rfl rfl rfl rfl rfl ?_)
       | (refine OpsW.as (.buildSlice _ _ _) ?_; refine OpsW.buildSlice rfl rfl rfl rfl rfl rfl rfl rfl ?_)
       | refine OpsW.unit rfl ?_
       | refine OpsW.nil ?_
       | refine OpsW.val rfl rfl ?_)
      | (refine DrawW.id ?_; first
       | (refine DrawW.guarded ?_; first | refine DrawW.met rfl rfl ?_ | refine DrawW.unmet rfl rfl rfl rfl rfl ?_ | refine DrawW.gone rfl rfl rfl rfl ?_)
       | (refine DrawW.as (.fieldAddr _ _ _) ?_; first | refine DrawW.val (v := .ref _ _ _ _) rfl rfl rfl rfl rfl rfl ?_ | refine DrawW.val (v := .pref _) rfl rfl rfl rfl rfl rfl ?_)
       | ((first | refine DrawW.as (.load _ _) ?_ | refine DrawW.as (.move _) ?_ | refine DrawW.as (.pick _ _ _) ?_ | refine DrawW.as (.assign _) ?_ | refine DrawW.as (.extract _ _) ?_); first | refine DrawW.val (v := .sc (.bool _)) rfl rfl rfl rfl rfl rfl ?_ | refine DrawW.val (v := .sc (.int _ _)) rfl rfl rfl rfl rfl rfl ?_ | refine DrawW.val (v := .ref _ _ _ _) rfl rfl rfl rfl rfl rfl ?_ | refine DrawW.val (v := .isl _ _) rfl rfl rfl rfl rfl rfl ?_ | refine DrawW.val (v := .sc (.string _)) rfl rfl rfl rfl rfl rfl ?_ | refine DrawW.val (v := .agg _) rfl rfl rfl rfl rfl rfl ?_ | refine DrawW.val rfl rfl rfl rfl rfl rfl ?_)
       | (refine DrawW.as (.binOp _ _ _ _ _) ?_; first | refine DrawW.test rfl rfl rfl (fun hb => ?_) (fun hb => ?_) | refine DrawW.val (v := .sc (.int _ _)) rfl rfl rfl rfl rfl rfl ?_ | refine DrawW.val rfl rfl rfl rfl rfl rfl ?_)
       | (refine DrawW.as (.indexAddr _ _ _) ?_; refine DrawW.val rfl rfl rfl rfl rfl rfl ?_)
       | (refine DrawW.as (.call _) ?_; first | refine DrawW.val (v := .sc (.int _ _)) rfl rfl rfl rfl rfl rfl ?_ | refine DrawW.call (v := .sc (.bool true)) rfl rfl rfl (hcall1 _) rfl ?_ | refine DrawW.call (v := .sc (.bool false)) rfl rfl rfl (hcall1 _) rfl ?_ | refine DrawW.callB rfl rfl rfl (hcall1 _) rfl (fun hb => ?_) (fun hb => ?_) | refine DrawW.call rfl rfl rfl (hcall1 _) rfl ?_ | refine DrawW.appAll happ2 rfl rfl rfl (by first | exact hne1 | exact hne2) (by first | exact hok1 | exact hok2) (by first | exact hbd1 | exact hbd2) rfl ?_ | refine DrawW.actv rfl rfl rfl rfl ?_)
       | (refine DrawW.as (.unOp _ _ _) ?_; first | refine DrawW.val (v := .sc (.bool _)) rfl rfl rfl rfl rfl rfl ?_ | refine DrawW.val (v := .sc (.int _ _)) rfl rfl rfl rfl rfl rfl ?_)
       | (refine DrawW.as (.box _ _) ?_; refine DrawW.box rfl rfl rfl rfl ?_)
       | (refine DrawW.as (.alloc _) ?_; refine DrawW.alloc rfl rfl rfl rfl rfl ?_)
       | (refine DrawW.as (.store _ _ _) ?_; refine DrawW.put rfl rfl rfl rfl rfl rfl rfl rfl rfl ?_)
       | refine DrawW.store rfl ?_
       | refine DrawW.fin (by kernel_rfl) ?_
       | (refine DrawW.as (.buildSlice _ _ _) ?_; refine DrawW.buildSlice rfl rfl rfl rfl rfl rfl rfl rfl ?_)
       | refine DrawW.val rfl rfl rfl rfl rfl rfl ?_
       | refine DrawW.actv rfl rfl rfl rfl ?_)
      | refine PR.seq ?_
      | refine PR.region hP hR rfl rfl ?_
      | refine PR.draw hP hR rfl rfl (by kernel_rfl) ?_
      | refine PR.yes rfl ?_
      | refine PR.no rfl ?_
      | refine PR.block ?_
      | refine PR.skip hP rfl rfl ?_
      | refine PR.exit hP rfl rfl ?_
      | refine PR.ret hP rfl rfl ?_
      exact ⟨.inl rfl, rfl, _, 19, _, rfl, rfl, ⟨rfl, rfl, rfl, rfl, rfl, rfl, rfl⟩⟩
    · subst hp0
      have hne1 := intRows_ne hu0
      refine PR.callW hP Tryz.func84 rfl rfl ?_ h
      repeat' first
      | (refine OpsW.id ?_; first
       | (refine OpsW.guarded ?_; first | refine OpsW.met rfl rfl rfl ?_ | refine OpsW.unmet rfl rfl rfl rfl ?_ | refine OpsW.gone rfl rfl rfl ?_)
       | (refine OpsW.as (.fieldAddr _ _ _) ?_; first | refine OpsW.val (v := .ref _ _ _ _) rfl rfl ?_ | refine OpsW.val (v := .pref _) rfl rfl ?_)
       | ((first | refine OpsW.as (.load _ _) ?_ | refine OpsW.as (.move _) ?_ | refine OpsW.as (.pick _ _ _) ?_ | refine OpsW.as (.assign _) ?_ | refine OpsW.as (.extract _ _) ?_); first | refine OpsW.val (v := .sc (.bool _)) rfl rfl ?_ | refine OpsW.val (v := .sc (.int _ _)) rfl rfl ?_ | refine OpsW.val (v := .ref _ _ _ _) rfl rfl ?_ | refine OpsW.val (v := .isl _ _) rfl rfl ?_ | refine OpsW.val (v := .sc (.string _)) rfl rfl ?_ | refine OpsW.val (v := .agg _) rfl rfl ?_ | refine OpsW.val rfl rfl ?_)
       | (refine OpsW.as (.binOp _ _ _ _ _) ?_; first | refine OpsW.test rfl rfl (fun hb => ?_) (fun hb => ?_) | refine OpsW.val (v := .sc (.int _ _)) rfl rfl ?_ | refine OpsW.val rfl rfl ?_)
       | (refine OpsW.as (.indexAddr _ _ _) ?_; refine OpsW.val rfl rfl ?_)
       | (refine OpsW.as (.call _) ?_; first | refine OpsW.val (v := .sc (.int _ _)) rfl rfl ?_ | refine OpsW.call (v := .sc (.bool true)) rfl (hcall1 _) rfl ?_ | refine OpsW.call (v := .sc (.bool false)) rfl (hcall1 _) rfl ?_ | refine OpsW.callB rfl (hcall1 _) rfl (fun hb => ?_) (fun hb => ?_) | refine OpsW.call rfl (hcall1 _) rfl ?_ | refine OpsW.val rfl rfl ?_)
       | (refine OpsW.as (.unOp _ _ _) ?_; first | refine OpsW.val (v := .sc (.bool _)) rfl rfl ?_ | refine OpsW.val (v := .sc (.int _ _)) rfl rfl ?_)
       | (refine OpsW.as (.box _ _) ?_; refine OpsW.box rfl rfl rfl rfl ?_)
       | (refine OpsW.as (.alloc _) ?_; refine OpsW.alloc rfl rfl rfl rfl rfl ?_)
       | (refine OpsW.as (.store _ _ _) ?_; refine OpsW.put rfl rfl rfl rfl rfl rfl rfl rfl rfl ?_)
       | (refine OpsW.as (.buildSlice _ _ _) ?_; refine OpsW.buildSlice rfl rfl rfl rfl rfl rfl rfl rfl ?_)
       | refine OpsW.unit rfl ?_
       | refine OpsW.nil ?_
       | refine OpsW.val rfl rfl ?_)
      | (refine DrawW.id ?_; first
       | (refine DrawW.guarded ?_; first | refine DrawW.met rfl rfl ?_ | refine DrawW.unmet rfl rfl rfl rfl rfl ?_ | refine DrawW.gone rfl rfl rfl rfl ?_)
       | (refine DrawW.as (.fieldAddr _ _ _) ?_; first | refine DrawW.val (v := .ref _ _ _ _) rfl rfl rfl rfl rfl rfl ?_ | refine DrawW.val (v := .pref _) rfl rfl rfl rfl rfl rfl ?_)
       | ((first | refine DrawW.as (.load _ _) ?_ | refine DrawW.as (.move _) ?_ | refine DrawW.as (.pick _ _ _) ?_ | refine DrawW.as (.assign _) ?_ | refine DrawW.as (.extract _ _) ?_); first | refine DrawW.val (v := .sc (.bool _)) rfl rfl rfl rfl rfl rfl ?_ | refine DrawW.val (v := .sc (.int _ _)) rfl rfl rfl rfl rfl rfl ?_ | refine DrawW.val (v := .ref _ _ _ _) rfl rfl rfl rfl rfl rfl ?_ | refine DrawW.val (v := .isl _ _) rfl rfl rfl rfl rfl rfl ?_ | refine DrawW.val (v := .sc (.string _)) rfl rfl rfl rfl rfl rfl ?_ | refine DrawW.val (v := .agg _) rfl rfl rfl rfl rfl rfl ?_ | refine DrawW.val rfl rfl rfl rfl rfl rfl ?_)
       | (refine DrawW.as (.binOp _ _ _ _ _) ?_; first | refine DrawW.test rfl rfl rfl (fun hb => ?_) (fun hb => ?_) | refine DrawW.val (v := .sc (.int _ _)) rfl rfl rfl rfl rfl rfl ?_ | refine DrawW.val rfl rfl rfl rfl rfl rfl ?_)
       | (refine DrawW.as (.indexAddr _ _ _) ?_; refine DrawW.val rfl rfl rfl rfl rfl rfl ?_)
       | (refine DrawW.as (.call _) ?_; first | refine DrawW.val (v := .sc (.int _ _)) rfl rfl rfl rfl rfl rfl ?_ | refine DrawW.call (v := .sc (.bool true)) rfl rfl rfl (hcall1 _) rfl ?_ | refine DrawW.call (v := .sc (.bool false)) rfl rfl rfl (hcall1 _) rfl ?_ | refine DrawW.callB rfl rfl rfl (hcall1 _) rfl (fun hb => ?_) (fun hb => ?_) | refine DrawW.call rfl rfl rfl (hcall1 _) rfl ?_ | refine DrawW.appAll happ2 rfl rfl rfl (by first | exact hne1 | exact hne2) (by first | exact hok1 | exact hok2) (by first | exact hbd1 | exact hbd2) rfl ?_ | refine DrawW.actv rfl rfl rfl rfl ?_)
       | (refine DrawW.as (.unOp _ _ _) ?_; first | refine DrawW.val (v := .sc (.bool _)) rfl rfl rfl rfl rfl rfl ?_ | refine DrawW.val (v := .sc (.int _ _)) rfl rfl rfl rfl rfl rfl ?_)
       | (refine DrawW.as (.box _ _) ?_; refine DrawW.box rfl rfl rfl rfl ?_)
       | (refine DrawW.as (.alloc _) ?_; refine DrawW.alloc rfl rfl rfl rfl rfl ?_)
       | (refine DrawW.as (.store _ _ _) ?_; refine DrawW.put rfl rfl rfl rfl rfl rfl rfl rfl rfl ?_)
       | refine DrawW.store rfl ?_
       | refine DrawW.fin (by kernel_rfl) ?_
       | (refine DrawW.as (.buildSlice _ _ _) ?_; refine DrawW.buildSlice rfl rfl rfl rfl rfl rfl rfl rfl ?_)
       | refine DrawW.val rfl rfl rfl rfl rfl rfl ?_
       | refine DrawW.actv rfl rfl rfl rfl ?_)
      | refine PR.seq ?_
      | refine PR.region hP hR rfl rfl ?_
      | refine PR.draw hP hR rfl rfl (by kernel_rfl) ?_
      | refine PR.yes rfl ?_
      | refine PR.no rfl ?_
      | refine PR.block ?_
      | refine PR.skip hP rfl rfl ?_
      | refine PR.exit hP rfl rfl ?_
      | refine PR.ret hP rfl rfl ?_
      refine ⟨.inl rfl, rfl, _, _, _, ?_, snap_pairs (n0 := (intRows u).length + 5) [(.sc (.int .i64 r), .sc (.int .i64 r)), (.sc (.int .i64 b), .sc (.int .i64 b)), (.sc (.string n), .sc (.string n)), (.sl 2 0 (0 * 1) 0 1 0 (some 0), .isl [] 1), (.isl (Tm.rows ts) 7, .isl (Tm.rows ts) 7), (.sl 4 0 ((intRows u).length * 1) 0 1 (intRows u).length none, .isl (intRows u) 1)] ?_, ?_⟩
      · rfl
      · intro q hq m hm
        simp only [List.mem_cons, List.mem_nil_iff, or_false] at hq
        rcases hq with rfl | rfl | rfl | rfl | rfl | rfl
        · exact snap_datm rfl m (by omega)
        · exact snap_datm rfl m (by omega)
        · exact snap_datm rfl m (by omega)
        · exact snap_slm (rows := []) (k := 0) (fz := 0) (el := 3) (ex := true) (sh := false) rfl (by decide) (by simp) rfl rfl m (by omega)
        · exact snap_datm rfl m (by omega)
        · exact snap_slm (fz := 0) (el := 3) (ex := false) (sh := false) rfl (by decide) (intRows_len u) (intRows_dat u) rfl m (by omega)
      · exact ⟨rfl, rfl, rfl, rfl, rfl, rfl, rfl⟩
  · have hne1 := intRows_ne hp0
    rcases Classical.em (u = []) with hu0 | hu0
    · subst hu0
      refine PR.callW hP Tryz.func84 rfl rfl ?_ h
      repeat' first
      | (refine OpsW.id ?_; first
       | (refine OpsW.guarded ?_; first | refine OpsW.met rfl rfl rfl ?_ | refine OpsW.unmet rfl rfl rfl rfl ?_ | refine OpsW.gone rfl rfl rfl ?_)
       | (refine OpsW.as (.fieldAddr _ _ _) ?_; first | refine OpsW.val (v := .ref _ _ _ _) rfl rfl ?_ | refine OpsW.val (v := .pref _) rfl rfl ?_)
       | ((first | refine OpsW.as (.load _ _) ?_ | refine OpsW.as (.move _) ?_ | refine OpsW.as (.pick _ _ _) ?_ | refine OpsW.as (.assign _) ?_ | refine OpsW.as (.extract _ _) ?_); first | refine OpsW.val (v := .sc (.bool _)) rfl rfl ?_ | refine OpsW.val (v := .sc (.int _ _)) rfl rfl ?_ | refine OpsW.val (v := .ref _ _ _ _) rfl rfl ?_ | refine OpsW.val (v := .isl _ _) rfl rfl ?_ | refine OpsW.val (v := .sc (.string _)) rfl rfl ?_ | refine OpsW.val (v := .agg _) rfl rfl ?_ | refine OpsW.val rfl rfl ?_)
       | (refine OpsW.as (.binOp _ _ _ _ _) ?_; first | refine OpsW.test rfl rfl (fun hb => ?_) (fun hb => ?_) | refine OpsW.val (v := .sc (.int _ _)) rfl rfl ?_ | refine OpsW.val rfl rfl ?_)
       | (refine OpsW.as (.indexAddr _ _ _) ?_; refine OpsW.val rfl rfl ?_)
       | (refine OpsW.as (.call _) ?_; first | refine OpsW.val (v := .sc (.int _ _)) rfl rfl ?_ | refine OpsW.call (v := .sc (.bool true)) rfl (hcall1 _) rfl ?_ | refine OpsW.call (v := .sc (.bool false)) rfl (hcall1 _) rfl ?_ | refine OpsW.callB rfl (hcall1 _) rfl (fun hb => ?_) (fun hb => ?_) | refine OpsW.call rfl (hcall1 _) rfl ?_ | refine OpsW.val rfl rfl ?_)
       | (refine OpsW.as (.unOp _ _ _) ?_; first | refine OpsW.val (v := .sc (.bool _)) rfl rfl ?_ | refine OpsW.val (v := .sc (.int _ _)) rfl rfl ?_)
       | (refine OpsW.as (.box _ _) ?_; refine OpsW.box rfl rfl rfl rfl ?_)
       | (refine OpsW.as (.alloc _) ?_; refine OpsW.alloc rfl rfl rfl rfl rfl ?_)
       | (refine OpsW.as (.store _ _ _) ?_; refine OpsW.put rfl rfl rfl rfl rfl rfl rfl rfl rfl ?_)
       | (refine OpsW.as (.buildSlice _ _ _) ?_; refine OpsW.buildSlice rfl rfl rfl rfl rfl rfl rfl rfl ?_)
       | refine OpsW.unit rfl ?_
       | refine OpsW.nil ?_
       | refine OpsW.val rfl rfl ?_)
      | (refine DrawW.id ?_; first
       | (refine DrawW.guarded ?_; first | refine DrawW.met rfl rfl ?_ | refine DrawW.unmet rfl rfl rfl rfl rfl ?_ | refine DrawW.gone rfl rfl rfl rfl ?_)
       | (refine DrawW.as (.fieldAddr _ _ _) ?_; first | refine DrawW.val (v := .ref _ _ _ _) rfl rfl rfl rfl rfl rfl ?_ | refine DrawW.val (v := .pref _) rfl rfl rfl rfl rfl rfl ?_)
       | ((first | refine DrawW.as (.load _ _) ?_ | refine DrawW.as (.move _) ?_ | refine DrawW.as (.pick _ _ _) ?_ | refine DrawW.as (.assign _) ?_ | refine DrawW.as (.extract _ _) ?_); first | refine DrawW.val (v := .sc (.bool _)) rfl rfl rfl rfl rfl rfl ?_ | refine DrawW.val (v := .sc (.int _ _)) rfl rfl rfl rfl rfl rfl ?_ | refine DrawW.val (v := .ref _ _ _ _) rfl rfl rfl rfl rfl rfl ?_ | refine DrawW.val (v := .isl _ _) rfl rfl rfl rfl rfl rfl ?_ | refine DrawW.val (v := .sc (.string _)) rfl rfl rfl rfl rfl rfl ?_ | refine DrawW.val (v := .agg _) rfl rfl rfl rfl rfl rfl ?_ | refine DrawW.val rfl rfl rfl rfl rfl rfl ?_)
       | (refine DrawW.as (.binOp _ _ _ _ _) ?_; first | refine DrawW.test rfl rfl rfl (fun hb => ?_) (fun hb => ?_) | refine DrawW.val (v := .sc (.int _ _)) rfl rfl rfl rfl rfl rfl ?_ | refine DrawW.val rfl rfl rfl rfl rfl rfl ?_)
       | (refine DrawW.as (.indexAddr _ _ _) ?_; refine DrawW.val rfl rfl rfl rfl rfl rfl ?_)
       | (refine DrawW.as (.call _) ?_; first | refine DrawW.val (v := .sc (.int _ _)) rfl rfl rfl rfl rfl rfl ?_ | refine DrawW.call (v := .sc (.bool true)) rfl rfl rfl (hcall1 _) rfl ?_ | refine DrawW.call (v := .sc (.bool false)) rfl rfl rfl (hcall1 _) rfl ?_ | refine DrawW.callB rfl rfl rfl (hcall1 _) rfl (fun hb => ?_) (fun hb => ?_) | refine DrawW.call rfl rfl rfl (hcall1 _) rfl ?_ | refine DrawW.appAll happ2 rfl rfl rfl (by first | exact hne1 | exact hne2) (by first | exact hok1 | exact hok2) (by first | exact hbd1 | exact hbd2) rfl ?_ | refine DrawW.actv rfl rfl rfl rfl ?_)
       | (refine DrawW.as (.unOp _ _ _) ?_; first | refine DrawW.val (v := .sc (.bool _)) rfl rfl rfl rfl rfl rfl ?_ | refine DrawW.val (v := .sc (.int _ _)) rfl rfl rfl rfl rfl rfl ?_)
       | (refine DrawW.as (.box _ _) ?_; refine DrawW.box rfl rfl rfl rfl ?_)
       | (refine DrawW.as (.alloc _) ?_; refine DrawW.alloc rfl rfl rfl rfl rfl ?_)
       | (refine DrawW.as (.store _ _ _) ?_; refine DrawW.put rfl rfl rfl rfl rfl rfl rfl rfl rfl ?_)
       | refine DrawW.store rfl ?_
       | refine DrawW.fin (by kernel_rfl) ?_
       | (refine DrawW.as (.buildSlice _ _ _) ?_; refine DrawW.buildSlice rfl rfl rfl rfl rfl rfl rfl rfl ?_)
       | refine DrawW.val rfl rfl rfl rfl rfl rfl ?_
       | refine DrawW.actv rfl rfl rfl rfl ?_)
      | refine PR.seq ?_
      | refine PR.region hP hR rfl rfl ?_
      | refine PR.draw hP hR rfl rfl (by kernel_rfl) ?_
      | refine PR.yes rfl ?_
      | refine PR.no rfl ?_
      | refine PR.block ?_
      | refine PR.skip hP rfl rfl ?_
      | refine PR.exit hP rfl rfl ?_
      | refine PR.ret hP rfl rfl ?_
      refine ⟨.inl rfl, rfl, _, _, _, ?_, snap_pairs (n0 := (intRows p).length + 5) [(.sc (.int .i64 r), .sc (.int .i64 r)), (.sc (.int .i64 b), .sc (.int .i64 b)), (.sc (.string n), .sc (.string n)), (.sl 4 0 ((intRows p).length * 1) 0 1 (intRows p).length none, .isl (intRows p) 1), (.isl (Tm.rows ts) 7, .isl (Tm.rows ts) 7), (.sl 3 0 (0 * 1) 0 1 0 (some 0), .isl [] 1)] ?_, ?_⟩
      · rfl
      · intro q hq m hm
        simp only [List.mem_cons, List.mem_nil_iff, or_false] at hq
        rcases hq with rfl | rfl | rfl | rfl | rfl | rfl
        · exact snap_datm rfl m (by omega)
        · exact snap_datm rfl m (by omega)
        · exact snap_datm rfl m (by omega)
        · exact snap_slm (fz := 0) (el := 3) (ex := false) (sh := false) rfl (by decide) (intRows_len p) (intRows_dat p) rfl m (by omega)
        · exact snap_datm rfl m (by omega)
        · exact snap_slm (rows := []) (k := 0) (fz := 0) (el := 3) (ex := true) (sh := false) rfl (by decide) (by simp) rfl rfl m (by omega)
      · exact ⟨rfl, rfl, rfl, rfl, rfl, rfl, rfl⟩
    · have hne2 := intRows_ne hu0
      refine PR.callW hP Tryz.func84 rfl rfl ?_ h
      repeat' first
      | (refine OpsW.id ?_; first
       | (refine OpsW.guarded ?_; first | refine OpsW.met rfl rfl rfl ?_ | refine OpsW.unmet rfl rfl rfl rfl ?_ | refine OpsW.gone rfl rfl rfl ?_)
       | (refine OpsW.as (.fieldAddr _ _ _) ?_; first | refine OpsW.val (v := .ref _ _ _ _) rfl rfl ?_ | refine OpsW.val (v := .pref _) rfl rfl ?_)
       | ((first | refine OpsW.as (.load _ _) ?_ | refine OpsW.as (.move _) ?_ | refine OpsW.as (.pick _ _ _) ?_ | refine OpsW.as (.assign _) ?_ | refine OpsW.as (.extract _ _) ?_); first | refine OpsW.val (v := .sc (.bool _)) rfl rfl ?_ | refine OpsW.val (v := .sc (.int _ _)) rfl rfl ?_ | refine OpsW.val (v := .ref _ _ _ _) rfl rfl ?_ | refine OpsW.val (v := .isl _ _) rfl rfl ?_ | refine OpsW.val (v := .sc (.string _)) rfl rfl ?_ | refine OpsW.val (v := .agg _) rfl rfl ?_ | refine OpsW.val rfl rfl ?_)
       | (refine OpsW.as (.binOp _ _ _ _ _) ?_; first | refine OpsW.test rfl rfl (fun hb => ?_) (fun hb => ?_) | refine OpsW.val (v := .sc (.int _ _)) rfl rfl ?_ | refine OpsW.val rfl rfl ?_)
       | (refine OpsW.as (.indexAddr _ _ _) ?_; refine OpsW.val rfl rfl ?_)
       | (refine OpsW.as (.call _) ?_; first | refine OpsW.val (v := .sc (.int _ _)) rfl rfl ?_ | refine OpsW.call (v := .sc (.bool true)) rfl (hcall1 _) rfl ?_ | refine OpsW.call (v := .sc (.bool false)) rfl (hcall1 _) rfl ?_ | refine OpsW.callB rfl (hcall1 _) rfl (fun hb => ?_) (fun hb => ?_) | refine OpsW.call rfl (hcall1 _) rfl ?_ | refine OpsW.val rfl rfl ?_)
       | (refine OpsW.as (.unOp _ _ _) ?_; first | refine OpsW.val (v := .sc (.bool _)) rfl rfl ?_ | refine OpsW.val (v := .sc (.int _ _)) rfl rfl ?_)
       | (refine OpsW.as (.box _ _) ?_; refine OpsW.box rfl rfl rfl rfl ?_)
       | (refine OpsW.as (.alloc _) ?_; refine OpsW.alloc rfl rfl rfl rfl rfl ?_)
       | (refine OpsW.as (.store _ _ _) ?_; refine OpsW.put rfl rfl rfl rfl rfl rfl rfl rfl rfl ?_)
       | (refine OpsW.as (.buildSlice _ _ _) ?_; refine OpsW.buildSlice rfl rfl rfl rfl rfl rfl rfl rfl ?_)
       | refine OpsW.unit rfl ?_
       | refine OpsW.nil ?_
       | refine OpsW.val rfl rfl ?_)
      | (refine DrawW.id ?_; first
       | (refine DrawW.guarded ?_; first | refine DrawW.met rfl rfl ?_ | refine DrawW.unmet rfl rfl rfl rfl rfl ?_ | refine DrawW.gone rfl rfl rfl rfl ?_)
       | (refine DrawW.as (.fieldAddr _ _ _) ?_; first | refine DrawW.val (v := .ref _ _ _ _) rfl rfl rfl rfl rfl rfl ?_ | refine DrawW.val (v := .pref _) rfl rfl rfl rfl rfl rfl ?_)
       | ((first | refine DrawW.as (.load _ _) ?_ | refine DrawW.as (.move _) ?_ | refine DrawW.as (.pick _ _ _) ?_ | refine DrawW.as (.assign _) ?_ | refine DrawW.as (.extract _ _) ?_); first | refine DrawW.val (v := .sc (.bool _)) rfl rfl rfl rfl rfl rfl ?_ | refine DrawW.val (v := .sc (.int _ _)) rfl rfl rfl rfl rfl rfl ?_ | refine DrawW.val (v := .ref _ _ _ _) rfl rfl rfl rfl rfl rfl ?_ | refine DrawW.val (v := .isl _ _) rfl rfl rfl rfl rfl rfl ?_ | refine DrawW.val (v := .sc (.string _)) rfl rfl rfl rfl rfl rfl ?_ | refine DrawW.val (v := .agg _) rfl rfl rfl rfl rfl rfl ?_ | refine DrawW.val rfl rfl rfl rfl rfl rfl ?_)
       | (refine DrawW.as (.binOp _ _ _ _ _) ?_; first | refine DrawW.test rfl rfl rfl (fun hb => ?_) (fun hb => ?_) | refine DrawW.val (v := .sc (.int _ _)) rfl rfl rfl rfl rfl rfl ?_ | refine DrawW.val rfl rfl rfl rfl rfl rfl ?_)
       | (refine DrawW.as (.indexAddr _ _ _) ?_; refine DrawW.val rfl rfl rfl rfl rfl rfl ?_)
       | (refine DrawW.as (.call _) ?_; first | refine DrawW.val (v := .sc (.int _ _)) rfl rfl rfl rfl rfl rfl ?_ | refine DrawW.call (v := .sc (.bool true)) rfl rfl rfl (hcall1 _) rfl ?_ | refine DrawW.call (v := .sc (.bool false)) rfl rfl rfl (hcall1 _) rfl ?_ | refine DrawW.callB rfl rfl rfl (hcall1 _) rfl (fun hb => ?_) (fun hb => ?_) | refine DrawW.call rfl rfl rfl (hcall1 _) rfl ?_ | refine DrawW.appAll happ2 rfl rfl rfl (by first | exact hne1 | exact hne2) (by first | exact hok1 | exact hok2) (by first | exact hbd1 | exact hbd2) rfl ?_ | refine DrawW.actv rfl rfl rfl rfl ?_)
       | (refine DrawW.as (.unOp _ _ _) ?_; first | refine DrawW.val (v := .sc (.bool _)) rfl rfl rfl rfl rfl rfl ?_ | refine DrawW.val (v := .sc (.int _ _)) rfl rfl rfl rfl rfl rfl ?_)
       | (refine DrawW.as (.box _ _) ?_; refine DrawW.box rfl rfl rfl rfl ?_)
       | (refine DrawW.as (.alloc _) ?_; refine DrawW.alloc rfl rfl rfl rfl rfl ?_)
       | (refine DrawW.as (.store _ _ _) ?_; refine DrawW.put rfl rfl rfl rfl rfl rfl rfl rfl rfl ?_)
       | refine DrawW.store rfl ?_
       | refine DrawW.fin (by kernel_rfl) ?_
       | (refine DrawW.as (.buildSlice _ _ _) ?_; refine DrawW.buildSlice rfl rfl rfl rfl rfl rfl rfl rfl ?_)
       | refine DrawW.val rfl rfl rfl rfl rfl rfl ?_
       | refine DrawW.actv rfl rfl rfl rfl ?_)
      | refine PR.seq ?_
      | refine PR.region hP hR rfl rfl ?_
      | refine PR.draw hP hR rfl rfl (by kernel_rfl) ?_
      | refine PR.yes rfl ?_
      | refine PR.no rfl ?_
      | refine PR.block ?_
      | refine PR.skip hP rfl rfl ?_
      | refine PR.exit hP rfl rfl ?_
      | refine PR.ret hP rfl rfl ?_
      refine ⟨.inl rfl, rfl, _, _, _, ?_, snap_pairs (n0 := (intRows p).length + (intRows u).length + 5) [(.sc (.int .i64 r), .sc (.int .i64 r)), (.sc (.int .i64 b), .sc (.int .i64 b)), (.sc (.string n), .sc (.string n)), (.sl 4 0 ((intRows p).length * 1) 0 1 (intRows p).length none, .isl (intRows p) 1), (.isl (Tm.rows ts) 7, .isl (Tm.rows ts) 7), (.sl 5 0 ((intRows u).length * 1) 0 1 (intRows u).length none, .isl (intRows u) 1)] ?_, ?_⟩
      · rfl
      · intro q hq m hm
        simp only [List.mem_cons, List.mem_nil_iff, or_false] at hq
        rcases hq with rfl | rfl | rfl | rfl | rfl | rfl
        · exact snap_datm rfl m (by omega)
        · exact snap_datm rfl m (by omega)
        · exact snap_datm rfl m (by omega)
        · exact snap_slm (fz := 0) (el := 3) (ex := false) (sh := false) rfl (by decide) (intRows_len p) (intRows_dat p) rfl m (by omega)
        · exact snap_datm rfl m (by omega)
        · exact snap_slm (fz := 0) (el := 3) (ex := false) (sh := false) rfl (by decide) (intRows_len u) (intRows_dat u) rfl m (by omega)
      · exact ⟨rfl, rfl, rfl, rfl, rfl, rfl, rfl⟩
end Go.AI
