/-
  A part of the proof: V20 V22 V44.
-/
import Derived.Test.YtmlcjnhkphkpiaaGreatDoorProg
import Derived.KernelRfl
import Derived.Test.YtmlcjnhkphkpiaaGreatDoorDat
set_option linter.all false

section
namespace Go.AI
open Go Go.Proofs
set_option maxRecDepth 10000
set_option maxHeartbeats 4000000

theorem w20 {R : Rec} (hP : ProgOK Tryz.prog) (hR : RecOK Tryz.prog R) (l l' : List Tm) (hl : l.length ≤ 9223372036854775807) (t : Bool) (ht : EqT l l' t)
    (hC : ∀ (a b : Tm) (t : Bool), a ∈ l → EqT a b t → ∀ h, R.call .normal 21 [.agg a.cells, .agg b.cells] .none h = some (.ret (.sc (.bool t)), .none, h)) (h : AHeap) :
    CallOK Tryz.prog 20 [.isl (Tm.rows l) 7, .isl (Tm.rows l') 7, .sc (.func (.func 21) #[] #[])] h (.ret (.sc (.bool t))) h := by
  have hlen := Tm.rows_length l
  have hlen' := Tm.rows_length l'
  refine PR.call hP Tryz.func20 rfl rfl ?_ h
  repeat' first
  | (refine OpsW.id ?_; first
   | (refine OpsW.guarded ?_; first | refine OpsW.met rfl rfl rfl ?_ | refine OpsW.unmet rfl rfl rfl rfl ?_ | refine OpsW.gone rfl rfl rfl ?_)
   | (refine OpsW.as (.fieldAddr _ _ _) ?_; first | refine OpsW.val (v := .ref _ _ _ _) rfl rfl ?_ | refine OpsW.val (v := .pref _) rfl rfl ?_)
   | ((first | refine OpsW.as (.load _ _) ?_ | refine OpsW.as (.move _) ?_ | refine OpsW.as (.pick _ _ _) ?_ | refine OpsW.as (.assign _) ?_ | refine OpsW.as (.extract _ _) ?_); first | refine OpsW.val (v := .sc (.bool _)) rfl rfl ?_ | refine OpsW.val (v := .sc (.int _ _)) rfl rfl ?_ | refine OpsW.val (v := .ref _ _ _ _) rfl rfl ?_ | refine OpsW.val (v := .isl _ _) rfl rfl ?_ | refine OpsW.val (v := .sc (.string _)) rfl rfl ?_ | refine OpsW.val (v := .agg _) rfl rfl ?_ | refine OpsW.val rfl rfl ?_)
   | (refine OpsW.as (.binOp _ _ _ _ _) ?_; first | refine OpsW.test rfl rfl (fun hb => ?_) (fun hb => ?_) | refine OpsW.val (v := .sc (.int _ _)) rfl rfl ?_ | refine OpsW.val rfl rfl ?_)
   | (refine OpsW.as (.indexAddr _ _ _) ?_; first | refine OpsW.index rfl rfl rfl rfl (Int.natCast_nonneg _) (by first | exact hidx1 | exact hidx2) rfl ?_ | refine OpsW.val rfl rfl ?_)
   | (refine OpsW.as (.call _) ?_; first | refine OpsW.val (v := .sc (.int _ _)) rfl rfl ?_ | refine OpsW.call (v := .sc (.bool true)) rfl (hcall1 _) rfl ?_ | refine OpsW.call (v := .sc (.bool false)) rfl (hcall1 _) rfl ?_ | refine OpsW.callB rfl (hcall1 _) rfl (fun hb => ?_) (fun hb => ?_) | refine OpsW.call rfl (hcall1 _) rfl ?_ | refine OpsW.val rfl rfl ?_)
   | (refine OpsW.as (.unOp _ _ _) ?_; first | refine OpsW.val (v := .sc (.bool _)) rfl rfl ?_ | refine OpsW.val (v := .sc (.int _ _)) rfl rfl ?_)
   | (refine OpsW.as (.box _ _) ?_; refine OpsW.box rfl rfl rfl rfl ?_)
   | (refine OpsW.as (.alloc _) ?_; refine OpsW.alloc rfl rfl rfl rfl rfl ?_)
   | (refine OpsW.as (.store _ _ _) ?_; refine OpsW.put rfl rfl rfl rfl rfl rfl rfl rfl rfl ?_)
   | (refine OpsW.as (.buildSlice _ _ _) ?_; refine OpsW.buildSlice rfl rfl rfl rfl rfl rfl rfl rfl ?_)
   | refine OpsW.unit rfl ?_
   | refine OpsW.nil ?_
   | refine OpsW.val rfl rfl ?_)
  | (refine DrawW.id ?_; first
   | (refine DrawW.guarded ?_; first | refine DrawW.met rfl rfl ?_ | refine DrawW.unmet rfl rfl rfl rfl rfl ?_ | refine DrawW.gone rfl rfl rfl rfl ?_)
   | (refine DrawW.as (.fieldAddr _ _ _) ?_; first | refine DrawW.val (v := .ref _ _ _ _) rfl rfl rfl rfl rfl rfl ?_ | refine DrawW.val (v := .pref _) rfl rfl rfl rfl rfl rfl ?_)
   | ((first | refine DrawW.as (.load _ _) ?_ | refine DrawW.as (.move _) ?_ | refine DrawW.as (.pick _ _ _) ?_ | refine DrawW.as (.assign _) ?_ | refine DrawW.as (.extract _ _) ?_); first | refine DrawW.val (v := .sc (.bool _)) rfl rfl rfl rfl rfl rfl ?_ | refine DrawW.val (v := .sc (.int _ _)) rfl rfl rfl rfl rfl rfl ?_ | refine DrawW.val (v := .ref _ _ _ _) rfl rfl rfl rfl rfl rfl ?_ | refine DrawW.val (v := .isl _ _) rfl rfl rfl rfl rfl rfl ?_ | refine DrawW.val (v := .sc (.string _)) rfl rfl rfl rfl rfl rfl ?_ | refine DrawW.val (v := .agg _) rfl rfl rfl rfl rfl rfl ?_ | refine DrawW.val rfl rfl rfl rfl rfl rfl ?_)
   | (refine DrawW.as (.binOp _ _ _ _ _) ?_; first | refine DrawW.test rfl rfl rfl (fun hb => ?_) (fun hb => ?_) | refine DrawW.val (v := .sc (.int _ _)) rfl rfl rfl rfl rfl rfl ?_ | refine DrawW.val rfl rfl rfl rfl rfl rfl ?_)
   | (refine DrawW.as (.indexAddr _ _ _) ?_; first | refine DrawW.index rfl rfl rfl rfl (Int.natCast_nonneg _) (by first | exact hidx1 | exact hidx2) rfl ?_ | refine DrawW.val rfl rfl rfl rfl rfl rfl ?_)
   | (refine DrawW.as (.call _) ?_; first | refine DrawW.val (v := .sc (.int _ _)) rfl rfl rfl rfl rfl rfl ?_ | refine DrawW.call (v := .sc (.bool true)) rfl rfl rfl (hcall1 _) rfl ?_ | refine DrawW.call (v := .sc (.bool false)) rfl rfl rfl (hcall1 _) rfl ?_ | refine DrawW.callB rfl rfl rfl (hcall1 _) rfl (fun hb => ?_) (fun hb => ?_) | refine DrawW.call rfl rfl rfl (hcall1 _) rfl ?_ | refine DrawW.actv rfl rfl rfl rfl ?_)
   | (refine DrawW.as (.unOp _ _ _) ?_; first | refine DrawW.val (v := .sc (.bool _)) rfl rfl rfl rfl rfl rfl ?_ | refine DrawW.val (v := .sc (.int _ _)) rfl rfl rfl rfl rfl rfl ?_)
   | (refine DrawW.as (.box _ _) ?_; refine DrawW.box rfl rfl rfl rfl ?_)
   | (refine DrawW.as (.alloc _) ?_; refine DrawW.alloc rfl rfl rfl rfl rfl ?_)
   | (refine DrawW.as (.store _ _ _) ?_; refine DrawW.put rfl rfl rfl rfl rfl rfl rfl rfl rfl ?_)
   | refine DrawW.store rfl ?_
   | refine DrawW.fin (by kernel_rfl) ?_
   | (refine DrawW.as (.buildSlice _ _ _) ?_; refine DrawW.buildSlice rfl rfl rfl rfl rfl rfl rfl rfl ?_)
   | refine DrawW.val rfl rfl rfl rfl rfl rfl ?_
   | refine DrawW.actv rfl rfl rfl rfl ?_)
  | refine PR.seq ?_
  | refine PR.region hP hR rfl rfl ?_
  | refine PR.draw hP hR rfl rfl (by kernel_rfl) ?_
  | refine PR.yes rfl ?_
  | refine PR.no rfl ?_
  | refine PR.block ?_
  | refine PR.skip hP rfl rfl ?_
  | refine PR.exit hP rfl rfl ?_
  | refine PR.ret hP rfl rfl ?_
  · have := ht.ne (fun e => by rw [e] at hb; simp at hb)
    subst this
    exact ⟨.inl rfl, rfl, _, 1, rfl, rfl⟩
  · have hll : l.length = l'.length := by
      simp only [bne_eq_false_iff_eq] at hb
      omega
    refine PR.loop ?_
    obtain ⟨i, hi0⟩ : ∃ i : Nat, i = 0 := ⟨0, rfl⟩
    refine PR.to [(0, .isl (Tm.rows l) 7), (1, .isl (Tm.rows l') 7), (2, .sc (.func (.func 21) #[] #[])), (15, .isl (Tm.rows l) 7), (16, .sc (.int .i64 ((Tm.rows l).length : Int))), (17, .sc (.int .i64 (i : Int)))] [] 0 rfl ⟨rfl, rfl, rfl, rfl, rfl, rfl, rfl, rfl, rfl, rfl, by subst hi0; rfl, rfl, trivial⟩ trivial ?_
    have hil : i ≤ l.length := by omega
    have hpre : ∀ j, j < i → l[j]? = l'[j]? := fun j hj => by omega
    clear hi0 hb
    induction hm : l.length - i generalizing i with
    | zero =>
      refine PR.around ?_
      repeat' first
      | (refine OpsW.id ?_; first
       | (refine OpsW.guarded ?_; first | refine OpsW.met rfl rfl rfl ?_ | refine OpsW.unmet rfl rfl rfl rfl ?_ | refine OpsW.gone rfl rfl rfl ?_)
       | (refine OpsW.as (.fieldAddr _ _ _) ?_; first | refine OpsW.val (v := .ref _ _ _ _) rfl rfl ?_ | refine OpsW.val (v := .pref _) rfl rfl ?_)
       | ((first | refine OpsW.as (.load _ _) ?_ | refine OpsW.as (.move _) ?_ | refine OpsW.as (.pick _ _ _) ?_ | refine OpsW.as (.assign _) ?_ | refine OpsW.as (.extract _ _) ?_); first | refine OpsW.val (v := .sc (.bool _)) rfl rfl ?_ | refine OpsW.val (v := .sc (.int _ _)) rfl rfl ?_ | refine OpsW.val (v := .ref _ _ _ _) rfl rfl ?_ | refine OpsW.val (v := .isl _ _) rfl rfl ?_ | refine OpsW.val (v := .sc (.string _)) rfl rfl ?_ | refine OpsW.val (v := .agg _) rfl rfl ?_ | refine OpsW.val rfl rfl ?_)
       | (refine OpsW.as (.binOp _ _ _ _ _) ?_; first | refine OpsW.test rfl rfl (fun hb => ?_) (fun hb => ?_) | refine OpsW.val (v := .sc (.int _ _)) rfl rfl ?_ | refine OpsW.val rfl rfl ?_)
       | (refine OpsW.as (.indexAddr _ _ _) ?_; first | refine OpsW.index rfl rfl rfl rfl (Int.natCast_nonneg _) (by first | exact hidx1 | exact hidx2) rfl ?_ | refine OpsW.val rfl rfl ?_)
       | (refine OpsW.as (.call _) ?_; first | refine OpsW.val (v := .sc (.int _ _)) rfl rfl ?_ | refine OpsW.call (v := .sc (.bool true)) rfl (hcall1 _) rfl ?_ | refine OpsW.call (v := .sc (.bool false)) rfl (hcall1 _) rfl ?_ | refine OpsW.callB rfl (hcall1 _) rfl (fun hb => ?_) (fun hb => ?_) | refine OpsW.call rfl (hcall1 _) rfl ?_ | refine OpsW.val rfl rfl ?_)
       | (refine OpsW.as (.unOp _ _ _) ?_; first | refine OpsW.val (v := .sc (.bool _)) rfl rfl ?_ | refine OpsW.val (v := .sc (.int _ _)) rfl rfl ?_)
       | (refine OpsW.as (.box _ _) ?_; refine OpsW.box rfl rfl rfl rfl ?_)
       | (refine OpsW.as (.alloc _) ?_; refine OpsW.alloc rfl rfl rfl rfl rfl ?_)
       | (refine OpsW.as (.store _ _ _) ?_; refine OpsW.put rfl rfl rfl rfl rfl rfl rfl rfl rfl ?_)
       | (refine OpsW.as (.buildSlice _ _ _) ?_; refine OpsW.buildSlice rfl rfl rfl rfl rfl rfl rfl rfl ?_)
       | refine OpsW.unit rfl ?_
       | refine OpsW.nil ?_
       | refine OpsW.val rfl rfl ?_)
      | (refine DrawW.id ?_; first
       | (refine DrawW.guarded ?_; first | refine DrawW.met rfl rfl ?_ | refine DrawW.unmet rfl rfl rfl rfl rfl ?_ | refine DrawW.gone rfl rfl rfl rfl ?_)
       | (refine DrawW.as (.fieldAddr _ _ _) ?_; first | refine DrawW.val (v := .ref _ _ _ _) rfl rfl rfl rfl rfl rfl ?_ | refine DrawW.val (v := .pref _) rfl rfl rfl rfl rfl rfl ?_)
       | ((first | refine DrawW.as (.load _ _) ?_ | refine DrawW.as (.move _) ?_ | refine DrawW.as (.pick _ _ _) ?_ | refine DrawW.as (.assign _) ?_ | refine DrawW.as (.extract _ _) ?_); first | refine DrawW.val (v := .sc (.bool _)) rfl rfl rfl rfl rfl rfl ?_ | refine DrawW.val (v := .sc (.int _ _)) rfl rfl rfl rfl rfl rfl ?_ | refine DrawW.val (v := .ref _ _ _ _) rfl rfl rfl rfl rfl rfl ?_ | refine DrawW.val (v := .isl _ _) rfl rfl rfl rfl rfl rfl ?_ | refine DrawW.val (v := .sc (.string _)) rfl rfl rfl rfl rfl rfl ?_ | refine DrawW.val (v := .agg _) rfl rfl rfl rfl rfl rfl ?_ | refine DrawW.val rfl rfl rfl rfl rfl rfl ?_)
       | (refine DrawW.as (.binOp _ _ _ _ _) ?_; first | refine DrawW.test rfl rfl rfl (fun hb => ?_) (fun hb => ?_) | refine DrawW.val (v := .sc (.int _ _)) rfl rfl rfl rfl rfl rfl ?_ | refine DrawW.val rfl rfl rfl rfl rfl rfl ?_)
       | (refine DrawW.as (.indexAddr _ _ _) ?_; first | refine DrawW.index rfl rfl rfl rfl (Int.natCast_nonneg _) (by first | exact hidx1 | exact hidx2) rfl ?_ | refine DrawW.val rfl rfl rfl rfl rfl rfl ?_)
       | (refine DrawW.as (.call _) ?_; first | refine DrawW.val (v := .sc (.int _ _)) rfl rfl rfl rfl rfl rfl ?_ | refine DrawW.call (v := .sc (.bool true)) rfl rfl rfl (hcall1 _) rfl ?_ | refine DrawW.call (v := .sc (.bool false)) rfl rfl rfl (hcall1 _) rfl ?_ | refine DrawW.callB rfl rfl rfl (hcall1 _) rfl (fun hb => ?_) (fun hb => ?_) | refine DrawW.call rfl rfl rfl (hcall1 _) rfl ?_ | refine DrawW.actv rfl rfl rfl rfl ?_)
       | (refine DrawW.as (.unOp _ _ _) ?_; first | refine DrawW.val (v := .sc (.bool _)) rfl rfl rfl rfl rfl rfl ?_ | refine DrawW.val (v := .sc (.int _ _)) rfl rfl rfl rfl rfl rfl ?_)
       | (refine DrawW.as (.box _ _) ?_; refine DrawW.box rfl rfl rfl rfl ?_)
       | (refine DrawW.as (.alloc _) ?_; refine DrawW.alloc rfl rfl rfl rfl rfl ?_)
       | (refine DrawW.as (.store _ _ _) ?_; refine DrawW.put rfl rfl rfl rfl rfl rfl rfl rfl rfl ?_)
       | refine DrawW.store rfl ?_
       | refine DrawW.fin (by kernel_rfl) ?_
       | (refine DrawW.as (.buildSlice _ _ _) ?_; refine DrawW.buildSlice rfl rfl rfl rfl rfl rfl rfl rfl ?_)
       | refine DrawW.val rfl rfl rfl rfl rfl rfl ?_
       | refine DrawW.actv rfl rfl rfl rfl ?_)
      | refine PR.seq ?_
      | refine PR.region hP hR rfl rfl ?_
      | refine PR.draw hP hR rfl rfl (by kernel_rfl) ?_
      | refine PR.yes rfl ?_
      | refine PR.no rfl ?_
      | refine PR.block ?_
      | refine PR.skip hP rfl rfl ?_
      | refine PR.exit hP rfl rfl ?_
      | refine PR.ret hP rfl rfl ?_
      · exfalso
        simp at hb
        omega
      · have := ht.eq (list_eq hll fun j hj => hpre j (by omega))
        subst this
        exact ⟨.inl rfl, rfl, _, 1, rfl, rfl⟩
    | succ m ih =>
      have hlt : i < l.length := by omega
      have hlt' : i < l'.length := by omega
      have hx : l[i]? = some l[i] := List.getElem?_eq_getElem hlt
      have hy : l'[i]? = some l'[i] := List.getElem?_eq_getElem hlt'
      have hmem : l[i] ∈ l := List.getElem_mem hlt
      generalize l[i] = x at hx hmem
      generalize l'[i] = y at hy
      by_cases hxy : x = y
      · have hcall1 := hC x y true hmem ⟨fun _ => hxy, fun _ => rfl⟩
        obtain ⟨xo, xn, xi, ⟨xa, xb, xc⟩, xs⟩ := x
        obtain ⟨yo, yn, yi, ⟨ya, yb, yc⟩, ys⟩ := y
        have hidx1 : (Tm.rows l)[(i : Int).toNat]? = some (Tm.mk xo xn xi (.mk xa xb xc) xs).cells := by rw [Tm.rows_get, Int.toNat_natCast, hx]; rfl
        have hidx2 : (Tm.rows l')[(i : Int).toNat]? = some (Tm.mk yo yn yi (.mk ya yb yc) ys).cells := by rw [Tm.rows_get, Int.toNat_natCast, hy]; rfl
        refine PR.around ?_
        repeat' first
        | (refine OpsW.id ?_; first
         | (refine OpsW.guarded ?_; first | refine OpsW.met rfl rfl rfl ?_ | refine OpsW.unmet rfl rfl rfl rfl ?_ | refine OpsW.gone rfl rfl rfl ?_)
         | (refine OpsW.as (.fieldAddr _ _ _) ?_; first | refine OpsW.val (v := .ref _ _ _ _) rfl rfl ?_ | refine OpsW.val (v := .pref _) rfl rfl ?_)
         | ((first | refine OpsW.as (.load _ _) ?_ | refine OpsW.as (.move _) ?_ | refine OpsW.as (.pick _ _ _) ?_ | refine OpsW.as (.assign _) ?_ | refine OpsW.as (.extract _ _) ?_); first | refine OpsW.val (v := .sc (.bool _)) rfl rfl ?_ | refine OpsW.val (v := .sc (.int _ _)) rfl rfl ?_ | refine OpsW.val (v := .ref _ _ _ _) rfl rfl ?_ | refine OpsW.val (v := .isl _ _) rfl rfl ?_ | refine OpsW.val (v := .sc (.string _)) rfl rfl ?_ | refine OpsW.val (v := .agg _) rfl rfl ?_ | refine OpsW.val rfl rfl ?_)
         | (refine OpsW.as (.binOp _ _ _ _ _) ?_; first | refine OpsW.test rfl rfl (fun hb => ?_) (fun hb => ?_) | refine OpsW.val (v := .sc (.int _ _)) rfl rfl ?_ | refine OpsW.val rfl rfl ?_)
         | (refine OpsW.as (.indexAddr _ _ _) ?_; first | refine OpsW.index rfl rfl rfl rfl (Int.natCast_nonneg _) (by first | exact hidx1 | exact hidx2) rfl ?_ | refine OpsW.val rfl rfl ?_)
         | (refine OpsW.as (.call _) ?_; first | refine OpsW.val (v := .sc (.int _ _)) rfl rfl ?_ | refine OpsW.call (v := .sc (.bool true)) rfl (hcall1 _) rfl ?_ | refine OpsW.call (v := .sc (.bool false)) rfl (hcall1 _) rfl ?_ | refine OpsW.callB rfl (hcall1 _) rfl (fun hb => ?_) (fun hb => ?_) | refine OpsW.call rfl (hcall1 _) rfl ?_ | refine OpsW.val rfl rfl ?_)
         | (refine OpsW.as (.unOp _ _ _) ?_; first | refine OpsW.val (v := .sc (.bool _)) rfl rfl ?_ | refine OpsW.val (v := .sc (.int _ _)) rfl rfl ?_)
         | (refine OpsW.as (.box _ _) ?_; refine OpsW.box rfl rfl rfl rfl ?_)
         | (refine OpsW.as (.alloc _) ?_; refine OpsW.alloc rfl rfl rfl rfl rfl ?_)
         | (refine OpsW.as (.store _ _ _) ?_; refine OpsW.put rfl rfl rfl rfl rfl rfl rfl rfl rfl ?_)
         | (refine OpsW.as (.buildSlice _ _ _) ?_; refine OpsW.buildSlice rfl rfl rfl rfl rfl rfl rfl rfl ?_)
         | refine OpsW.unit rfl ?_
         | refine OpsW.nil ?_
         | refine OpsW.val rfl rfl ?_)
        | (refine DrawW.id ?_; first
         | (refine DrawW.guarded ?_; first | refine DrawW.met rfl rfl ?_ | refine DrawW.unmet rfl rfl rfl rfl rfl ?_ | refine DrawW.gone rfl rfl rfl rfl ?_)
         | (refine DrawW.as (.fieldAddr _ _ _) ?_; first | refine DrawW.val (v := .ref _ _ _ _) rfl rfl rfl rfl rfl rfl ?_ | refine DrawW.val (v := .pref _) rfl rfl rfl rfl rfl rfl ?_)
         | ((first | refine DrawW.as (.load _ _) ?_ | refine DrawW.as (.move _) ?_ | refine DrawW.as (.pick _ _ _) ?_ | refine DrawW.as (.assign _) ?_ | refine DrawW.as (.extract _ _) ?_); first | refine DrawW.val (v := .sc (.bool _)) rfl rfl rfl rfl rfl rfl ?_ | refine DrawW.val (v := .sc (.int _ _)) rfl rfl rfl rfl rfl rfl ?_ | refine DrawW.val (v := .ref _ _ _ _) rfl rfl rfl rfl rfl rfl ?_ | refine DrawW.val (v := .isl _ _) rfl rfl rfl rfl rfl rfl ?_ | refine DrawW.val (v := .sc (.string _)) rfl rfl rfl rfl rfl rfl ?_ | refine DrawW.val (v := .agg _) rfl rfl rfl rfl rfl rfl ?_ | refine DrawW.val rfl rfl rfl rfl rfl rfl ?_)
         | (refine DrawW.as (.binOp _ _ _ _ _) ?_; first | refine DrawW.test rfl rfl rfl (fun hb => ?_) (fun hb => ?_) | refine DrawW.val (v := .sc (.int _ _)) rfl rfl rfl rfl rfl rfl ?_ | refine DrawW.val rfl rfl rfl rfl rfl rfl ?_)
         | (refine DrawW.as (.indexAddr _ _ _) ?_; first | refine DrawW.index rfl rfl rfl rfl (Int.natCast_nonneg _) (by first | exact hidx1 | exact hidx2) rfl ?_ | refine DrawW.val rfl rfl rfl rfl rfl rfl ?_)
         | (refine DrawW.as (.call _) ?_; first | refine DrawW.val (v := .sc (.int _ _)) rfl rfl rfl rfl rfl rfl ?_ | refine DrawW.call (v := .sc (.bool true)) rfl rfl rfl (hcall1 _) rfl ?_ | refine DrawW.call (v := .sc (.bool false)) rfl rfl rfl (hcall1 _) rfl ?_ | refine DrawW.callB rfl rfl rfl (hcall1 _) rfl (fun hb => ?_) (fun hb => ?_) | refine DrawW.call rfl rfl rfl (hcall1 _) rfl ?_ | refine DrawW.actv rfl rfl rfl rfl ?_)
         | (refine DrawW.as (.unOp _ _ _) ?_; first | refine DrawW.val (v := .sc (.bool _)) rfl rfl rfl rfl rfl rfl ?_ | refine DrawW.val (v := .sc (.int _ _)) rfl rfl rfl rfl rfl rfl ?_)
         | (refine DrawW.as (.box _ _) ?_; refine DrawW.box rfl rfl rfl rfl ?_)
         | (refine DrawW.as (.alloc _) ?_; refine DrawW.alloc rfl rfl rfl rfl rfl ?_)
         | (refine DrawW.as (.store _ _ _) ?_; refine DrawW.put rfl rfl rfl rfl rfl rfl rfl rfl rfl ?_)
         | refine DrawW.store rfl ?_
         | refine DrawW.fin (by kernel_rfl) ?_
         | (refine DrawW.as (.buildSlice _ _ _) ?_; refine DrawW.buildSlice rfl rfl rfl rfl rfl rfl rfl rfl ?_)
         | refine DrawW.val rfl rfl rfl rfl rfl rfl ?_
         | refine DrawW.actv rfl rfl rfl rfl ?_)
        | refine PR.seq ?_
        | refine PR.region hP hR rfl rfl ?_
        | refine PR.draw hP hR rfl rfl (by kernel_rfl) ?_
        | refine PR.yes rfl ?_
        | refine PR.no rfl ?_
        | refine PR.block ?_
        | refine PR.skip hP rfl rfl ?_
        | refine PR.exit hP rfl rfl ?_
        | refine PR.ret hP rfl rfl ?_
        · refine PR.to [(0, .isl (Tm.rows l) 7), (1, .isl (Tm.rows l') 7), (2, .sc (.func (.func 21) #[] #[])), (15, .isl (Tm.rows l) 7), (16, .sc (.int .i64 ((Tm.rows l).length : Int))), (17, .sc (.int .i64 ((i + 1 : Nat) : Int)))] [] 0 rfl ⟨rfl, rfl, rfl, rfl, rfl, rfl, rfl, rfl, rfl, rfl, congrArg (fun z => some (AV.sc (.int .i64 z))) (wrap_succ hlt hl), rfl, trivial⟩ trivial ?_
          refine ih (i + 1) (by omega) (fun j hj => ?_) (by omega)
          rcases Nat.lt_or_ge j i with h3 | h3
          · exact hpre j h3
          · obtain rfl : j = i := by omega
            rw [hx, hy, hxy]
        · exfalso
          simp at hb
          omega
      · have hcall1 := hC x y false hmem ⟨fun e => (by cases e), fun e => absurd e hxy⟩
        have hne := ht.ne (fun e => by rw [e, hy] at hx; simp only [Option.some.injEq] at hx; exact hxy hx.symm)
        obtain ⟨xo, xn, xi, ⟨xa, xb, xc⟩, xs⟩ := x
        obtain ⟨yo, yn, yi, ⟨ya, yb, yc⟩, ys⟩ := y
        have hidx1 : (Tm.rows l)[(i : Int).toNat]? = some (Tm.mk xo xn xi (.mk xa xb xc) xs).cells := by rw [Tm.rows_get, Int.toNat_natCast, hx]; rfl
        have hidx2 : (Tm.rows l')[(i : Int).toNat]? = some (Tm.mk yo yn yi (.mk ya yb yc) ys).cells := by rw [Tm.rows_get, Int.toNat_natCast, hy]; rfl
        refine PR.around ?_
        repeat' first
        | (refine OpsW.id ?_; first
         | (refine OpsW.guarded ?_; first | refine OpsW.met rfl rfl rfl ?_ | refine OpsW.unmet rfl rfl rfl rfl ?_ | refine OpsW.gone rfl rfl rfl ?_)
         | (refine OpsW.as (.fieldAddr _ _ _) ?_; first | refine OpsW.val (v := .ref _ _ _ _) rfl rfl ?_ | refine OpsW.val (v := .pref _) rfl rfl ?_)
         | ((first | refine OpsW.as (.load _ _) ?_ | refine OpsW.as (.move _) ?_ | refine OpsW.as (.pick _ _ _) ?_ | refine OpsW.as (.assign _) ?_ | refine OpsW.as (.extract _ _) ?_); first | refine OpsW.val (v := .sc (.bool _)) rfl rfl ?_ | refine OpsW.val (v := .sc (.int _ _)) rfl rfl ?_ | refine OpsW.val (v := .ref _ _ _ _) rfl rfl ?_ | refine OpsW.val (v := .isl _ _) rfl rfl ?_ | refine OpsW.val (v := .sc (.string _)) rfl rfl ?_ | refine OpsW.val (v := .agg _) rfl rfl ?_ | refine OpsW.val rfl rfl ?_)
         | (refine OpsW.as (.binOp _ _ _ _ _) ?_; first | refine OpsW.test rfl rfl (fun hb => ?_) (fun hb => ?_) | refine OpsW.val (v := .sc (.int _ _)) rfl rfl ?_ | refine OpsW.val rfl rfl ?_)
         | (refine OpsW.as (.indexAddr _ _ _) ?_; first | refine OpsW.index rfl rfl rfl rfl (Int.natCast_nonneg _) (by first | exact hidx1 | exact hidx2) rfl ?_ | refine OpsW.val rfl rfl ?_)
         | (refine OpsW.as (.call _) ?_; first | refine OpsW.val (v := .sc (.int _ _)) rfl rfl ?_ | refine OpsW.call (v := .sc (.bool true)) rfl (hcall1 _) rfl ?_ | refine OpsW.call (v := .sc (.bool false)) rfl (hcall1 _) rfl ?_ | refine OpsW.callB rfl (hcall1 _) rfl (fun hb => ?_) (fun hb => ?_) | refine OpsW.call rfl (hcall1 _) rfl ?_ | refine OpsW.val rfl rfl ?_)
         | (refine OpsW.as (.unOp _ _ _) ?_; first | refine OpsW.val (v := .sc (.bool _)) rfl rfl ?_ | refine OpsW.val (v := .sc (.int _ _)) rfl rfl ?_)
         | (refine OpsW.as (.box _ _) ?_; refine OpsW.box rfl rfl rfl rfl ?_)
         | (refine OpsW.as (.alloc _) ?_; refine OpsW.alloc rfl rfl rfl rfl rfl ?_)
         | (refine OpsW.as (.store _ _ _) ?_; refine OpsW.put rfl rfl rfl rfl rfl rfl rfl rfl rfl ?_)
         | (refine OpsW.as (.buildSlice _ _ _) ?_; refine OpsW.buildSlice rfl rfl rfl rfl rfl rfl rfl rfl ?_)
         | refine OpsW.unit rfl ?_
         | refine OpsW.nil ?_
         | refine OpsW.val rfl rfl ?_)
        | (refine DrawW.id ?_; first
         | (refine DrawW.guarded ?_; first | refine DrawW.met rfl rfl ?_ | refine DrawW.unmet rfl rfl rfl rfl rfl ?_ | refine DrawW.gone rfl rfl rfl rfl ?_)
         | (refine DrawW.as (.fieldAddr _ _ _) ?_; first | refine DrawW.val (v := .ref _ _ _ _) rfl rfl rfl rfl rfl rfl ?_ | refine DrawW.val (v := .pref _) rfl rfl rfl rfl rfl rfl ?_)
         | ((first | refine DrawW.as (.load _ _) ?_ | refine DrawW.as (.move _) ?_ | refine DrawW.as (.pick _ _ _) ?_ | refine DrawW.as (.assign _) ?_ | refine DrawW.as (.extract _ _) ?_); first | refine DrawW.val (v := .sc (.bool _)) rfl rfl rfl rfl rfl rfl ?_ | refine DrawW.val (v := .sc (.int _ _)) rfl rfl rfl rfl rfl rfl ?_ | refine DrawW.val (v := .ref _ _ _ _) rfl rfl rfl rfl rfl rfl ?_ | refine DrawW.val (v := .isl _ _) rfl rfl rfl rfl rfl rfl ?_ | refine DrawW.val (v := .sc (.string _)) rfl rfl rfl rfl rfl rfl ?_ | refine DrawW.val (v := .agg _) rfl rfl rfl rfl rfl rfl ?_ | refine DrawW.val rfl rfl rfl rfl rfl rfl ?_)
         | (refine DrawW.as (.binOp _ _ _ _ _) ?_; first | refine DrawW.test rfl rfl rfl (fun hb => ?_) (fun hb => ?_) | refine DrawW.val (v := .sc (.int _ _)) rfl rfl rfl rfl rfl rfl ?_ | refine DrawW.val rfl rfl rfl rfl rfl rfl ?_)
         | (refine DrawW.as (.indexAddr _ _ _) ?_; first | refine DrawW.index rfl rfl rfl rfl (Int.natCast_nonneg _) (by first | exact hidx1 | exact hidx2) rfl ?_ | refine DrawW.val rfl rfl rfl rfl rfl rfl ?_)
         | (refine DrawW.as (.call _) ?_; first | refine DrawW.val (v := .sc (.int _ _)) rfl rfl rfl rfl rfl rfl ?_ | refine DrawW.call (v := .sc (.bool true)) rfl rfl rfl (hcall1 _) rfl ?_ | refine DrawW.call (v := .sc (.bool false)) rfl rfl rfl (hcall1 _) rfl ?_ | refine DrawW.callB rfl rfl rfl (hcall1 _) rfl (fun hb => ?_) (fun hb => ?_) | refine DrawW.call rfl rfl rfl (hcall1 _) rfl ?_ | refine DrawW.actv rfl rfl rfl rfl ?_)
         | (refine DrawW.as (.unOp _ _ _) ?_; first | refine DrawW.val (v := .sc (.bool _)) rfl rfl rfl rfl rfl rfl ?_ | refine DrawW.val (v := .sc (.int _ _)) rfl rfl rfl rfl rfl rfl ?_)
         | (refine DrawW.as (.box _ _) ?_; refine DrawW.box rfl rfl rfl rfl ?_)
         | (refine DrawW.as (.alloc _) ?_; refine DrawW.alloc rfl rfl rfl rfl rfl ?_)
         | (refine DrawW.as (.store _ _ _) ?_; refine DrawW.put rfl rfl rfl rfl rfl rfl rfl rfl rfl ?_)
         | refine DrawW.store rfl ?_
         | refine DrawW.fin (by kernel_rfl) ?_
         | (refine DrawW.as (.buildSlice _ _ _) ?_; refine DrawW.buildSlice rfl rfl rfl rfl rfl rfl rfl rfl ?_)
         | refine DrawW.val rfl rfl rfl rfl rfl rfl ?_
         | refine DrawW.actv rfl rfl rfl rfl ?_)
        | refine PR.seq ?_
        | refine PR.region hP hR rfl rfl ?_
        | refine PR.draw hP hR rfl rfl (by kernel_rfl) ?_
        | refine PR.yes rfl ?_
        | refine PR.no rfl ?_
        | refine PR.block ?_
        | refine PR.skip hP rfl rfl ?_
        | refine PR.exit hP rfl rfl ?_
        | refine PR.ret hP rfl rfl ?_
        · subst hne
          exact ⟨.inl rfl, rfl, _, 1, rfl, rfl⟩
        · exfalso
          simp at hb
          omega
end Go.AI
end

section
namespace Go.AI
open Go Go.Proofs
set_option maxRecDepth 10000
set_option maxHeartbeats 4000000

theorem w22 {R : Rec} (hP : ProgOK Tryz.prog) (hR : RecOK Tryz.prog R) (l l' : List Prf) (hl : l.length ≤ 9223372036854775807) (t : Bool) (ht : EqT l l' t)
    (hC : ∀ (a b : Prf) (t : Bool), a ∈ l → EqT a b t → ∀ h, R.call .normal 7 [.agg a.cells, .agg b.cells] .none h = some (.ret (.sc (.bool t)), .none, h)) (h : AHeap) :
    CallOK Tryz.prog 22 [.isl (Prf.rows l) 7, .isl (Prf.rows l') 7, .sc (.func (.func 7) #[] #[])] h (.ret (.sc (.bool t))) h := by
  have hlen := Prf.rows_length l
  have hlen' := Prf.rows_length l'
  refine PR.call hP Tryz.func22 rfl rfl ?_ h
  repeat' first
  | (refine OpsW.id ?_; first
   | (refine OpsW.guarded ?_; first | refine OpsW.met rfl rfl rfl ?_ | refine OpsW.unmet rfl rfl rfl rfl ?_ | refine OpsW.gone rfl rfl rfl ?_)
   | (refine OpsW.as (.fieldAddr _ _ _) ?_; first | refine OpsW.val (v := .ref _ _ _ _) rfl rfl ?_ | refine OpsW.val (v := .pref _) rfl rfl ?_)
   | ((first | refine OpsW.as (.load _ _) ?_ | refine OpsW.as (.move _) ?_ | refine OpsW.as (.pick _ _ _) ?_ | refine OpsW.as (.assign _) ?_ | refine OpsW.as (.extract _ _) ?_); first | refine OpsW.val (v := .sc (.bool _)) rfl rfl ?_ | refine OpsW.val (v := .sc (.int _ _)) rfl rfl ?_ | refine OpsW.val (v := .ref _ _ _ _) rfl rfl ?_ | refine OpsW.val (v := .isl _ _) rfl rfl ?_ | refine OpsW.val (v := .sc (.string _)) rfl rfl ?_ | refine OpsW.val (v := .agg _) rfl rfl ?_ | refine OpsW.val rfl rfl ?_)
   | (refine OpsW.as (.binOp _ _ _ _ _) ?_; first | refine OpsW.test rfl rfl (fun hb => ?_) (fun hb => ?_) | refine OpsW.val (v := .sc (.int _ _)) rfl rfl ?_ | refine OpsW.val rfl rfl ?_)
   | (refine OpsW.as (.indexAddr _ _ _) ?_; first | refine OpsW.index rfl rfl rfl rfl (Int.natCast_nonneg _) (by first | exact hidx1 | exact hidx2) rfl ?_ | refine OpsW.val rfl rfl ?_)
   | (refine OpsW.as (.call _) ?_; first | refine OpsW.val (v := .sc (.int _ _)) rfl rfl ?_ | refine OpsW.call (v := .sc (.bool true)) rfl (hcall1 _) rfl ?_ | refine OpsW.call (v := .sc (.bool false)) rfl (hcall1 _) rfl ?_ | refine OpsW.callB rfl (hcall1 _) rfl (fun hb => ?_) (fun hb => ?_) | refine OpsW.call rfl (hcall1 _) rfl ?_ | refine OpsW.val rfl rfl ?_)
   | (refine OpsW.as (.unOp _ _ _) ?_; first | refine OpsW.val (v := .sc (.bool _)) rfl rfl ?_ | refine OpsW.val (v := .sc (.int _ _)) rfl rfl ?_)
   | (refine OpsW.as (.box _ _) ?_; refine OpsW.box rfl rfl rfl rfl ?_)
   | (refine OpsW.as (.alloc _) ?_; refine OpsW.alloc rfl rfl rfl rfl rfl ?_)
   | (refine OpsW.as (.store _ _ _) ?_; refine OpsW.put rfl rfl rfl rfl rfl rfl rfl rfl rfl ?_)
   | (refine OpsW.as (.buildSlice _ _ _) ?_; refine OpsW.buildSlice rfl rfl rfl rfl rfl rfl rfl rfl ?_)
   | refine OpsW.unit rfl ?_
   | refine OpsW.nil ?_
   | refine OpsW.val rfl rfl ?_)
  | (refine DrawW.id ?_; first
   | (refine DrawW.guarded ?_; first | refine DrawW.met rfl rfl ?_ | refine DrawW.unmet rfl rfl rfl rfl rfl ?_ | refine DrawW.gone rfl rfl rfl rfl ?_)
   | (refine DrawW.as (.fieldAddr _ _ _) ?_; first | refine DrawW.val (v := .ref _ _ _ _) rfl rfl rfl rfl rfl rfl ?_ | refine DrawW.val (v := .pref _) rfl rfl rfl rfl rfl rfl ?_)
   | ((first | refine DrawW.as (.load _ _) ?_ | refine DrawW.as (.move _) ?_ | refine DrawW.as (.pick _ _ _) ?_ | refine DrawW.as (.assign _) ?_ | refine DrawW.as (.extract _ _) ?_); first | refine DrawW.val (v := .sc (.bool _)) rfl rfl rfl rfl rfl rfl ?_ | refine DrawW.val (v := .sc (.int _ _)) rfl rfl rfl rfl rfl rfl ?_ | refine DrawW.val (v := .ref _ _ _ _) rfl rfl rfl rfl rfl rfl ?_ | refine DrawW.val (v := .isl _ _) rfl rfl rfl rfl rfl rfl ?_ | refine DrawW.val (v := .sc (.string _)) rfl rfl rfl rfl rfl rfl ?_ | refine DrawW.val (v := .agg _) rfl rfl rfl rfl rfl rfl ?_ | refine DrawW.val rfl rfl rfl rfl rfl rfl ?_)
   | (refine DrawW.as (.binOp _ _ _ _ _) ?_; first | refine DrawW.test rfl rfl rfl (fun hb => ?_) (fun hb => ?_) | refine DrawW.val (v := .sc (.int _ _)) rfl rfl rfl rfl rfl rfl ?_ | refine DrawW.val rfl rfl rfl rfl rfl rfl ?_)
   | (refine DrawW.as (.indexAddr _ _ _) ?_; first | refine DrawW.index rfl rfl rfl rfl (Int.natCast_nonneg _) (by first | exact hidx1 | exact hidx2) rfl ?_ | refine DrawW.val rfl rfl rfl rfl rfl rfl ?_)
   | (refine DrawW.as (.call _) ?_; first | refine DrawW.val (v := .sc (.int _ _)) rfl rfl rfl rfl rfl rfl ?_ | refine DrawW.call (v := .sc (.bool true)) rfl rfl rfl (hcall1 _) rfl ?_ | refine DrawW.call (v := .sc (.bool false)) rfl rfl rfl (hcall1 _) rfl ?_ | refine DrawW.callB rfl rfl rfl (hcall1 _) rfl (fun hb => ?_) (fun hb => ?_) | refine DrawW.call rfl rfl rfl (hcall1 _) rfl ?_ | refine DrawW.actv rfl rfl rfl rfl ?_)
   | (refine DrawW.as (.unOp _ _ _) ?_; first | refine DrawW.val (v := .sc (.bool _)) rfl rfl rfl rfl rfl rfl ?_ | refine DrawW.val (v := .sc (.int _ _)) rfl rfl rfl rfl rfl rfl ?_)
   | (refine DrawW.as (.box _ _) ?_; refine DrawW.box rfl rfl rfl rfl ?_)
   | (refine DrawW.as (.alloc _) ?_; refine DrawW.alloc rfl rfl rfl rfl rfl ?_)
   | (refine DrawW.as (.store _ _ _) ?_; refine DrawW.put rfl rfl rfl rfl rfl rfl rfl rfl rfl ?_)
   | refine DrawW.store rfl ?_
   | refine DrawW.fin (by kernel_rfl) ?_
   | (refine DrawW.as (.buildSlice _ _ _) ?_; refine DrawW.buildSlice rfl rfl rfl rfl rfl rfl rfl rfl ?_)
   | refine DrawW.val rfl rfl rfl rfl rfl rfl ?_
   | refine DrawW.actv rfl rfl rfl rfl ?_)
  | refine PR.seq ?_
  | refine PR.region hP hR rfl rfl ?_
  | refine PR.draw hP hR rfl rfl (by kernel_rfl) ?_
  | refine PR.yes rfl ?_
  | refine PR.no rfl ?_
  | refine PR.block ?_
  | refine PR.skip hP rfl rfl ?_
  | refine PR.exit hP rfl rfl ?_
  | refine PR.ret hP rfl rfl ?_
  · have := ht.ne (fun e => by rw [e] at hb; simp at hb)
    subst this
    exact ⟨.inl rfl, rfl, _, 1, rfl, rfl⟩
  · have hll : l.length = l'.length := by
      simp only [bne_eq_false_iff_eq] at hb
      omega
    refine PR.loop ?_
    obtain ⟨i, hi0⟩ : ∃ i : Nat, i = 0 := ⟨0, rfl⟩
    refine PR.to [(0, .isl (Prf.rows l) 7), (1, .isl (Prf.rows l') 7), (2, .sc (.func (.func 7) #[] #[])), (15, .isl (Prf.rows l) 7), (16, .sc (.int .i64 ((Prf.rows l).length : Int))), (17, .sc (.int .i64 (i : Int)))] [] 0 rfl ⟨rfl, rfl, rfl, rfl, rfl, rfl, rfl, rfl, rfl, rfl, by subst hi0; rfl, rfl, trivial⟩ trivial ?_
    have hil : i ≤ l.length := by omega
    have hpre : ∀ j, j < i → l[j]? = l'[j]? := fun j hj => by omega
    clear hi0 hb
    induction hm : l.length - i generalizing i with
    | zero =>
      refine PR.around ?_
      repeat' first
      | (refine OpsW.id ?_; first
       | (refine OpsW.guarded ?_; first | refine OpsW.met rfl rfl rfl ?_ | refine OpsW.unmet rfl rfl rfl rfl ?_ | refine OpsW.gone rfl rfl rfl ?_)
       | (refine OpsW.as (.fieldAddr _ _ _) ?_; first | refine OpsW.val (v := .ref _ _ _ _) rfl rfl ?_ | refine OpsW.val (v := .pref _) rfl rfl ?_)
       | ((first | refine OpsW.as (.load _ _) ?_ | refine OpsW.as (.move _) ?_ | refine OpsW.as (.pick _ _ _) ?_ | refine OpsW.as (.assign _) ?_ | refine OpsW.as (.extract _ _) ?_); first | refine OpsW.val (v := .sc (.bool _)) rfl rfl ?_ | refine OpsW.val (v := .sc (.int _ _)) rfl rfl ?_ | refine OpsW.val (v := .ref _ _ _ _) rfl rfl ?_ | refine OpsW.val (v := .isl _ _) rfl rfl ?_ | refine OpsW.val (v := .sc (.string _)) rfl rfl ?_ | refine OpsW.val (v := .agg _) rfl rfl ?_ | refine OpsW.val rfl rfl ?_)
       | (refine OpsW.as (.binOp _ _ _ _ _) ?_; first | refine OpsW.test rfl rfl (fun hb => ?_) (fun hb => ?_) | refine OpsW.val (v := .sc (.int _ _)) rfl rfl ?_ | refine OpsW.val rfl rfl ?_)
       | (refine OpsW.as (.indexAddr _ _ _) ?_; first | refine OpsW.index rfl rfl rfl rfl (Int.natCast_nonneg _) (by first | exact hidx1 | exact hidx2) rfl ?_ | refine OpsW.val rfl rfl ?_)
       | (refine OpsW.as (.call _) ?_; first | refine OpsW.val (v := .sc (.int _ _)) rfl rfl ?_ | refine OpsW.call (v := .sc (.bool true)) rfl (hcall1 _) rfl ?_ | refine OpsW.call (v := .sc (.bool false)) rfl (hcall1 _) rfl ?_ | refine OpsW.callB rfl (hcall1 _) rfl (fun hb => ?_) (fun hb => ?_) | refine OpsW.call rfl (hcall1 _) rfl ?_ | refine OpsW.val rfl rfl ?_)
       | (refine OpsW.as (.unOp _ _ _) ?_; first | refine OpsW.val (v := .sc (.bool _)) rfl rfl ?_ | refine OpsW.val (v := .sc (.int _ _)) rfl rfl ?_)
       | (refine OpsW.as (.box _ _) ?_; refine OpsW.box rfl rfl rfl rfl ?_)
       | (refine OpsW.as (.alloc _) ?_; refine OpsW.alloc rfl rfl rfl rfl rfl ?_)
       | (refine OpsW.as (.store _ _ _) ?_; refine OpsW.put rfl rfl rfl rfl rfl rfl rfl rfl rfl ?_)
       | (refine OpsW.as (.buildSlice _ _ _) ?_; refine OpsW.buildSlice rfl rfl rfl rfl rfl rfl rfl rfl ?_)
       | refine OpsW.unit rfl ?_
       | refine OpsW.nil ?_
       | refine OpsW.val rfl rfl ?_)
      | (refine DrawW.id ?_; first
       | (refine DrawW.guarded ?_; first | refine DrawW.met rfl rfl ?_ | refine DrawW.unmet rfl rfl rfl rfl rfl ?_ | refine DrawW.gone rfl rfl rfl rfl ?_)
       | (refine DrawW.as (.fieldAddr _ _ _) ?_; first | refine DrawW.val (v := .ref _ _ _ _) rfl rfl rfl rfl rfl rfl ?_ | refine DrawW.val (v := .pref _) rfl rfl rfl rfl rfl rfl ?_)
       | ((first | refine DrawW.as (.load _ _) ?_ | refine DrawW.as (.move _) ?_ | refine DrawW.as (.pick _ _ _) ?_ | refine DrawW.as (.assign _) ?_ | refine DrawW.as (.extract _ _) ?_); first | refine DrawW.val (v := .sc (.bool _)) rfl rfl rfl rfl rfl rfl ?_ | refine DrawW.val (v := .sc (.int _ _)) rfl rfl rfl rfl rfl rfl ?_ | refine DrawW.val (v := .ref _ _ _ _) rfl rfl rfl rfl rfl rfl ?_ | refine DrawW.val (v := .isl _ _) rfl rfl rfl rfl rfl rfl ?_ | refine DrawW.val (v := .sc (.string _)) rfl rfl rfl rfl rfl rfl ?_ | refine DrawW.val (v := .agg _) rfl rfl rfl rfl rfl rfl ?_ | refine DrawW.val rfl rfl rfl rfl rfl rfl ?_)
       | (refine DrawW.as (.binOp _ _ _ _ _) ?_; first | refine DrawW.test rfl rfl rfl (fun hb => ?_) (fun hb => ?_) | refine DrawW.val (v := .sc (.int _ _)) rfl rfl rfl rfl rfl rfl ?_ | refine DrawW.val rfl rfl rfl rfl rfl rfl ?_)
       | (refine DrawW.as (.indexAddr _ _ _) ?_; first | refine DrawW.index rfl rfl rfl rfl (Int.natCast_nonneg _) (by first | exact hidx1 | exact hidx2) rfl ?_ | refine DrawW.val rfl rfl rfl rfl rfl rfl ?_)
       | (refine DrawW.as (.call _) ?_; first | refine DrawW.val (v := .sc (.int _ _)) rfl rfl rfl rfl rfl rfl ?_ | refine DrawW.call (v := .sc (.bool true)) rfl rfl rfl (hcall1 _) rfl ?_ | refine DrawW.call (v := .sc (.bool false)) rfl rfl rfl (hcall1 _) rfl ?_ | refine DrawW.callB rfl rfl rfl (hcall1 _) rfl (fun hb => ?_) (fun hb => ?_) | refine DrawW.call rfl rfl rfl (hcall1 _) rfl ?_ | refine DrawW.actv rfl rfl rfl rfl ?_)
       | (refine DrawW.as (.unOp _ _ _) ?_; first | refine DrawW.val (v := .sc (.bool _)) rfl rfl rfl rfl rfl rfl ?_ | refine DrawW.val (v := .sc (.int _ _)) rfl rfl rfl rfl rfl rfl ?_)
       | (refine DrawW.as (.box _ _) ?_; refine DrawW.box rfl rfl rfl rfl ?_)
       | (refine DrawW.as (.alloc _) ?_; refine DrawW.alloc rfl rfl rfl rfl rfl ?_)
       | (refine DrawW.as (.store _ _ _) ?_; refine DrawW.put rfl rfl rfl rfl rfl rfl rfl rfl rfl ?_)
       | refine DrawW.store rfl ?_
       | refine DrawW.fin (by kernel_rfl) ?_
       | (refine DrawW.as (.buildSlice _ _ _) ?_; refine DrawW.buildSlice rfl rfl rfl rfl rfl rfl rfl rfl ?_)
       | refine DrawW.val rfl rfl rfl rfl rfl rfl ?_
       | refine DrawW.actv rfl rfl rfl rfl ?_)
      | refine PR.seq ?_
      | refine PR.region hP hR rfl rfl ?_
      | refine PR.draw hP hR rfl rfl (by kernel_rfl) ?_
      | refine PR.yes rfl ?_
      | refine PR.no rfl ?_
      | refine PR.block ?_
      | refine PR.skip hP rfl rfl ?_
      | refine PR.exit hP rfl rfl ?_
      | refine PR.ret hP rfl rfl ?_
      · exfalso
        simp at hb
        omega
      · have := ht.eq (list_eq hll fun j hj => hpre j (by omega))
        subst this
        exact ⟨.inl rfl, rfl, _, 1, rfl, rfl⟩
    | succ m ih =>
      have hlt : i < l.length := by omega
      have hlt' : i < l'.length := by omega
      have hx : l[i]? = some l[i] := List.getElem?_eq_getElem hlt
      have hy : l'[i]? = some l'[i] := List.getElem?_eq_getElem hlt'
      have hmem : l[i] ∈ l := List.getElem_mem hlt
      generalize l[i] = x at hx hmem
      generalize l'[i] = y at hy
      by_cases hxy : x = y
      · have hcall1 := hC x y true hmem ⟨fun _ => hxy, fun _ => rfl⟩
        obtain ⟨⟨x1, x2, x3, x4, x5, x6⟩, xs⟩ := x
        obtain ⟨⟨y1, y2, y3, y4, y5, y6⟩, ys⟩ := y
        have hidx1 : (Prf.rows l)[(i : Int).toNat]? = some (Prf.mk ⟨x1, x2, x3, x4, x5, x6⟩ xs).cells := by rw [Prf.rows_get, Int.toNat_natCast, hx]; rfl
        have hidx2 : (Prf.rows l')[(i : Int).toNat]? = some (Prf.mk ⟨y1, y2, y3, y4, y5, y6⟩ ys).cells := by rw [Prf.rows_get, Int.toNat_natCast, hy]; rfl
        refine PR.around ?_
        repeat' first
        | (refine OpsW.id ?_; first
         | (refine OpsW.guarded ?_; first | refine OpsW.met rfl rfl rfl ?_ | refine OpsW.unmet rfl rfl rfl rfl ?_ | refine OpsW.gone rfl rfl rfl ?_)
         | (refine OpsW.as (.fieldAddr _ _ _) ?_; first | refine OpsW.val (v := .ref _ _ _ _) rfl rfl ?_ | refine OpsW.val (v := .pref _) rfl rfl ?_)
         | ((first | refine OpsW.as (.load _ _) ?_ | refine OpsW.as (.move _) ?_ | refine OpsW.as (.pick _ _ _) ?_ | refine OpsW.as (.assign _) ?_ | refine OpsW.as (.extract _ _) ?_); first | refine OpsW.val (v := .sc (.bool _)) rfl rfl ?_ | refine OpsW.val (v := .sc (.int _ _)) rfl rfl ?_ | refine OpsW.val (v := .ref _ _ _ _) rfl rfl ?_ | refine OpsW.val (v := .isl _ _) rfl rfl ?_ | refine OpsW.val (v := .sc (.string _)) rfl rfl ?_ | refine OpsW.val (v := .agg _) rfl rfl ?_ | refine OpsW.val rfl rfl ?_)
         | (refine OpsW.as (.binOp _ _ _ _ _) ?_; first | refine OpsW.test rfl rfl (fun hb => ?_) (fun hb => ?_) | refine OpsW.val (v := .sc (.int _ _)) rfl rfl ?_ | refine OpsW.val rfl rfl ?_)
         | (refine OpsW.as (.indexAddr _ _ _) ?_; first | refine OpsW.index rfl rfl rfl rfl (Int.natCast_nonneg _) (by first | exact hidx1 | exact hidx2) rfl ?_ | refine OpsW.val rfl rfl ?_)
         | (refine OpsW.as (.call _) ?_; first | refine OpsW.val (v := .sc (.int _ _)) rfl rfl ?_ | refine OpsW.call (v := .sc (.bool true)) rfl (hcall1 _) rfl ?_ | refine OpsW.call (v := .sc (.bool false)) rfl (hcall1 _) rfl ?_ | refine OpsW.callB rfl (hcall1 _) rfl (fun hb => ?_) (fun hb => ?_) | refine OpsW.call rfl (hcall1 _) rfl ?_ | refine OpsW.val rfl rfl ?_)
         | (refine OpsW.as (.unOp _ _ _) ?_; first | refine OpsW.val (v := .sc (.bool _)) rfl rfl ?_ | refine OpsW.val (v := .sc (.int _ _)) rfl rfl ?_)
         | (refine OpsW.as (.box _ _) ?_; refine OpsW.box rfl rfl rfl rfl ?_)
         | (refine OpsW.as (.alloc _) ?_; refine OpsW.alloc rfl rfl rfl rfl rfl ?_)
         | (refine OpsW.as (.store _ _ _) ?_; refine OpsW.put rfl rfl rfl rfl rfl rfl rfl rfl rfl ?_)
         | (refine OpsW.as (.buildSlice _ _ _) ?_; refine OpsW.buildSlice rfl rfl rfl rfl rfl rfl rfl rfl ?_)
         | refine OpsW.unit rfl ?_
         | refine OpsW.nil ?_
         | refine OpsW.val rfl rfl ?_)
        | (refine DrawW.id ?_; first
         | (refine DrawW.guarded ?_; first | refine DrawW.met rfl rfl ?_ | refine DrawW.unmet rfl rfl rfl rfl rfl ?_ | refine DrawW.gone rfl rfl rfl rfl ?_)
         | (refine DrawW.as (.fieldAddr _ _ _) ?_; first | refine DrawW.val (v := .ref _ _ _ _) rfl rfl rfl rfl rfl rfl ?_ | refine DrawW.val (v := .pref _) rfl rfl rfl rfl rfl rfl ?_)
         | ((first | refine DrawW.as (.load _ _) ?_ | refine DrawW.as (.move _) ?_ | refine DrawW.as (.pick _ _ _) ?_ | refine DrawW.as (.assign _) ?_ | refine DrawW.as (.extract _ _) ?_); first | refine DrawW.val (v := .sc (.bool _)) rfl rfl rfl rfl rfl rfl ?_ | refine DrawW.val (v := .sc (.int _ _)) rfl rfl rfl rfl rfl rfl ?_ | refine DrawW.val (v := .ref _ _ _ _) rfl rfl rfl rfl rfl rfl ?_ | refine DrawW.val (v := .isl _ _) rfl rfl rfl rfl rfl rfl ?_ | refine DrawW.val (v := .sc (.string _)) rfl rfl rfl rfl rfl rfl ?_ | refine DrawW.val (v := .agg _) rfl rfl rfl rfl rfl rfl ?_ | refine DrawW.val rfl rfl rfl rfl rfl rfl ?_)
         | (refine DrawW.as (.binOp _ _ _ _ _) ?_; first | refine DrawW.test rfl rfl rfl (fun hb => ?_) (fun hb => ?_) | refine DrawW.val (v := .sc (.int _ _)) rfl rfl rfl rfl rfl rfl ?_ | refine DrawW.val rfl rfl rfl rfl rfl rfl ?_)
         | (refine DrawW.as (.indexAddr _ _ _) ?_; first | refine DrawW.index rfl rfl rfl rfl (Int.natCast_nonneg _) (by first | exact hidx1 | exact hidx2) rfl ?_ | refine DrawW.val rfl rfl rfl rfl rfl rfl ?_)
         | (refine DrawW.as (.call _) ?_; first | refine DrawW.val (v := .sc (.int _ _)) rfl rfl rfl rfl rfl rfl ?_ | refine DrawW.call (v := .sc (.bool true)) rfl rfl rfl (hcall1 _) rfl ?_ | refine DrawW.call (v := .sc (.bool false)) rfl rfl rfl (hcall1 _) rfl ?_ | refine DrawW.callB rfl rfl rfl (hcall1 _) rfl (fun hb => ?_) (fun hb => ?_) | refine DrawW.call rfl rfl rfl (hcall1 _) rfl ?_ | refine DrawW.actv rfl rfl rfl rfl ?_)
         | (refine DrawW.as (.unOp _ _ _) ?_; first | refine DrawW.val (v := .sc (.bool _)) rfl rfl rfl rfl rfl rfl ?_ | refine DrawW.val (v := .sc (.int _ _)) rfl rfl rfl rfl rfl rfl ?_)
         | (refine DrawW.as (.box _ _) ?_; refine DrawW.box rfl rfl rfl rfl ?_)
         | (refine DrawW.as (.alloc _) ?_; refine DrawW.alloc rfl rfl rfl rfl rfl ?_)
         | (refine DrawW.as (.store _ _ _) ?_; refine DrawW.put rfl rfl rfl rfl rfl rfl rfl rfl rfl ?_)
         | refine DrawW.store rfl ?_
         | refine DrawW.fin (by kernel_rfl) ?_
         | (refine DrawW.as (.buildSlice _ _ _) ?_; refine DrawW.buildSlice rfl rfl rfl rfl rfl rfl rfl rfl ?_)
         | refine DrawW.val rfl rfl rfl rfl rfl rfl ?_
         | refine DrawW.actv rfl rfl rfl rfl ?_)
        | refine PR.seq ?_
        | refine PR.region hP hR rfl rfl ?_
        | refine PR.draw hP hR rfl rfl (by kernel_rfl) ?_
        | refine PR.yes rfl ?_
        | refine PR.no rfl ?_
        | refine PR.block ?_
        | refine PR.skip hP rfl rfl ?_
        | refine PR.exit hP rfl rfl ?_
        | refine PR.ret hP rfl rfl ?_
        · refine PR.to [(0, .isl (Prf.rows l) 7), (1, .isl (Prf.rows l') 7), (2, .sc (.func (.func 7) #[] #[])), (15, .isl (Prf.rows l) 7), (16, .sc (.int .i64 ((Prf.rows l).length : Int))), (17, .sc (.int .i64 ((i + 1 : Nat) : Int)))] [] 0 rfl ⟨rfl, rfl, rfl, rfl, rfl, rfl, rfl, rfl, rfl, rfl, congrArg (fun z => some (AV.sc (.int .i64 z))) (wrap_succ hlt hl), rfl, trivial⟩ trivial ?_
          refine ih (i + 1) (by omega) (fun j hj => ?_) (by omega)
          rcases Nat.lt_or_ge j i with h3 | h3
          · exact hpre j h3
          · obtain rfl : j = i := by omega
            rw [hx, hy, hxy]
        · exfalso
          simp at hb
          omega
      · have hcall1 := hC x y false hmem ⟨fun e => (by cases e), fun e => absurd e hxy⟩
        have hne := ht.ne (fun e => by rw [e, hy] at hx; simp only [Option.some.injEq] at hx; exact hxy hx.symm)
        obtain ⟨⟨x1, x2, x3, x4, x5, x6⟩, xs⟩ := x
        obtain ⟨⟨y1, y2, y3, y4, y5, y6⟩, ys⟩ := y
        have hidx1 : (Prf.rows l)[(i : Int).toNat]? = some (Prf.mk ⟨x1, x2, x3, x4, x5, x6⟩ xs).cells := by rw [Prf.rows_get, Int.toNat_natCast, hx]; rfl
        have hidx2 : (Prf.rows l')[(i : Int).toNat]? = some (Prf.mk ⟨y1, y2, y3, y4, y5, y6⟩ ys).cells := by rw [Prf.rows_get, Int.toNat_natCast, hy]; rfl
        refine PR.around ?_
        repeat' first
        | (refine OpsW.id ?_; first
         | (refine OpsW.guarded ?_; first | refine OpsW.met rfl rfl rfl ?_ | refine OpsW.unmet rfl rfl rfl rfl ?_ | refine OpsW.gone rfl rfl rfl ?_)
         | (refine OpsW.as (.fieldAddr _ _ _) ?_; first | refine OpsW.val (v := .ref _ _ _ _) rfl rfl ?_ | refine OpsW.val (v := .pref _) rfl rfl ?_)
         | ((first | refine OpsW.as (.load _ _) ?_ | refine OpsW.as (.move _) ?_ | refine OpsW.as (.pick _ _ _) ?_ | refine OpsW.as (.assign _) ?_ | refine OpsW.as (.extract _ _) ?_); first | refine OpsW.val (v := .sc (.bool _)) rfl rfl ?_ | refine OpsW.val (v := .sc (.int _ _)) rfl rfl ?_ | refine OpsW.val (v := .ref _ _ _ _) rfl rfl ?_ | refine OpsW.val (v := .isl _ _) rfl rfl ?_ | refine OpsW.val (v := .sc (.string _)) rfl rfl ?_ | refine OpsW.val (v := .agg _) rfl rfl ?_ | refine OpsW.val rfl rfl ?_)
         | (refine OpsW.as (.binOp _ _ _ _ _) ?_; first | refine OpsW.test rfl rfl (fun hb => ?_) (fun hb => ?_) | refine OpsW.val (v := .sc (.int _ _)) rfl rfl ?_ | refine OpsW.val rfl rfl ?_)
         | (refine OpsW.as (.indexAddr _ _ _) ?_; first | refine OpsW.index rfl rfl rfl rfl (Int.natCast_nonneg _) (by first | exact hidx1 | exact hidx2) rfl ?_ | refine OpsW.val rfl rfl ?_)
         | (refine OpsW.as (.call _) ?_; first | refine OpsW.val (v := .sc (.int _ _)) rfl rfl ?_ | refine OpsW.call (v := .sc (.bool true)) rfl (hcall1 _) rfl ?_ | refine OpsW.call (v := .sc (.bool false)) rfl (hcall1 _) rfl ?_ | refine OpsW.callB rfl (hcall1 _) rfl (fun hb => ?_) (fun hb => ?_) | refine OpsW.call rfl (hcall1 _) rfl ?_ | refine OpsW.val rfl rfl ?_)
         | (refine OpsW.as (.unOp _ _ _) ?_; first | refine OpsW.val (v := .sc (.bool _)) rfl rfl ?_ | refine OpsW.val (v := .sc (.int _ _)) rfl rfl ?_)
         | (refine OpsW.as (.box _ _) ?_; refine OpsW.box rfl rfl rfl rfl ?_)
         | (refine OpsW.as (.alloc _) ?_; refine OpsW.alloc rfl rfl rfl rfl rfl ?_)
         | (refine OpsW.as (.store _ _ _) ?_; refine OpsW.put rfl rfl rfl rfl rfl rfl rfl rfl rfl ?_)
         | (refine OpsW.as (.buildSlice _ _ _) ?_; refine OpsW.buildSlice rfl rfl rfl rfl rfl rfl rfl rfl ?_)
         | refine OpsW.unit rfl ?_
         | refine OpsW.nil ?_
         | refine OpsW.val rfl rfl ?_)
        | (refine DrawW.id ?_; first
         | (refine DrawW.guarded ?_; first | refine DrawW.met rfl rfl ?_ | refine DrawW.unmet rfl rfl rfl rfl rfl ?_ | refine DrawW.gone rfl rfl rfl rfl ?_)
         | (refine DrawW.as (.fieldAddr _ _ _) ?_; first | refine DrawW.val (v := .ref _ _ _ _) rfl rfl rfl rfl rfl rfl ?_ | refine DrawW.val (v := .pref _) rfl rfl rfl rfl rfl rfl ?_)
         | ((first | refine DrawW.as (.load _ _) ?_ | refine DrawW.as (.move _) ?_ | refine DrawW.as (.pick _ _ _) ?_ | refine DrawW.as (.assign _) ?_ | refine DrawW.as (.extract _ _) ?_); first | refine DrawW.val (v := .sc (.bool _)) rfl rfl rfl rfl rfl rfl ?_ | refine DrawW.val (v := .sc (.int _ _)) rfl rfl rfl rfl rfl rfl ?_ | refine DrawW.val (v := .ref _ _ _ _) rfl rfl rfl rfl rfl rfl ?_ | refine DrawW.val (v := .isl _ _) rfl rfl rfl rfl rfl rfl ?_ | refine DrawW.val (v := .sc (.string _)) rfl rfl rfl rfl rfl rfl ?_ | refine DrawW.val (v := .agg _) rfl rfl rfl rfl rfl rfl ?_ | refine DrawW.val rfl rfl rfl rfl rfl rfl ?_)
         | (refine DrawW.as (.binOp _ _ _ _ _) ?_; first | refine DrawW.test rfl rfl rfl (fun hb => ?_) (fun hb => ?_) | refine DrawW.val (v := .sc (.int _ _)) rfl rfl rfl rfl rfl rfl ?_ | refine DrawW.val rfl rfl rfl rfl rfl rfl ?_)
         | (refine DrawW.as (.indexAddr _ _ _) ?_; first | refine DrawW.index rfl rfl rfl rfl (Int.natCast_nonneg _) (by first | exact hidx1 | exact hidx2) rfl ?_ | refine DrawW.val rfl rfl rfl rfl rfl rfl ?_)
         | (refine DrawW.as (.call _) ?_; first | refine DrawW.val (v := .sc (.int _ _)) rfl rfl rfl rfl rfl rfl ?_ | refine DrawW.call (v := .sc (.bool true)) rfl rfl rfl (hcall1 _) rfl ?_ | refine DrawW.call (v := .sc (.bool false)) rfl rfl rfl (hcall1 _) rfl ?_ | refine DrawW.callB rfl rfl rfl (hcall1 _) rfl (fun hb => ?_) (fun hb => ?_) | refine DrawW.call rfl rfl rfl (hcall1 _) rfl ?_ | refine DrawW.actv rfl rfl rfl rfl ?_)
         | (refine DrawW.as (.unOp _ _ _) ?_; first | refine DrawW.val (v := .sc (.bool _)) rfl rfl rfl rfl rfl rfl ?_ | refine DrawW.val (v := .sc (.int _ _)) rfl rfl rfl rfl rfl rfl ?_)
         | (refine DrawW.as (.box _ _) ?_; refine DrawW.box rfl rfl rfl rfl ?_)
         | (refine DrawW.as (.alloc _) ?_; refine DrawW.alloc rfl rfl rfl rfl rfl ?_)
         | (refine DrawW.as (.store _ _ _) ?_; refine DrawW.put rfl rfl rfl rfl rfl rfl rfl rfl rfl ?_)
         | refine DrawW.store rfl ?_
         | refine DrawW.fin (by kernel_rfl) ?_
         | (refine DrawW.as (.buildSlice _ _ _) ?_; refine DrawW.buildSlice rfl rfl rfl rfl rfl rfl rfl rfl ?_)
         | refine DrawW.val rfl rfl rfl rfl rfl rfl ?_
         | refine DrawW.actv rfl rfl rfl rfl ?_)
        | refine PR.seq ?_
        | refine PR.region hP hR rfl rfl ?_
        | refine PR.draw hP hR rfl rfl (by kernel_rfl) ?_
        | refine PR.yes rfl ?_
        | refine PR.no rfl ?_
        | refine PR.block ?_
        | refine PR.skip hP rfl rfl ?_
        | refine PR.exit hP rfl rfl ?_
        | refine PR.ret hP rfl rfl ?_
        · subst hne
          exact ⟨.inl rfl, rfl, _, 1, rfl, rfl⟩
        · exfalso
          simp at hb
          omega
end Go.AI
end

section
namespace Go.AI
open Go Go.Proofs
set_option maxRecDepth 10000
set_option maxHeartbeats 4000000

theorem w44 {R : Rec} (hP : ProgOK Tryz.prog) (hR : RecOK Tryz.prog R) (k k' : Int) (n n' : ByteArray) (ks ks' : List Ty) (t : Bool) (ht : EqT (Ty.mk k n ks) (Ty.mk k' n' ks') t)
    (hC1 : ∀ (t : Bool), EqT ks ks' t → ∀ h, R.call .normal 85 [.isl (Ty.rows ks) 3, .isl (Ty.rows ks') 3, .sc (.func (.func 44) #[] #[])] .none h = some (.ret (.sc (.bool t)), .none, h)) (h : AHeap) :
    CallOK Tryz.prog 44 [.agg (Ty.mk k n ks).cells, .agg (Ty.mk k' n' ks').cells] h (.ret (.sc (.bool t))) h := by
  obtain ⟨t1, ht1⟩ := EqT.ex ks ks'
  have hcall1 := hC1 t1 ht1
  refine PR.call hP Tryz.func44 rfl rfl ?_ h
  repeat' first
  | (refine OpsW.id ?_; first
   | (refine OpsW.guarded ?_; first | refine OpsW.met rfl rfl rfl ?_ | refine OpsW.unmet rfl rfl rfl rfl ?_ | refine OpsW.gone rfl rfl rfl ?_)
   | (refine OpsW.as (.fieldAddr _ _ _) ?_; first | refine OpsW.val (v := .ref _ _ _ _) rfl rfl ?_ | refine OpsW.val (v := .pref _) rfl rfl ?_)
   | ((first | refine OpsW.as (.load _ _) ?_ | refine OpsW.as (.move _) ?_ | refine OpsW.as (.pick _ _ _) ?_ | refine OpsW.as (.assign _) ?_ | refine OpsW.as (.extract _ _) ?_); first | refine OpsW.val (v := .sc (.bool _)) rfl rfl ?_ | refine OpsW.val (v := .sc (.int _ _)) rfl rfl ?_ | refine OpsW.val (v := .ref _ _ _ _) rfl rfl ?_ | refine OpsW.val (v := .isl _ _) rfl rfl ?_ | refine OpsW.val (v := .sc (.string _)) rfl rfl ?_ | refine OpsW.val (v := .agg _) rfl rfl ?_ | refine OpsW.val rfl rfl ?_)
   | (refine OpsW.as (.binOp _ _ _ _ _) ?_; first | refine OpsW.test rfl rfl (fun hb => ?_) (fun hb => ?_) | refine OpsW.val (v := .sc (.int _ _)) rfl rfl ?_ | refine OpsW.val rfl rfl ?_)
   | (refine OpsW.as (.indexAddr _ _ _) ?_; refine OpsW.val rfl rfl ?_)
   | (refine OpsW.as (.call _) ?_; first | refine OpsW.val (v := .sc (.int _ _)) rfl rfl ?_ | refine OpsW.call (v := .sc (.bool true)) rfl (hcall1 _) rfl ?_ | refine OpsW.call (v := .sc (.bool false)) rfl (hcall1 _) rfl ?_ | refine OpsW.callB rfl (hcall1 _) rfl (fun hb => ?_) (fun hb => ?_) | refine OpsW.call rfl (hcall1 _) rfl ?_ | refine OpsW.val rfl rfl ?_)
   | (refine OpsW.as (.unOp _ _ _) ?_; first | refine OpsW.val (v := .sc (.bool _)) rfl rfl ?_ | refine OpsW.val (v := .sc (.int _ _)) rfl rfl ?_)
   | (refine OpsW.as (.box _ _) ?_; refine OpsW.box rfl rfl rfl rfl ?_)
   | (refine OpsW.as (.alloc _) ?_; refine OpsW.alloc rfl rfl rfl rfl rfl ?_)
   | (refine OpsW.as (.store _ _ _) ?_; refine OpsW.put rfl rfl rfl rfl rfl rfl rfl rfl rfl ?_)
   | (refine OpsW.as (.buildSlice _ _ _) ?_; refine OpsW.buildSlice rfl rfl rfl rfl rfl rfl rfl rfl ?_)
   | refine OpsW.unit rfl ?_
   | refine OpsW.nil ?_
   | refine OpsW.val rfl rfl ?_)
  | (refine DrawW.id ?_; first
   | (refine DrawW.guarded ?_; first | refine DrawW.met rfl rfl ?_ | refine DrawW.unmet rfl rfl rfl rfl rfl ?_ | refine DrawW.gone rfl rfl rfl rfl ?_)
   | (refine DrawW.as (.fieldAddr _ _ _) ?_; first | refine DrawW.val (v := .ref _ _ _ _) rfl rfl rfl rfl rfl rfl ?_ | refine DrawW.val (v := .pref _) rfl rfl rfl rfl rfl rfl ?_)
   | ((first | refine DrawW.as (.load _ _) ?_ | refine DrawW.as (.move _) ?_ | refine DrawW.as (.pick _ _ _) ?_ | refine DrawW.as (.assign _) ?_ | refine DrawW.as (.extract _ _) ?_); first | refine DrawW.val (v := .sc (.bool _)) rfl rfl rfl rfl rfl rfl ?_ | refine DrawW.val (v := .sc (.int _ _)) rfl rfl rfl rfl rfl rfl ?_ | refine DrawW.val (v := .ref _ _ _ _) rfl rfl rfl rfl rfl rfl ?_ | refine DrawW.val (v := .isl _ _) rfl rfl rfl rfl rfl rfl ?_ | refine DrawW.val (v := .sc (.string _)) rfl rfl rfl rfl rfl rfl ?_ | refine DrawW.val (v := .agg _) rfl rfl rfl rfl rfl rfl ?_ | refine DrawW.val rfl rfl rfl rfl rfl rfl ?_)
   | (refine DrawW.as (.binOp _ _ _ _ _) ?_; first | refine DrawW.test rfl rfl rfl (fun hb => ?_) (fun hb => ?_) | refine DrawW.val (v := .sc (.int _ _)) rfl rfl rfl rfl rfl rfl ?_ | refine DrawW.val rfl rfl rfl rfl rfl rfl ?_)
   | (refine DrawW.as (.indexAddr _ _ _) ?_; refine DrawW.val rfl rfl rfl rfl rfl rfl ?_)
   | (refine DrawW.as (.call _) ?_; first | refine DrawW.val (v := .sc (.int _ _)) rfl rfl rfl rfl rfl rfl ?_ | refine DrawW.call (v := .sc (.bool true)) rfl rfl rfl (hcall1 _) rfl ?_ | refine DrawW.call (v := .sc (.bool false)) rfl rfl rfl (hcall1 _) rfl ?_ | refine DrawW.callB rfl rfl rfl (hcall1 _) rfl (fun hb => ?_) (fun hb => ?_) | refine DrawW.call rfl rfl rfl (hcall1 _) rfl ?_ | refine DrawW.actv rfl rfl rfl rfl ?_)
   | (refine DrawW.as (.unOp _ _ _) ?_; first | refine DrawW.val (v := .sc (.bool _)) rfl rfl rfl rfl rfl rfl ?_ | refine DrawW.val (v := .sc (.int _ _)) rfl rfl rfl rfl rfl rfl ?_)
   | (refine DrawW.as (.box _ _) ?_; refine DrawW.box rfl rfl rfl rfl ?_)
   | (refine DrawW.as (.alloc _) ?_; refine DrawW.alloc rfl rfl rfl rfl rfl ?_)
   | (refine DrawW.as (.store _ _ _) ?_; refine DrawW.put rfl rfl rfl rfl rfl rfl rfl rfl rfl ?_)
   | refine DrawW.store rfl ?_
   | refine DrawW.fin (by kernel_rfl) ?_
   | (refine DrawW.as (.buildSlice _ _ _) ?_; refine DrawW.buildSlice rfl rfl rfl rfl rfl rfl rfl rfl ?_)
   | refine DrawW.val rfl rfl rfl rfl rfl rfl ?_
   | refine DrawW.actv rfl rfl rfl rfl ?_)
  | refine PR.seq ?_
  | refine PR.region hP hR rfl rfl ?_
  | refine PR.draw hP hR rfl rfl (by kernel_rfl) ?_
  | refine PR.yes rfl ?_
  | refine PR.no rfl ?_
  | refine PR.block ?_
  | refine PR.skip hP rfl rfl ?_
  | refine PR.exit hP rfl rfl ?_
  | refine PR.ret hP rfl rfl ?_
  all_goals clear hP hR hC1 hcall1
  all_goals
    (first
      | (have h9 := ht.ne (fun e => by simp_all [bytes_iff, EqT]); subst h9; exact ⟨.inl rfl, rfl, _, 1, rfl, rfl⟩)
      | (have h9 := ht.eq (by simp_all [bytes_iff, EqT]); subst h9; exact ⟨.inl rfl, rfl, _, 1, rfl, rfl⟩))
end Go.AI
end
