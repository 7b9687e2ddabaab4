/-
  A part of the proof: V45 V19 V46 V85.
-/
import Derived.Test.YtmlcjnhkphkpiaaGreatDoorProg
import Derived.KernelRfl
import Derived.Test.YtmlcjnhkphkpiaaGreatDoorDat
set_option linter.all false

section
namespace Go.AI
open Go Go.Proofs
set_option maxRecDepth 10000
set_option maxHeartbeats 4000000

theorem w45 {R : Rec} (hP : ProgOK Tryz.prog) (hR : RecOK Tryz.prog R) (l l' : List Int) (hl : l.length ≤ 9223372036854775807) (t : Bool) (ht : EqT l l' t) (h : AHeap) :
    CallOK Tryz.prog 45 [.isl (intRows l) 1, .isl (intRows l') 1] h (.ret (.sc (.bool t))) h := by
  have hlen := intRows_length l
  have hlen' := intRows_length l'
  refine PR.call hP Tryz.func45 rfl rfl ?_ h
  repeat' first
  | (refine OpsW.id ?_; first
   | (refine OpsW.guarded ?_; first | refine OpsW.met rfl rfl rfl ?_ | refine OpsW.unmet rfl rfl rfl rfl ?_ | refine OpsW.gone rfl rfl rfl ?_)
   | (refine OpsW.as (.fieldAddr _ _ _) ?_; first | refine OpsW.val (v := .ref _ _ _ _) rfl rfl ?_ | refine OpsW.val (v := .pref _) rfl rfl ?_)
   | ((first | refine OpsW.as (.load _ _) ?_ | refine OpsW.as (.move _) ?_ | refine OpsW.as (.pick _ _ _) ?_ | refine OpsW.as (.assign _) ?_ | refine OpsW.as (.extract _ _) ?_); first | refine OpsW.val (v := .sc (.bool _)) rfl rfl ?_ | refine OpsW.val (v := .sc (.int _ _)) rfl rfl ?_ | refine OpsW.val (v := .ref _ _ _ _) rfl rfl ?_ | refine OpsW.val (v := .isl _ _) rfl rfl ?_ | refine OpsW.val (v := .sc (.string _)) rfl rfl ?_ | refine OpsW.val (v := .agg _) rfl rfl ?_ | refine OpsW.val rfl rfl ?_)
   | (refine OpsW.as (.binOp _ _ _ _ _) ?_; first | refine OpsW.test rfl rfl (fun hb => ?_) (fun hb => ?_) | refine OpsW.val (v := .sc (.int _ _)) rfl rfl ?_ | refine OpsW.val rfl rfl ?_)
   | (refine OpsW.as (.indexAddr _ _ _) ?_; first | refine OpsW.index rfl rfl rfl rfl (Int.natCast_nonneg _) (by first | exact hidx1 | exact hidx2) rfl ?_ | refine OpsW.val rfl rfl ?_)
   | (refine OpsW.as (.call _) ?_; first | refine OpsW.val (v := .sc (.int _ _)) rfl rfl ?_ | refine OpsW.val rfl rfl ?_)
   | (refine OpsW.as (.unOp _ _ _) ?_; first | refine OpsW.val (v := .sc (.bool _)) rfl rfl ?_ | refine OpsW.val (v := .sc (.int _ _)) rfl rfl ?_)
   | (refine OpsW.as (.box _ _) ?_; refine OpsW.box rfl rfl rfl rfl ?_)
   | (refine OpsW.as (.alloc _) ?_; refine OpsW.alloc rfl rfl rfl rfl rfl ?_)
   | (refine OpsW.as (.store _ _ _) ?_; refine OpsW.put rfl rfl rfl rfl rfl rfl rfl rfl rfl ?_)
   | (refine OpsW.as (.buildSlice _ _ _) ?_; refine OpsW.buildSlice rfl rfl rfl rfl rfl rfl rfl rfl ?_)
   | refine OpsW.unit rfl ?_
   | refine OpsW.nil ?_
   | refine OpsW.val rfl rfl ?_)
  | (refine DrawW.id ?_; first
   | (refine DrawW.guarded ?_; first | refine DrawW.met rfl rfl ?_ | refine DrawW.unmet rfl rfl rfl rfl rfl ?_ | refine DrawW.gone rfl rfl rfl rfl ?_)
   | (refine DrawW.as (.fieldAddr _ _ _) ?_; first | refine DrawW.val (v := .ref _ _ _ _) rfl rfl rfl rfl rfl rfl ?_ | refine DrawW.val (v := .pref _) rfl rfl rfl rfl rfl rfl ?_)
   | ((first | refine DrawW.as (.load _ _) ?_ | refine DrawW.as (.move _) ?_ | refine DrawW.as (.pick _ _ _) ?_ | refine DrawW.as (.assign _) ?_ | refine DrawW.as (.extract _ _) ?_); first | refine DrawW.val (v := .sc (.bool _)) rfl rfl rfl rfl rfl rfl ?_ | refine DrawW.val (v := .sc (.int _ _)) rfl rfl rfl rfl rfl rfl ?_ | refine DrawW.val (v := .ref _ _ _ _) rfl rfl rfl rfl rfl rfl ?_ | refine DrawW.val (v := .isl _ _) rfl rfl rfl rfl rfl rfl ?_ | refine DrawW.val (v := .sc (.string _)) rfl rfl rfl rfl rfl rfl ?_ | refine DrawW.val (v := .agg _) rfl rfl rfl rfl rfl rfl ?_ | refine DrawW.val rfl rfl rfl rfl rfl rfl ?_)
   | (refine DrawW.as (.binOp _ _ _ _ _) ?_; first | refine DrawW.test rfl rfl rfl (fun hb => ?_) (fun hb => ?_) | refine DrawW.val (v := .sc (.int _ _)) rfl rfl rfl rfl rfl rfl ?_ | refine DrawW.val rfl rfl rfl rfl rfl rfl ?_)
   | (refine DrawW.as (.indexAddr _ _ _) ?_; first | refine DrawW.index rfl rfl rfl rfl (Int.natCast_nonneg _) (by first | exact hidx1 | exact hidx2) rfl ?_ | refine DrawW.val rfl rfl rfl rfl rfl rfl ?_)
   | (refine DrawW.as (.call _) ?_; first | refine DrawW.val (v := .sc (.int _ _)) rfl rfl rfl rfl rfl rfl ?_ | refine DrawW.actv rfl rfl rfl rfl ?_)
   | (refine DrawW.as (.unOp _ _ _) ?_; first | refine DrawW.val (v := .sc (.bool _)) rfl rfl rfl rfl rfl rfl ?_ | refine DrawW.val (v := .sc (.int _ _)) rfl rfl rfl rfl rfl rfl ?_)
   | (refine DrawW.as (.box _ _) ?_; refine DrawW.box rfl rfl rfl rfl ?_)
   | (refine DrawW.as (.alloc _) ?_; refine DrawW.alloc rfl rfl rfl rfl rfl ?_)
   | (refine DrawW.as (.store _ _ _) ?_; refine DrawW.put rfl rfl rfl rfl rfl rfl rfl rfl rfl ?_)
   | refine DrawW.store rfl ?_
   | refine DrawW.fin (by kernel_rfl) ?_
   | (refine DrawW.as (.buildSlice _ _ _) ?_; refine DrawW.buildSlice rfl rfl rfl rfl rfl rfl rfl rfl ?_)
   | refine DrawW.val rfl rfl rfl rfl rfl rfl ?_
   | refine DrawW.actv rfl rfl rfl rfl ?_)
  | refine PR.seq ?_
  | refine PR.region hP hR rfl rfl ?_
  | refine PR.draw hP hR rfl rfl (by kernel_rfl) ?_
  | refine PR.yes rfl ?_
  | refine PR.no rfl ?_
  | refine PR.block ?_
  | refine PR.skip hP rfl rfl ?_
  | refine PR.exit hP rfl rfl ?_
  | refine PR.ret hP rfl rfl ?_
  · have := ht.ne (fun e => by rw [e] at hb; simp at hb)
    subst this
    exact ⟨.inl rfl, rfl, _, 1, rfl, rfl⟩
  · have hll : l.length = l'.length := by
      simp only [bne_eq_false_iff_eq] at hb
      omega
    refine PR.loop ?_
    obtain ⟨i, hi0⟩ : ∃ i : Nat, i = 0 := ⟨0, rfl⟩
    refine PR.to [(0, .isl (intRows l) 1), (1, .isl (intRows l') 1), (5, .sc (.int .i64 (i : Int)))] [] 0 rfl ⟨rfl, rfl, rfl, rfl, by subst hi0; rfl, rfl, trivial⟩ trivial ?_
    have hil : i ≤ l.length := by omega
    have hpre : ∀ j, j < i → l[j]? = l'[j]? := fun j hj => by omega
    clear hi0 hb
    induction hm : l.length - i generalizing i with
    | zero =>
      refine PR.around ?_
      repeat' first
      | (refine OpsW.id ?_; first
       | (refine OpsW.guarded ?_; first | refine OpsW.met rfl rfl rfl ?_ | refine OpsW.unmet rfl rfl rfl rfl ?_ | refine OpsW.gone rfl rfl rfl ?_)
       | (refine OpsW.as (.fieldAddr _ _ _) ?_; first | refine OpsW.val (v := .ref _ _ _ _) rfl rfl ?_ | refine OpsW.val (v := .pref _) rfl rfl ?_)
       | ((first | refine OpsW.as (.load _ _) ?_ | refine OpsW.as (.move _) ?_ | refine OpsW.as (.pick _ _ _) ?_ | refine OpsW.as (.assign _) ?_ | refine OpsW.as (.extract _ _) ?_); first | refine OpsW.val (v := .sc (.bool _)) rfl rfl ?_ | refine OpsW.val (v := .sc (.int _ _)) rfl rfl ?_ | refine OpsW.val (v := .ref _ _ _ _) rfl rfl ?_ | refine OpsW.val (v := .isl _ _) rfl rfl ?_ | refine OpsW.val (v := .sc (.string _)) rfl rfl ?_ | refine OpsW.val (v := .agg _) rfl rfl ?_ | refine OpsW.val rfl rfl ?_)
       | (refine OpsW.as (.binOp _ _ _ _ _) ?_; first | refine OpsW.test rfl rfl (fun hb => ?_) (fun hb => ?_) | refine OpsW.val (v := .sc (.int _ _)) rfl rfl ?_ | refine OpsW.val rfl rfl ?_)
       | (refine OpsW.as (.indexAddr _ _ _) ?_; first | refine OpsW.index rfl rfl rfl rfl (Int.natCast_nonneg _) (by first | exact hidx1 | exact hidx2) rfl ?_ | refine OpsW.val rfl rfl ?_)
       | (refine OpsW.as (.call _) ?_; first | refine OpsW.val (v := .sc (.int _ _)) rfl rfl ?_ | refine OpsW.val rfl rfl ?_)
       | (refine OpsW.as (.unOp _ _ _) ?_; first | refine OpsW.val (v := .sc (.bool _)) rfl rfl ?_ | refine OpsW.val (v := .sc (.int _ _)) rfl rfl ?_)
       | (refine OpsW.as (.box _ _) ?_; refine OpsW.box rfl rfl rfl rfl ?_)
       | (refine OpsW.as (.alloc _) ?_; refine OpsW.alloc rfl rfl rfl rfl rfl ?_)
       | (refine OpsW.as (.store _ _ _) ?_; refine OpsW.put rfl rfl rfl rfl rfl rfl rfl rfl rfl ?_)
       | (refine OpsW.as (.buildSlice _ _ _) ?_; refine OpsW.buildSlice rfl rfl rfl rfl rfl rfl rfl rfl ?_)
       | refine OpsW.unit rfl ?_
       | refine OpsW.nil ?_
       | refine OpsW.val rfl rfl ?_)
      | (refine DrawW.id ?_; first
       | (refine DrawW.guarded ?_; first | refine DrawW.met rfl rfl ?_ | refine DrawW.unmet rfl rfl rfl rfl rfl ?_ | refine DrawW.gone rfl rfl rfl rfl ?_)
       | (refine DrawW.as (.fieldAddr _ _ _) ?_; first | refine DrawW.val (v := .ref _ _ _ _) rfl rfl rfl rfl rfl rfl ?_ | refine DrawW.val (v := .pref _) rfl rfl rfl rfl rfl rfl ?_)
       | ((first | refine DrawW.as (.load _ _) ?_ | refine DrawW.as (.move _) ?_ | refine DrawW.as (.pick _ _ _) ?_ | refine DrawW.as (.assign _) ?_ | refine DrawW.as (.extract _ _) ?_); first | refine DrawW.val (v := .sc (.bool _)) rfl rfl rfl rfl rfl rfl ?_ | refine DrawW.val (v := .sc (.int _ _)) rfl rfl rfl rfl rfl rfl ?_ | refine DrawW.val (v := .ref _ _ _ _) rfl rfl rfl rfl rfl rfl ?_ | refine DrawW.val (v := .isl _ _) rfl rfl rfl rfl rfl rfl ?_ | refine DrawW.val (v := .sc (.string _)) rfl rfl rfl rfl rfl rfl ?_ | refine DrawW.val (v := .agg _) rfl rfl rfl rfl rfl rfl ?_ | refine DrawW.val rfl rfl rfl rfl rfl rfl ?_)
       | (refine DrawW.as (.binOp _ _ _ _ _) ?_; first | refine DrawW.test rfl rfl rfl (fun hb => ?_) (fun hb => ?_) | refine DrawW.val (v := .sc (.int _ _)) rfl rfl rfl rfl rfl rfl ?_ | refine DrawW.val rfl rfl rfl rfl rfl rfl ?_)
       | (refine DrawW.as (.indexAddr _ _ _) ?_; first | refine DrawW.index rfl rfl rfl rfl (Int.natCast_nonneg _) (by first | exact hidx1 | exact hidx2) rfl ?_ | refine DrawW.val rfl rfl rfl rfl rfl rfl ?_)
       | (refine DrawW.as (.call _) ?_; first | refine DrawW.val (v := .sc (.int _ _)) rfl rfl rfl rfl rfl rfl ?_ | refine DrawW.actv rfl rfl rfl rfl ?_)
       | (refine DrawW.as (.unOp _ _ _) ?_; first | refine DrawW.val (v := .sc (.bool _)) rfl rfl rfl rfl rfl rfl ?_ | refine DrawW.val (v := .sc (.int _ _)) rfl rfl rfl rfl rfl rfl ?_)
       | (refine DrawW.as (.box _ _) ?_; refine DrawW.box rfl rfl rfl rfl ?_)
       | (refine DrawW.as (.alloc _) ?_; refine DrawW.alloc rfl rfl rfl rfl rfl ?_)
       | (refine DrawW.as (.store _ _ _) ?_; refine DrawW.put rfl rfl rfl rfl rfl rfl rfl rfl rfl ?_)
       | refine DrawW.store rfl ?_
       | refine DrawW.fin (by kernel_rfl) ?_
       | (refine DrawW.as (.buildSlice _ _ _) ?_; refine DrawW.buildSlice rfl rfl rfl rfl rfl rfl rfl rfl ?_)
       | refine DrawW.val rfl rfl rfl rfl rfl rfl ?_
       | refine DrawW.actv rfl rfl rfl rfl ?_)
      | refine PR.seq ?_
      | refine PR.region hP hR rfl rfl ?_
      | refine PR.draw hP hR rfl rfl (by kernel_rfl) ?_
      | refine PR.yes rfl ?_
      | refine PR.no rfl ?_
      | refine PR.block ?_
      | refine PR.skip hP rfl rfl ?_
      | refine PR.exit hP rfl rfl ?_
      | refine PR.ret hP rfl rfl ?_
      · exfalso
        simp at hb
        omega
      · have := ht.eq (list_eq hll fun j hj => hpre j (by omega))
        subst this
        exact ⟨.inl rfl, rfl, _, 1, rfl, rfl⟩
    | succ m ih =>
      have hlt : i < l.length := by omega
      have hlt' : i < l'.length := by omega
      have hx : l[i]? = some l[i] := List.getElem?_eq_getElem hlt
      have hy : l'[i]? = some l'[i] := List.getElem?_eq_getElem hlt'
      generalize l[i] = x at hx
      generalize l'[i] = y at hy
      have hidx1 : (intRows l)[(i : Int).toNat]? = some [.sc (.int .i64 x)] := by rw [intRows_get, Int.toNat_natCast, hx]; rfl
      have hidx2 : (intRows l')[(i : Int).toNat]? = some [.sc (.int .i64 y)] := by rw [intRows_get, Int.toNat_natCast, hy]; rfl
      refine PR.around ?_
      repeat' first
      | (refine OpsW.id ?_; first
       | (refine OpsW.guarded ?_; first | refine OpsW.met rfl rfl rfl ?_ | refine OpsW.unmet rfl rfl rfl rfl ?_ | refine OpsW.gone rfl rfl rfl ?_)
       | (refine OpsW.as (.fieldAddr _ _ _) ?_; first | refine OpsW.val (v := .ref _ _ _ _) rfl rfl ?_ | refine OpsW.val (v := .pref _) rfl rfl ?_)
       | ((first | refine OpsW.as (.load _ _) ?_ | refine OpsW.as (.move _) ?_ | refine OpsW.as (.pick _ _ _) ?_ | refine OpsW.as (.assign _) ?_ | refine OpsW.as (.extract _ _) ?_); first | refine OpsW.val (v := .sc (.bool _)) rfl rfl ?_ | refine OpsW.val (v := .sc (.int _ _)) rfl rfl ?_ | refine OpsW.val (v := .ref _ _ _ _) rfl rfl ?_ | refine OpsW.val (v := .isl _ _) rfl rfl ?_ | refine OpsW.val (v := .sc (.string _)) rfl rfl ?_ | refine OpsW.val (v := .agg _) rfl rfl ?_ | refine OpsW.val rfl rfl ?_)
       | (refine OpsW.as (.binOp _ _ _ _ _) ?_; first | refine OpsW.test rfl rfl (fun hb => ?_) (fun hb => ?_) | refine OpsW.val (v := .sc (.int _ _)) rfl rfl ?_ | refine OpsW.val rfl rfl ?_)
       | (refine OpsW.as (.indexAddr _ _ _) ?_; first | refine OpsW.index rfl rfl rfl rfl (Int.natCast_nonneg _) (by first | exact hidx1 | exact hidx2) rfl ?_ | refine OpsW.val rfl rfl ?_)
       | (refine OpsW.as (.call _) ?_; first | refine OpsW.val (v := .sc (.int _ _)) rfl rfl ?_ | refine OpsW.val rfl rfl ?_)
       | (refine OpsW.as (.unOp _ _ _) ?_; first | refine OpsW.val (v := .sc (.bool _)) rfl rfl ?_ | refine OpsW.val (v := .sc (.int _ _)) rfl rfl ?_)
       | (refine OpsW.as (.box _ _) ?_; refine OpsW.box rfl rfl rfl rfl ?_)
       | (refine OpsW.as (.alloc _) ?_; refine OpsW.alloc rfl rfl rfl rfl rfl ?_)
       | (refine OpsW.as (.store _ _ _) ?_; refine OpsW.put rfl rfl rfl rfl rfl rfl rfl rfl rfl ?_)
       | (refine OpsW.as (.buildSlice _ _ _) ?_; refine OpsW.buildSlice rfl rfl rfl rfl rfl rfl rfl rfl ?_)
       | refine OpsW.unit rfl ?_
       | refine OpsW.nil ?_
       | refine OpsW.val rfl rfl ?_)
      | (refine DrawW.id ?_; first
       | (refine DrawW.guarded ?_; first | refine DrawW.met rfl rfl ?_ | refine DrawW.unmet rfl rfl rfl rfl rfl ?_ | refine DrawW.gone rfl rfl rfl rfl ?_)
       | (refine DrawW.as (.fieldAddr _ _ _) ?_; first | refine DrawW.val (v := .ref _ _ _ _) rfl rfl rfl rfl rfl rfl ?_ | refine DrawW.val (v := .pref _) rfl rfl rfl rfl rfl rfl ?_)
       | ((first | refine DrawW.as (.load _ _) ?_ | refine DrawW.as (.move _) ?_ | refine DrawW.as (.pick _ _ _) ?_ | refine DrawW.as (.assign _) ?_ | refine DrawW.as (.extract _ _) ?_); first | refine DrawW.val (v := .sc (.bool _)) rfl rfl rfl rfl rfl rfl ?_ | refine DrawW.val (v := .sc (.int _ _)) rfl rfl rfl rfl rfl rfl ?_ | refine DrawW.val (v := .ref _ _ _ _) rfl rfl rfl rfl rfl rfl ?_ | refine DrawW.val (v := .isl _ _) rfl rfl rfl rfl rfl rfl ?_ | refine DrawW.val (v := .sc (.string _)) rfl rfl rfl rfl rfl rfl ?_ | refine DrawW.val (v := .agg _) rfl rfl rfl rfl rfl rfl ?_ | refine DrawW.val rfl rfl rfl rfl rfl rfl ?_)
       | (refine DrawW.as (.binOp _ _ _ _ _) ?_; first | refine DrawW.test rfl rfl rfl (fun hb => ?_) (fun hb => ?_) | refine DrawW.val (v := .sc (.int _ _)) rfl rfl rfl rfl rfl rfl ?_ | refine DrawW.val rfl rfl rfl rfl rfl rfl ?_)
       | (refine DrawW.as (.indexAddr _ _ _) ?_; first | refine DrawW.index rfl rfl rfl rfl (Int.natCast_nonneg _) (by first | exact hidx1 | exact hidx2) rfl ?_ | refine DrawW.val rfl rfl rfl rfl rfl rfl ?_)
       | (refine DrawW.as (.call _) ?_; first | refine DrawW.val (v := .sc (.int _ _)) rfl rfl rfl rfl rfl rfl ?_ | refine DrawW.actv rfl rfl rfl rfl ?_)
       | (refine DrawW.as (.unOp _ _ _) ?_; first | refine DrawW.val (v := .sc (.bool _)) rfl rfl rfl rfl rfl rfl ?_ | refine DrawW.val (v := .sc (.int _ _)) rfl rfl rfl rfl rfl rfl ?_)
       | (refine DrawW.as (.box _ _) ?_; refine DrawW.box rfl rfl rfl rfl ?_)
       | (refine DrawW.as (.alloc _) ?_; refine DrawW.alloc rfl rfl rfl rfl rfl ?_)
       | (refine DrawW.as (.store _ _ _) ?_; refine DrawW.put rfl rfl rfl rfl rfl rfl rfl rfl rfl ?_)
       | refine DrawW.store rfl ?_
       | refine DrawW.fin (by kernel_rfl) ?_
       | (refine DrawW.as (.buildSlice _ _ _) ?_; refine DrawW.buildSlice rfl rfl rfl rfl rfl rfl rfl rfl ?_)
       | refine DrawW.val rfl rfl rfl rfl rfl rfl ?_
       | refine DrawW.actv rfl rfl rfl rfl ?_)
      | refine PR.seq ?_
      | refine PR.region hP hR rfl rfl ?_
      | refine PR.draw hP hR rfl rfl (by kernel_rfl) ?_
      | refine PR.yes rfl ?_
      | refine PR.no rfl ?_
      | refine PR.block ?_
      | refine PR.skip hP rfl rfl ?_
      | refine PR.exit hP rfl rfl ?_
      | refine PR.ret hP rfl rfl ?_
      · have := ht.ne (fun e => by rw [e, hy] at hx; simp at hx hb; exact hb hx.symm)
        subst this
        exact ⟨.inl rfl, rfl, _, 1, rfl, rfl⟩
      · have hxy : x = y := by simpa using hb
        refine PR.to [(0, .isl (intRows l) 1), (1, .isl (intRows l') 1), (5, .sc (.int .i64 ((i + 1 : Nat) : Int)))] [] 0 rfl ⟨rfl, rfl, rfl, rfl, congrArg (fun z => some (AV.sc (.int .i64 z))) (wrap_succ hlt hl), rfl, trivial⟩ trivial ?_
        refine ih (i + 1) (by omega) (fun j hj => ?_) (by omega)
        rcases Nat.lt_or_ge j i with h3 | h3
        · exact hpre j h3
        · obtain rfl : j = i := by omega
          rw [hx, hy, hxy]
      · exfalso
        simp at hb
        omega
end Go.AI
end

section
namespace Go.AI
open Go Go.Proofs
set_option maxRecDepth 10000
set_option maxHeartbeats 4000000

theorem w19 {R : Rec} (hP : ProgOK Tryz.prog) (hR : RecOK Tryz.prog R) (l l' : List Int) (hl : l.length ≤ 9223372036854775807) (t : Bool) (ht : EqT l l' t) (h : AHeap) :
    CallOK Tryz.prog 19 [.isl (intRows l) 1, .isl (intRows l') 1] h (.ret (.sc (.bool t))) h := by
  have hlen := intRows_length l
  have hlen' := intRows_length l'
  refine PR.call hP Tryz.func19 rfl rfl ?_ h
  repeat' first
  | (refine OpsW.id ?_; first
   | (refine OpsW.guarded ?_; first | refine OpsW.met rfl rfl rfl ?_ | refine OpsW.unmet rfl rfl rfl rfl ?_ | refine OpsW.gone rfl rfl rfl ?_)
   | (refine OpsW.as (.fieldAddr _ _ _) ?_; first | refine OpsW.val (v := .ref _ _ _ _) rfl rfl ?_ | refine OpsW.val (v := .pref _) rfl rfl ?_)
   | ((first | refine OpsW.as (.load _ _) ?_ | refine OpsW.as (.move _) ?_ | refine OpsW.as (.pick _ _ _) ?_ | refine OpsW.as (.assign _) ?_ | refine OpsW.as (.extract _ _) ?_); first | refine OpsW.val (v := .sc (.bool _)) rfl rfl ?_ | refine OpsW.val (v := .sc (.int _ _)) rfl rfl ?_ | refine OpsW.val (v := .ref _ _ _ _) rfl rfl ?_ | refine OpsW.val (v := .isl _ _) rfl rfl ?_ | refine OpsW.val (v := .sc (.string _)) rfl rfl ?_ | refine OpsW.val (v := .agg _) rfl rfl ?_ | refine OpsW.val rfl rfl ?_)
   | (refine OpsW.as (.binOp _ _ _ _ _) ?_; first | refine OpsW.test rfl rfl (fun hb => ?_) (fun hb => ?_) | refine OpsW.val (v := .sc (.int _ _)) rfl rfl ?_ | refine OpsW.val rfl rfl ?_)
   | (refine OpsW.as (.indexAddr _ _ _) ?_; first | refine OpsW.index rfl rfl rfl rfl (Int.natCast_nonneg _) (by first | exact hidx1 | exact hidx2) rfl ?_ | refine OpsW.val rfl rfl ?_)
   | (refine OpsW.as (.call _) ?_; first | refine OpsW.val (v := .sc (.int _ _)) rfl rfl ?_ | refine OpsW.val rfl rfl ?_)
   | (refine OpsW.as (.unOp _ _ _) ?_; first | refine OpsW.val (v := .sc (.bool _)) rfl rfl ?_ | refine OpsW.val (v := .sc (.int _ _)) rfl rfl ?_)
   | (refine OpsW.as (.box _ _) ?_; refine OpsW.box rfl rfl rfl rfl ?_)
   | (refine OpsW.as (.alloc _) ?_; refine OpsW.alloc rfl rfl rfl rfl rfl ?_)
   | (refine OpsW.as (.store _ _ _) ?_; refine OpsW.put rfl rfl rfl rfl rfl rfl rfl rfl rfl ?_)
   | (refine OpsW.as (.buildSlice _ _ _) ?_; refine OpsW.buildSlice rfl rfl rfl rfl rfl rfl rfl rfl ?_)
   | refine OpsW.unit rfl ?_
   | refine OpsW.nil ?_
   | refine OpsW.val rfl rfl ?_)
  | (refine DrawW.id ?_; first
   | (refine DrawW.guarded ?_; first | refine DrawW.met rfl rfl ?_ | refine DrawW.unmet rfl rfl rfl rfl rfl ?_ | refine DrawW.gone rfl rfl rfl rfl ?_)
   | (refine DrawW.as (.fieldAddr _ _ _) ?_; first | refine DrawW.val (v := .ref _ _ _ _) rfl rfl rfl rfl rfl rfl ?_ | refine DrawW.val (v := .pref _) rfl rfl rfl rfl rfl rfl ?_)
   | ((first | refine DrawW.as (.load _ _) ?_ | refine DrawW.as (.move _) ?_ | refine DrawW.as (.pick _ _ _) ?_ | refine DrawW.as (.assign _) ?_ | refine DrawW.as (.extract _ _) ?_); first | refine DrawW.val (v := .sc (.bool _)) rfl rfl rfl rfl rfl rfl ?_ | refine DrawW.val (v := .sc (.int _ _)) rfl rfl rfl rfl rfl rfl ?_ | refine DrawW.val (v := .ref _ _ _ _) rfl rfl rfl rfl rfl rfl ?_ | refine DrawW.val (v := .isl _ _) rfl rfl rfl rfl rfl rfl ?_ | refine DrawW.val (v := .sc (.string _)) rfl rfl rfl rfl rfl rfl ?_ | refine DrawW.val (v := .agg _) rfl rfl rfl rfl rfl rfl ?_ | refine DrawW.val rfl rfl rfl rfl rfl rfl ?_)
   | (refine DrawW.as (.binOp _ _ _ _ _) ?_; first | refine DrawW.test rfl rfl rfl (fun hb => ?_) (fun hb => ?_) | refine DrawW.val (v := .sc (.int _ _)) rfl rfl rfl rfl rfl rfl ?_ | refine DrawW.val rfl rfl rfl rfl rfl rfl ?_)
   | (refine DrawW.as (.indexAddr _ _ _) ?_; first | refine DrawW.index rfl rfl rfl rfl (Int.natCast_nonneg _) (by first | exact hidx1 | exact hidx2) rfl ?_ | refine DrawW.val rfl rfl rfl rfl rfl rfl ?_)
   | (refine DrawW.as (.call _) ?_; first | refine DrawW.val (v := .sc (.int _ _)) rfl rfl rfl rfl rfl rfl ?_ | refine DrawW.actv rfl rfl rfl rfl ?_)
   | (refine DrawW.as (.unOp _ _ _) ?_; first | refine DrawW.val (v := .sc (.bool _)) rfl rfl rfl rfl rfl rfl ?_ | refine DrawW.val (v := .sc (.int _ _)) rfl rfl rfl rfl rfl rfl ?_)
   | (refine DrawW.as (.box _ _) ?_; refine DrawW.box rfl rfl rfl rfl ?_)
   | (refine DrawW.as (.alloc _) ?_; refine DrawW.alloc rfl rfl rfl rfl rfl ?_)
   | (refine DrawW.as (.store _ _ _) ?_; refine DrawW.put rfl rfl rfl rfl rfl rfl rfl rfl rfl ?_)
   | refine DrawW.store rfl ?_
   | refine DrawW.fin (by kernel_rfl) ?_
   | (refine DrawW.as (.buildSlice _ _ _) ?_; refine DrawW.buildSlice rfl rfl rfl rfl rfl rfl rfl rfl ?_)
   | refine DrawW.val rfl rfl rfl rfl rfl rfl ?_
   | refine DrawW.actv rfl rfl rfl rfl ?_)
  | refine PR.seq ?_
  | refine PR.region hP hR rfl rfl ?_
  | refine PR.draw hP hR rfl rfl (by kernel_rfl) ?_
  | refine PR.yes rfl ?_
  | refine PR.no rfl ?_
  | refine PR.block ?_
  | refine PR.skip hP rfl rfl ?_
  | refine PR.exit hP rfl rfl ?_
  | refine PR.ret hP rfl rfl ?_
  · have := ht.ne (fun e => by rw [e] at hb; simp at hb)
    subst this
    exact ⟨.inl rfl, rfl, _, 1, rfl, rfl⟩
  · have hll : l.length = l'.length := by
      simp only [bne_eq_false_iff_eq] at hb
      omega
    refine PR.loop ?_
    obtain ⟨i, hi0⟩ : ∃ i : Nat, i = 0 := ⟨0, rfl⟩
    refine PR.to [(0, .isl (intRows l) 1), (1, .isl (intRows l') 1), (12, .sc (.int .i64 ((intRows l).length : Int))), (13, .sc (.int .i64 (i : Int)))] [] 0 rfl ⟨rfl, rfl, rfl, rfl, rfl, rfl, by subst hi0; rfl, rfl, trivial⟩ trivial ?_
    have hil : i ≤ l.length := by omega
    have hpre : ∀ j, j < i → l[j]? = l'[j]? := fun j hj => by omega
    clear hi0 hb
    induction hm : l.length - i generalizing i with
    | zero =>
      refine PR.around ?_
      repeat' first
      | (refine OpsW.id ?_; first
       | (refine OpsW.guarded ?_; first | refine OpsW.met rfl rfl rfl ?_ | refine OpsW.unmet rfl rfl rfl rfl ?_ | refine OpsW.gone rfl rfl rfl ?_)
       | (refine OpsW.as (.fieldAddr _ _ _) ?_; first | refine OpsW.val (v := .ref _ _ _ _) rfl rfl ?_ | refine OpsW.val (v := .pref _) rfl rfl ?_)
       | ((first | refine OpsW.as (.load _ _) ?_ | refine OpsW.as (.move _) ?_ | refine OpsW.as (.pick _ _ _) ?_ | refine OpsW.as (.assign _) ?_ | refine OpsW.as (.extract _ _) ?_); first | refine OpsW.val (v := .sc (.bool _)) rfl rfl ?_ | refine OpsW.val (v := .sc (.int _ _)) rfl rfl ?_ | refine OpsW.val (v := .ref _ _ _ _) rfl rfl ?_ | refine OpsW.val (v := .isl _ _) rfl rfl ?_ | refine OpsW.val (v := .sc (.string _)) rfl rfl ?_ | refine OpsW.val (v := .agg _) rfl rfl ?_ | refine OpsW.val rfl rfl ?_)
       | (refine OpsW.as (.binOp _ _ _ _ _) ?_; first | refine OpsW.test rfl rfl (fun hb => ?_) (fun hb => ?_) | refine OpsW.val (v := .sc (.int _ _)) rfl rfl ?_ | refine OpsW.val rfl rfl ?_)
       | (refine OpsW.as (.indexAddr _ _ _) ?_; first | refine OpsW.index rfl rfl rfl rfl (Int.natCast_nonneg _) (by first | exact hidx1 | exact hidx2) rfl ?_ | refine OpsW.val rfl rfl ?_)
       | (refine OpsW.as (.call _) ?_; first | refine OpsW.val (v := .sc (.int _ _)) rfl rfl ?_ | refine OpsW.val rfl rfl ?_)
       | (refine OpsW.as (.unOp _ _ _) ?_; first | refine OpsW.val (v := .sc (.bool _)) rfl rfl ?_ | refine OpsW.val (v := .sc (.int _ _)) rfl rfl ?_)
       | (refine OpsW.as (.box _ _) ?_; refine OpsW.box rfl rfl rfl rfl ?_)
       | (refine OpsW.as (.alloc _) ?_; refine OpsW.alloc rfl rfl rfl rfl rfl ?_)
       | (refine OpsW.as (.store _ _ _) ?_; refine OpsW.put rfl rfl rfl rfl rfl rfl rfl rfl rfl ?_)
       | (refine OpsW.as (.buildSlice _ _ _) ?_; refine OpsW.buildSlice rfl rfl rfl rfl rfl rfl rfl rfl ?_)
       | refine OpsW.unit rfl ?_
       | refine OpsW.nil ?_
       | refine OpsW.val rfl rfl ?_)
      | (refine DrawW.id ?_; first
       | (refine DrawW.guarded ?_; first | refine DrawW.met rfl rfl ?_ | refine DrawW.unmet rfl rfl rfl rfl rfl ?_ | refine DrawW.gone rfl rfl rfl rfl ?_)
       | (refine DrawW.as (.fieldAddr _ _ _) ?_; first | refine DrawW.val (v := .ref _ _ _ _) rfl rfl rfl rfl rfl rfl ?_ | refine DrawW.val (v := .pref _) rfl rfl rfl rfl rfl rfl ?_)
       | ((first | refine DrawW.as (.load _ _) ?_ | refine DrawW.as (.move _) ?_ | refine DrawW.as (.pick _ _ _) ?_ | refine DrawW.as (.assign _) ?_ | refine DrawW.as (.extract _ _) ?_); first | refine DrawW.val (v := .sc (.bool _)) rfl rfl rfl rfl rfl rfl ?_ | refine DrawW.val (v := .sc (.int _ _)) rfl rfl rfl rfl rfl rfl ?_ | refine DrawW.val (v := .ref _ _ _ _) rfl rfl rfl rfl rfl rfl ?_ | refine DrawW.val (v := .isl _ _) rfl rfl rfl rfl rfl rfl ?_ | refine DrawW.val (v := .sc (.string _)) rfl rfl rfl rfl rfl rfl ?_ | refine DrawW.val (v := .agg _) rfl rfl rfl rfl rfl rfl ?_ | refine DrawW.val rfl rfl rfl rfl rfl rfl ?_)
       | (refine DrawW.as (.binOp _ _ _ _ _) ?_; first | refine DrawW.test rfl rfl rfl (fun hb => ?_) (fun hb => ?_) | refine DrawW.val (v := .sc (.int _ _)) rfl rfl rfl rfl rfl rfl ?_ | refine DrawW.val rfl rfl rfl rfl rfl rfl ?_)
       | (refine DrawW.as (.indexAddr _ _ _) ?_; first | refine DrawW.index rfl rfl rfl rfl (Int.natCast_nonneg _) (by first | exact hidx1 | exact hidx2) rfl ?_ | refine DrawW.val rfl rfl rfl rfl rfl rfl ?_)
       | (refine DrawW.as (.call _) ?_; first | refine DrawW.val (v := .sc (.int _ _)) rfl rfl rfl rfl rfl rfl ?_ | refine DrawW.actv rfl rfl rfl rfl ?_)
       | (refine DrawW.as (.unOp _ _ _) ?_; first | refine DrawW.val (v := .sc (.bool _)) rfl rfl rfl rfl rfl rfl ?_ | refine DrawW.val (v := .sc (.int _ _)) rfl rfl rfl rfl rfl rfl ?_)
       | (refine DrawW.as (.box _ _) ?_; refine DrawW.box rfl rfl rfl rfl ?_)
       | (refine DrawW.as (.alloc _) ?_; refine DrawW.alloc rfl rfl rfl rfl rfl ?_)
       | (refine DrawW.as (.store _ _ _) ?_; refine DrawW.put rfl rfl rfl rfl rfl rfl rfl rfl rfl ?_)
       | refine DrawW.store rfl ?_
       | refine DrawW.fin (by kernel_rfl) ?_
       | (refine DrawW.as (.buildSlice _ _ _) ?_; refine DrawW.buildSlice rfl rfl rfl rfl rfl rfl rfl rfl ?_)
       | refine DrawW.val rfl rfl rfl rfl rfl rfl ?_
       | refine DrawW.actv rfl rfl rfl rfl ?_)
      | refine PR.seq ?_
      | refine PR.region hP hR rfl rfl ?_
      | refine PR.draw hP hR rfl rfl (by kernel_rfl) ?_
      | refine PR.yes rfl ?_
      | refine PR.no rfl ?_
      | refine PR.block ?_
      | refine PR.skip hP rfl rfl ?_
      | refine PR.exit hP rfl rfl ?_
      | refine PR.ret hP rfl rfl ?_
      · exfalso
        simp at hb
        omega
      · have := ht.eq (list_eq hll fun j hj => hpre j (by omega))
        subst this
        exact ⟨.inl rfl, rfl, _, 1, rfl, rfl⟩
    | succ m ih =>
      have hlt : i < l.length := by omega
      have hlt' : i < l'.length := by omega
      have hx : l[i]? = some l[i] := List.getElem?_eq_getElem hlt
      have hy : l'[i]? = some l'[i] := List.getElem?_eq_getElem hlt'
      generalize l[i] = x at hx
      generalize l'[i] = y at hy
      have hidx1 : (intRows l)[(i : Int).toNat]? = some [.sc (.int .i64 x)] := by rw [intRows_get, Int.toNat_natCast, hx]; rfl
      have hidx2 : (intRows l')[(i : Int).toNat]? = some [.sc (.int .i64 y)] := by rw [intRows_get, Int.toNat_natCast, hy]; rfl
      refine PR.around ?_
      repeat' first
      | (refine OpsW.id ?_; first
       | (refine OpsW.guarded ?_; first | refine OpsW.met rfl rfl rfl ?_ | refine OpsW.unmet rfl rfl rfl rfl ?_ | refine OpsW.gone rfl rfl rfl ?_)
       | (refine OpsW.as (.fieldAddr _ _ _) ?_; first | refine OpsW.val (v := .ref _ _ _ _) rfl rfl ?_ | refine OpsW.val (v := .pref _) rfl rfl ?_)
       | ((first | refine OpsW.as (.load _ _) ?_ | refine OpsW.as (.move _) ?_ | refine OpsW.as (.pick _ _ _) ?_ | refine OpsW.as (.assign _) ?_ | refine OpsW.as (.extract _ _) ?_); first | refine OpsW.val (v := .sc (.bool _)) rfl rfl ?_ | refine OpsW.val (v := .sc (.int _ _)) rfl rfl ?_ | refine OpsW.val (v := .ref _ _ _ _) rfl rfl ?_ | refine OpsW.val (v := .isl _ _) rfl rfl ?_ | refine OpsW.val (v := .sc (.string _)) rfl rfl ?_ | refine OpsW.val (v := .agg _) rfl rfl ?_ | refine OpsW.val rfl rfl ?_)
       | (refine OpsW.as (.binOp _ _ _ _ _) ?_; first | refine OpsW.test rfl rfl (fun hb => ?_) (fun hb => ?_) | refine OpsW.val (v := .sc (.int _ _)) rfl rfl ?_ | refine OpsW.val rfl rfl ?_)
       | (refine OpsW.as (.indexAddr _ _ _) ?_; first | refine OpsW.index rfl rfl rfl rfl (Int.natCast_nonneg _) (by first | exact hidx1 | exact hidx2) rfl ?_ | refine OpsW.val rfl rfl ?_)
       | (refine OpsW.as (.call _) ?_; first | refine OpsW.val (v := .sc (.int _ _)) rfl rfl ?_ | refine OpsW.val rfl rfl ?_)
       | (refine OpsW.as (.unOp _ _ _) ?_; first | refine OpsW.val (v := .sc (.bool _)) rfl rfl ?_ | refine OpsW.val (v := .sc (.int _ _)) rfl rfl ?_)
       | (refine OpsW.as (.box _ _) ?_; refine OpsW.box rfl rfl rfl rfl ?_)
       | (refine OpsW.as (.alloc _) ?_; refine OpsW.alloc rfl rfl rfl rfl rfl ?_)
       | (refine OpsW.as (.store _ _ _) ?_; refine OpsW.put rfl rfl rfl rfl rfl rfl rfl rfl rfl ?_)
       | (refine OpsW.as (.buildSlice _ _ _) ?_; refine OpsW.buildSlice rfl rfl rfl rfl rfl rfl rfl rfl ?_)
       | refine OpsW.unit rfl ?_
       | refine OpsW.nil ?_
       | refine OpsW.val rfl rfl ?_)
      | (refine DrawW.id ?_; first
       | (refine DrawW.guarded ?_; first | refine DrawW.met rfl rfl ?_ | refine DrawW.unmet rfl rfl rfl rfl rfl ?_ | refine DrawW.gone rfl rfl rfl rfl ?_)
       | (refine DrawW.as (.fieldAddr _ _ _) ?_; first | refine DrawW.val (v := .ref _ _ _ _) rfl rfl rfl rfl rfl rfl ?_ | refine DrawW.val (v := .pref _) rfl rfl rfl rfl rfl rfl ?_)
       | ((first | refine DrawW.as (.load _ _) ?_ | refine DrawW.as (.move _) ?_ | refine DrawW.as (.pick _ _ _) ?_ | refine DrawW.as (.assign _) ?_ | refine DrawW.as (.extract _ _) ?_); first | refine DrawW.val (v := .sc (.bool _)) rfl rfl rfl rfl rfl rfl ?_ | refine DrawW.val (v := .sc (.int _ _)) rfl rfl rfl rfl rfl rfl ?_ | refine DrawW.val (v := .ref _ _ _ _) rfl rfl rfl rfl rfl rfl ?_ | refine DrawW.val (v := .isl _ _) rfl rfl rfl rfl rfl rfl ?_ | refine DrawW.val (v := .sc (.string _)) rfl rfl rfl rfl rfl rfl ?_ | refine DrawW.val (v := .agg _) rfl rfl rfl rfl rfl rfl ?_ | refine DrawW.val rfl rfl rfl rfl rfl rfl ?_)
       | (refine DrawW.as (.binOp _ _ _ _ _) ?_; first | refine DrawW.test rfl rfl rfl (fun hb => ?_) (fun hb => ?_) | refine DrawW.val (v := .sc (.int _ _)) rfl rfl rfl rfl rfl rfl ?_ | refine DrawW.val rfl rfl rfl rfl rfl rfl ?_)
       | (refine DrawW.as (.indexAddr _ _ _) ?_; first | refine DrawW.index rfl rfl rfl rfl (Int.natCast_nonneg _) (by first | exact hidx1 | exact hidx2) rfl ?_ | refine DrawW.val rfl rfl rfl rfl rfl rfl ?_)
       | (refine DrawW.as (.call _) ?_; first | refine DrawW.val (v := .sc (.int _ _)) rfl rfl rfl rfl rfl rfl ?_ | refine DrawW.actv rfl rfl rfl rfl ?_)
       | (refine DrawW.as (.unOp _ _ _) ?_; first | refine DrawW.val (v := .sc (.bool _)) rfl rfl rfl rfl rfl rfl ?_ | refine DrawW.val (v := .sc (.int _ _)) rfl rfl rfl rfl rfl rfl ?_)
       | (refine DrawW.as (.box _ _) ?_; refine DrawW.box rfl rfl rfl rfl ?_)
       | (refine DrawW.as (.alloc _) ?_; refine DrawW.alloc rfl rfl rfl rfl rfl ?_)
       | (refine DrawW.as (.store _ _ _) ?_; refine DrawW.put rfl rfl rfl rfl rfl rfl rfl rfl rfl ?_)
       | refine DrawW.store rfl ?_
       | refine DrawW.fin (by kernel_rfl) ?_
       | (refine DrawW.as (.buildSlice _ _ _) ?_; refine DrawW.buildSlice rfl rfl rfl rfl rfl rfl rfl rfl ?_)
       | refine DrawW.val rfl rfl rfl rfl rfl rfl ?_
       | refine DrawW.actv rfl rfl rfl rfl ?_)
      | refine PR.seq ?_
      | refine PR.region hP hR rfl rfl ?_
      | refine PR.draw hP hR rfl rfl (by kernel_rfl) ?_
      | refine PR.yes rfl ?_
      | refine PR.no rfl ?_
      | refine PR.block ?_
      | refine PR.skip hP rfl rfl ?_
      | refine PR.exit hP rfl rfl ?_
      | refine PR.ret hP rfl rfl ?_
      · have := ht.ne (fun e => by rw [e, hy] at hx; simp at hx hb; exact hb hx.symm)
        subst this
        exact ⟨.inl rfl, rfl, _, 1, rfl, rfl⟩
      · have hxy : x = y := by simpa using hb
        refine PR.to [(0, .isl (intRows l) 1), (1, .isl (intRows l') 1), (12, .sc (.int .i64 ((intRows l).length : Int))), (13, .sc (.int .i64 ((i + 1 : Nat) : Int)))] [] 0 rfl ⟨rfl, rfl, rfl, rfl, rfl, rfl, congrArg (fun z => some (AV.sc (.int .i64 z))) (wrap_succ hlt hl), rfl, trivial⟩ trivial ?_
        refine ih (i + 1) (by omega) (fun j hj => ?_) (by omega)
        rcases Nat.lt_or_ge j i with h3 | h3
        · exact hpre j h3
        · obtain rfl : j = i := by omega
          rw [hx, hy, hxy]
      · exfalso
        simp at hb
        omega
end Go.AI
end

section
namespace Go.AI
open Go Go.Proofs
set_option maxRecDepth 10000
set_option maxHeartbeats 4000000

theorem w46 {R : Rec} (hP : ProgOK Tryz.prog) (hR : RecOK Tryz.prog R) (l l' : List Tm) (hl : l.length ≤ 9223372036854775807) (t : Bool) (ht : EqT l l' t)
    (hC : ∀ (a b : Tm) (t : Bool), a ∈ l → EqT a b t → ∀ h, R.call .normal 86 [.agg a.cells, .agg b.cells] .none h = some (.ret (.sc (.bool t)), .none, h)) (h : AHeap) :
    CallOK Tryz.prog 46 [.isl (Tm.rows l) 7, .isl (Tm.rows l') 7] h (.ret (.sc (.bool t))) h := by
  have hlen := Tm.rows_length l
  have hlen' := Tm.rows_length l'
  refine PR.call hP Tryz.func46 rfl rfl ?_ h
  repeat' first
  | (refine OpsW.id ?_; first
   | (refine OpsW.guarded ?_; first | refine OpsW.met rfl rfl rfl ?_ | refine OpsW.unmet rfl rfl rfl rfl ?_ | refine OpsW.gone rfl rfl rfl ?_)
   | (refine OpsW.as (.fieldAddr _ _ _) ?_; first | refine OpsW.val (v := .ref _ _ _ _) rfl rfl ?_ | refine OpsW.val (v := .pref _) rfl rfl ?_)
   | ((first | refine OpsW.as (.load _ _) ?_ | refine OpsW.as (.move _) ?_ | refine OpsW.as (.pick _ _ _) ?_ | refine OpsW.as (.assign _) ?_ | refine OpsW.as (.extract _ _) ?_); first | refine OpsW.val (v := .sc (.bool _)) rfl rfl ?_ | refine OpsW.val (v := .sc (.int _ _)) rfl rfl ?_ | refine OpsW.val (v := .ref _ _ _ _) rfl rfl ?_ | refine OpsW.val (v := .isl _ _) rfl rfl ?_ | refine OpsW.val (v := .sc (.string _)) rfl rfl ?_ | refine OpsW.val (v := .agg _) rfl rfl ?_ | refine OpsW.val rfl rfl ?_)
   | (refine OpsW.as (.binOp _ _ _ _ _) ?_; first | refine OpsW.test rfl rfl (fun hb => ?_) (fun hb => ?_) | refine OpsW.val (v := .sc (.int _ _)) rfl rfl ?_ | refine OpsW.val rfl rfl ?_)
   | (refine OpsW.as (.indexAddr _ _ _) ?_; first | refine OpsW.index rfl rfl rfl rfl (Int.natCast_nonneg _) (by first | exact hidx1 | exact hidx2) rfl ?_ | refine OpsW.val rfl rfl ?_)
   | (refine OpsW.as (.call _) ?_; first | refine OpsW.val (v := .sc (.int _ _)) rfl rfl ?_ | refine OpsW.call (v := .sc (.bool true)) rfl (hcall1 _) rfl ?_ | refine OpsW.call (v := .sc (.bool false)) rfl (hcall1 _) rfl ?_ | refine OpsW.callB rfl (hcall1 _) rfl (fun hb => ?_) (fun hb => ?_) | refine OpsW.call rfl (hcall1 _) rfl ?_ | refine OpsW.val rfl rfl ?_)
   | (refine OpsW.as (.unOp _ _ _) ?_; first | refine OpsW.val (v := .sc (.bool _)) rfl rfl ?_ | refine OpsW.val (v := .sc (.int _ _)) rfl rfl ?_)
   | (refine OpsW.as (.box _ _) ?_; refine OpsW.box rfl rfl rfl rfl ?_)
   | (refine OpsW.as (.alloc _) ?_; refine OpsW.alloc rfl rfl rfl rfl rfl ?_)
   | (refine OpsW.as (.store _ _ _) ?_; refine OpsW.put rfl rfl rfl rfl rfl rfl rfl rfl rfl ?_)
   | (refine OpsW.as (.buildSlice _ _ _) ?_; refine OpsW.buildSlice rfl rfl rfl rfl rfl rfl rfl rfl ?_)
   | refine OpsW.unit rfl ?_
   | refine OpsW.nil ?_
   | refine OpsW.val rfl rfl ?_)
  | (refine DrawW.id ?_; first
   | (refine DrawW.guarded ?_; first | refine DrawW.met rfl rfl ?_ | refine DrawW.unmet rfl rfl rfl rfl rfl ?_ | refine DrawW.gone rfl rfl rfl rfl ?_)
   | (refine DrawW.as (.fieldAddr _ _ _) ?_; first | refine DrawW.val (v := .ref _ _ _ _) rfl rfl rfl rfl rfl rfl ?_ | refine DrawW.val (v := .pref _) rfl rfl rfl rfl rfl rfl ?_)
   | ((first | refine DrawW.as (.load _ _) ?_ | refine DrawW.as (.move _) ?_ | refine DrawW.as (.pick _ _ _) ?_ | refine DrawW.as (.assign _) ?_ | refine DrawW.as (.extract _ _) ?_); first | refine DrawW.val (v := .sc (.bool _)) rfl rfl rfl rfl rfl rfl ?_ | refine DrawW.val (v := .sc (.int _ _)) rfl rfl rfl rfl rfl rfl ?_ | refine DrawW.val (v := .ref _ _ _ _) rfl rfl rfl rfl rfl rfl ?_ | refine DrawW.val (v := .isl _ _) rfl rfl rfl rfl rfl rfl ?_ | refine DrawW.val (v := .sc (.string _)) rfl rfl rfl rfl rfl rfl ?_ | refine DrawW.val (v := .agg _) rfl rfl rfl rfl rfl rfl ?_ | refine DrawW.val rfl rfl rfl rfl rfl rfl ?_)
   | (refine DrawW.as (.binOp _ _ _ _ _) ?_; first | refine DrawW.test rfl rfl rfl (fun hb => ?_) (fun hb => ?_) | refine DrawW.val (v := .sc (.int _ _)) rfl rfl rfl rfl rfl rfl ?_ | refine DrawW.val rfl rfl rfl rfl rfl rfl ?_)
   | (refine DrawW.as (.indexAddr _ _ _) ?_; first | refine DrawW.index rfl rfl rfl rfl (Int.natCast_nonneg _) (by first | exact hidx1 | exact hidx2) rfl ?_ | refine DrawW.val rfl rfl rfl rfl rfl rfl ?_)
   | (refine DrawW.as (.call _) ?_; first | refine DrawW.val (v := .sc (.int _ _)) rfl rfl rfl rfl rfl rfl ?_ | refine DrawW.call (v := .sc (.bool true)) rfl rfl rfl (hcall1 _) rfl ?_ | refine DrawW.call (v := .sc (.bool false)) rfl rfl rfl (hcall1 _) rfl ?_ | refine DrawW.callB rfl rfl rfl (hcall1 _) rfl (fun hb => ?_) (fun hb => ?_) | refine DrawW.call rfl rfl rfl (hcall1 _) rfl ?_ | refine DrawW.actv rfl rfl rfl rfl ?_)
   | (refine DrawW.as (.unOp _ _ _) ?_; first | refine DrawW.val (v := .sc (.bool _)) rfl rfl rfl rfl rfl rfl ?_ | refine DrawW.val (v := .sc (.int _ _)) rfl rfl rfl rfl rfl rfl ?_)
   | (refine DrawW.as (.box _ _) ?_; refine DrawW.box rfl rfl rfl rfl ?_)
   | (refine DrawW.as (.alloc _) ?_; refine DrawW.alloc rfl rfl rfl rfl rfl ?_)
   | (refine DrawW.as (.store _ _ _) ?_; refine DrawW.put rfl rfl rfl rfl rfl rfl rfl rfl rfl ?_)
   | refine DrawW.store rfl ?_
   | refine DrawW.fin (by kernel_rfl) ?_
   | (refine DrawW.as (.buildSlice _ _ _) ?_; refine DrawW.buildSlice rfl rfl rfl rfl rfl rfl rfl rfl ?_)
   | refine DrawW.val rfl rfl rfl rfl rfl rfl ?_
   | refine DrawW.actv rfl rfl rfl rfl ?_)
  | refine PR.seq ?_
  | refine PR.region hP hR rfl rfl ?_
  | refine PR.draw hP hR rfl rfl (by kernel_rfl) ?_
  | refine PR.yes rfl ?_
  | refine PR.no rfl ?_
  | refine PR.block ?_
  | refine PR.skip hP rfl rfl ?_
  | refine PR.exit hP rfl rfl ?_
  | refine PR.ret hP rfl rfl ?_
  · have := ht.ne (fun e => by rw [e] at hb; simp at hb)
    subst this
    exact ⟨.inl rfl, rfl, _, 1, rfl, rfl⟩
  · have hll : l.length = l'.length := by
      simp only [bne_eq_false_iff_eq] at hb
      omega
    refine PR.loop ?_
    obtain ⟨i, hi0⟩ : ∃ i : Nat, i = 0 := ⟨0, rfl⟩
    refine PR.to [(0, .isl (Tm.rows l) 7), (1, .isl (Tm.rows l') 7), (5, .sc (.int .i64 (i : Int)))] [] 0 rfl ⟨rfl, rfl, rfl, rfl, by subst hi0; rfl, rfl, trivial⟩ trivial ?_
    have hil : i ≤ l.length := by omega
    have hpre : ∀ j, j < i → l[j]? = l'[j]? := fun j hj => by omega
    clear hi0 hb
    induction hm : l.length - i generalizing i with
    | zero =>
      refine PR.around ?_
      repeat' first
      | (refine OpsW.id ?_; first
       | (refine OpsW.guarded ?_; first | refine OpsW.met rfl rfl rfl ?_ | refine OpsW.unmet rfl rfl rfl rfl ?_ | refine OpsW.gone rfl rfl rfl ?_)
       | (refine OpsW.as (.fieldAddr _ _ _) ?_; first | refine OpsW.val (v := .ref _ _ _ _) rfl rfl ?_ | refine OpsW.val (v := .pref _) rfl rfl ?_)
       | ((first | refine OpsW.as (.load _ _) ?_ | refine OpsW.as (.move _) ?_ | refine OpsW.as (.pick _ _ _) ?_ | refine OpsW.as (.assign _) ?_ | refine OpsW.as (.extract _ _) ?_); first | refine OpsW.val (v := .sc (.bool _)) rfl rfl ?_ | refine OpsW.val (v := .sc (.int _ _)) rfl rfl ?_ | refine OpsW.val (v := .ref _ _ _ _) rfl rfl ?_ | refine OpsW.val (v := .isl _ _) rfl rfl ?_ | refine OpsW.val (v := .sc (.string _)) rfl rfl ?_ | refine OpsW.val (v := .agg _) rfl rfl ?_ | refine OpsW.val rfl rfl ?_)
       | (refine OpsW.as (.binOp _ _ _ _ _) ?_; first | refine OpsW.test rfl rfl (fun hb => ?_) (fun hb => ?_) | refine OpsW.val (v := .sc (.int _ _)) rfl rfl ?_ | refine OpsW.val rfl rfl ?_)
       | (refine OpsW.as (.indexAddr _ _ _) ?_; first | refine OpsW.index rfl rfl rfl rfl (Int.natCast_nonneg _) (by first | exact hidx1 | exact hidx2) rfl ?_ | refine OpsW.val rfl rfl ?_)
       | (refine OpsW.as (.call _) ?_; first | refine OpsW.val (v := .sc (.int _ _)) rfl rfl ?_ | refine OpsW.call (v := .sc (.bool true)) rfl (hcall1 _) rfl ?_ | refine OpsW.call (v := .sc (.bool false)) rfl (hcall1 _) rfl ?_ | refine OpsW.callB rfl (hcall1 _) rfl (fun hb => ?_) (fun hb => ?_) | refine OpsW.call rfl (hcall1 _) rfl ?_ | refine OpsW.val rfl rfl ?_)
       | (refine OpsW.as (.unOp _ _ _) ?_; first | refine OpsW.val (v := .sc (.bool _)) rfl rfl ?_ | refine OpsW.val (v := .sc (.int _ _)) rfl rfl ?_)
       | (refine OpsW.as (.box _ _) ?_; refine OpsW.box rfl rfl rfl rfl ?_)
       | (refine OpsW.as (.alloc _) ?_; refine OpsW.alloc rfl rfl rfl rfl rfl ?_)
       | (refine OpsW.as (.store _ _ _) ?_; refine OpsW.put rfl rfl rfl rfl rfl rfl rfl rfl rfl ?_)
       | (refine OpsW.as (.buildSlice _ _ _) ?_; refine OpsW.buildSlice rfl rfl rfl rfl rfl rfl rfl rfl ?_)
       | refine OpsW.unit rfl ?_
       | refine OpsW.nil ?_
       | refine OpsW.val rfl rfl ?_)
      | (refine DrawW.id ?_; first
       | (refine DrawW.guarded ?_; first | refine DrawW.met rfl rfl ?_ | refine DrawW.unmet rfl rfl rfl rfl rfl ?_ | refine DrawW.gone rfl rfl rfl rfl ?_)
       | (refine DrawW.as (.fieldAddr _ _ _) ?_; first | refine DrawW.val (v := .ref _ _ _ _) rfl rfl rfl rfl rfl rfl ?_ | refine DrawW.val (v := .pref _) rfl rfl rfl rfl rfl rfl ?_)
       | ((first | refine DrawW.as (.load _ _) ?_ | refine DrawW.as (.move _) ?_ | refine DrawW.as (.pick _ _ _) ?_ | refine DrawW.as (.assign _) ?_ | refine DrawW.as (.extract _ _) ?_); first | refine DrawW.val (v := .sc (.bool _)) rfl rfl rfl rfl rfl rfl ?_ | refine DrawW.val (v := .sc (.int _ _)) rfl rfl rfl rfl rfl rfl ?_ | refine DrawW.val (v := .ref _ _ _ _) rfl rfl rfl rfl rfl rfl ?_ | refine DrawW.val (v := .isl _ _) rfl rfl rfl rfl rfl rfl ?_ | refine DrawW.val (v := .sc (.string _)) rfl rfl rfl rfl rfl rfl ?_ | refine DrawW.val (v := .agg _) rfl rfl rfl rfl rfl rfl ?_ | refine DrawW.val rfl rfl rfl rfl rfl rfl ?_)
       | (refine DrawW.as (.binOp _ _ _ _ _) ?_; first | refine DrawW.test rfl rfl rfl (fun hb => ?_) (fun hb => ?_) | refine DrawW.val (v := .sc (.int _ _)) rfl rfl rfl rfl rfl rfl ?_ | refine DrawW.val rfl rfl rfl rfl rfl rfl ?_)
       | (refine DrawW.as (.indexAddr _ _ _) ?_; first | refine DrawW.index rfl rfl rfl rfl (Int.natCast_nonneg _) (by first | exact hidx1 | exact hidx2) rfl ?_ | refine DrawW.val rfl rfl rfl rfl rfl rfl ?_)
       | (refine DrawW.as (.call _) ?_; first | refine DrawW.val (v := .sc (.int _ _)) rfl rfl rfl rfl rfl rfl ?_ | refine DrawW.call (v := .sc (.bool true)) rfl rfl rfl (hcall1 _) rfl ?_ | refine DrawW.call (v := .sc (.bool false)) rfl rfl rfl (hcall1 _) rfl ?_ | refine DrawW.callB rfl rfl rfl (hcall1 _) rfl (fun hb => ?_) (fun hb => ?_) | refine DrawW.call rfl rfl rfl (hcall1 _) rfl ?_ | refine DrawW.actv rfl rfl rfl rfl ?_)
       | (refine DrawW.as (.unOp _ _ _) ?_; first | refine DrawW.val (v := .sc (.bool _)) rfl rfl rfl rfl rfl rfl ?_ | refine DrawW.val (v := .sc (.int _ _)) rfl rfl rfl rfl rfl rfl ?_)
       | (refine DrawW.as (.box _ _) ?_; refine DrawW.box rfl rfl rfl rfl ?_)
       | (refine DrawW.as (.alloc _) ?_; refine DrawW.alloc rfl rfl rfl rfl rfl ?_)
       | (refine DrawW.as (.store _ _ _) ?_; refine DrawW.put rfl rfl rfl rfl rfl rfl rfl rfl rfl ?_)
       | refine DrawW.store rfl ?_
       | refine DrawW.fin (by kernel_rfl) ?_
       | (refine DrawW.as (.buildSlice _ _ _) ?_; refine DrawW.buildSlice rfl rfl rfl rfl rfl rfl rfl rfl ?_)
       | refine DrawW.val rfl rfl rfl rfl rfl rfl ?_
       | refine DrawW.actv rfl rfl rfl rfl ?_)
      | refine PR.seq ?_
      | refine PR.region hP hR rfl rfl ?_
      | refine PR.draw hP hR rfl rfl (by kernel_rfl) ?_
      | refine PR.yes rfl ?_
      | refine PR.no rfl ?_
      | refine PR.block ?_
      | refine PR.skip hP rfl rfl ?_
      | refine PR.exit hP rfl rfl ?_
      | refine PR.ret hP rfl rfl ?_
      · exfalso
        simp at hb
        omega
      · have := ht.eq (list_eq hll fun j hj => hpre j (by omega))
        subst this
        exact ⟨.inl rfl, rfl, _, 1, rfl, rfl⟩
    | succ m ih =>
      have hlt : i < l.length := by omega
      have hlt' : i < l'.length := by omega
      have hx : l[i]? = some l[i] := List.getElem?_eq_getElem hlt
      have hy : l'[i]? = some l'[i] := List.getElem?_eq_getElem hlt'
      have hmem : l[i] ∈ l := List.getElem_mem hlt
      generalize l[i] = x at hx hmem
      generalize l'[i] = y at hy
      by_cases hxy : x = y
      · have hcall1 := hC x y true hmem ⟨fun _ => hxy, fun _ => rfl⟩
        obtain ⟨xo, xn, xi, ⟨xa, xb, xc⟩, xs⟩ := x
        obtain ⟨yo, yn, yi, ⟨ya, yb, yc⟩, ys⟩ := y
        have hidx1 : (Tm.rows l)[(i : Int).toNat]? = some (Tm.mk xo xn xi (.mk xa xb xc) xs).cells := by rw [Tm.rows_get, Int.toNat_natCast, hx]; rfl
        have hidx2 : (Tm.rows l')[(i : Int).toNat]? = some (Tm.mk yo yn yi (.mk ya yb yc) ys).cells := by rw [Tm.rows_get, Int.toNat_natCast, hy]; rfl
        refine PR.around ?_
        repeat' first
        | (refine OpsW.id ?_; first
         | (refine OpsW.guarded ?_; first | refine OpsW.met rfl rfl rfl ?_ | refine OpsW.unmet rfl rfl rfl rfl ?_ | refine OpsW.gone rfl rfl rfl ?_)
         | (refine OpsW.as (.fieldAddr _ _ _) ?_; first | refine OpsW.val (v := .ref _ _ _ _) rfl rfl ?_ | refine OpsW.val (v := .pref _) rfl rfl ?_)
         | ((first | refine OpsW.as (.load _ _) ?_ | refine OpsW.as (.move _) ?_ | refine OpsW.as (.pick _ _ _) ?_ | refine OpsW.as (.assign _) ?_ | refine OpsW.as (.extract _ _) ?_); first | refine OpsW.val (v := .sc (.bool _)) rfl rfl ?_ | refine OpsW.val (v := .sc (.int _ _)) rfl rfl ?_ | refine OpsW.val (v := .ref _ _ _ _) rfl rfl ?_ | refine OpsW.val (v := .isl _ _) rfl rfl ?_ | refine OpsW.val (v := .sc (.string _)) rfl rfl ?_ | refine OpsW.val (v := .agg _) rfl rfl ?_ | refine OpsW.val rfl rfl ?_)
         | (refine OpsW.as (.binOp _ _ _ _ _) ?_; first | refine OpsW.test rfl rfl (fun hb => ?_) (fun hb => ?_) | refine OpsW.val (v := .sc (.int _ _)) rfl rfl ?_ | refine OpsW.val rfl rfl ?_)
         | (refine OpsW.as (.indexAddr _ _ _) ?_; first | refine OpsW.index rfl rfl rfl rfl (Int.natCast_nonneg _) (by first | exact hidx1 | exact hidx2) rfl ?_ | refine OpsW.val rfl rfl ?_)
         | (refine OpsW.as (.call _) ?_; first | refine OpsW.val (v := .sc (.int _ _)) rfl rfl ?_ | refine OpsW.call (v := .sc (.bool true)) rfl (hcall1 _) rfl ?_ | refine OpsW.call (v := .sc (.bool false)) rfl (hcall1 _) rfl ?_ | refine OpsW.callB rfl (hcall1 _) rfl (fun hb => ?_) (fun hb => ?_) | refine OpsW.call rfl (hcall1 _) rfl ?_ | refine OpsW.val rfl rfl ?_)
         | (refine OpsW.as (.unOp _ _ _) ?_; first | refine OpsW.val (v := .sc (.bool _)) rfl rfl ?_ | refine OpsW.val (v := .sc (.int _ _)) rfl rfl ?_)
         | (refine OpsW.as (.box _ _) ?_; refine OpsW.box rfl rfl rfl rfl ?_)
         | (refine OpsW.as (.alloc _) ?_; refine OpsW.alloc rfl rfl rfl rfl rfl ?_)
         | (refine OpsW.as (.store _ _ _) ?_; refine OpsW.put rfl rfl rfl rfl rfl rfl rfl rfl rfl ?_)
         | (refine OpsW.as (.buildSlice _ _ _) ?_; refine OpsW.buildSlice rfl rfl rfl rfl rfl rfl rfl rfl ?_)
         | refine OpsW.unit rfl ?_
         | refine OpsW.nil ?_
         | refine OpsW.val rfl rfl ?_)
        | (refine DrawW.id ?_; first
         | (refine DrawW.guarded ?_; first | refine DrawW.met rfl rfl ?_ | refine DrawW.unmet rfl rfl rfl rfl rfl ?_ | refine DrawW.gone rfl rfl rfl rfl ?_)
         | (refine DrawW.as (.fieldAddr _ _ _) ?_; first | refine DrawW.val (v := .ref _ _ _ _) rfl rfl rfl rfl rfl rfl ?_ | refine DrawW.val (v := .pref _) rfl rfl rfl rfl rfl rfl ?_)
         | ((first | refine DrawW.as (.load _ _) ?_ | refine DrawW.as (.move _) ?_ | refine DrawW.as (.pick _ _ _) ?_ | refine DrawW.as (.assign _) ?_ | refine DrawW.as (.extract _ _) ?_); first | refine DrawW.val (v := .sc (.bool _)) rfl rfl rfl rfl rfl rfl ?_ | refine DrawW.val (v := .sc (.int _ _)) rfl rfl rfl rfl rfl rfl ?_ | refine DrawW.val (v := .ref _ _ _ _) rfl rfl rfl rfl rfl rfl ?_ | refine DrawW.val (v := .isl _ _) rfl rfl rfl rfl rfl rfl ?_ | refine DrawW.val (v := .sc (.string _)) rfl rfl rfl rfl rfl rfl ?_ | refine DrawW.val (v := .agg _) rfl rfl rfl rfl rfl rfl ?_ | refine DrawW.val rfl rfl rfl rfl rfl rfl ?_)
         | (refine DrawW.as (.binOp _ _ _ _ _) ?_; first | refine DrawW.test rfl rfl rfl (fun hb => ?_) (fun hb => ?_) | refine DrawW.val (v := .sc (.int _ _)) rfl rfl rfl rfl rfl rfl ?_ | refine DrawW.val rfl rfl rfl rfl rfl rfl ?_)
         | (refine DrawW.as (.indexAddr _ _ _) ?_; first | refine DrawW.index rfl rfl rfl rfl (Int.natCast_nonneg _) (by first | exact hidx1 | exact hidx2) rfl ?_ | refine DrawW.val rfl rfl rfl rfl rfl rfl ?_)
         | (refine DrawW.as (.call _) ?_; first | refine DrawW.val (v := .sc (.int _ _)) rfl rfl rfl rfl rfl rfl ?_ | refine DrawW.call (v := .sc (.bool true)) rfl rfl rfl (hcall1 _) rfl ?_ | refine DrawW.call (v := .sc (.bool false)) rfl rfl rfl (hcall1 _) rfl ?_ | refine DrawW.callB rfl rfl rfl (hcall1 _) rfl (fun hb => ?_) (fun hb => ?_) | refine DrawW.call rfl rfl rfl (hcall1 _) rfl ?_ | refine DrawW.actv rfl rfl rfl rfl ?_)
         | (refine DrawW.as (.unOp _ _ _) ?_; first | refine DrawW.val (v := .sc (.bool _)) rfl rfl rfl rfl rfl rfl ?_ | refine DrawW.val (v := .sc (.int _ _)) rfl rfl rfl rfl rfl rfl ?_)
         | (refine DrawW.as (.box _ _) ?_; refine DrawW.box rfl rfl rfl rfl ?_)
         | (refine DrawW.as (.alloc _) ?_; refine DrawW.alloc rfl rfl rfl rfl rfl ?_)
         | (refine DrawW.as (.store _ _ _) ?_; refine DrawW.put rfl rfl rfl rfl rfl rfl rfl rfl rfl ?_)
         | refine DrawW.store rfl ?_
         | refine DrawW.fin (by kernel_rfl) ?_
         | (refine DrawW.as (.buildSlice _ _ _) ?_; refine DrawW.buildSlice rfl rfl rfl rfl rfl rfl rfl rfl ?_)
         | refine DrawW.val rfl rfl rfl rfl rfl rfl ?_
         | refine DrawW.actv rfl rfl rfl rfl ?_)
        | refine PR.seq ?_
        | refine PR.region hP hR rfl rfl ?_
        | refine PR.draw hP hR rfl rfl (by kernel_rfl) ?_
        | refine PR.yes rfl ?_
        | refine PR.no rfl ?_
        | refine PR.block ?_
        | refine PR.skip hP rfl rfl ?_
        | refine PR.exit hP rfl rfl ?_
        | refine PR.ret hP rfl rfl ?_
        · refine PR.to [(0, .isl (Tm.rows l) 7), (1, .isl (Tm.rows l') 7), (5, .sc (.int .i64 ((i + 1 : Nat) : Int)))] [] 0 rfl ⟨rfl, rfl, rfl, rfl, congrArg (fun z => some (AV.sc (.int .i64 z))) (wrap_succ hlt hl), rfl, trivial⟩ trivial ?_
          refine ih (i + 1) (by omega) (fun j hj => ?_) (by omega)
          rcases Nat.lt_or_ge j i with h3 | h3
          · exact hpre j h3
          · obtain rfl : j = i := by omega
            rw [hx, hy, hxy]
        · exfalso
          simp at hb
          omega
      · have hcall1 := hC x y false hmem ⟨fun e => (by cases e), fun e => absurd e hxy⟩
        have hne := ht.ne (fun e => by rw [e, hy] at hx; simp only [Option.some.injEq] at hx; exact hxy hx.symm)
        obtain ⟨xo, xn, xi, ⟨xa, xb, xc⟩, xs⟩ := x
        obtain ⟨yo, yn, yi, ⟨ya, yb, yc⟩, ys⟩ := y
        have hidx1 : (Tm.rows l)[(i : Int).toNat]? = some (Tm.mk xo xn xi (.mk xa xb xc) xs).cells := by rw [Tm.rows_get, Int.toNat_natCast, hx]; rfl
        have hidx2 : (Tm.rows l')[(i : Int).toNat]? = some (Tm.mk yo yn yi (.mk ya yb yc) ys).cells := by rw [Tm.rows_get, Int.toNat_natCast, hy]; rfl
        refine PR.around ?_
        repeat' first
        | (refine OpsW.id ?_; first
         | (refine OpsW.guarded ?_; first | refine OpsW.met rfl rfl rfl ?_ | refine OpsW.unmet rfl rfl rfl rfl ?_ | refine OpsW.gone rfl rfl rfl ?_)
         | (refine OpsW.as (.fieldAddr _ _ _) ?_; first | refine OpsW.val (v := .ref _ _ _ _) rfl rfl ?_ | refine OpsW.val (v := .pref _) rfl rfl ?_)
         | ((first | refine OpsW.as (.load _ _) ?_ | refine OpsW.as (.move _) ?_ | refine OpsW.as (.pick _ _ _) ?_ | refine OpsW.as (.assign _) ?_ | refine OpsW.as (.extract _ _) ?_); first | refine OpsW.val (v := .sc (.bool _)) rfl rfl ?_ | refine OpsW.val (v := .sc (.int _ _)) rfl rfl ?_ | refine OpsW.val (v := .ref _ _ _ _) rfl rfl ?_ | refine OpsW.val (v := .isl _ _) rfl rfl ?_ | refine OpsW.val (v := .sc (.string _)) rfl rfl ?_ | refine OpsW.val (v := .agg _) rfl rfl ?_ | refine OpsW.val rfl rfl ?_)
         | (refine OpsW.as (.binOp _ _ _ _ _) ?_; first | refine OpsW.test rfl rfl (fun hb => ?_) (fun hb => ?_) | refine OpsW.val (v := .sc (.int _ _)) rfl rfl ?_ | refine OpsW.val rfl rfl ?_)
         | (refine OpsW.as (.indexAddr _ _ _) ?_; first | refine OpsW.index rfl rfl rfl rfl (Int.natCast_nonneg _) (by first | exact hidx1 | exact hidx2) rfl ?_ | refine OpsW.val rfl rfl ?_)
         | (refine OpsW.as (.call _) ?_; first | refine OpsW.val (v := .sc (.int _ _)) rfl rfl ?_ | refine OpsW.call (v := .sc (.bool true)) rfl (hcall1 _) rfl ?_ | refine OpsW.call (v := .sc (.bool false)) rfl (hcall1 _) rfl ?_ | refine OpsW.callB rfl (hcall1 _) rfl (fun hb => ?_) (fun hb => ?_) | refine OpsW.call rfl (hcall1 _) rfl ?_ | refine OpsW.val rfl rfl ?_)
         | (refine OpsW.as (.unOp _ _ _) ?_; first | refine OpsW.val (v := .sc (.bool _)) rfl rfl ?_ | refine OpsW.val (v := .sc (.int _ _)) rfl rfl ?_)
         | (refine OpsW.as (.box _ _) ?_; refine OpsW.box rfl rfl rfl rfl ?_)
         | (refine OpsW.as (.alloc _) ?_; refine OpsW.alloc rfl rfl rfl rfl rfl ?_)
         | (refine OpsW.as (.store _ _ _) ?_; refine OpsW.put rfl rfl rfl rfl rfl rfl rfl rfl rfl ?_)
         | (refine OpsW.as (.buildSlice _ _ _) ?_; refine OpsW.buildSlice rfl rfl rfl rfl rfl rfl rfl rfl ?_)
         | refine OpsW.unit rfl ?_
         | refine OpsW.nil ?_
         | refine OpsW.val rfl rfl ?_)
        | (refine DrawW.id ?_; first
         | (refine DrawW.guarded ?_; first | refine DrawW.met rfl rfl ?_ | refine DrawW.unmet rfl rfl rfl rfl rfl ?_ | refine DrawW.gone rfl rfl rfl rfl ?_)
         | (refine DrawW.as (.fieldAddr _ _ _) ?_; first | refine DrawW.val (v := .ref _ _ _ _) rfl rfl rfl rfl rfl rfl ?_ | refine DrawW.val (v := .pref _) rfl rfl rfl rfl rfl rfl ?_)
         | ((first | refine DrawW.as (.load _ _) ?_ | refine DrawW.as (.move _) ?_ | refine DrawW.as (.pick _ _ _) ?_ | refine DrawW.as (.assign _) ?_ | refine DrawW.as (.extract _ _) ?_); first | refine DrawW.val (v := .sc (.bool _)) rfl rfl rfl rfl rfl rfl ?_ | refine DrawW.val (v := .sc (.int _ _)) rfl rfl rfl rfl rfl rfl ?_ | refine DrawW.val (v := .ref _ _ _ _) rfl rfl rfl rfl rfl rfl ?_ | refine DrawW.val (v := .isl _ _) rfl rfl rfl rfl rfl rfl ?_ | refine DrawW.val (v := .sc (.string _)) rfl rfl rfl rfl rfl rfl ?_ | refine DrawW.val (v := .agg _) rfl rfl rfl rfl rfl rfl ?_ | refine DrawW.val rfl rfl rfl rfl rfl rfl ?_)
         | (refine DrawW.as (.binOp _ _ _ _ _) ?_; first | refine DrawW.test rfl rfl rfl (fun hb => ?_) (fun hb => ?_) | refine DrawW.val (v := .sc (.int _ _)) rfl rfl rfl rfl rfl rfl ?_ | refine DrawW.val rfl rfl rfl rfl rfl rfl ?_)
         | (refine DrawW.as (.indexAddr _ _ _) ?_; first | refine DrawW.index rfl rfl rfl rfl (Int.natCast_nonneg _) (by first | exact hidx1 | exact hidx2) rfl ?_ | refine DrawW.val rfl rfl rfl rfl rfl rfl ?_)
         | (refine DrawW.as (.call _) ?_; first | refine DrawW.val (v := .sc (.int _ _)) rfl rfl rfl rfl rfl rfl ?_ | refine DrawW.call (v := .sc (.bool true)) rfl rfl rfl (hcall1 _) rfl ?_ | refine DrawW.call (v := .sc (.bool false)) rfl rfl rfl (hcall1 _) rfl ?_ | refine DrawW.callB rfl rfl rfl (hcall1 _) rfl (fun hb => ?_) (fun hb => ?_) | refine DrawW.call rfl rfl rfl (hcall1 _) rfl ?_ | refine DrawW.actv rfl rfl rfl rfl ?_)
         | (refine DrawW.as (.unOp _ _ _) ?_; first | refine DrawW.val (v := .sc (.bool _)) rfl rfl rfl rfl rfl rfl ?_ | refine DrawW.val (v := .sc (.int _ _)) rfl rfl rfl rfl rfl rfl ?_)
         | (refine DrawW.as (.box _ _) ?_; refine DrawW.box rfl rfl rfl rfl ?_)
         | (refine DrawW.as (.alloc _) ?_; refine DrawW.alloc rfl rfl rfl rfl rfl ?_)
         | (refine DrawW.as (.store _ _ _) ?_; refine DrawW.put rfl rfl rfl rfl rfl rfl rfl rfl rfl ?_)
         | refine DrawW.store rfl ?_
         | refine DrawW.fin (by kernel_rfl) ?_
         | (refine DrawW.as (.buildSlice _ _ _) ?_; refine DrawW.buildSlice rfl rfl rfl rfl rfl rfl rfl rfl ?_)
         | refine DrawW.val rfl rfl rfl rfl rfl rfl ?_
         | refine DrawW.actv rfl rfl rfl rfl ?_)
        | refine PR.seq ?_
        | refine PR.region hP hR rfl rfl ?_
        | refine PR.draw hP hR rfl rfl (by kernel_rfl) ?_
        | refine PR.yes rfl ?_
        | refine PR.no rfl ?_
        | refine PR.block ?_
        | refine PR.skip hP rfl rfl ?_
        | refine PR.exit hP rfl rfl ?_
        | refine PR.ret hP rfl rfl ?_
        · subst hne
          exact ⟨.inl rfl, rfl, _, 1, rfl, rfl⟩
        · exfalso
          simp at hb
          omega
end Go.AI
end

section
namespace Go.AI
open Go Go.Proofs
set_option maxRecDepth 10000
set_option maxHeartbeats 4000000

theorem w85 {R : Rec} (hP : ProgOK Tryz.prog) (hR : RecOK Tryz.prog R) (l l' : List Ty) (hl : l.length ≤ 9223372036854775807) (t : Bool) (ht : EqT l l' t)
    (hC : ∀ (a b : Ty) (t : Bool), a ∈ l → EqT a b t → ∀ h, R.call .normal 44 [.agg a.cells, .agg b.cells] .none h = some (.ret (.sc (.bool t)), .none, h)) (h : AHeap) :
    CallOK Tryz.prog 85 [.isl (Ty.rows l) 3, .isl (Ty.rows l') 3, .sc (.func (.func 44) #[] #[])] h (.ret (.sc (.bool t))) h := by
  have hlen := Ty.rows_length l
  have hlen' := Ty.rows_length l'
  refine PR.call hP Tryz.func85 rfl rfl ?_ h
  repeat' first
  | (refine OpsW.id ?_; first
   | (refine OpsW.guarded ?_; first | refine OpsW.met rfl rfl rfl ?_ | refine OpsW.unmet rfl rfl rfl rfl ?_ | refine OpsW.gone rfl rfl rfl ?_)
   | (refine OpsW.as (.fieldAddr _ _ _) ?_; first | refine OpsW.val (v := .ref _ _ _ _) rfl rfl ?_ | refine OpsW.val (v := .pref _) rfl rfl ?_)
   | ((first | refine OpsW.as (.load _ _) ?_ | refine OpsW.as (.move _) ?_ | refine OpsW.as (.pick _ _ _) ?_ | refine OpsW.as (.assign _) ?_ | refine OpsW.as (.extract _ _) ?_); first | refine OpsW.val (v := .sc (.bool _)) rfl rfl ?_ | refine OpsW.val (v := .sc (.int _ _)) rfl rfl ?_ | refine OpsW.val (v := .ref _ _ _ _) rfl rfl ?_ | refine OpsW.val (v := .isl _ _) rfl rfl ?_ | refine OpsW.val (v := .sc (.string _)) rfl rfl ?_ | refine OpsW.val (v := .agg _) rfl rfl ?_ | refine OpsW.val rfl rfl ?_)
   | (refine OpsW.as (.binOp _ _ _ _ _) ?_; first | refine OpsW.test rfl rfl (fun hb => ?_) (fun hb => ?_) | refine OpsW.val (v := .sc (.int _ _)) rfl rfl ?_ | refine OpsW.val rfl rfl ?_)
   | (refine OpsW.as (.indexAddr _ _ _) ?_; first | refine OpsW.index rfl rfl rfl rfl (Int.natCast_nonneg _) (by first | exact hidx1 | exact hidx2) rfl ?_ | refine OpsW.val rfl rfl ?_)
   | (refine OpsW.as (.call _) ?_; first | refine OpsW.val (v := .sc (.int _ _)) rfl rfl ?_ | refine OpsW.call (v := .sc (.bool true)) rfl (hcall1 _) rfl ?_ | refine OpsW.call (v := .sc (.bool false)) rfl (hcall1 _) rfl ?_ | refine OpsW.callB rfl (hcall1 _) rfl (fun hb => ?_) (fun hb => ?_) | refine OpsW.call rfl (hcall1 _) rfl ?_ | refine OpsW.val rfl rfl ?_)
   | (refine OpsW.as (.unOp _ _ _) ?_; first | refine OpsW.val (v := .sc (.bool _)) rfl rfl ?_ | refine OpsW.val (v := .sc (.int _ _)) rfl rfl ?_)
   | (refine OpsW.as (.box _ _) ?_; refine OpsW.box rfl rfl rfl rfl ?_)
   | (refine OpsW.as (.alloc _) ?_; refine OpsW.alloc rfl rfl rfl rfl rfl ?_)
   | (refine OpsW.as (.store _ _ _) ?_; refine OpsW.put rfl rfl rfl rfl rfl rfl rfl rfl rfl ?_)
   | (refine OpsW.as (.buildSlice _ _ _) ?_; refine OpsW.buildSlice rfl rfl rfl rfl rfl rfl rfl rfl ?_)
   | refine OpsW.unit rfl ?_
   | refine OpsW.nil ?_
   | refine OpsW.val rfl rfl ?_)
  | (refine DrawW.id ?_; first
   | (refine DrawW.guarded ?_; first | refine DrawW.met rfl rfl ?_ | refine DrawW.unmet rfl rfl rfl rfl rfl ?_ | refine DrawW.gone rfl rfl rfl rfl ?_)
   | (refine DrawW.as (.fieldAddr _ _ _) ?_; first | refine DrawW.val (v := .ref _ _ _ _) rfl rfl rfl rfl rfl rfl ?_ | refine DrawW.val (v := .pref _) rfl rfl rfl rfl rfl rfl ?_)
   | ((first | refine DrawW.as (.load _ _) ?_ | refine DrawW.as (.move _) ?_ | refine DrawW.as (.pick _ _ _) ?_ | refine DrawW.as (.assign _) ?_ | refine DrawW.as (.extract _ _) ?_); first | refine DrawW.val (v := .sc (.bool _)) rfl rfl rfl rfl rfl rfl ?_ | refine DrawW.val (v := .sc (.int _ _)) rfl rfl rfl rfl rfl rfl ?_ | refine DrawW.val (v := .ref _ _ _ _) rfl rfl rfl rfl rfl rfl ?_ | refine DrawW.val (v := .isl _ _) rfl rfl rfl rfl rfl rfl ?_ | refine DrawW.val (v := .sc (.string _)) rfl rfl rfl rfl rfl rfl ?_ | refine DrawW.val (v := .agg _) rfl rfl rfl rfl rfl rfl ?_ | refine DrawW.val rfl rfl rfl rfl rfl rfl ?_)
   | (refine DrawW.as (.binOp _ _ _ _ _) ?_; first | refine DrawW.test rfl rfl rfl (fun hb => ?_) (fun hb => ?_) | refine DrawW.val (v := .sc (.int _ _)) rfl rfl rfl rfl rfl rfl ?_ | refine DrawW.val rfl rfl rfl rfl rfl rfl ?_)
   | (refine DrawW.as (.indexAddr _ _ _) ?_; first | refine DrawW.index rfl rfl rfl rfl (Int.natCast_nonneg _) (by first | exact hidx1 | exact hidx2) rfl ?_ | refine DrawW.val rfl rfl rfl rfl rfl rfl ?_)
   | (refine DrawW.as (.call _) ?_; first | refine DrawW.val (v := .sc (.int _ _)) rfl rfl rfl rfl rfl rfl ?_ | refine DrawW.call (v := .sc (.bool true)) rfl rfl rfl (hcall1 _) rfl ?_ | refine DrawW.call (v := .sc (.bool false)) rfl rfl rfl (hcall1 _) rfl ?_ | refine DrawW.callB rfl rfl rfl (hcall1 _) rfl (fun hb => ?_) (fun hb => ?_) | refine DrawW.call rfl rfl rfl (hcall1 _) rfl ?_ | refine DrawW.actv rfl rfl rfl rfl ?_)
   | (refine DrawW.as (.unOp _ _ _) ?_; first | refine DrawW.val (v := .sc (.bool _)) rfl rfl rfl rfl rfl rfl ?_ | refine DrawW.val (v := .sc (.int _ _)) rfl rfl rfl rfl rfl rfl ?_)
   | (refine DrawW.as (.box _ _) ?_; refine DrawW.box rfl rfl rfl rfl ?_)
   | (refine DrawW.as (.alloc _) ?_; refine DrawW.alloc rfl rfl rfl rfl rfl ?_)
   | (refine DrawW.as (.store _ _ _) ?_; refine DrawW.put rfl rfl rfl rfl rfl rfl rfl rfl rfl ?_)
   | refine DrawW.store rfl ?_
   | refine DrawW.fin (by kernel_rfl) ?_
   | (refine DrawW.as (.buildSlice _ _ _) ?_; refine DrawW.buildSlice rfl rfl rfl rfl rfl rfl rfl rfl ?_)
   | refine DrawW.val rfl rfl rfl rfl rfl rfl ?_
   | refine DrawW.actv rfl rfl rfl rfl ?_)
  | refine PR.seq ?_
  | refine PR.region hP hR rfl rfl ?_
  | refine PR.draw hP hR rfl rfl (by kernel_rfl) ?_
  | refine PR.yes rfl ?_
  | refine PR.no rfl ?_
  | refine PR.block ?_
  | refine PR.skip hP rfl rfl ?_
  | refine PR.exit hP rfl rfl ?_
  | refine PR.ret hP rfl rfl ?_
  · have := ht.ne (fun e => by rw [e] at hb; simp at hb)
    subst this
    exact ⟨.inl rfl, rfl, _, 1, rfl, rfl⟩
  · have hll : l.length = l'.length := by
      simp only [bne_eq_false_iff_eq] at hb
      omega
    refine PR.loop ?_
    obtain ⟨i, hi0⟩ : ∃ i : Nat, i = 0 := ⟨0, rfl⟩
    refine PR.to [(0, .isl (Ty.rows l) 3), (1, .isl (Ty.rows l') 3), (2, .sc (.func (.func 44) #[] #[])), (15, .isl (Ty.rows l) 3), (16, .sc (.int .i64 ((Ty.rows l).length : Int))), (17, .sc (.int .i64 (i : Int)))] [] 0 rfl ⟨rfl, rfl, rfl, rfl, rfl, rfl, rfl, rfl, rfl, rfl, by subst hi0; rfl, rfl, trivial⟩ trivial ?_
    have hil : i ≤ l.length := by omega
    have hpre : ∀ j, j < i → l[j]? = l'[j]? := fun j hj => by omega
    clear hi0 hb
    induction hm : l.length - i generalizing i with
    | zero =>
      refine PR.around ?_
      repeat' first
      | (refine OpsW.id ?_; first
       | (refine OpsW.guarded ?_; first | refine OpsW.met rfl rfl rfl ?_ | refine OpsW.unmet rfl rfl rfl rfl ?_ | refine OpsW.gone rfl rfl rfl ?_)
       | (refine OpsW.as (.fieldAddr _ _ _) ?_; first | refine OpsW.val (v := .ref _ _ _ _) rfl rfl ?_ | refine OpsW.val (v := .pref _) rfl rfl ?_)
       | ((first | refine OpsW.as (.load _ _) ?_ | refine OpsW.as (.move _) ?_ | refine OpsW.as (.pick _ _ _) ?_ | refine OpsW.as (.assign _) ?_ | refine OpsW.as (.extract _ _) ?_); first | refine OpsW.val (v := .sc (.bool _)) rfl rfl ?_ | refine OpsW.val (v := .sc (.int _ _)) rfl rfl ?_ | refine OpsW.val (v := .ref _ _ _ _) rfl rfl ?_ | refine OpsW.val (v := .isl _ _) rfl rfl ?_ | refine OpsW.val (v := .sc (.string _)) rfl rfl ?_ | refine OpsW.val (v := .agg _) rfl rfl ?_ | refine OpsW.val rfl rfl ?_)
       | (refine OpsW.as (.binOp _ _ _ _ _) ?_; first | refine OpsW.test rfl rfl (fun hb => ?_) (fun hb => ?_) | refine OpsW.val (v := .sc (.int _ _)) rfl rfl ?_ | refine OpsW.val rfl rfl ?_)
       | (refine OpsW.as (.indexAddr _ _ _) ?_; first | refine OpsW.index rfl rfl rfl rfl (Int.natCast_nonneg _) (by first | exact hidx1 | exact hidx2) rfl ?_ | refine OpsW.val rfl rfl ?_)
       | (refine OpsW.as (.call _) ?_; first | refine OpsW.val (v := .sc (.int _ _)) rfl rfl ?_ | refine OpsW.call (v := .sc (.bool true)) rfl (hcall1 _) rfl ?_ | refine OpsW.call (v := .sc (.bool false)) rfl (hcall1 _) rfl ?_ | refine OpsW.callB rfl (hcall1 _) rfl (fun hb => ?_) (fun hb => ?_) | refine OpsW.call rfl (hcall1 _) rfl ?_ | refine OpsW.val rfl rfl ?_)
       | (refine OpsW.as (.unOp _ _ _) ?_; first | refine OpsW.val (v := .sc (.bool _)) rfl rfl ?_ | refine OpsW.val (v := .sc (.int _ _)) rfl rfl ?_)
       | (refine OpsW.as (.box _ _) ?_; refine OpsW.box rfl rfl rfl rfl ?_)
       | (refine OpsW.as (.alloc _) ?_; refine OpsW.alloc rfl rfl rfl rfl rfl ?_)
       | (refine OpsW.as (.store _ _ _) ?_; refine OpsW.put rfl rfl rfl rfl rfl rfl rfl rfl rfl ?_)
       | (refine OpsW.as (.buildSlice _ _ _) ?_; refine OpsW.buildSlice rfl rfl rfl rfl rfl rfl rfl rfl ?_)
       | refine OpsW.unit rfl ?_
       | refine OpsW.nil ?_
       | refine OpsW.val rfl rfl ?_)
      | (refine DrawW.id ?_; first
       | (refine DrawW.guarded ?_; first | refine DrawW.met rfl rfl ?_ | refine DrawW.unmet rfl rfl rfl rfl rfl ?_ | refine DrawW.gone rfl rfl rfl rfl ?_)
       | (refine DrawW.as (.fieldAddr _ _ _) ?_; first | refine DrawW.val (v := .ref _ _ _ _) rfl rfl rfl rfl rfl rfl ?_ | refine DrawW.val (v := .pref _) rfl rfl rfl rfl rfl rfl ?_)
       | ((first | refine DrawW.as (.load _ _) ?_ | refine DrawW.as (.move _) ?_ | refine DrawW.as (.pick _ _ _) ?_ | refine DrawW.as (.assign _) ?_ | refine DrawW.as (.extract _ _) ?_); first | refine DrawW.val (v := .sc (.bool _)) rfl rfl rfl rfl rfl rfl ?_ | refine DrawW.val (v := .sc (.int _ _)) rfl rfl rfl rfl rfl rfl ?_ | refine DrawW.val (v := .ref _ _ _ _) rfl rfl rfl rfl rfl rfl ?_ | refine DrawW.val (v := .isl _ _) rfl rfl rfl rfl rfl rfl ?_ | refine DrawW.val (v := .sc (.string _)) rfl rfl rfl rfl rfl rfl ?_ | refine DrawW.val (v := .agg _) rfl rfl rfl rfl rfl rfl ?_ | refine DrawW.val rfl rfl rfl rfl rfl rfl ?_)
       | (refine DrawW.as (.binOp _ _ _ _ _) ?_; first | refine DrawW.test rfl rfl rfl (fun hb => ?_) (fun hb => ?_) | refine DrawW.val (v := .sc (.int _ _)) rfl rfl rfl rfl rfl rfl ?_ | refine DrawW.val rfl rfl rfl rfl rfl rfl ?_)
       | (refine DrawW.as (.indexAddr _ _ _) ?_; first | refine DrawW.index rfl rfl rfl rfl (Int.natCast_nonneg _) (by first | exact hidx1 | exact hidx2) rfl ?_ | refine DrawW.val rfl rfl rfl rfl rfl rfl ?_)
       | (refine DrawW.as (.call _) ?_; first | refine DrawW.val (v := .sc (.int _ _)) rfl rfl rfl rfl rfl rfl ?_ | refine DrawW.call (v := .sc (.bool true)) rfl rfl rfl (hcall1 _) rfl ?_ | refine DrawW.call (v := .sc (.bool false)) rfl rfl rfl (hcall1 _) rfl ?_ | refine DrawW.callB rfl rfl rfl (hcall1 _) rfl (fun hb => ?_) (fun hb => ?_) | refine DrawW.call rfl rfl rfl (hcall1 _) rfl ?_ | refine DrawW.actv rfl rfl rfl rfl ?_)
       | (refine DrawW.as (.unOp _ _ _) ?_; first | refine DrawW.val (v := .sc (.bool _)) rfl rfl rfl rfl rfl rfl ?_ | refine DrawW.val (v := .sc (.int _ _)) rfl rfl rfl rfl rfl rfl ?_)
       | (refine DrawW.as (.box _ _) ?_; refine DrawW.box rfl rfl rfl rfl ?_)
       | (refine DrawW.as (.alloc _) ?_; refine DrawW.alloc rfl rfl rfl rfl rfl ?_)
       | (refine DrawW.as (.store _ _ _) ?_; refine DrawW.put rfl rfl rfl rfl rfl rfl rfl rfl rfl ?_)
       | refine DrawW.store rfl ?_
       | refine DrawW.fin (by kernel_rfl) ?_
       | (refine DrawW.as (.buildSlice _ _ _) ?_; refine DrawW.buildSlice rfl rfl rfl rfl rfl rfl rfl rfl ?_)
       | refine DrawW.val rfl rfl rfl rfl rfl rfl ?_
       | refine DrawW.actv rfl rfl rfl rfl ?_)
      | refine PR.seq ?_
      | refine PR.region hP hR rfl rfl ?_
      | refine PR.draw hP hR rfl rfl (by kernel_rfl) ?_
      | refine PR.yes rfl ?_
      | refine PR.no rfl ?_
      | refine PR.block ?_
      | refine PR.skip hP rfl rfl ?_
      | refine PR.exit hP rfl rfl ?_
      | refine PR.ret hP rfl rfl ?_
      · exfalso
        simp at hb
        omega
      · have := ht.eq (list_eq hll fun j hj => hpre j (by omega))
        subst this
        exact ⟨.inl rfl, rfl, _, 1, rfl, rfl⟩
    | succ m ih =>
      have hlt : i < l.length := by omega
      have hlt' : i < l'.length := by omega
      have hx : l[i]? = some l[i] := List.getElem?_eq_getElem hlt
      have hy : l'[i]? = some l'[i] := List.getElem?_eq_getElem hlt'
      have hmem : l[i] ∈ l := List.getElem_mem hlt
      generalize l[i] = x at hx hmem
      generalize l'[i] = y at hy
      by_cases hxy : x = y
      · have hcall1 := hC x y true hmem ⟨fun _ => hxy, fun _ => rfl⟩
        obtain ⟨xk, xn, xs⟩ := x
        obtain ⟨yk, yn, ys⟩ := y
        have hidx1 : (Ty.rows l)[(i : Int).toNat]? = some (Ty.mk xk xn xs).cells := by rw [Ty.rows_get, Int.toNat_natCast, hx]; rfl
        have hidx2 : (Ty.rows l')[(i : Int).toNat]? = some (Ty.mk yk yn ys).cells := by rw [Ty.rows_get, Int.toNat_natCast, hy]; rfl
        refine PR.around ?_
        repeat' first
        | (refine OpsW.id ?_; first
         | (refine OpsW.guarded ?_; first | refine OpsW.met rfl rfl rfl ?_ | refine OpsW.unmet rfl rfl rfl rfl ?_ | refine OpsW.gone rfl rfl rfl ?_)
         | (refine OpsW.as (.fieldAddr _ _ _) ?_; first | refine OpsW.val (v := .ref _ _ _ _) rfl rfl ?_ | refine OpsW.val (v := .pref _) rfl rfl ?_)
         | ((first | refine OpsW.as (.load _ _) ?_ | refine OpsW.as (.move _) ?_ | refine OpsW.as (.pick _ _ _) ?_ | refine OpsW.as (.assign _) ?_ | refine OpsW.as (.extract _ _) ?_); first | refine OpsW.val (v := .sc (.bool _)) rfl rfl ?_ | refine OpsW.val (v := .sc (.int _ _)) rfl rfl ?_ | refine OpsW.val (v := .ref _ _ _ _) rfl rfl ?_ | refine OpsW.val (v := .isl _ _) rfl rfl ?_ | refine OpsW.val (v := .sc (.string _)) rfl rfl ?_ | refine OpsW.val (v := .agg _) rfl rfl ?_ | refine OpsW.val rfl rfl ?_)
         | (refine OpsW.as (.binOp _ _ _ _ _) ?_; first | refine OpsW.test rfl rfl (fun hb => ?_) (fun hb => ?_) | refine OpsW.val (v := .sc (.int _ _)) rfl rfl ?_ | refine OpsW.val rfl rfl ?_)
         | (refine OpsW.as (.indexAddr _ _ _) ?_; first | refine OpsW.index rfl rfl rfl rfl (Int.natCast_nonneg _) (by first | exact hidx1 | exact hidx2) rfl ?_ | refine OpsW.val rfl rfl ?_)
         | (refine OpsW.as (.call _) ?_; first | refine OpsW.val (v := .sc (.int _ _)) rfl rfl ?_ | refine OpsW.call (v := .sc (.bool true)) rfl (hcall1 _) rfl ?_ | refine OpsW.call (v := .sc (.bool false)) rfl (hcall1 _) rfl ?_ | refine OpsW.callB rfl (hcall1 _) rfl (fun hb => ?_) (fun hb => ?_) | refine OpsW.call rfl (hcall1 _) rfl ?_ | refine OpsW.val rfl rfl ?_)
         | (refine OpsW.as (.unOp _ _ _) ?_; first | refine OpsW.val (v := .sc (.bool _)) rfl rfl ?_ | refine OpsW.val (v := .sc (.int _ _)) rfl rfl ?_)
         | (refine OpsW.as (.box _ _) ?_; refine OpsW.box rfl rfl rfl rfl ?_)
         | (refine OpsW.as (.alloc _) ?_; refine OpsW.alloc rfl rfl rfl rfl rfl ?_)
         | (refine OpsW.as (.store _ _ _) ?_; refine OpsW.put rfl rfl rfl rfl rfl rfl rfl rfl rfl ?_)
         | (refine OpsW.as (.buildSlice _ _ _) ?_; refine OpsW.buildSlice rfl rfl rfl rfl rfl rfl rfl rfl ?_)
         | refine OpsW.unit rfl ?_
         | refine OpsW.nil ?_
         | refine OpsW.val rfl rfl ?_)
        | (refine DrawW.id ?_; first
         | (refine DrawW.guarded ?_; first | refine DrawW.met rfl rfl ?_ | refine DrawW.unmet rfl rfl rfl rfl rfl ?_ | refine DrawW.gone rfl rfl rfl rfl ?_)
         | (refine DrawW.as (.fieldAddr _ _ _) ?_; first | refine DrawW.val (v := .ref _ _ _ _) rfl rfl rfl rfl rfl rfl ?_ | refine DrawW.val (v := .pref _) rfl rfl rfl rfl rfl rfl ?_)
         | ((first | refine DrawW.as (.load _ _) ?_ | refine DrawW.as (.move _) ?_ | refine DrawW.as (.pick _ _ _) ?_ | refine DrawW.as (.assign _) ?_ | refine DrawW.as (.extract _ _) ?_); first | refine DrawW.val (v := .sc (.bool _)) rfl rfl rfl rfl rfl rfl ?_ | refine DrawW.val (v := .sc (.int _ _)) rfl rfl rfl rfl rfl rfl ?_ | refine DrawW.val (v := .ref _ _ _ _) rfl rfl rfl rfl rfl rfl ?_ | refine DrawW.val (v := .isl _ _) rfl rfl rfl rfl rfl rfl ?_ | refine DrawW.val (v := .sc (.string _)) rfl rfl rfl rfl rfl rfl ?_ | refine DrawW.val (v := .agg _) rfl rfl rfl rfl rfl rfl ?_ | refine DrawW.val rfl rfl rfl rfl rfl rfl ?_)
         | (refine DrawW.as (.binOp _ _ _ _ _) ?_; first | refine DrawW.test rfl rfl rfl (fun hb => ?_) (fun hb => ?_) | refine DrawW.val (v := .sc (.int _ _)) rfl rfl rfl rfl rfl rfl ?_ | refine DrawW.val rfl rfl rfl rfl rfl rfl ?_)
         | (refine DrawW.as (.indexAddr _ _ _) ?_; first | refine DrawW.index rfl rfl rfl rfl (Int.natCast_nonneg _) (by first | exact hidx1 | exact hidx2) rfl ?_ | refine DrawW.val rfl rfl rfl rfl rfl rfl ?_)
         | (refine DrawW.as (.call _) ?_; first | refine DrawW.val (v := .sc (.int _ _)) rfl rfl rfl rfl rfl rfl ?_ | refine DrawW.call (v := .sc (.bool true)) rfl rfl rfl (hcall1 _) rfl ?_ | refine DrawW.call (v := .sc (.bool false)) rfl rfl rfl (hcall1 _) rfl ?_ | refine DrawW.callB rfl rfl rfl (hcall1 _) rfl (fun hb => ?_) (fun hb => ?_) | refine DrawW.call rfl rfl rfl (hcall1 _) rfl ?_ | refine DrawW.actv rfl rfl rfl rfl ?_)
         | (refine DrawW.as (.unOp _ _ _) ?_; first | refine DrawW.val (v := .sc (.bool _)) rfl rfl rfl rfl rfl rfl ?_ | refine DrawW.val (v := .sc (.int _ _)) rfl rfl rfl rfl rfl rfl ?_)
         | (refine DrawW.as (.box _ _) ?_; refine DrawW.box rfl rfl rfl rfl ?_)
         | (refine DrawW.as (.alloc _) ?_; refine DrawW.alloc rfl rfl rfl rfl rfl ?_)
         | (refine DrawW.as (.store _ _ _) ?_; refine DrawW.put rfl rfl rfl rfl rfl rfl rfl rfl rfl ?_)
         | refine DrawW.store rfl ?_
         | refine DrawW.fin (by kernel_rfl) ?_
         | (refine DrawW.as (.buildSlice _ _ _) ?_; refine DrawW.buildSlice rfl rfl rfl rfl rfl rfl rfl rfl ?_)
         | refine DrawW.val rfl rfl rfl rfl rfl rfl ?_
         | refine DrawW.actv rfl rfl rfl rfl ?_)
        | refine PR.seq ?_
        | refine PR.region hP hR rfl rfl ?_
        | refine PR.draw hP hR rfl rfl (by kernel_rfl) ?_
        | refine PR.yes rfl ?_
        | refine PR.no rfl ?_
        | refine PR.block ?_
        | refine PR.skip hP rfl rfl ?_
        | refine PR.exit hP rfl rfl ?_
        | refine PR.ret hP rfl rfl ?_
        · refine PR.to [(0, .isl (Ty.rows l) 3), (1, .isl (Ty.rows l') 3), (2, .sc (.func (.func 44) #[] #[])), (15, .isl (Ty.rows l) 3), (16, .sc (.int .i64 ((Ty.rows l).length : Int))), (17, .sc (.int .i64 ((i + 1 : Nat) : Int)))] [] 0 rfl ⟨rfl, rfl, rfl, rfl, rfl, rfl, rfl, rfl, rfl, rfl, congrArg (fun z => some (AV.sc (.int .i64 z))) (wrap_succ hlt hl), rfl, trivial⟩ trivial ?_
          refine ih (i + 1) (by omega) (fun j hj => ?_) (by omega)
          rcases Nat.lt_or_ge j i with h3 | h3
          · exact hpre j h3
          · obtain rfl : j = i := by omega
            rw [hx, hy, hxy]
        · exfalso
          simp at hb
          omega
      · have hcall1 := hC x y false hmem ⟨fun e => (by cases e), fun e => absurd e hxy⟩
        have hne := ht.ne (fun e => by rw [e, hy] at hx; simp only [Option.some.injEq] at hx; exact hxy hx.symm)
        obtain ⟨xk, xn, xs⟩ := x
        obtain ⟨yk, yn, ys⟩ := y
        have hidx1 : (Ty.rows l)[(i : Int).toNat]? = some (Ty.mk xk xn xs).cells := by rw [Ty.rows_get, Int.toNat_natCast, hx]; rfl
        have hidx2 : (Ty.rows l')[(i : Int).toNat]? = some (Ty.mk yk yn ys).cells := by rw [Ty.rows_get, Int.toNat_natCast, hy]; rfl
        refine PR.around ?_
        repeat' first
        | (refine OpsW.id ?_; first
         | (refine OpsW.guarded ?_; first | refine OpsW.met rfl rfl rfl ?_ | refine OpsW.unmet rfl rfl rfl rfl ?_ | refine OpsW.gone rfl rfl rfl ?_)
         | (refine OpsW.as (.fieldAddr _ _ _) ?_; first | refine OpsW.val (v := .ref _ _ _ _) rfl rfl ?_ | refine OpsW.val (v := .pref _) rfl rfl ?_)
         | ((first | refine OpsW.as (.load _ _) ?_ | refine OpsW.as (.move _) ?_ | refine OpsW.as (.pick _ _ _) ?_ | refine OpsW.as (.assign _) ?_ | refine OpsW.as (.extract _ _) ?_); first | refine OpsW.val (v := .sc (.bool _)) rfl rfl ?_ | refine OpsW.val (v := .sc (.int _ _)) rfl rfl ?_ | refine OpsW.val (v := .ref _ _ _ _) rfl rfl ?_ | refine OpsW.val (v := .isl _ _) rfl rfl ?_ | refine OpsW.val (v := .sc (.string _)) rfl rfl ?_ | refine OpsW.val (v := .agg _) rfl rfl ?_ | refine OpsW.val rfl rfl ?_)
         | (refine OpsW.as (.binOp _ _ _ _ _) ?_; first | refine OpsW.test rfl rfl (fun hb => ?_) (fun hb => ?_) | refine OpsW.val (v := .sc (.int _ _)) rfl rfl ?_ | refine OpsW.val rfl rfl ?_)
         | (refine OpsW.as (.indexAddr _ _ _) ?_; first | refine OpsW.index rfl rfl rfl rfl (Int.natCast_nonneg _) (by first | exact hidx1 | exact hidx2) rfl ?_ | refine OpsW.val rfl rfl ?_)
         | (refine OpsW.as (.call _) ?_; first | refine OpsW.val (v := .sc (.int _ _)) rfl rfl ?_ | refine OpsW.call (v := .sc (.bool true)) rfl (hcall1 _) rfl ?_ | refine OpsW.call (v := .sc (.bool false)) rfl (hcall1 _) rfl ?_ | refine OpsW.callB rfl (hcall1 _) rfl (fun hb => ?_) (fun hb => ?_) | refine OpsW.call rfl (hcall1 _) rfl ?_ | refine OpsW.val rfl rfl ?_)
         | (refine OpsW.as (.unOp _ _ _) ?_; first | refine OpsW.val (v := .sc (.bool _)) rfl rfl ?_ | refine OpsW.val (v := .sc (.int _ _)) rfl rfl ?_)
         | (refine OpsW.as (.box _ _) ?_; refine OpsW.box rfl rfl rfl rfl ?_)
         | (refine OpsW.as (.alloc _) ?_; refine OpsW.alloc rfl rfl rfl rfl rfl ?_)
         | (refine OpsW.as (.store _ _ _) ?_; refine OpsW.put rfl rfl rfl rfl rfl rfl rfl rfl rfl ?_)
         | (refine OpsW.as (.buildSlice _ _ _) ?_; refine OpsW.buildSlice rfl rfl rfl rfl rfl rfl rfl rfl ?_)
         | refine OpsW.unit rfl ?_
         | refine OpsW.nil ?_
         | refine OpsW.val rfl rfl ?_)
        | (refine DrawW.id ?_; first
         | (refine DrawW.guarded ?_; first | refine DrawW.met rfl rfl ?_ | refine DrawW.unmet rfl rfl rfl rfl rfl ?_ | refine DrawW.gone rfl rfl rfl rfl ?_)
         | (refine DrawW.as (.fieldAddr _ _ _) ?_; first | refine DrawW.val (v := .ref _ _ _ _) rfl rfl rfl rfl rfl rfl ?_ | refine DrawW.val (v := .pref _) rfl rfl rfl rfl rfl rfl ?_)
         | ((first | refine DrawW.as (.load _ _) ?_ | refine DrawW.as (.move _) ?_ | refine DrawW.as (.pick _ _ _) ?_ | refine DrawW.as (.assign _) ?_ | refine DrawW.as (.extract _ _) ?_); first | refine DrawW.val (v := .sc (.bool _)) rfl rfl rfl rfl rfl rfl ?_ | refine DrawW.val (v := .sc (.int _ _)) rfl rfl rfl rfl rfl rfl ?_ | refine DrawW.val (v := .ref _ _ _ _) rfl rfl rfl rfl rfl rfl ?_ | refine DrawW.val (v := .isl _ _) rfl rfl rfl rfl rfl rfl ?_ | refine DrawW.val (v := .sc (.string _)) rfl rfl rfl rfl rfl rfl ?_ | refine DrawW.val (v := .agg _) rfl rfl rfl rfl rfl rfl ?_ | refine DrawW.val rfl rfl rfl rfl rfl rfl ?_)
         | (refine DrawW.as (.binOp _ _ _ _ _) ?_; first | refine DrawW.test rfl rfl rfl (fun hb => ?_) (fun hb => ?_) | refine DrawW.val (v := .sc (.int _ _)) rfl rfl rfl rfl rfl rfl ?_ | refine DrawW.val rfl rfl rfl rfl rfl rfl ?_)
         | (refine DrawW.as (.indexAddr _ _ _) ?_; first | refine DrawW.index rfl rfl rfl rfl (Int.natCast_nonneg _) (by first | exact hidx1 | exact hidx2) rfl ?_ | refine DrawW.val rfl rfl rfl rfl rfl rfl ?_)
         | (refine DrawW.as (.call _) ?_; first | refine DrawW.val (v := .sc (.int _ _)) rfl rfl rfl rfl rfl rfl ?_ | refine DrawW.call (v := .sc (.bool true)) rfl rfl rfl (hcall1 _) rfl ?_ | refine DrawW.call (v := .sc (.bool false)) rfl rfl rfl (hcall1 _) rfl ?_ | refine DrawW.callB rfl rfl rfl (hcall1 _) rfl (fun hb => ?_) (fun hb => ?_) | refine DrawW.call rfl rfl rfl (hcall1 _) rfl ?_ | refine DrawW.actv rfl rfl rfl rfl ?_)
         | (refine DrawW.as (.unOp _ _ _) ?_; first | refine DrawW.val (v := .sc (.bool _)) rfl rfl rfl rfl rfl rfl ?_ | refine DrawW.val (v := .sc (.int _ _)) rfl rfl rfl rfl rfl rfl ?_)
         | (refine DrawW.as (.box _ _) ?_; refine DrawW.box rfl rfl rfl rfl ?_)
         | (refine DrawW.as (.alloc _) ?_; refine DrawW.alloc rfl rfl rfl rfl rfl ?_)
         | (refine DrawW.as (.store _ _ _) ?_; refine DrawW.put rfl rfl rfl rfl rfl rfl rfl rfl rfl ?_)
         | refine DrawW.store rfl ?_
         | refine DrawW.fin (by kernel_rfl) ?_
         | (refine DrawW.as (.buildSlice _ _ _) ?_; refine DrawW.buildSlice rfl rfl rfl rfl rfl rfl rfl rfl ?_)
         | refine DrawW.val rfl rfl rfl rfl rfl rfl ?_
         | refine DrawW.actv rfl rfl rfl rfl ?_)
        | refine PR.seq ?_
        | refine PR.region hP hR rfl rfl ?_
        | refine PR.draw hP hR rfl rfl (by kernel_rfl) ?_
        | refine PR.yes rfl ?_
        | refine PR.no rfl ?_
        | refine PR.block ?_
        | refine PR.skip hP rfl rfl ?_
        | refine PR.exit hP rfl rfl ?_
        | refine PR.ret hP rfl rfl ?_
        · subst hne
          exact ⟨.inl rfl, rfl, _, 1, rfl, rfl⟩
        · exfalso
          simp at hb
          omega
end Go.AI
end
