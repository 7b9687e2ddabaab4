/-
  A part of the proof: V8 W118.
-/
import Derived.Test.YtmlcjnhkphkpiaaGreatDoorProg
import Derived.KernelRfl
import Derived.Test.YtmlcjnhkphkpiaaGreatDoorDat
set_option linter.all false

section
namespace Go.AI
open Go Go.Proofs
set_option maxRecDepth 10000
set_option maxHeartbeats 4000000

theorem w8 {R : Rec} (hP : ProgOK Tryz.prog) (hR : RecOK Tryz.prog R) (r r' b b' : Int) (n n' : ByteArray) (p p' : List Int) (ts ts' : List Tm) (u u' : List Int) (l l' : List Prf) (hl : l.length ≤ 9223372036854775807) (t : Bool) (ht : EqT (Prf.mk ⟨r, b, n, p, ts, u⟩ l) (Prf.mk ⟨r', b', n', p', ts', u'⟩ l') t)
    (hC1 : ∀ (t : Bool), EqT (Stp.mk r b n p ts u) (Stp.mk r' b' n' p' ts' u') t → ∀ h, R.call .normal 23 [.agg (Stp.mk r b n p ts u).cells, .agg (Stp.mk r' b' n' p' ts' u').cells] .none h = some (.ret (.sc (.bool t)), .none, h))
    (hC : ∀ (a b : Prf) (t : Bool), a ∈ l → EqT a b t → ∀ h, R.call .normal 8 [.agg a.cells, .agg b.cells] .none h = some (.ret (.sc (.bool t)), .none, h)) (h : AHeap) :
    CallOK Tryz.prog 8 [.agg (Prf.mk ⟨r, b, n, p, ts, u⟩ l).cells, .agg (Prf.mk ⟨r', b', n', p', ts', u'⟩ l').cells] h (.ret (.sc (.bool t))) h := by
  have hlen := Prf.rows_length l
  have hlen' := Prf.rows_length l'
  rcases Classical.em (Stp.mk r b n p ts u = Stp.mk r' b' n' p' ts' u') with he1 | he1
  · have hcall1 := hC1 true ⟨fun _ => he1, fun _ => rfl⟩
    refine PR.call hP Tryz.func8 rfl rfl ?_ h
    repeat' first
    | (refine OpsW.id ?_; first
     | (refine OpsW.guarded ?_; first | refine OpsW.met rfl rfl rfl ?_ | refine OpsW.unmet rfl rfl rfl rfl ?_ | refine OpsW.gone rfl rfl rfl ?_)
     | (refine OpsW.as (.fieldAddr _ _ _) ?_; first | refine OpsW.val (v := .ref _ _ _ _) rfl rfl ?_ | refine OpsW.val (v := .pref _) rfl rfl ?_)
     | ((first | refine OpsW.as (.load _ _) ?_ | refine OpsW.as (.move _) ?_ | refine OpsW.as (.pick _ _ _) ?_ | refine OpsW.as (.assign _) ?_ | refine OpsW.as (.extract _ _) ?_); first | refine OpsW.val (v := .sc (.bool _)) rfl rfl ?_ | refine OpsW.val (v := .sc (.int _ _)) rfl rfl ?_ | refine OpsW.val (v := .ref _ _ _ _) rfl rfl ?_ | refine OpsW.val (v := .isl _ _) rfl rfl ?_ | refine OpsW.val (v := .sc (.string _)) rfl rfl ?_ | refine OpsW.val (v := .agg _) rfl rfl ?_ | refine OpsW.val rfl rfl ?_)
     | (refine OpsW.as (.binOp _ _ _ _ _) ?_; first | refine OpsW.test rfl rfl (fun hb => ?_) (fun hb => ?_) | refine OpsW.val (v := .sc (.int _ _)) rfl rfl ?_ | refine OpsW.val rfl rfl ?_)
     | (refine OpsW.as (.indexAddr _ _ _) ?_; first | refine OpsW.index rfl rfl rfl rfl (Int.natCast_nonneg _) (by first | exact hidx1 | exact hidx2) rfl ?_ | refine OpsW.val rfl rfl ?_)
     | (refine OpsW.as (.call _) ?_; first | refine OpsW.val (v := .sc (.int _ _)) rfl rfl ?_ | refine OpsW.call (v := .sc (.bool true)) rfl (hcall1 _) rfl ?_ | refine OpsW.call (v := .sc (.bool false)) rfl (hcall1 _) rfl ?_ | refine OpsW.callB rfl (hcall1 _) rfl (fun hb => ?_) (fun hb => ?_) | refine OpsW.call rfl (hcall1 _) rfl ?_ | refine OpsW.val rfl rfl ?_)
     | (refine OpsW.as (.unOp _ _ _) ?_; first | refine OpsW.val (v := .sc (.bool _)) rfl rfl ?_ | refine OpsW.val (v := .sc (.int _ _)) rfl rfl ?_)
     | (refine OpsW.as (.box _ _) ?_; refine OpsW.box rfl rfl rfl rfl ?_)
     | (refine OpsW.as (.alloc _) ?_; refine OpsW.alloc rfl rfl rfl rfl rfl ?_)
     | (refine OpsW.as (.store _ _ _) ?_; refine OpsW.put rfl rfl rfl rfl rfl rfl rfl rfl rfl ?_)
     | (refine OpsW.as (.buildSlice _ _ _) ?_; refine OpsW.buildSlice rfl rfl rfl rfl rfl rfl rfl rfl ?_)
     | refine OpsW.unit rfl ?_
     | refine OpsW.nil ?_
     | refine OpsW.val rfl rfl ?_)
    | (refine DrawW.id ?_; first
     | (refine DrawW.guarded ?_; first | refine DrawW.met rfl rfl ?_ | refine DrawW.unmet rfl rfl rfl rfl rfl ?_ | refine DrawW.gone rfl rfl rfl rfl ?_)
     | (refine DrawW.as (.fieldAddr _ _ _) ?_; first | refine DrawW.val (v := .ref _ _ _ _) rfl rfl rfl rfl rfl rfl ?_ | refine DrawW.val (v := .pref _) rfl rfl rfl rfl rfl rfl ?_)
     | ((first | refine DrawW.as (.load _ _) ?_ | refine DrawW.as (.move _) ?_ | refine DrawW.as (.pick _ _ _) ?_ | refine DrawW.as (.assign _) ?_ | refine DrawW.as (.extract _ _) ?_); first | refine DrawW.val (v := .sc (.bool _)) rfl rfl rfl rfl rfl rfl ?_ | refine DrawW.val (v := .sc (.int _ _)) rfl rfl rfl rfl rfl rfl ?_ | refine DrawW.val (v := .ref _ _ _ _) rfl rfl rfl rfl rfl rfl ?_ | refine DrawW.val (v := .isl _ _) rfl rfl rfl rfl rfl rfl ?_ | refine DrawW.val (v := .sc (.string _)) rfl rfl rfl rfl rfl rfl ?_ | refine DrawW.val (v := .agg _) rfl rfl rfl rfl rfl rfl ?_ | refine DrawW.val rfl rfl rfl rfl rfl rfl ?_)
     | (refine DrawW.as (.binOp _ _ _ _ _) ?_; first | refine DrawW.test rfl rfl rfl (fun hb => ?_) (fun hb => ?_) | refine DrawW.val (v := .sc (.int _ _)) rfl rfl rfl rfl rfl rfl ?_ | refine DrawW.val rfl rfl rfl rfl rfl rfl ?_)
     | (refine DrawW.as (.indexAddr _ _ _) ?_; first | refine DrawW.index rfl rfl rfl rfl (Int.natCast_nonneg _) (by first | exact hidx1 | exact hidx2) rfl ?_ | refine DrawW.val rfl rfl rfl rfl rfl rfl ?_)
     | (refine DrawW.as (.call _) ?_; first | refine DrawW.val (v := .sc (.int _ _)) rfl rfl rfl rfl rfl rfl ?_ | refine DrawW.call (v := .sc (.bool true)) rfl rfl rfl (hcall1 _) rfl ?_ | refine DrawW.call (v := .sc (.bool false)) rfl rfl rfl (hcall1 _) rfl ?_ | refine DrawW.callB rfl rfl rfl (hcall1 _) rfl (fun hb => ?_) (fun hb => ?_) | refine DrawW.call rfl rfl rfl (hcall1 _) rfl ?_ | refine DrawW.actv rfl rfl rfl rfl ?_)
     | (refine DrawW.as (.unOp _ _ _) ?_; first | refine DrawW.val (v := .sc (.bool _)) rfl rfl rfl rfl rfl rfl ?_ | refine DrawW.val (v := .sc (.int _ _)) rfl rfl rfl rfl rfl rfl ?_)
     | (refine DrawW.as (.box _ _) ?_; refine DrawW.box rfl rfl rfl rfl ?_)
     | (refine DrawW.as (.alloc _) ?_; refine DrawW.alloc rfl rfl rfl rfl rfl ?_)
     | (refine DrawW.as (.store _ _ _) ?_; refine DrawW.put rfl rfl rfl rfl rfl rfl rfl rfl rfl ?_)
     | refine DrawW.store rfl ?_
     | refine DrawW.fin (by kernel_rfl) ?_
     | (refine DrawW.as (.buildSlice _ _ _) ?_; refine DrawW.buildSlice rfl rfl rfl rfl rfl rfl rfl rfl ?_)
     | refine DrawW.val rfl rfl rfl rfl rfl rfl ?_
     | refine DrawW.actv rfl rfl rfl rfl ?_)
    | refine PR.seq ?_
    | refine PR.region hP hR rfl rfl ?_
    | refine PR.draw hP hR rfl rfl (by kernel_rfl) ?_
    | refine PR.yes rfl ?_
    | refine PR.no rfl ?_
    | refine PR.block ?_
    | refine PR.skip hP rfl rfl ?_
    | refine PR.exit hP rfl rfl ?_
    | refine PR.ret hP rfl rfl ?_
    · have := ht.ne (fun e => by simp only [Prf.mk.injEq] at e; rw [e.2] at hb; simp at hb)
      subst this
      exact ⟨.inl rfl, rfl, _, 1, rfl, rfl⟩
    · have hll : l.length = l'.length := by
        simp only [bne_eq_false_iff_eq] at hb
        omega
      clear hcall1 hC1
      refine PR.loop ?_
      obtain ⟨i, hi0⟩ : ∃ i : Nat, i = 0 := ⟨0, rfl⟩
      refine PR.to [(2, .ref 0 0 7 0), (3, .ref 1 0 7 0), (5, .sc (.int .i64 (i : Int)))]
        [(0, .cells 0 0 (Prf.mk ⟨r, b, n, p, ts, u⟩ l).cells 0 28 true false), (1, .cells 0 0 (Prf.mk ⟨r', b', n', p', ts', u'⟩ l').cells 0 28 true false)] 2 rfl ⟨rfl, rfl, rfl, rfl, by subst hi0; rfl, rfl, trivial⟩ ⟨rfl, rfl, rfl, rfl, rfl, rfl, trivial⟩ ?_
      have hil : i ≤ l.length := by omega
      have hpre : ∀ j, j < i → l[j]? = l'[j]? := fun j hj => by omega
      clear hi0 hb
      induction hm : l.length - i generalizing i with
      | zero =>
        refine PR.around ?_
        repeat' first
        | (refine OpsW.id ?_; first
         | (refine OpsW.guarded ?_; first | refine OpsW.met rfl rfl rfl ?_ | refine OpsW.unmet rfl rfl rfl rfl ?_ | refine OpsW.gone rfl rfl rfl ?_)
         | (refine OpsW.as (.fieldAddr _ _ _) ?_; first | refine OpsW.val (v := .ref _ _ _ _) rfl rfl ?_ | refine OpsW.val (v := .pref _) rfl rfl ?_)
         | ((first | refine OpsW.as (.load _ _) ?_ | refine OpsW.as (.move _) ?_ | refine OpsW.as (.pick _ _ _) ?_ | refine OpsW.as (.assign _) ?_ | refine OpsW.as (.extract _ _) ?_); first | refine OpsW.val (v := .sc (.bool _)) rfl rfl ?_ | refine OpsW.val (v := .sc (.int _ _)) rfl rfl ?_ | refine OpsW.val (v := .ref _ _ _ _) rfl rfl ?_ | refine OpsW.val (v := .isl _ _) rfl rfl ?_ | refine OpsW.val (v := .sc (.string _)) rfl rfl ?_ | refine OpsW.val (v := .agg _) rfl rfl ?_ | refine OpsW.val rfl rfl ?_)
         | (refine OpsW.as (.binOp _ _ _ _ _) ?_; first | refine OpsW.test rfl rfl (fun hb => ?_) (fun hb => ?_) | refine OpsW.val (v := .sc (.int _ _)) rfl rfl ?_ | refine OpsW.val rfl rfl ?_)
         | (refine OpsW.as (.indexAddr _ _ _) ?_; first | refine OpsW.index rfl rfl rfl rfl (Int.natCast_nonneg _) (by first | exact hidx1 | exact hidx2) rfl ?_ | refine OpsW.val rfl rfl ?_)
         | (refine OpsW.as (.call _) ?_; first | refine OpsW.val (v := .sc (.int _ _)) rfl rfl ?_ | refine OpsW.call (v := .sc (.bool true)) rfl (hcall1 _) rfl ?_ | refine OpsW.call (v := .sc (.bool false)) rfl (hcall1 _) rfl ?_ | refine OpsW.callB rfl (hcall1 _) rfl (fun hb => ?_) (fun hb => ?_) | refine OpsW.call rfl (hcall1 _) rfl ?_ | refine OpsW.val rfl rfl ?_)
         | (refine OpsW.as (.unOp _ _ _) ?_; first | refine OpsW.val (v := .sc (.bool _)) rfl rfl ?_ | refine OpsW.val (v := .sc (.int _ _)) rfl rfl ?_)
         | (refine OpsW.as (.box _ _) ?_; refine OpsW.box rfl rfl rfl rfl ?_)
         | (refine OpsW.as (.alloc _) ?_; refine OpsW.alloc rfl rfl rfl rfl rfl ?_)
         | (refine OpsW.as (.store _ _ _) ?_; refine OpsW.put rfl rfl rfl rfl rfl rfl rfl rfl rfl ?_)
         | (refine OpsW.as (.buildSlice _ _ _) ?_; refine OpsW.buildSlice rfl rfl rfl rfl rfl rfl rfl rfl ?_)
         | refine OpsW.unit rfl ?_
         | refine OpsW.nil ?_
         | refine OpsW.val rfl rfl ?_)
        | (refine DrawW.id ?_; first
         | (refine DrawW.guarded ?_; first | refine DrawW.met rfl rfl ?_ | refine DrawW.unmet rfl rfl rfl rfl rfl ?_ | refine DrawW.gone rfl rfl rfl rfl ?_)
         | (refine DrawW.as (.fieldAddr _ _ _) ?_; first | refine DrawW.val (v := .ref _ _ _ _) rfl rfl rfl rfl rfl rfl ?_ | refine DrawW.val (v := .pref _) rfl rfl rfl rfl rfl rfl ?_)
         | ((first | refine DrawW.as (.load _ _) ?_ | refine DrawW.as (.move _) ?_ | refine DrawW.as (.pick _ _ _) ?_ | refine DrawW.as (.assign _) ?_ | refine DrawW.as (.extract _ _) ?_); first | refine DrawW.val (v := .sc (.bool _)) rfl rfl rfl rfl rfl rfl ?_ | refine DrawW.val (v := .sc (.int _ _)) rfl rfl rfl rfl rfl rfl ?_ | refine DrawW.val (v := .ref _ _ _ _) rfl rfl rfl rfl rfl rfl ?_ | refine DrawW.val (v := .isl _ _) rfl rfl rfl rfl rfl rfl ?_ | refine DrawW.val (v := .sc (.string _)) rfl rfl rfl rfl rfl rfl ?_ | refine DrawW.val (v := .agg _) rfl rfl rfl rfl rfl rfl ?_ | refine DrawW.val rfl rfl rfl rfl rfl rfl ?_)
         | (refine DrawW.as (.binOp _ _ _ _ _) ?_; first | refine DrawW.test rfl rfl rfl (fun hb => ?_) (fun hb => ?_) | refine DrawW.val (v := .sc (.int _ _)) rfl rfl rfl rfl rfl rfl ?_ | refine DrawW.val rfl rfl rfl rfl rfl rfl ?_)
         | (refine DrawW.as (.indexAddr _ _ _) ?_; first | refine DrawW.index rfl rfl rfl rfl (Int.natCast_nonneg _) (by first | exact hidx1 | exact hidx2) rfl ?_ | refine DrawW.val rfl rfl rfl rfl rfl rfl ?_)
         | (refine DrawW.as (.call _) ?_; first | refine DrawW.val (v := .sc (.int _ _)) rfl rfl rfl rfl rfl rfl ?_ | refine DrawW.call (v := .sc (.bool true)) rfl rfl rfl (hcall1 _) rfl ?_ | refine DrawW.call (v := .sc (.bool false)) rfl rfl rfl (hcall1 _) rfl ?_ | refine DrawW.callB rfl rfl rfl (hcall1 _) rfl (fun hb => ?_) (fun hb => ?_) | refine DrawW.call rfl rfl rfl (hcall1 _) rfl ?_ | refine DrawW.actv rfl rfl rfl rfl ?_)
         | (refine DrawW.as (.unOp _ _ _) ?_; first | refine DrawW.val (v := .sc (.bool _)) rfl rfl rfl rfl rfl rfl ?_ | refine DrawW.val (v := .sc (.int _ _)) rfl rfl rfl rfl rfl rfl ?_)
         | (refine DrawW.as (.box _ _) ?_; refine DrawW.box rfl rfl rfl rfl ?_)
         | (refine DrawW.as (.alloc _) ?_; refine DrawW.alloc rfl rfl rfl rfl rfl ?_)
         | (refine DrawW.as (.store _ _ _) ?_; refine DrawW.put rfl rfl rfl rfl rfl rfl rfl rfl rfl ?_)
         | refine DrawW.store rfl ?_
         | refine DrawW.fin (by kernel_rfl) ?_
         | (refine DrawW.as (.buildSlice _ _ _) ?_; refine DrawW.buildSlice rfl rfl rfl rfl rfl rfl rfl rfl ?_)
         | refine DrawW.val rfl rfl rfl rfl rfl rfl ?_
         | refine DrawW.actv rfl rfl rfl rfl ?_)
        | refine PR.seq ?_
        | refine PR.region hP hR rfl rfl ?_
        | refine PR.draw hP hR rfl rfl (by kernel_rfl) ?_
        | refine PR.yes rfl ?_
        | refine PR.no rfl ?_
        | refine PR.block ?_
        | refine PR.skip hP rfl rfl ?_
        | refine PR.exit hP rfl rfl ?_
        | refine PR.ret hP rfl rfl ?_
        · exfalso
          simp at hb
          omega
        · have := ht.eq (by rw [he1, list_eq hll fun j hj => hpre j (by omega)])
          subst this
          exact ⟨.inl rfl, rfl, _, 1, rfl, rfl⟩
      | succ m ih =>
        have hlt : i < l.length := by omega
        have hlt' : i < l'.length := by omega
        have hx : l[i]? = some l[i] := List.getElem?_eq_getElem hlt
        have hy : l'[i]? = some l'[i] := List.getElem?_eq_getElem hlt'
        have hmem : l[i] ∈ l := List.getElem_mem hlt
        generalize l[i] = x at hx hmem
        generalize l'[i] = y at hy
        by_cases hxy : x = y
        · have hcall1 := hC x y true hmem ⟨fun _ => hxy, fun _ => rfl⟩
          obtain ⟨⟨x1, x2, x3, x4, x5, x6⟩, xs⟩ := x
          obtain ⟨⟨y1, y2, y3, y4, y5, y6⟩, ys⟩ := y
          have hidx1 : (Prf.rows l)[(i : Int).toNat]? = some (Prf.mk ⟨x1, x2, x3, x4, x5, x6⟩ xs).cells := by rw [Prf.rows_get, Int.toNat_natCast, hx]; rfl
          have hidx2 : (Prf.rows l')[(i : Int).toNat]? = some (Prf.mk ⟨y1, y2, y3, y4, y5, y6⟩ ys).cells := by rw [Prf.rows_get, Int.toNat_natCast, hy]; rfl
          refine PR.around ?_
          repeat' first
          | (refine OpsW.id ?_; first
           | (refine OpsW.guarded ?_; first | refine OpsW.met rfl rfl rfl ?_ | refine OpsW.unmet rfl rfl rfl rfl ?_ | refine OpsW.gone rfl rfl rfl ?_)
           | (refine OpsW.as (.fieldAddr _ _ _) ?_; first | refine OpsW.val (v := .ref _ _ _ _) rfl rfl ?_ | refine OpsW.val (v := .pref _) rfl rfl ?_)
           | ((first | refine OpsW.as (.load _ _) ?_ | refine OpsW.as (.move _) ?_ | refine OpsW.as (.pick _ _ _) ?_ | refine OpsW.as (.assign _) ?_ | refine OpsW.as (.extract _ _) ?_); first | refine OpsW.val (v := .sc (.bool _)) rfl rfl ?_ | refine OpsW.val (v := .sc (.int _ _)) rfl rfl ?_ | refine OpsW.val (v := .ref _ _ _ _) rfl rfl ?_ | refine OpsW.val (v := .isl _ _) rfl rfl ?_ | refine OpsW.val (v := .sc (.string _)) rfl rfl ?_ | refine OpsW.val (v := .agg _) rfl rfl ?_ | refine OpsW.val rfl rfl ?_)
           | (refine OpsW.as (.binOp _ _ _ _ _) ?_; first | refine OpsW.test rfl rfl (fun hb => ?_) (fun hb => ?_) | refine OpsW.val (v := .sc (.int _ _)) rfl rfl ?_ | refine OpsW.val rfl rfl ?_)
           | (refine OpsW.as (.indexAddr _ _ _) ?_; first | refine OpsW.index rfl rfl rfl rfl (Int.natCast_nonneg _) (by first | exact hidx1 | exact hidx2) rfl ?_ | refine OpsW.val rfl rfl ?_)
           | (refine OpsW.as (.call _) ?_; first | refine OpsW.val (v := .sc (.int _ _)) rfl rfl ?_ | refine OpsW.call (v := .sc (.bool true)) rfl (hcall1 _) rfl ?_ | refine OpsW.call (v := .sc (.bool false)) rfl (hcall1 _) rfl ?_ | refine OpsW.callB rfl (hcall1 _) rfl (fun hb => ?_) (fun hb => ?_) | refine OpsW.call rfl (hcall1 _) rfl ?_ | refine OpsW.val rfl rfl ?_)
           | (refine OpsW.as (.unOp _ _ _) ?_; first | refine OpsW.val (v := .sc (.bool _)) rfl rfl ?_ | refine OpsW.val (v := .sc (.int _ _)) rfl rfl ?_)
           | (refine OpsW.as (.box _ _) ?_; refine OpsW.box rfl rfl rfl rfl ?_)
           | (refine OpsW.as (.alloc _) ?_; refine OpsW.alloc rfl rfl rfl rfl rfl ?_)
           | (refine OpsW.as (.store _ _ _) ?_; refine OpsW.put rfl rfl rfl rfl rfl rfl rfl rfl rfl ?_)
           | (refine OpsW.as (.buildSlice _ _ _) ?_; refine OpsW.buildSlice rfl rfl rfl rfl rfl rfl rfl rfl ?_)
           | refine OpsW.unit rfl ?_
           | refine OpsW.nil ?_
           | refine OpsW.val rfl rfl ?_)
          | (refine DrawW.id ?_; first
           | (refine DrawW.guarded ?_; first | refine DrawW.met rfl rfl ?_ | refine DrawW.unmet rfl rfl rfl rfl rfl ?_ | refine DrawW.gone rfl rfl rfl rfl ?_)
           | (refine DrawW.as (.fieldAddr _ _ _) ?_; first | refine DrawW.val (v := .ref _ _ _ _) rfl rfl rfl rfl rfl rfl ?_ | refine DrawW.val (v := .pref _) rfl rfl rfl rfl rfl rfl ?_)
           | ((first | refine DrawW.as (.load _ _) ?_ | refine DrawW.as (.move _) ?_ | refine DrawW.as (.pick _ _ _) ?_ | refine DrawW.as (.assign _) ?_ | refine DrawW.as (.extract _ _) ?_); first | refine DrawW.val (v := .sc (.bool _)) rfl rfl rfl rfl rfl rfl ?_ | refine DrawW.val (v := .sc (.int _ _)) rfl rfl rfl rfl rfl rfl ?_ | refine DrawW.val (v := .ref _ _ _ _) rfl rfl rfl rfl rfl rfl ?_ | refine DrawW.val (v := .isl _ _) rfl rfl rfl rfl rfl rfl ?_ | refine DrawW.val (v := .sc (.string _)) rfl rfl rfl rfl rfl rfl ?_ | refine DrawW.val (v := .agg _) rfl rfl rfl rfl rfl rfl ?_ | refine DrawW.val rfl rfl rfl rfl rfl rfl ?_)
           | (refine DrawW.as (.binOp _ _ _ _ _) ?_; first | refine DrawW.test rfl rfl rfl (fun hb => ?_) (fun hb => ?_) | refine DrawW.val (v := .sc (.int _ _)) rfl rfl rfl rfl rfl rfl ?_ | refine DrawW.val rfl rfl rfl rfl rfl rfl ?_)
           | (refine DrawW.as (.indexAddr _ _ _) ?_; first | refine DrawW.index rfl rfl rfl rfl (Int.natCast_nonneg _) (by first | exact hidx1 | exact hidx2) rfl ?_ | refine DrawW.val rfl rfl rfl rfl rfl rfl ?_)
           | (refine DrawW.as (.call _) ?_; first | refine DrawW.val (v := .sc (.int _ _)) rfl rfl rfl rfl rfl rfl ?_ | refine DrawW.call (v := .sc (.bool true)) rfl rfl rfl (hcall1 _) rfl ?_ | refine DrawW.call (v := .sc (.bool false)) rfl rfl rfl (hcall1 _) rfl ?_ | refine DrawW.callB rfl rfl rfl (hcall1 _) rfl (fun hb => ?_) (fun hb => ?_) | refine DrawW.call rfl rfl rfl (hcall1 _) rfl ?_ | refine DrawW.actv rfl rfl rfl rfl ?_)
           | (refine DrawW.as (.unOp _ _ _) ?_; first | refine DrawW.val (v := .sc (.bool _)) rfl rfl rfl rfl rfl rfl ?_ | refine DrawW.val (v := .sc (.int _ _)) rfl rfl rfl rfl rfl rfl ?_)
           | (refine DrawW.as (.box _ _) ?_; refine DrawW.box rfl rfl rfl rfl ?_)
           | (refine DrawW.as (.alloc _) ?_; refine DrawW.alloc rfl rfl rfl rfl rfl ?_)
           | (refine DrawW.as (.store _ _ _) ?_; refine DrawW.put rfl rfl rfl rfl rfl rfl rfl rfl rfl ?_)
           | refine DrawW.store rfl ?_
           | refine DrawW.fin (by kernel_rfl) ?_
           | (refine DrawW.as (.buildSlice _ _ _) ?_; refine DrawW.buildSlice rfl rfl rfl rfl rfl rfl rfl rfl ?_)
           | refine DrawW.val rfl rfl rfl rfl rfl rfl ?_
           | refine DrawW.actv rfl rfl rfl rfl ?_)
          | refine PR.seq ?_
          | refine PR.region hP hR rfl rfl ?_
          | refine PR.draw hP hR rfl rfl (by kernel_rfl) ?_
          | refine PR.yes rfl ?_
          | refine PR.no rfl ?_
          | refine PR.block ?_
          | refine PR.skip hP rfl rfl ?_
          | refine PR.exit hP rfl rfl ?_
          | refine PR.ret hP rfl rfl ?_
          · refine PR.to [(2, .ref 0 0 7 0), (3, .ref 1 0 7 0), (5, .sc (.int .i64 ((i + 1 : Nat) : Int)))]
              [(0, .cells 0 0 (Prf.mk ⟨r, b, n, p, ts, u⟩ l).cells 0 28 true false), (1, .cells 0 0 (Prf.mk ⟨r', b', n', p', ts', u'⟩ l').cells 0 28 true false)] 2 rfl ⟨rfl, rfl, rfl, rfl, congrArg (fun z => some (AV.sc (.int .i64 z))) (wrap_succ hlt hl), rfl, trivial⟩ ⟨rfl, rfl, rfl, rfl, rfl, rfl, trivial⟩ ?_
            refine ih (i + 1) (by omega) (fun j hj => ?_) (by omega)
            rcases Nat.lt_or_ge j i with h3 | h3
            · exact hpre j h3
            · obtain rfl : j = i := by omega
              rw [hx, hy, hxy]
          · exfalso
            simp at hb
            omega
        · have hcall1 := hC x y false hmem ⟨fun e => (by cases e), fun e => absurd e hxy⟩
          have hne := ht.ne (fun e => by simp only [Prf.mk.injEq] at e; rw [e.2, hy] at hx; simp only [Option.some.injEq] at hx; exact hxy hx.symm)
          obtain ⟨⟨x1, x2, x3, x4, x5, x6⟩, xs⟩ := x
          obtain ⟨⟨y1, y2, y3, y4, y5, y6⟩, ys⟩ := y
          have hidx1 : (Prf.rows l)[(i : Int).toNat]? = some (Prf.mk ⟨x1, x2, x3, x4, x5, x6⟩ xs).cells := by rw [Prf.rows_get, Int.toNat_natCast, hx]; rfl
          have hidx2 : (Prf.rows l')[(i : Int).toNat]? = some (Prf.mk ⟨y1, y2, y3, y4, y5, y6⟩ ys).cells := by rw [Prf.rows_get, Int.toNat_natCast, hy]; rfl
          refine PR.around ?_
          repeat' first
          | (refine OpsW.id ?_; first
           | (refine OpsW.guarded ?_; first | refine OpsW.met rfl rfl rfl ?_ | refine OpsW.unmet rfl rfl rfl rfl ?_ | refine OpsW.gone rfl rfl rfl ?_)
           | (refine OpsW.as (.fieldAddr _ _ _) ?_; first | refine OpsW.val (v := .ref _ _ _ _) rfl rfl ?_ | refine OpsW.val (v := .pref _) rfl rfl ?_)
           | ((first | refine OpsW.as (.load _ _) ?_ | refine OpsW.as (.move _) ?_ | refine OpsW.as (.pick _ _ _) ?_ | refine OpsW.as (.assign _) ?_ | refine OpsW.as (.extract _ _) ?_); first | refine OpsW.val (v := .sc (.bool _)) rfl rfl ?_ | refine OpsW.val (v := .sc (.int _ _)) rfl rfl ?_ | refine OpsW.val (v := .ref _ _ _ _) rfl rfl ?_ | refine OpsW.val (v := .isl _ _) rfl rfl ?_ | refine OpsW.val (v := .sc (.string _)) rfl rfl ?_ | refine OpsW.val (v := .agg _) rfl rfl ?_ | refine OpsW.val rfl rfl ?_)
           | (refine OpsW.as (.binOp _ _ _ _ _) ?_; first | refine OpsW.test rfl rfl (fun hb => ?_) (fun hb => ?_) | refine OpsW.val (v := .sc (.int _ _)) rfl rfl ?_ | refine OpsW.val rfl rfl ?_)
           | (refine OpsW.as (.indexAddr _ _ _) ?_; first | refine OpsW.index rfl rfl rfl rfl (Int.natCast_nonneg _) (by first | exact hidx1 | exact hidx2) rfl ?_ | refine OpsW.val rfl rfl ?_)
           | (refine OpsW.as (.call _) ?_; first | refine OpsW.val (v := .sc (.int _ _)) rfl rfl ?_ | refine OpsW.call (v := .sc (.bool true)) rfl (hcall1 _) rfl ?_ | refine OpsW.call (v := .sc (.bool false)) rfl (hcall1 _) rfl ?_ | refine OpsW.callB rfl (hcall1 _) rfl (fun hb => ?_) (fun hb => ?_) | refine OpsW.call rfl (hcall1 _) rfl ?_ | refine OpsW.val rfl rfl ?_)
           | (refine OpsW.as (.unOp _ _ _) ?_; first | refine OpsW.val (v := .sc (.bool _)) rfl rfl ?_ | refine OpsW.val (v := .sc (.int _ _)) rfl rfl ?_)
           | (refine OpsW.as (.box _ _) ?_; refine OpsW.box rfl rfl rfl rfl ?_)
           | (refine OpsW.as (.alloc _) ?_; refine OpsW.alloc rfl rfl rfl rfl rfl ?_)
           | (refine OpsW.as (.store _ _ _) ?_; refine OpsW.put rfl rfl rfl rfl rfl rfl rfl rfl rfl ?_)
           | (refine OpsW.as (.buildSlice _ _ _) ?_; refine OpsW.buildSlice rfl rfl rfl rfl rfl rfl rfl rfl ?_)
           | refine OpsW.unit rfl ?_
           | refine OpsW.nil ?_
           | refine OpsW.val rfl rfl ?_)
          | (refine DrawW.id ?_; first
           | (refine DrawW.guarded ?_; first | refine DrawW.met rfl rfl ?_ | refine DrawW.unmet rfl rfl rfl rfl rfl ?_ | refine DrawW.gone rfl rfl rfl rfl ?_)
           | (refine DrawW.as (.fieldAddr _ _ _) ?_; first | refine DrawW.val (v := .ref _ _ _ _) rfl rfl rfl rfl rfl rfl ?_ | refine DrawW.val (v := .pref _) rfl rfl rfl rfl rfl rfl ?_)
           | ((first | refine DrawW.as (.load _ _) ?_ | refine DrawW.as (.move _) ?_ | refine DrawW.as (.pick _ _ _) ?_ | refine DrawW.as (.assign _) ?_ | refine DrawW.as (.extract _ _) ?_); first | refine DrawW.val (v := .sc (.bool _)) rfl rfl rfl rfl rfl rfl ?_ | refine DrawW.val (v := .sc (.int _ _)) rfl rfl rfl rfl rfl rfl ?_ | refine DrawW.val (v := .ref _ _ _ _) rfl rfl rfl rfl rfl rfl ?_ | refine DrawW.val (v := .isl _ _) rfl rfl rfl rfl rfl rfl ?_ | refine DrawW.val (v := .sc (.string _)) rfl rfl rfl rfl rfl rfl ?_ | refine DrawW.val (v := .agg _) rfl rfl rfl rfl rfl rfl ?_ | refine DrawW.val rfl rfl rfl rfl rfl rfl ?_)
           | (refine DrawW.as (.binOp _ _ _ _ _) ?_; first | refine DrawW.test rfl rfl rfl (fun hb => ?_) (fun hb => ?_) | refine DrawW.val (v := .sc (.int _ _)) rfl rfl rfl rfl rfl rfl ?_ | refine DrawW.val rfl rfl rfl rfl rfl rfl ?_)
           | (refine DrawW.as (.indexAddr _ _ _) ?_; first | refine DrawW.index rfl rfl rfl rfl (Int.natCast_nonneg _) (by first | exact hidx1 | exact hidx2) rfl ?_ | refine DrawW.val rfl rfl rfl rfl rfl rfl ?_)
           | (refine DrawW.as (.call _) ?_; first | refine DrawW.val (v := .sc (.int _ _)) rfl rfl rfl rfl rfl rfl ?_ | refine DrawW.call (v := .sc (.bool true)) rfl rfl rfl (hcall1 _) rfl ?_ | refine DrawW.call (v := .sc (.bool false)) rfl rfl rfl (hcall1 _) rfl ?_ | refine DrawW.callB rfl rfl rfl (hcall1 _) rfl (fun hb => ?_) (fun hb => ?_) | refine DrawW.call rfl rfl rfl (hcall1 _) rfl ?_ | refine DrawW.actv rfl rfl rfl rfl ?_)
           | (refine DrawW.as (.unOp _ _ _) ?_; first | refine DrawW.val (v := .sc (.bool _)) rfl rfl rfl rfl rfl rfl ?_ | refine DrawW.val (v := .sc (.int _ _)) rfl rfl rfl rfl rfl rfl ?_)
           | (refine DrawW.as (.box _ _) ?_; refine DrawW.box rfl rfl rfl rfl ?_)
           | (refine DrawW.as (.alloc _) ?_; refine DrawW.alloc rfl rfl rfl rfl rfl ?_)
           | (refine DrawW.as (.store _ _ _) ?_; refine DrawW.put rfl rfl rfl rfl rfl rfl rfl rfl rfl ?_)
           | refine DrawW.store rfl ?_
           | refine DrawW.fin (by kernel_rfl) ?_
           | (refine DrawW.as (.buildSlice _ _ _) ?_; refine DrawW.buildSlice rfl rfl rfl rfl rfl rfl rfl rfl ?_)
           | refine DrawW.val rfl rfl rfl rfl rfl rfl ?_
           | refine DrawW.actv rfl rfl rfl rfl ?_)
          | refine PR.seq ?_
          | refine PR.region hP hR rfl rfl ?_
          | refine PR.draw hP hR rfl rfl (by kernel_rfl) ?_
          | refine PR.yes rfl ?_
          | refine PR.no rfl ?_
          | refine PR.block ?_
          | refine PR.skip hP rfl rfl ?_
          | refine PR.exit hP rfl rfl ?_
          | refine PR.ret hP rfl rfl ?_
          · subst hne
            exact ⟨.inl rfl, rfl, _, 1, rfl, rfl⟩
          · exfalso
            simp at hb
            omega
  · have hcall1 := hC1 false ⟨fun e => (by cases e), fun e => absurd e he1⟩
    have hne := ht.ne (fun e => by simp only [Prf.mk.injEq] at e; exact he1 e.1)
    refine PR.call hP Tryz.func8 rfl rfl ?_ h
    repeat' first
    | (refine OpsW.id ?_; first
     | (refine OpsW.guarded ?_; first | refine OpsW.met rfl rfl rfl ?_ | refine OpsW.unmet rfl rfl rfl rfl ?_ | refine OpsW.gone rfl rfl rfl ?_)
     | (refine OpsW.as (.fieldAddr _ _ _) ?_; first | refine OpsW.val (v := .ref _ _ _ _) rfl rfl ?_ | refine OpsW.val (v := .pref _) rfl rfl ?_)
     | ((first | refine OpsW.as (.load _ _) ?_ | refine OpsW.as (.move _) ?_ | refine OpsW.as (.pick _ _ _) ?_ | refine OpsW.as (.assign _) ?_ | refine OpsW.as (.extract _ _) ?_); first | refine OpsW.val (v := .sc (.bool _)) rfl rfl ?_ | refine OpsW.val (v := .sc (.int _ _)) rfl rfl ?_ | refine OpsW.val (v := .ref _ _ _ _) rfl rfl ?_ | refine OpsW.val (v := .isl _ _) rfl rfl ?_ | refine OpsW.val (v := .sc (.string _)) rfl rfl ?_ | refine OpsW.val (v := .agg _) rfl rfl ?_ | refine OpsW.val rfl rfl ?_)
     | (refine OpsW.as (.binOp _ _ _ _ _) ?_; first | refine OpsW.test rfl rfl (fun hb => ?_) (fun hb => ?_) | refine OpsW.val (v := .sc (.int _ _)) rfl rfl ?_ | refine OpsW.val rfl rfl ?_)
     | (refine OpsW.as (.indexAddr _ _ _) ?_; first | refine OpsW.index rfl rfl rfl rfl (Int.natCast_nonneg _) (by first | exact hidx1 | exact hidx2) rfl ?_ | refine OpsW.val rfl rfl ?_)
     | (refine OpsW.as (.call _) ?_; first | refine OpsW.val (v := .sc (.int _ _)) rfl rfl ?_ | refine OpsW.call (v := .sc (.bool true)) rfl (hcall1 _) rfl ?_ | refine OpsW.call (v := .sc (.bool false)) rfl (hcall1 _) rfl ?_ | refine OpsW.callB rfl (hcall1 _) rfl (fun hb => ?_) (fun hb => ?_) | refine OpsW.call rfl (hcall1 _) rfl ?_ | refine OpsW.val rfl rfl ?_)
     | (refine OpsW.as (.unOp _ _ _) ?_; first | refine OpsW.val (v := .sc (.bool _)) rfl rfl ?_ | refine OpsW.val (v := .sc (.int _ _)) rfl rfl ?_)
     | (refine OpsW.as (.box _ _) ?_; refine OpsW.box rfl rfl rfl rfl ?_)
     | (refine OpsW.as (.alloc _) ?_; refine OpsW.alloc rfl rfl rfl rfl rfl ?_)
     | (refine OpsW.as (.store _ _ _) ?_; refine OpsW.put rfl rfl rfl rfl rfl rfl rfl rfl rfl ?_)
     | (refine OpsW.as (.buildSlice _ _ _) ?_; refine OpsW.buildSlice rfl rfl rfl rfl rfl rfl rfl rfl ?_)
     | refine OpsW.unit rfl ?_
     | refine OpsW.nil ?_
     | refine OpsW.val rfl rfl ?_)
    | (refine DrawW.id ?_; first
     | (refine DrawW.guarded ?_; first | refine DrawW.met rfl rfl ?_ | refine DrawW.unmet rfl rfl rfl rfl rfl ?_ | refine DrawW.gone rfl rfl rfl rfl ?_)
     | (refine DrawW.as (.fieldAddr _ _ _) ?_; first | refine DrawW.val (v := .ref _ _ _ _) rfl rfl rfl rfl rfl rfl ?_ | refine DrawW.val (v := .pref _) rfl rfl rfl rfl rfl rfl ?_)
     | ((first | refine DrawW.as (.load _ _) ?_ | refine DrawW.as (.move _) ?_ | refine DrawW.as (.pick _ _ _) ?_ | refine DrawW.as (.assign _) ?_ | refine DrawW.as (.extract _ _) ?_); first | refine DrawW.val (v := .sc (.bool _)) rfl rfl rfl rfl rfl rfl ?_ | refine DrawW.val (v := .sc (.int _ _)) rfl rfl rfl rfl rfl rfl ?_ | refine DrawW.val (v := .ref _ _ _ _) rfl rfl rfl rfl rfl rfl ?_ | refine DrawW.val (v := .isl _ _) rfl rfl rfl rfl rfl rfl ?_ | refine DrawW.val (v := .sc (.string _)) rfl rfl rfl rfl rfl rfl ?_ | refine DrawW.val (v := .agg _) rfl rfl rfl rfl rfl rfl ?_ | refine DrawW.val rfl rfl rfl rfl rfl rfl ?_)
     | (refine DrawW.as (.binOp _ _ _ _ _) ?_; first | refine DrawW.test rfl rfl rfl (fun hb => ?_) (fun hb => ?_) | refine DrawW.val (v := .sc (.int _ _)) rfl rfl rfl rfl rfl rfl ?_ | refine DrawW.val rfl rfl rfl rfl rfl rfl ?_)
     | (refine DrawW.as (.indexAddr _ _ _) ?_; first | refine DrawW.index rfl rfl rfl rfl (Int.natCast_nonneg _) (by first | exact hidx1 | exact hidx2) rfl ?_ | refine DrawW.val rfl rfl rfl rfl rfl rfl ?_)
     | (refine DrawW.as (.call _) ?_; first | refine DrawW.val (v := .sc (.int _ _)) rfl rfl rfl rfl rfl rfl ?_ | refine DrawW.call (v := .sc (.bool true)) rfl rfl rfl (hcall1 _) rfl ?_ | refine DrawW.call (v := .sc (.bool false)) rfl rfl rfl (hcall1 _) rfl ?_ | refine DrawW.callB rfl rfl rfl (hcall1 _) rfl (fun hb => ?_) (fun hb => ?_) | refine DrawW.call rfl rfl rfl (hcall1 _) rfl ?_ | refine DrawW.actv rfl rfl rfl rfl ?_)
     | (refine DrawW.as (.unOp _ _ _) ?_; first | refine DrawW.val (v := .sc (.bool _)) rfl rfl rfl rfl rfl rfl ?_ | refine DrawW.val (v := .sc (.int _ _)) rfl rfl rfl rfl rfl rfl ?_)
     | (refine DrawW.as (.box _ _) ?_; refine DrawW.box rfl rfl rfl rfl ?_)
     | (refine DrawW.as (.alloc _) ?_; refine DrawW.alloc rfl rfl rfl rfl rfl ?_)
     | (refine DrawW.as (.store _ _ _) ?_; refine DrawW.put rfl rfl rfl rfl rfl rfl rfl rfl rfl ?_)
     | refine DrawW.store rfl ?_
     | refine DrawW.fin (by kernel_rfl) ?_
     | (refine DrawW.as (.buildSlice _ _ _) ?_; refine DrawW.buildSlice rfl rfl rfl rfl rfl rfl rfl rfl ?_)
     | refine DrawW.val rfl rfl rfl rfl rfl rfl ?_
     | refine DrawW.actv rfl rfl rfl rfl ?_)
    | refine PR.seq ?_
    | refine PR.region hP hR rfl rfl ?_
    | refine PR.draw hP hR rfl rfl (by kernel_rfl) ?_
    | refine PR.yes rfl ?_
    | refine PR.no rfl ?_
    | refine PR.block ?_
    | refine PR.skip hP rfl rfl ?_
    | refine PR.exit hP rfl rfl ?_
    | refine PR.ret hP rfl rfl ?_
    subst hne
    exact ⟨.inl rfl, rfl, _, 1, rfl, rfl⟩
end Go.AI
end

section
namespace Go.AI
open Go Go.Proofs
set_option maxRecDepth 10000
set_option maxHeartbeats 4000000

theorem walk118 {R : Rec} (hP : ProgOK Tryz.prog) (hR : RecOK Tryz.prog R) (a b : Ty) (ha : a.ok) (t : Bool) (ht : t = true ↔ a = b)
    (hC : ∀ (a' b' : Ty) (t' : Bool), a' ∈ a.kids → (t' = true ↔ a' = b') → ∀ h, R.call .normal 118 [.agg a'.cells, .agg b'.cells] .none h = some (.ret (.sc (.bool t')), .none, h)) (h : AHeap) :
    CallOK Tryz.prog 118 [.agg a.cells, .agg b.cells] h (.ret (.sc (.bool t))) h := by
  obtain ⟨k, n, ks⟩ := a
  obtain ⟨k', n', ks'⟩ := b
  have hlen := Ty.rows_length ks
  have hlen' := Ty.rows_length ks'
  refine PR.call hP Tryz.func118 rfl rfl ?_ h
  repeat' first
  | (refine OpsW.id ?_; first
   | (refine OpsW.guarded ?_; first | refine OpsW.met rfl rfl rfl ?_ | refine OpsW.unmet rfl rfl rfl rfl ?_ | refine OpsW.gone rfl rfl rfl ?_)
   | (refine OpsW.as (.fieldAddr _ _ _) ?_; first | refine OpsW.val (v := .ref _ _ _ _) rfl rfl ?_ | refine OpsW.val (v := .pref _) rfl rfl ?_)
   | ((first | refine OpsW.as (.load _ _) ?_ | refine OpsW.as (.move _) ?_ | refine OpsW.as (.pick _ _ _) ?_ | refine OpsW.as (.assign _) ?_ | refine OpsW.as (.extract _ _) ?_); first | refine OpsW.val (v := .sc (.bool _)) rfl rfl ?_ | refine OpsW.val (v := .sc (.int _ _)) rfl rfl ?_ | refine OpsW.val (v := .ref _ _ _ _) rfl rfl ?_ | refine OpsW.val (v := .isl _ _) rfl rfl ?_ | refine OpsW.val (v := .sc (.string _)) rfl rfl ?_ | refine OpsW.val (v := .agg _) rfl rfl ?_ | refine OpsW.val rfl rfl ?_)
   | (refine OpsW.as (.binOp _ _ _ _ _) ?_; first | refine OpsW.test rfl rfl (fun hb => ?_) (fun hb => ?_) | refine OpsW.val (v := .sc (.int _ _)) rfl rfl ?_ | refine OpsW.val rfl rfl ?_)
   | (refine OpsW.as (.indexAddr _ _ _) ?_; first | refine OpsW.index rfl rfl rfl rfl (Int.natCast_nonneg _) (by first | exact hidx1 | exact hidx2) rfl ?_ | refine OpsW.val rfl rfl ?_)
   | (refine OpsW.as (.call _) ?_; first | refine OpsW.val (v := .sc (.int _ _)) rfl rfl ?_ | refine OpsW.call (v := .sc (.bool true)) rfl (hcall1 _) rfl ?_ | refine OpsW.call (v := .sc (.bool false)) rfl (hcall1 _) rfl ?_ | refine OpsW.callB rfl (hcall1 _) rfl (fun hb => ?_) (fun hb => ?_) | refine OpsW.call rfl (hcall1 _) rfl ?_ | refine OpsW.val rfl rfl ?_)
   | (refine OpsW.as (.unOp _ _ _) ?_; first | refine OpsW.val (v := .sc (.bool _)) rfl rfl ?_ | refine OpsW.val (v := .sc (.int _ _)) rfl rfl ?_)
   | (refine OpsW.as (.box _ _) ?_; refine OpsW.box rfl rfl rfl rfl ?_)
   | (refine OpsW.as (.alloc _) ?_; refine OpsW.alloc rfl rfl rfl rfl rfl ?_)
   | (refine OpsW.as (.store _ _ _) ?_; refine OpsW.put rfl rfl rfl rfl rfl rfl rfl rfl rfl ?_)
   | (refine OpsW.as (.buildSlice _ _ _) ?_; refine OpsW.buildSlice rfl rfl rfl rfl rfl rfl rfl rfl ?_)
   | refine OpsW.unit rfl ?_
   | refine OpsW.nil ?_
   | refine OpsW.val rfl rfl ?_)
  | (refine DrawW.id ?_; first
   | (refine DrawW.guarded ?_; first | refine DrawW.met rfl rfl ?_ | refine DrawW.unmet rfl rfl rfl rfl rfl ?_ | refine DrawW.gone rfl rfl rfl rfl ?_)
   | (refine DrawW.as (.fieldAddr _ _ _) ?_; first | refine DrawW.val (v := .ref _ _ _ _) rfl rfl rfl rfl rfl rfl ?_ | refine DrawW.val (v := .pref _) rfl rfl rfl rfl rfl rfl ?_)
   | ((first | refine DrawW.as (.load _ _) ?_ | refine DrawW.as (.move _) ?_ | refine DrawW.as (.pick _ _ _) ?_ | refine DrawW.as (.assign _) ?_ | refine DrawW.as (.extract _ _) ?_); first | refine DrawW.val (v := .sc (.bool _)) rfl rfl rfl rfl rfl rfl ?_ | refine DrawW.val (v := .sc (.int _ _)) rfl rfl rfl rfl rfl rfl ?_ | refine DrawW.val (v := .ref _ _ _ _) rfl rfl rfl rfl rfl rfl ?_ | refine DrawW.val (v := .isl _ _) rfl rfl rfl rfl rfl rfl ?_ | refine DrawW.val (v := .sc (.string _)) rfl rfl rfl rfl rfl rfl ?_ | refine DrawW.val (v := .agg _) rfl rfl rfl rfl rfl rfl ?_ | refine DrawW.val rfl rfl rfl rfl rfl rfl ?_)
   | (refine DrawW.as (.binOp _ _ _ _ _) ?_; first | refine DrawW.test rfl rfl rfl (fun hb => ?_) (fun hb => ?_) | refine DrawW.val (v := .sc (.int _ _)) rfl rfl rfl rfl rfl rfl ?_ | refine DrawW.val rfl rfl rfl rfl rfl rfl ?_)
   | (refine DrawW.as (.indexAddr _ _ _) ?_; first | refine DrawW.index rfl rfl rfl rfl (Int.natCast_nonneg _) (by first | exact hidx1 | exact hidx2) rfl ?_ | refine DrawW.val rfl rfl rfl rfl rfl rfl ?_)
   | (refine DrawW.as (.call _) ?_; first | refine DrawW.val (v := .sc (.int _ _)) rfl rfl rfl rfl rfl rfl ?_ | refine DrawW.call (v := .sc (.bool true)) rfl rfl rfl (hcall1 _) rfl ?_ | refine DrawW.call (v := .sc (.bool false)) rfl rfl rfl (hcall1 _) rfl ?_ | refine DrawW.callB rfl rfl rfl (hcall1 _) rfl (fun hb => ?_) (fun hb => ?_) | refine DrawW.call rfl rfl rfl (hcall1 _) rfl ?_ | refine DrawW.actv rfl rfl rfl rfl ?_)
   | (refine DrawW.as (.unOp _ _ _) ?_; first | refine DrawW.val (v := .sc (.bool _)) rfl rfl rfl rfl rfl rfl ?_ | refine DrawW.val (v := .sc (.int _ _)) rfl rfl rfl rfl rfl rfl ?_)
   | (refine DrawW.as (.box _ _) ?_; refine DrawW.box rfl rfl rfl rfl ?_)
   | (refine DrawW.as (.alloc _) ?_; refine DrawW.alloc rfl rfl rfl rfl rfl ?_)
   | (refine DrawW.as (.store _ _ _) ?_; refine DrawW.put rfl rfl rfl rfl rfl rfl rfl rfl rfl ?_)
   | refine DrawW.store rfl ?_
   | refine DrawW.fin (by kernel_rfl) ?_
   | (refine DrawW.as (.buildSlice _ _ _) ?_; refine DrawW.buildSlice rfl rfl rfl rfl rfl rfl rfl rfl ?_)
   | refine DrawW.val rfl rfl rfl rfl rfl rfl ?_
   | refine DrawW.actv rfl rfl rfl rfl ?_)
  | refine PR.seq ?_
  | refine PR.region hP hR rfl rfl ?_
  | refine PR.draw hP hR rfl rfl (by kernel_rfl) ?_
  | refine PR.yes rfl ?_
  | refine PR.no rfl ?_
  | refine PR.block ?_
  | refine PR.skip hP rfl rfl ?_
  | refine PR.exit hP rfl rfl ?_
  | refine PR.ret hP rfl rfl ?_
  · have : t = false := by
      cases t
      · rfl
      · have e := ht.1 rfl
        simp only [Ty.mk.injEq] at e
        simp [e.1] at hb
    subst this
    exact ⟨.inl rfl, rfl, _, 1, rfl, rfl⟩
  · have : t = false := by
      cases t
      · rfl
      · have e := ht.1 rfl
        simp only [Ty.mk.injEq] at e
        simp [e.2.1] at hb
    subst this
    exact ⟨.inl rfl, rfl, _, 1, rfl, rfl⟩
  · have : t = false := by
      cases t
      · rfl
      · have e := ht.1 rfl
        simp only [Ty.mk.injEq] at e
        simp [e.2.2] at hb
    subst this
    exact ⟨.inl rfl, rfl, _, 1, rfl, rfl⟩
  · rename_i h1 h2
    have hll : ks.length = ks'.length := by
      simp only [bne_eq_false_iff_eq] at hb
      omega
    have e1 : k = k' := by simpa using h1
    have e2 : n = n' := bytes_ext (by simpa using h2)
    refine PR.loop ?_
    obtain ⟨i, hi0⟩ : ∃ i : Nat, i = 0 := ⟨0, rfl⟩
    refine PR.to [(2, .ref 0 0 3 0), (3, .ref 1 0 3 0), (5, .sc (.int .i64 (i : Int)))]
      [(0, .cells 0 0 (Ty.mk k n ks).cells 0 40 true false), (1, .cells 0 0 (Ty.mk k' n' ks').cells 0 40 true false)] 2 rfl ⟨rfl, rfl, rfl, rfl, by subst hi0; rfl, rfl, trivial⟩ ⟨rfl, rfl, rfl, rfl, rfl, rfl, trivial⟩ ?_
    have hil : i ≤ ks.length := by omega
    have hpre : ∀ j, j < i → ks[j]? = ks'[j]? := fun j hj => by omega
    clear hi0 hb h1 h2
    induction hm : ks.length - i generalizing i with
    | zero =>
      refine PR.around ?_
      repeat' first
      | (refine OpsW.id ?_; first
       | (refine OpsW.guarded ?_; first | refine OpsW.met rfl rfl rfl ?_ | refine OpsW.unmet rfl rfl rfl rfl ?_ | refine OpsW.gone rfl rfl rfl ?_)
       | (refine OpsW.as (.fieldAddr _ _ _) ?_; first | refine OpsW.val (v := .ref _ _ _ _) rfl rfl ?_ | refine OpsW.val (v := .pref _) rfl rfl ?_)
       | ((first | refine OpsW.as (.load _ _) ?_ | refine OpsW.as (.move _) ?_ | refine OpsW.as (.pick _ _ _) ?_ | refine OpsW.as (.assign _) ?_ | refine OpsW.as (.extract _ _) ?_); first | refine OpsW.val (v := .sc (.bool _)) rfl rfl ?_ | refine OpsW.val (v := .sc (.int _ _)) rfl rfl ?_ | refine OpsW.val (v := .ref _ _ _ _) rfl rfl ?_ | refine OpsW.val (v := .isl _ _) rfl rfl ?_ | refine OpsW.val (v := .sc (.string _)) rfl rfl ?_ | refine OpsW.val (v := .agg _) rfl rfl ?_ | refine OpsW.val rfl rfl ?_)
       | (refine OpsW.as (.binOp _ _ _ _ _) ?_; first | refine OpsW.test rfl rfl (fun hb => ?_) (fun hb => ?_) | refine OpsW.val (v := .sc (.int _ _)) rfl rfl ?_ | refine OpsW.val rfl rfl ?_)
       | (refine OpsW.as (.indexAddr _ _ _) ?_; first | refine OpsW.index rfl rfl rfl rfl (Int.natCast_nonneg _) (by first | exact hidx1 | exact hidx2) rfl ?_ | refine OpsW.val rfl rfl ?_)
       | (refine OpsW.as (.call _) ?_; first | refine OpsW.val (v := .sc (.int _ _)) rfl rfl ?_ | refine OpsW.call (v := .sc (.bool true)) rfl (hcall1 _) rfl ?_ | refine OpsW.call (v := .sc (.bool false)) rfl (hcall1 _) rfl ?_ | refine OpsW.callB rfl (hcall1 _) rfl (fun hb => ?_) (fun hb => ?_) | refine OpsW.call rfl (hcall1 _) rfl ?_ | refine OpsW.val rfl rfl ?_)
       | (refine OpsW.as (.unOp _ _ _) ?_; first | refine OpsW.val (v := .sc (.bool _)) rfl rfl ?_ | refine OpsW.val (v := .sc (.int _ _)) rfl rfl ?_)
       | (refine OpsW.as (.box _ _) ?_; refine OpsW.box rfl rfl rfl rfl ?_)
       | (refine OpsW.as (.alloc _) ?_; refine OpsW.alloc rfl rfl rfl rfl rfl ?_)
       | (refine OpsW.as (.store _ _ _) ?_; refine OpsW.put rfl rfl rfl rfl rfl rfl rfl rfl rfl ?_)
       | (refine OpsW.as (.buildSlice _ _ _) ?_; refine OpsW.buildSlice rfl rfl rfl rfl rfl rfl rfl rfl ?_)
       | refine OpsW.unit rfl ?_
       | refine OpsW.nil ?_
       | refine OpsW.val rfl rfl ?_)
      | (refine DrawW.id ?_; first
       | (refine DrawW.guarded ?_; first | refine DrawW.met rfl rfl ?_ | refine DrawW.unmet rfl rfl rfl rfl rfl ?_ | refine DrawW.gone rfl rfl rfl rfl ?_)
       | (refine DrawW.as (.fieldAddr _ _ _) ?_; first | refine DrawW.val (v := .ref _ _ _ _) rfl rfl rfl rfl rfl rfl ?_ | refine DrawW.val (v := .pref _) rfl rfl rfl rfl rfl rfl ?_)
       | ((first | refine DrawW.as (.load _ _) ?_ | refine DrawW.as (.move _) ?_ | refine DrawW.as (.pick _ _ _) ?_ | refine DrawW.as (.assign _) ?_ | refine DrawW.as (.extract _ _) ?_); first | refine DrawW.val (v := .sc (.bool _)) rfl rfl rfl rfl rfl rfl ?_ | refine DrawW.val (v := .sc (.int _ _)) rfl rfl rfl rfl rfl rfl ?_ | refine DrawW.val (v := .ref _ _ _ _) rfl rfl rfl rfl rfl rfl ?_ | refine DrawW.val (v := .isl _ _) rfl rfl rfl rfl rfl rfl ?_ | refine DrawW.val (v := .sc (.string _)) rfl rfl rfl rfl rfl rfl ?_ | refine DrawW.val (v := .agg _) rfl rfl rfl rfl rfl rfl ?_ | refine DrawW.val rfl rfl rfl rfl rfl rfl ?_)
       | (refine DrawW.as (.binOp _ _ _ _ _) ?_; first | refine DrawW.test rfl rfl rfl (fun hb => ?_) (fun hb => ?_) | refine DrawW.val (v := .sc (.int _ _)) rfl rfl rfl rfl rfl rfl ?_ | refine DrawW.val rfl rfl rfl rfl rfl rfl ?_)
       | (refine DrawW.as (.indexAddr _ _ _) ?_; first | refine DrawW.index rfl rfl rfl rfl (Int.natCast_nonneg _) (by first | exact hidx1 | exact hidx2) rfl ?_ | refine DrawW.val rfl rfl rfl rfl rfl rfl ?_)
       | (refine DrawW.as (.call _) ?_; first | refine DrawW.val (v := .sc (.int _ _)) rfl rfl rfl rfl rfl rfl ?_ | refine DrawW.call (v := .sc (.bool true)) rfl rfl rfl (hcall1 _) rfl ?_ | refine DrawW.call (v := .sc (.bool false)) rfl rfl rfl (hcall1 _) rfl ?_ | refine DrawW.callB rfl rfl rfl (hcall1 _) rfl (fun hb => ?_) (fun hb => ?_) | refine DrawW.call rfl rfl rfl (hcall1 _) rfl ?_ | refine DrawW.actv rfl rfl rfl rfl ?_)
       | (refine DrawW.as (.unOp _ _ _) ?_; first | refine DrawW.val (v := .sc (.bool _)) rfl rfl rfl rfl rfl rfl ?_ | refine DrawW.val (v := .sc (.int _ _)) rfl rfl rfl rfl rfl rfl ?_)
       | (refine DrawW.as (.box _ _) ?_; refine DrawW.box rfl rfl rfl rfl ?_)
       | (refine DrawW.as (.alloc _) ?_; refine DrawW.alloc rfl rfl rfl rfl rfl ?_)
       | (refine DrawW.as (.store _ _ _) ?_; refine DrawW.put rfl rfl rfl rfl rfl rfl rfl rfl rfl ?_)
       | refine DrawW.store rfl ?_
       | refine DrawW.fin (by kernel_rfl) ?_
       | (refine DrawW.as (.buildSlice _ _ _) ?_; refine DrawW.buildSlice rfl rfl rfl rfl rfl rfl rfl rfl ?_)
       | refine DrawW.val rfl rfl rfl rfl rfl rfl ?_
       | refine DrawW.actv rfl rfl rfl rfl ?_)
      | refine PR.seq ?_
      | refine PR.region hP hR rfl rfl ?_
      | refine PR.draw hP hR rfl rfl (by kernel_rfl) ?_
      | refine PR.yes rfl ?_
      | refine PR.no rfl ?_
      | refine PR.block ?_
      | refine PR.skip hP rfl rfl ?_
      | refine PR.exit hP rfl rfl ?_
      | refine PR.ret hP rfl rfl ?_
      · exfalso
        simp at hb
        omega
      · have : t = true := ht.2 (by
          rw [e1, e2]
          congr 1
          apply List.ext_getElem?
          intro j
          rcases Nat.lt_or_ge j i with hj | hj
          · exact hpre j hj
          · rw [List.getElem?_eq_none (by omega), List.getElem?_eq_none (by omega)])
        subst this
        exact ⟨.inl rfl, rfl, _, 1, rfl, rfl⟩
    | succ m ih =>
      have hlt : i < ks.length := by omega
      have hlt' : i < ks'.length := by omega
      have hx : ks[i]? = some ks[i] := List.getElem?_eq_getElem hlt
      have hy : ks'[i]? = some ks'[i] := List.getElem?_eq_getElem hlt'
      have hmem : ks[i] ∈ ks := List.getElem_mem hlt
      generalize ks[i] = x at hx hmem
      generalize ks'[i] = y at hy
      by_cases hxy : x = y
      · have hcall1 := hC x y true hmem ⟨fun _ => hxy, fun _ => rfl⟩
        obtain ⟨xk, xn, xs⟩ := x
        obtain ⟨yk, yn, ys⟩ := y
        have hidx1 : (Ty.rows ks)[(i : Int).toNat]? = some (Ty.mk xk xn xs).cells := by rw [Ty.rows_get, Int.toNat_natCast, hx]; rfl
        have hidx2 : (Ty.rows ks')[(i : Int).toNat]? = some (Ty.mk yk yn ys).cells := by rw [Ty.rows_get, Int.toNat_natCast, hy]; rfl
        refine PR.around ?_
        repeat' first
        | (refine OpsW.id ?_; first
         | (refine OpsW.guarded ?_; first | refine OpsW.met rfl rfl rfl ?_ | refine OpsW.unmet rfl rfl rfl rfl ?_ | refine OpsW.gone rfl rfl rfl ?_)
         | (refine OpsW.as (.fieldAddr _ _ _) ?_; first | refine OpsW.val (v := .ref _ _ _ _) rfl rfl ?_ | refine OpsW.val (v := .pref _) rfl rfl ?_)
         | ((first | refine OpsW.as (.load _ _) ?_ | refine OpsW.as (.move _) ?_ | refine OpsW.as (.pick _ _ _) ?_ | refine OpsW.as (.assign _) ?_ | refine OpsW.as (.extract _ _) ?_); first | refine OpsW.val (v := .sc (.bool _)) rfl rfl ?_ | refine OpsW.val (v := .sc (.int _ _)) rfl rfl ?_ | refine OpsW.val (v := .ref _ _ _ _) rfl rfl ?_ | refine OpsW.val (v := .isl _ _) rfl rfl ?_ | refine OpsW.val (v := .sc (.string _)) rfl rfl ?_ | refine OpsW.val (v := .agg _) rfl rfl ?_ | refine OpsW.val rfl rfl ?_)
         | (refine OpsW.as (.binOp _ _ _ _ _) ?_; first | refine OpsW.test rfl rfl (fun hb => ?_) (fun hb => ?_) | refine OpsW.val (v := .sc (.int _ _)) rfl rfl ?_ | refine OpsW.val rfl rfl ?_)
         | (refine OpsW.as (.indexAddr _ _ _) ?_; first | refine OpsW.index rfl rfl rfl rfl (Int.natCast_nonneg _) (by first | exact hidx1 | exact hidx2) rfl ?_ | refine OpsW.val rfl rfl ?_)
         | (refine OpsW.as (.call _) ?_; first | refine OpsW.val (v := .sc (.int _ _)) rfl rfl ?_ | refine OpsW.call (v := .sc (.bool true)) rfl (hcall1 _) rfl ?_ | refine OpsW.call (v := .sc (.bool false)) rfl (hcall1 _) rfl ?_ | refine OpsW.callB rfl (hcall1 _) rfl (fun hb => ?_) (fun hb => ?_) | refine OpsW.call rfl (hcall1 _) rfl ?_ | refine OpsW.val rfl rfl ?_)
         | (refine OpsW.as (.unOp _ _ _) ?_; first | refine OpsW.val (v := .sc (.bool _)) rfl rfl ?_ | refine OpsW.val (v := .sc (.int _ _)) rfl rfl ?_)
         | (refine OpsW.as (.box _ _) ?_; refine OpsW.box rfl rfl rfl rfl ?_)
         | (refine OpsW.as (.alloc _) ?_; refine OpsW.alloc rfl rfl rfl rfl rfl ?_)
         | (refine OpsW.as (.store _ _ _) ?_; refine OpsW.put rfl rfl rfl rfl rfl rfl rfl rfl rfl ?_)
         | (refine OpsW.as (.buildSlice _ _ _) ?_; refine OpsW.buildSlice rfl rfl rfl rfl rfl rfl rfl rfl ?_)
         | refine OpsW.unit rfl ?_
         | refine OpsW.nil ?_
         | refine OpsW.val rfl rfl ?_)
        | (refine DrawW.id ?_; first
         | (refine DrawW.guarded ?_; first | refine DrawW.met rfl rfl ?_ | refine DrawW.unmet rfl rfl rfl rfl rfl ?_ | refine DrawW.gone rfl rfl rfl rfl ?_)
         | (refine DrawW.as (.fieldAddr _ _ _) ?_; first | refine DrawW.val (v := .ref _ _ _ _) rfl rfl rfl rfl rfl rfl ?_ | refine DrawW.val (v := .pref _) rfl rfl rfl rfl rfl rfl ?_)
         | ((first | refine DrawW.as (.load _ _) ?_ | refine DrawW.as (.move _) ?_ | refine DrawW.as (.pick _ _ _) ?_ | refine DrawW.as (.assign _) ?_ | refine DrawW.as (.extract _ _) ?_); first | refine DrawW.val (v := .sc (.bool _)) rfl rfl rfl rfl rfl rfl ?_ | refine DrawW.val (v := .sc (.int _ _)) rfl rfl rfl rfl rfl rfl ?_ | refine DrawW.val (v := .ref _ _ _ _) rfl rfl rfl rfl rfl rfl ?_ | refine DrawW.val (v := .isl _ _) rfl rfl rfl rfl rfl rfl ?_ | refine DrawW.val (v := .sc (.string _)) rfl rfl rfl rfl rfl rfl ?_ | refine DrawW.val (v := .agg _) rfl rfl rfl rfl rfl rfl ?_ | refine DrawW.val rfl rfl rfl rfl rfl rfl ?_)
         | (refine DrawW.as (.binOp _ _ _ _ _) ?_; first | refine DrawW.test rfl rfl rfl (fun hb => ?_) (fun hb => ?_) | refine DrawW.val (v := .sc (.int _ _)) rfl rfl rfl rfl rfl rfl ?_ | refine DrawW.val rfl rfl rfl rfl rfl rfl ?_)
         | (refine DrawW.as (.indexAddr _ _ _) ?_; first | refine DrawW.index rfl rfl rfl rfl (Int.natCast_nonneg _) (by first | exact hidx1 | exact hidx2) rfl ?_ | refine DrawW.val rfl rfl rfl rfl rfl rfl ?_)
         | (refine DrawW.as (.call _) ?_; first | refine DrawW.val (v := .sc (.int _ _)) rfl rfl rfl rfl rfl rfl ?_ | refine DrawW.call (v := .sc (.bool true)) rfl rfl rfl (hcall1 _) rfl ?_ | refine DrawW.call (v := .sc (.bool false)) rfl rfl rfl (hcall1 _) rfl ?_ | refine DrawW.callB rfl rfl rfl (hcall1 _) rfl (fun hb => ?_) (fun hb => ?_) | refine DrawW.call rfl rfl rfl (hcall1 _) rfl ?_ | refine DrawW.actv rfl rfl rfl rfl ?_)
         | (refine DrawW.as (.unOp _ _ _) ?_; first | refine DrawW.val (v := .sc (.bool _)) rfl rfl rfl rfl rfl rfl ?_ | refine DrawW.val (v := .sc (.int _ _)) rfl rfl rfl rfl rfl rfl ?_)
         | (refine DrawW.as (.box _ _) ?_; refine DrawW.box rfl rfl rfl rfl ?_)
         | (refine DrawW.as (.alloc _) ?_; refine DrawW.alloc rfl rfl rfl rfl rfl ?_)
         | (refine DrawW.as (.store _ _ _) ?_; refine DrawW.put rfl rfl rfl rfl rfl rfl rfl rfl rfl ?_)
         | refine DrawW.store rfl ?_
         | refine DrawW.fin (by kernel_rfl) ?_
         | (refine DrawW.as (.buildSlice _ _ _) ?_; refine DrawW.buildSlice rfl rfl rfl rfl rfl rfl rfl rfl ?_)
         | refine DrawW.val rfl rfl rfl rfl rfl rfl ?_
         | refine DrawW.actv rfl rfl rfl rfl ?_)
        | refine PR.seq ?_
        | refine PR.region hP hR rfl rfl ?_
        | refine PR.draw hP hR rfl rfl (by kernel_rfl) ?_
        | refine PR.yes rfl ?_
        | refine PR.no rfl ?_
        | refine PR.block ?_
        | refine PR.skip hP rfl rfl ?_
        | refine PR.exit hP rfl rfl ?_
        | refine PR.ret hP rfl rfl ?_
        · refine PR.to [(2, .ref 0 0 3 0), (3, .ref 1 0 3 0), (5, .sc (.int .i64 ((i + 1 : Nat) : Int)))]
            [(0, .cells 0 0 (Ty.mk k n ks).cells 0 40 true false), (1, .cells 0 0 (Ty.mk k' n' ks').cells 0 40 true false)] 2 rfl ⟨rfl, rfl, rfl, rfl, congrArg (fun z => some (AV.sc (.int .i64 z))) (wrap_succ hlt (by have := ha.1; omega)), rfl, trivial⟩ ⟨rfl, rfl, rfl, rfl, rfl, rfl, trivial⟩ ?_
          refine ih (i + 1) (by omega) (fun j hj => ?_) (by omega)
          rcases Nat.lt_or_ge j i with h3 | h3
          · exact hpre j h3
          · obtain rfl : j = i := by omega
            rw [hx, hy, hxy]
        · exfalso
          simp at hb
          omega
      · have hcall1 := hC x y false hmem ⟨fun e => (by cases e), fun e => absurd e hxy⟩
        have hne : t = false := by
          cases t
          · rfl
          · have e := ht.1 rfl
            simp only [Ty.mk.injEq] at e
            rw [e.2.2, hy] at hx
            simp only [Option.some.injEq] at hx
            exact absurd hx.symm hxy
        obtain ⟨xk, xn, xs⟩ := x
        obtain ⟨yk, yn, ys⟩ := y
        have hidx1 : (Ty.rows ks)[(i : Int).toNat]? = some (Ty.mk xk xn xs).cells := by rw [Ty.rows_get, Int.toNat_natCast, hx]; rfl
        have hidx2 : (Ty.rows ks')[(i : Int).toNat]? = some (Ty.mk yk yn ys).cells := by rw [Ty.rows_get, Int.toNat_natCast, hy]; rfl
        refine PR.around ?_
        repeat' first
        | (refine OpsW.id ?_; first
         | (refine OpsW.guarded ?_; first | refine OpsW.met rfl rfl rfl ?_ | refine OpsW.unmet rfl rfl rfl rfl ?_ | refine OpsW.gone rfl rfl rfl ?_)
         | (refine OpsW.as (.fieldAddr _ _ _) ?_; first | refine OpsW.val (v := .ref _ _ _ _) rfl rfl ?_ | refine OpsW.val (v := .pref _) rfl rfl ?_)
         | ((first | refine OpsW.as (.load _ _) ?_ | refine OpsW.as (.move _) ?_ | refine OpsW.as (.pick _ _ _) ?_ | refine OpsW.as (.assign _) ?_ | refine OpsW.as (.extract _ _) ?_); first | refine OpsW.val (v := .sc (.bool _)) rfl rfl ?_ | refine OpsW.val (v := .sc (.int _ _)) rfl rfl ?_ | refine OpsW.val (v := .ref _ _ _ _) rfl rfl ?_ | refine OpsW.val (v := .isl _ _) rfl rfl ?_ | refine OpsW.val (v := .sc (.string _)) rfl rfl ?_ | refine OpsW.val (v := .agg _) rfl rfl ?_ | refine OpsW.val rfl rfl ?_)
         | (refine OpsW.as (.binOp _ _ _ _ _) ?_; first | refine OpsW.test rfl rfl (fun hb => ?_) (fun hb => ?_) | refine OpsW.val (v := .sc (.int _ _)) rfl rfl ?_ | refine OpsW.val rfl rfl ?_)
         | (refine OpsW.as (.indexAddr _ _ _) ?_; first | refine OpsW.index rfl rfl rfl rfl (Int.natCast_nonneg _) (by first | exact hidx1 | exact hidx2) rfl ?_ | refine OpsW.val rfl rfl ?_)
         | (refine OpsW.as (.call _) ?_; first | refine OpsW.val (v := .sc (.int _ _)) rfl rfl ?_ | refine OpsW.call (v := .sc (.bool true)) rfl (hcall1 _) rfl ?_ | refine OpsW.call (v := .sc (.bool false)) rfl (hcall1 _) rfl ?_ | refine OpsW.callB rfl (hcall1 _) rfl (fun hb => ?_) (fun hb => ?_) | refine OpsW.call rfl (hcall1 _) rfl ?_ | refine OpsW.val rfl rfl ?_)
         | (refine OpsW.as (.unOp _ _ _) ?_; first | refine OpsW.val (v := .sc (.bool _)) rfl rfl ?_ | refine OpsW.val (v := .sc (.int _ _)) rfl rfl ?_)
         | (refine OpsW.as (.box _ _) ?_; refine OpsW.box rfl rfl rfl rfl ?_)
         | (refine OpsW.as (.alloc _) ?_; refine OpsW.alloc rfl rfl rfl rfl rfl ?_)
         | (refine OpsW.as (.store _ _ _) ?_; refine OpsW.put rfl rfl rfl rfl rfl rfl rfl rfl rfl ?_)
         | (refine OpsW.as (.buildSlice _ _ _) ?_; refine OpsW.buildSlice rfl rfl rfl rfl rfl rfl rfl rfl ?_)
         | refine OpsW.unit rfl ?_
         | refine OpsW.nil ?_
         | refine OpsW.val rfl rfl ?_)
        | (refine DrawW.id ?_; first
         | (refine DrawW.guarded ?_; first | refine DrawW.met rfl rfl ?_ | refine DrawW.unmet rfl rfl rfl rfl rfl ?_ | refine DrawW.gone rfl rfl rfl rfl ?_)
         | (refine DrawW.as (.fieldAddr _ _ _) ?_; first | refine DrawW.val (v := .ref _ _ _ _) rfl rfl rfl rfl rfl rfl ?_ | refine DrawW.val (v := .pref _) rfl rfl rfl rfl rfl rfl ?_)
         | ((first | refine DrawW.as (.load _ _) ?_ | refine DrawW.as (.move _) ?_ | refine DrawW.as (.pick _ _ _) ?_ | refine DrawW.as (.assign _) ?_ | refine DrawW.as (.extract _ _) ?_); first | refine DrawW.val (v := .sc (.bool _)) rfl rfl rfl rfl rfl rfl ?_ | refine DrawW.val (v := .sc (.int _ _)) rfl rfl rfl rfl rfl rfl ?_ | refine DrawW.val (v := .ref _ _ _ _) rfl rfl rfl rfl rfl rfl ?_ | refine DrawW.val (v := .isl _ _) rfl rfl rfl rfl rfl rfl ?_ | refine DrawW.val (v := .sc (.string _)) rfl rfl rfl rfl rfl rfl ?_ | refine DrawW.val (v := .agg _) rfl rfl rfl rfl rfl rfl ?_ | refine DrawW.val rfl rfl rfl rfl rfl rfl ?_)
         | (refine DrawW.as (.binOp _ _ _ _ _) ?_; first | refine DrawW.test rfl rfl rfl (fun hb => ?_) (fun hb => ?_) | refine DrawW.val (v := .sc (.int _ _)) rfl rfl rfl rfl rfl rfl ?_ | refine DrawW.val rfl rfl rfl rfl rfl rfl ?_)
         | (refine DrawW.as (.indexAddr _ _ _) ?_; first | refine DrawW.index rfl rfl rfl rfl (Int.natCast_nonneg _) (by first | exact hidx1 | exact hidx2) rfl ?_ | refine DrawW.val rfl rfl rfl rfl rfl rfl ?_)
         | (refine DrawW.as (.call _) ?_; first | refine DrawW.val (v := .sc (.int _ _)) rfl rfl rfl rfl rfl rfl ?_ | refine DrawW.call (v := .sc (.bool true)) rfl rfl rfl (hcall1 _) rfl ?_ | refine DrawW.call (v := .sc (.bool false)) rfl rfl rfl (hcall1 _) rfl ?_ | refine DrawW.callB rfl rfl rfl (hcall1 _) rfl (fun hb => ?_) (fun hb => ?_) | refine DrawW.call rfl rfl rfl (hcall1 _) rfl ?_ | refine DrawW.actv rfl rfl rfl rfl ?_)
         | (refine DrawW.as (.unOp _ _ _) ?_; first | refine DrawW.val (v := .sc (.bool _)) rfl rfl rfl rfl rfl rfl ?_ | refine DrawW.val (v := .sc (.int _ _)) rfl rfl rfl rfl rfl rfl ?_)
         | (refine DrawW.as (.box _ _) ?_; refine DrawW.box rfl rfl rfl rfl ?_)
         | (refine DrawW.as (.alloc _) ?_; refine DrawW.alloc rfl rfl rfl rfl rfl ?_)
         | (refine DrawW.as (.store _ _ _) ?_; refine DrawW.put rfl rfl rfl rfl rfl rfl rfl rfl rfl ?_)
         | refine DrawW.store rfl ?_
         | refine DrawW.fin (by kernel_rfl) ?_
         | (refine DrawW.as (.buildSlice _ _ _) ?_; refine DrawW.buildSlice rfl rfl rfl rfl rfl rfl rfl rfl ?_)
         | refine DrawW.val rfl rfl rfl rfl rfl rfl ?_
         | refine DrawW.actv rfl rfl rfl rfl ?_)
        | refine PR.seq ?_
        | refine PR.region hP hR rfl rfl ?_
        | refine PR.draw hP hR rfl rfl (by kernel_rfl) ?_
        | refine PR.yes rfl ?_
        | refine PR.no rfl ?_
        | refine PR.block ?_
        | refine PR.skip hP rfl rfl ?_
        | refine PR.exit hP rfl rfl ?_
        | refine PR.ret hP rfl rfl ?_
        · subst hne
          exact ⟨.inl rfl, rfl, _, 1, rfl, rfl⟩
        · exfalso
          simp at hb
          omega

theorem same118 (hP : ProgOK Tryz.prog) : ∀ (n : Nat) (a b : Ty), a.size ≤ n → a.ok → ∀ t, (t = true ↔ a = b) → ∀ h, CallOK Tryz.prog 118 [.agg a.cells, .agg b.cells] h (.ret (.sc (.bool t))) h
  | 0, a, _, hn, _, _, _, _ => by cases a; simp [Ty.size] at hn
  | n + 1, a, b, hn, ha, t, ht, h => by
    obtain ⟨R, hR, hC⟩ := rec_of (P := Tryz.prog) (fun f x v => ∃ (a' b' : Ty) (t' : Bool), f = 118 ∧ x = [.agg a'.cells, .agg b'.cells] ∧ v = .sc (.bool t') ∧ a'.size ≤ n ∧ a'.ok ∧ (t' = true ↔ a' = b'))
      (by
        rintro f x v v' ⟨a1, b1, t1, rfl, rfl, rfl, _, _, h1⟩ ⟨a2, b2, t2, _, e, rfl, _, _, h2⟩
        simp only [List.cons.injEq, AV.agg.injEq, and_true] at e
        obtain rfl := Ty.cells_inj _ _ e.1
        obtain rfl := Ty.cells_inj _ _ e.2
        have : t1 = t2 := by
          rw [Bool.eq_iff_iff, h1, h2]
        rw [this])
      (by
        rintro f x v ⟨a1, b1, t1, rfl, rfl, rfl, h1, h2, h3⟩ h
        exact same118 hP n a1 b1 h1 h2 t1 h3 h)
    refine walk118 hP hR a b ha t ht (fun a' b' t' hm ht' h => hC _ _ _ ⟨a', b', t', rfl, rfl, rfl, ?_, ?_, ht'⟩ h) h
    · obtain ⟨_, _, ks⟩ := a
      have := Ty.size_mem a' hm
      simp only [Ty.size, Ty.kids] at hn this ⊢
      omega
    · obtain ⟨_, _, ks⟩ := a
      exact Ty.oks_mem ha.2 a' hm
end Go.AI
end
