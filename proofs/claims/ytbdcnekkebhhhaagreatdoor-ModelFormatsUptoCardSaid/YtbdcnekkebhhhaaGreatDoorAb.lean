/-
  Operations, one by one (1): values, new variables, loads, stores, structs.
-/
import Derived.Laws.Tables
import Derived.Laws.MakeOwn
import Derived.Laws.AppendOwn
import Derived.IntWalk
import Derived.Test.YtbdcnekkebhhhaaGreatDoorAa
set_option linter.all false

section
namespace Go.AI
def DefR (g : Gh) : ADef → Deferred → Prop
  | .fn f cap args, d => ∃ cap' args' : List Value, d = { target := .fn f cap'.toArray, args := args'.toArray } ∧ VRs g cap cap' ∧ VRs g args args'
  | .coll o, d => ∃ b s n, g.B o 0 = some (b, s, n) ∧ d = { target := .collected b, args := #[] }
theorem DefR.mono {g g' : Gh} (hl : g.Le g') {d : ADef} {d' : Deferred} (h : DefR g d d') : DefR g' d d' := by
  cases d with
  | fn f cap args => obtain ⟨a, b, e, h1, h2⟩ := h; exact ⟨a, b, e, h1.mono hl, h2.mono hl⟩
  | coll o => obtain ⟨b, s, n, h1, h2⟩ := h; exact ⟨b, s, n, hl.b _ _ _ h1, h2⟩
def OpOK (P : Program) (h : AHeap) (g : Gh) (w : World) (s : Sem Next) (r : ANext) (h' : AHeap) : Prop :=
  match r with
  | .val v => ∃ g' w' x, s.run P w = .ok (.value x) w' ∧ VR g' v x ∧ W h' g' w' ∧ Step h g w h' g' w'
  | .skip => ∃ g' w', s.run P w = .ok .skip w' ∧ W h' g' w' ∧ Step h g w h' g' w'
  | .enter f args => h' = h ∧ ∃ vs : List Value, s.run P w = .ok (.enter f vs.toArray) w ∧ VRs g args vs
  | .round l args => h' = h ∧ ∃ b k n, ∃ vs : List Value, g.B l 0 = some (b, k, n) ∧ VRs g args vs ∧ s.run P w = (Instr.yield b vs.toArray).run P w
  | .defer d => h' = h ∧ ∃ d', s.run P w = .ok (.defer d') w ∧ DefR g d d'
  | .panic v => h' = h ∧ ∃ x, s.run P w = .halt (.panic x) w ∧ VR g v x
  | .recov => h' = h ∧ s.run P w = .ok .recover w
section
variable {P : Program} {h h' : AHeap} {g : Gh} {w : World}
theorem OpOK.same {s : Sem Next} {v : AV} {x : Value} (hw : W h g w) (hr : s.run P w = .ok (.value x) w) (hv : VR g v x) : OpOK P h g w s (.val v) h :=
  ⟨g, w, x, hr, hv, hw, .refl h g w⟩
theorem val_ok {s : Sem Value} {v? : Option AV} {r : ANext} (hw : W h g w) (e : val h v? = some (r, h'))
    (hs : ∀ v, v? = some v → ∃ x, s.run P w = .ok x w ∧ VR g v x) : OpOK P h g w (do pure (.value (← s))) r h' := by
  unfold val at e
  cases v? with
  | none => cases e
  | some v =>
    simp only [Option.map_some, Option.some.injEq, Prod.mk.injEq] at e
    obtain ⟨rfl, rfl⟩ := e
    obtain ⟨x, h1, h2⟩ := hs v rfl
    exact OpOK.same hw (by simp [h1]) h2
theorem cells_VR {x : AV} {v : Value} (hc : (cellsA x).all cellOK = true) (hr : VR g x v) : VRs g (cellsA x) v.cells.toList := by
  by_cases hx : ∃ a, x = .agg a
  · obtain ⟨a, rfl⟩ := hx
    obtain ⟨cs, rfl, hcs⟩ := VR.agg_iff.1 hr
    exact hcs
  · have e : cellsA x = [x] := by
      cases x <;> first | rfl | exact absurd ⟨_, rfl⟩ hx
    rw [e] at hc ⊢
    have h1 := cellOK_one (by simpa using hc) hr
    have : v.cells = #[v] := by cases v <;> simp_all [Value.cells, Value.oneCell']
    rw [this]; exact ⟨hr, trivial⟩
theorem cells_zero {z : AV} {v : Value} (h : z = ofVal v) : VRs g (cellsA z) v.cells.toList := by
  subst h
  cases v with
  | agg cs => exact VRs.scs _
  | tuple cs => exact ⟨VR.ofVal _, trivial⟩
  | _ => exact ⟨.sc _, trivial⟩
theorem row_ok {cells : List AV} {vs : Array Value} {t : TypeId} (hw : W h g w) (hf : ∀ v, g.B h.next v = none) (hv : VRs g cells vs.toList) :
    ∃ g', g'.B h.next 0 = some (w.heap.size, cells.length, cells.length) ∧
      W (h.alloc (.cells 0 0 cells 0 t true false)) g' (w.alloc (.cells vs t)) ∧ Step h g w (h.alloc (.cells 0 0 cells 0 t true false)) g' (w.alloc (.cells vs t)) := by
  have hsz : vs.size = cells.length := by simpa using hv.length.symm
  refine ⟨g.setB h.next 0 (w.heap.size, cells.length, cells.length), Gh.setB_same _ _ _ _, ?_⟩
  refine alloc_ok hw hf rfl ⟨fun v hv => ?_, ?_⟩
  · cases e : (g.setB h.next 0 (w.heap.size, cells.length, cells.length)).B h.next v with
    | none => rfl
    | some y =>
      rcases Gh.setB_cases e with ⟨_, e', _⟩ | e'
      · omega
      · rw [hf v] at e'; cases e'
  intro v h1 h2 b s n hb
  obtain rfl : v = 0 := by omega
  rw [Gh.setB_same] at hb
  simp only [Option.some.injEq, Prod.mk.injEq] at hb
  obtain ⟨rfl, rfl, rfl⟩ := hb
  refine ⟨fun _ => rfl, vs, (0, 0), ⟨pushW_new _ _, hsz, Nat.le_refl _, Nat.le_refl _, fun _ => rfl, fun i _ h3 h4 => by simp at h4, fun _ => .inl rfl, ?_⟩⟩
  intro i x hi hx
  have : i < vs.size := by omega
  refine ⟨vs[i], by simp [this], (hv.get i x vs[i] hx (by simp [this])).mono (Gh.setB_le (hf 0))⟩
theorem newVar_ok {x : AV} {v : Value} {t : TypeId} (hw : W h g w) (hf : ∀ v, g.B h.next v = none) (hv : VRs g (cellsA x) v.cells.toList) :
    OpOK P h g w (do pure (.value (.pointer (some (← newVar t v))))) (.val (anew h t (cellsA x)).2) (anew h t (cellsA x)).1 := by
  obtain ⟨g', h1, h2, h3⟩ := row_ok (t := t) hw hf hv
  refine ⟨g', _, .pointer (some ⟨w.heap.size, 0, none⟩), ?_, .ref h1, h2, h3⟩
  simp [newVar, newRow]
theorem op_alloc {e : TypeId} {z : AV} (hw : W h g w) (hf : ∀ v, g.B h.next v = none) (hz : zeroT P e = some z) :
    OpOK P h g w (do pure (.value (← Instr.alloc e true (.tuple #[])))) (.val (anew h e (cellsA z)).2) (anew h e (cellsA z)).1 := by
  obtain ⟨v, h1, h2⟩ := run_zeroValue hz w
  obtain ⟨g', w', x, h3, h4⟩ := newVar_ok (P := P) (x := z) (v := v) (t := e) hw hf (cells_zero h2)
  refine ⟨g', w', x, ?_, h4⟩
  rw [← h3]
  simp [Instr.alloc, h1]
theorem op_box {e : TypeId} {x : AV} {v : Value} (hw : W h g w) (hf : ∀ v, g.B h.next v = none) (hx : VR g x v) (hc : (cellsA x).all cellOK = true) :
    OpOK P h g w (do pure (.value (← Instr.box e v))) (.val (anew h e (cellsA x)).2) (anew h e (cellsA x)).1 := by
  obtain ⟨g', w', y, h3, h4⟩ := newVar_ok (P := P) (x := x) (v := v) (t := e) hw hf (cells_VR hc hx)
  refine ⟨g', w', y, ?_, h4⟩
  rw [← h3]
  simp [Instr.box]
theorem cellsA_all {x : AV} (h : ∀ a, x ≠ .agg a) : cellsA x = [x] := by
  cases x <;> first | rfl | exact absurd rfl (h _)
theorem op_store {t : TypeId} {x y : AV} {a v : Value} (hw : W h g w) (hx : VR g x a) (hy : VR g y v) (hr : astore P h t x y = some h') :
    OpOK P h g w (do Instr.storeAt t a v; pure .skip) .skip h' := by
  unfold astore at hr
  split at hr
  · rename_i s o ver n off hs
    split at hr
    · rename_i hlen
      cases hx with
      | ref hb =>
        rename_i b sz
        have hall : (cellsA y).all cellOK = true := by
          unfold wrCells at hr
          split at hr
          · split at hr
            · rename_i hc; exact hc.2.2.2.2
            · cases hr
          · cases hr
        have hcells := cells_VR hall hy
        obtain ⟨w', h1, h2, h3⟩ := wrCells_ok (P := P) hw hr hb hcells
        refine ⟨g, w', ?_, h2, h3⟩
        have hsz : v.cells.size = s := by rw [← hlen]; simpa using hcells.length.symm
        simp only [Instr.storeAt, Instr.sureAddr, storeVar, Sem.run_bind, Sem.run_pure, Result.andThen_ok, run_sizeOf hs, hsz, ne_eq, not_true_eq_false, if_false, h1]
    · cases hr
  · cases hr
theorem apart_ok {t : TypeId} {cs : List AV} {vs : Array Value} {off : Nat} {y : AV} (hr : apart P t cs off = some y) (hv : VRs g cs vs.toList) :
    ∃ u, (part t vs off).run P w = .ok u w ∧ VR g y u := by
  unfold apart at hr
  split at hr
  · rename_i s ha hs
    simp only [Option.some.injEq] at hr; subst hr
    refine ⟨.agg (vs.extract off (off + s)), ?_, ?_⟩
    · simp only [part, Sem.run_bind, run_isAgg ha, Result.andThen_ok, if_true, run_sizeOf hs, Sem.run_pure]
    · refine VR.agg_iff.2 ⟨_, rfl, ?_⟩
      have : (vs.extract off (off + s)).toList = (vs.toList.drop off).take s := by
        simp [Array.toList_extract, List.extract_eq_take_drop]
      rw [this]
      exact (hv.drop off).take s
  · rename_i s ha hs
    have h1 : cs[off]? = some y := by
      rw [← List.head?_drop]; exact hr
    have hlt : off < vs.size := by
      have := hv.length
      have h2 : off < cs.length := by
        rcases Nat.lt_or_ge off cs.length with h' | h'
        · exact h'
        · rw [List.getElem?_eq_none h'] at h1; cases h1
      simp at this; omega
    refine ⟨vs[off], ?_, hv.get off y vs[off] h1 (by simp [hlt])⟩
    simp [part, run_isAgg ha, hlt]
  · cases hr
theorem op_field {t : TypeId} {x y : AV} {v : Value} {f : Nat} (hx : VR g x v) (hr : afield P t x f = some y) :
    ∃ u, (Instr.field t v f).run P w = .ok u w ∧ VR g y u := by
  unfold afield at hr
  split at hr
  · rename_i fields cs hu
    obtain ⟨vs, rfl, hv⟩ := VR.agg_iff.1 hx
    split at hr
    · rename_i fd hfd
      obtain ⟨u, h1, h2⟩ := apart_ok (w := w) hr hv
      refine ⟨u, ?_, h2⟩
      simp [Instr.field, run_underlying hu, hfd, asAgg, h1]
    · cases hr
  · cases hr
theorem natOfA_ok {x : AV} {v : Value} {n : Nat} (hx : VR g x v) (hr : natOfA x = some n) : ∃ k i, v = .int k i ∧ 0 ≤ i ∧ i.toNat = n ∧ i = n := by
  unfold natOfA at hr
  split at hr
  · rename_i k i
    split at hr
    · rename_i hi
      cases hx
      simp at hr
      exact ⟨k, i, rfl, hi, hr, by omega⟩
    · cases hr
  · cases hr
theorem op_index {t : TypeId} {x i y : AV} {v u : Value} (hx : VR g x v) (hi : VR g i u) (hr : aindex P t x i = some y) :
    ∃ z, (Instr.index t v u).run P w = .ok z w ∧ VR g y z := by
  unfold aindex at hr
  split at hr
  · rename_i len e cs hu
    obtain ⟨vs, rfl, hv⟩ := VR.agg_iff.1 hx
    split at hr
    · rename_i n s hn hs
      split at hr
      · rename_i hlt
        obtain ⟨k, j, rfl, h0, h1, h2⟩ := natOfA_ok hi hn
        obtain ⟨z, h3, h4⟩ := apart_ok (w := w) hr hv
        refine ⟨z, ?_, h4⟩
        simp only [Instr.index, asIntOf, Sem.run_bind, Sem.run_pure, Result.andThen_ok, run_underlying hu]
        rw [if_pos ⟨h0, by omega⟩]
        simp only [Sem.run_bind, run_sizeOf hs, Result.andThen_ok, h1, h3]
      · cases hr
    · cases hr
  · rename_i s hu
    cases hx
    split at hr
    · rename_i n hn
      obtain ⟨k, j, rfl, h0, h1, h2⟩ := natOfA_ok hi hn
      split at hr
      · rename_i b hb
        simp only [Option.some.injEq] at hr; subst hr
        refine ⟨_, ?_, .sc _⟩
        simp only [Instr.index, asIntOf, Sem.run_bind, Sem.run_pure, Result.andThen_ok, run_underlying hu]
        rw [if_pos h0, h1, hb]
        rfl
      · cases hr
    · cases hr
  · cases hr
theorem op_fieldAddr {t : TypeId} {x y : AV} {v : Value} {f : Nat} (hx : VR g x v) (hr : afieldAddr P t x f = some y) :
    ∃ u, (Instr.fieldAt t v f).run P w = .ok u w ∧ VR g y u := by
  unfold afieldAddr at hr
  split at hr
  · rename_i fields hu
    split at hr
    · rename_i fd hfd
      split at hr
      · rename_i s o ver n off hs
        simp only [Option.some.injEq] at hr; subst hr
        cases hx with
        | ref hb =>
          rename_i b sz
          refine ⟨.pointer (some ⟨b, off + fd.offset, none⟩), ?_, .ref hb⟩
          simp [Instr.fieldAt, run_underlying hu, hfd, Instr.sureAddr, fieldPlace, run_sizeOf hs, add_eq]
      · rename_i s cells hs
        simp only [Option.some.injEq] at hr; subst hr
        cases hx with
        | pref fn h1 h2 =>
          rename_i b off
          refine ⟨.pointer (some ⟨b, off + fd.offset, none⟩), ?_, .pref (fun i => fn (fd.offset + i)) ?_ ?_⟩
          · simp [Instr.fieldAt, run_underlying hu, hfd, Instr.sureAddr, fieldPlace, run_sizeOf hs, add_eq]
          · intro i x hx'
            rw [List.getElem?_drop] at hx'
            rw [Nat.add_assoc]; exact h1 _ x hx'
          · intro i x hx'
            rw [List.getElem?_drop] at hx'
            exact h2 _ x hx'
      · cases hr
    · cases hr
  · cases hr
theorem op_indexAddr {t : TypeId} {x i y : AV} {v u : Value} (hx : VR g x v) (hi : VR g i u) (hr : aindexAddr P t x i = some y) :
    ∃ z, (Instr.indexAt t v u).run P w = .ok z w ∧ VR g y z := by
  unfold aindexAddr at hr
  split at hr
  · rename_i e n hu hn
    obtain ⟨k, j, rfl, h0, h1, h2⟩ := natOfA_ok hi hn
    split at hr
    · rename_i s o ver m off sz len cap hs
      split at hr
      · rename_i hc
        obtain ⟨rfl, hlt⟩ := hc
        simp only [Option.some.injEq] at hr; subst hr
        cases hx with
        | sl hb p1 p2 p3 =>
          rename_i b sb c
          refine ⟨.pointer (some ⟨b, off + n * s, none⟩), ?_, .ref hb⟩
          have hlt' : j < (len : Int) := by omega
          simp [Instr.indexAt, asIntOf, run_underlying hu, h0, hlt', run_sizeOf hs, add_eq, h1]
      · cases hr
    · rename_i s cells sz len cap hs
      split at hr
      · rename_i hc
        obtain ⟨rfl, hlt⟩ := hc
        simp only [Option.some.injEq] at hr; subst hr
        cases hx with
        | psl fn h3 h4 p1 p2 p3 =>
          rename_i b off c
          refine ⟨.pointer (some ⟨b, off + n * s, none⟩), ?_, .pref (fun i => fn (n * s + i)) ?_ ?_⟩
          · have hlt' : j < (len : Int) := by omega
            simp [Instr.indexAt, asIntOf, run_underlying hu, h0, hlt', run_sizeOf hs, add_eq, h1]
          · intro i x hx'
            rw [List.getElem?_drop] at hx'
            rw [Nat.add_assoc]; exact h3 _ x hx'
          · intro i x hx'
            rw [List.getElem?_drop] at hx'
            exact h4 _ x hx'
      · cases hr
    · rename_i s rows sz hs
      split at hr
      · rename_i hc
        subst hc
        split at hr
        · rename_i r hrow
          simp only [Option.some.injEq] at hr; subst hr
          have hlt : n < rows.length := by
            rcases Nat.lt_or_ge n rows.length with a | a
            · exact a
            · rw [List.getElem?_eq_none a] at hrow; cases hrow
          cases hx with
          | islNil => simp at hlt
          | islE _ => simp at hlt
          | isl hl hpf hp =>
            rename_i b off c
            cases hp with
            | psl fn h3 h4 p1 p2 p3 =>
              refine ⟨.pointer (some ⟨b, off + n * s, none⟩), ?_, .pref (fun i => fn (n * s + i)) ?_ ?_⟩
              · have hlt' : j < (rows.length : Int) := by omega
                simp [Instr.indexAt, asIntOf, run_underlying hu, h0, hlt', run_sizeOf hs, add_eq, h1]
              · intro i x hx'
                rw [Nat.add_assoc]; exact h3 _ x (flat_getElem? hl hrow hx')
              · intro i x hx'
                exact h4 _ x (flat_getElem? hl hrow hx')
        · cases hr
      · cases hr
    · cases hr
  · rename_i len e n hu hn
    obtain ⟨k, j, rfl, h0, h1, h2⟩ := natOfA_ok hi hn
    split at hr
    · rename_i s o ver m off hs
      split at hr
      · rename_i hlt
        simp only [Option.some.injEq] at hr; subst hr
        cases hx with
        | ref hb =>
          rename_i b sb
          refine ⟨.pointer (some ⟨b, off + n * s, none⟩), ?_, .ref hb⟩
          have hlt' : j < (len : Int) := by omega
          simp [Instr.indexAt, asIntOf, run_underlying hu, Instr.sureAddr, h0, hlt', run_sizeOf hs, add_eq, h1]
      · cases hr
    · rename_i s cells hs
      split at hr
      · rename_i hlt
        simp only [Option.some.injEq] at hr; subst hr
        cases hx with
        | pref fn h3 h4 =>
          rename_i b off
          refine ⟨.pointer (some ⟨b, off + n * s, none⟩), ?_, .pref (fun i => fn (n * s + i)) ?_ ?_⟩
          · have hlt' : j < (len : Int) := by omega
            simp [Instr.indexAt, asIntOf, run_underlying hu, Instr.sureAddr, h0, hlt', run_sizeOf hs, add_eq, h1]
          · intro i x hx'
            rw [List.getElem?_drop] at hx'
            rw [Nat.add_assoc]; exact h3 _ x hx'
          · intro i x hx'
            rw [List.getElem?_drop] at hx'
            exact h4 _ x hx'
      · cases hr
    · cases hr
  · cases hr
end
end Go.AI
end

/-
  Operations (2): literals, new slices, slices of slices.
-/
section
namespace Go.AI
section
variable {P : Program} {h h' : AHeap} {g : Gh} {w : World}
def PartsR (g : Gh) : List (Nat × AV) → List (Nat × Value) → Prop
  | [], [] => True
  | (i, x) :: xs, (j, v) :: vs => i = j ∧ VR g x v ∧ PartsR g xs vs
  | _, _ => False
theorem PartsR.map {ρ : Operand → AV} {ρ' : Operand → Value} (h : ∀ x, VR g (ρ x) (ρ' x)) : ∀ (l : List (Nat × Operand)),
    PartsR g (l.map fun (i, x) => (i, ρ x)) (l.map fun (i, x) => (i, ρ' x))
  | [] => trivial
  | (_, x) :: l => ⟨rfl, h x, PartsR.map h l⟩
theorem foldl_set (off : Nat) : ∀ (l : List Value) (k : Nat) (c : Array Value), off + k + l.length ≤ c.size →
    ((l.zipIdx k).foldl (fun cs (x : Value × Nat) => cs.setIfInBounds (off + x.2) x.1) c).size = c.size ∧
    ∀ i : Nat, ((l.zipIdx k).foldl (fun cs (x : Value × Nat) => cs.setIfInBounds (off + x.2) x.1) c)[i]? = if off + k ≤ i ∧ i < off + k + l.length then l[i - (off + k)]? else c[i]?
  | [], k, c, _ => by simp; intro i h1 h2; omega
  | v :: l, k, c, hs => by
    have hs' : off + k + (l.length + 1) ≤ c.size := hs
    simp only [List.zipIdx_cons, List.foldl_cons]
    obtain ⟨h1, h2⟩ := foldl_set off l (k + 1) (c.setIfInBounds (off + k) v) (by simp; omega)
    refine ⟨by simpa using h1, fun i => ?_⟩
    rw [h2 i]
    by_cases h3 : off + k = i
    · subst h3
      rw [if_neg (by omega), if_pos (by simp)]
      have : off + k < c.size := by omega
      simp [this]
    · rw [Array.getElem?_setIfInBounds_ne h3]
      by_cases h4 : off + (k + 1) ≤ i ∧ i < off + (k + 1) + l.length
      · rw [if_pos h4, if_pos (by simp; omega)]
        have : i - (off + k) = (i - (off + (k + 1))) + 1 := by omega
        rw [this]; simp
      · rw [if_neg h4, if_neg (by simp; omega)]
theorem afill_ok {place : Nat → Option (Nat × Nat)} : ∀ {parts : List (Nat × AV)} {parts' : List (Nat × Value)} {z cells : List AV} {zc : Array Value},
    afill place z parts = some cells → PartsR g parts parts' → VRs g z zc.toList → ∃ cc : Array Value, Instr.fill place zc parts' = some cc ∧ VRs g cells cc.toList
  | [], [], z, cells, zc, hr, _, hz => by
    simp [afill] at hr; subst hr
    exact ⟨zc, rfl, hz⟩
  | (i, x) :: xs, (j, v) :: vs, z, cells, zc, hr, hp, hz => by
    obtain ⟨rfl, hx, hp⟩ := hp
    simp only [afill] at hr
    cases hpl : place i with
    | none => rw [hpl] at hr; cases hr
    | some p =>
      obtain ⟨off, size⟩ := p
      rw [hpl] at hr
      simp only at hr
      split at hr
      · rename_i hc
        obtain ⟨h1, h2, h3⟩ := hc
        have hv := cells_VR h3 hx
        have hl := hv.length
        have hzl := hz.length
        simp only [Array.length_toList] at hl hzl
        obtain ⟨hs, hg⟩ := foldl_set off v.cells.toList 0 zc (by simp; omega)
        simp only [Instr.fill, hpl]
        rw [if_neg (by simp; omega)]
        have hfold : (v.cells.zipIdx.foldl (fun cs (x : Value × Nat) => cs.setIfInBounds (off + x.2) x.1) zc) =
            (v.cells.toList.zipIdx.foldl (fun cs (x : Value × Nat) => cs.setIfInBounds (off + x.2) x.1) zc) := by
          rw [← Array.foldl_toList]; simp
        refine afill_ok hr hp ?_
        rw [hfold]
        refine VRs.of (by simp only [splice_length _ _ _ h2, Array.length_toList]; omega) ?_
        intro k y u hy hu
        rw [splice_get _ _ _ h2] at hy
        rw [Array.getElem?_toList, hg k] at hu
        simp only [Nat.add_zero, Array.length_toList] at hu
        by_cases h4 : off ≤ k ∧ k < off + (cellsA x).length
        · rw [if_pos h4] at hy
          rw [if_pos (by omega)] at hu
          exact hv.get _ _ _ hy hu
        · rw [if_neg h4] at hy
          rw [if_neg (by omega)] at hu
          exact hz.get _ _ _ hy (by simpa using hu)
      · cases hr
  | [], _ :: _, _, _, _, _, hp, _ => hp.elim
  | (_, _) :: _, [], _, _, _, _, hp, _ => hp.elim
theorem op_build {t : TypeId} {parts : List (Nat × AV)} {parts' : Array (Nat × Value)} {y : AV} (hr : abuild P t parts = some y) (hp : PartsR g parts parts'.toList) :
    ∃ u, (Instr.build t parts').run P w = .ok u w ∧ VR g y u := by
  unfold abuild at hr
  split at hr
  · rename_i it n e hit hu
    split at hr
    · rename_i z ie hz hie
      cases hf : afill (fun i => some (i * ie.size, ie.size)) (cellsA (ofVal z)) parts with
      | none => rw [hf] at hr; cases hr
      | some cells =>
        rw [hf] at hr; simp at hr; subst hr
        obtain ⟨cc, h1, h2⟩ := afill_ok hf hp (cells_zero rfl)
        refine ⟨.agg cc, run_build w t parts' cc ?_, VR.agg_iff.2 ⟨cc, rfl, h2⟩⟩
        unfold Program.built
        simp only [hit, hu, hz, hie]; exact h1
    · cases hr
  · rename_i it fields hit hu
    split at hr
    · rename_i z places hz hpl
      cases hf : afill (fun i => places[i]?) (cellsA (ofVal z)) parts with
      | none => rw [hf] at hr; cases hr
      | some cells =>
        rw [hf] at hr; simp at hr; subst hr
        obtain ⟨cc, h1, h2⟩ := afill_ok hf hp (cells_zero rfl)
        refine ⟨.agg cc, run_build w t parts' cc ?_, VR.agg_iff.2 ⟨cc, rfl, h2⟩⟩
        unfold Program.built
        simp only [hit, hu, hz, hpl, List.getElem?_toArray]; exact h1
    · cases hr
  · cases hr
theorem zeros_ok {z : List AV} {zc : Array Value} (hz : VRs g z zc.toList) (_hs : 0 < zc.size) : ∀ n : Nat, VRs g (zerosA z n) ((Array.range (n * zc.size)).map (fun i => zc[i % zc.size]!)).toList := by
  have key : ∀ n : Nat, VRs g (zerosA z n) ((List.range (n * zc.size)).map (fun i => zc[i % zc.size]!)) := by
    intro n
    induction n with
    | zero => simp [zerosA, VRs]
    | succ n ih =>
      have hsplit : (List.range ((n + 1) * zc.size)).map (fun i => zc[i % zc.size]!) = zc.toList ++ (List.range (n * zc.size)).map (fun i => zc[i % zc.size]!) := by
        have e : (n + 1) * zc.size = zc.size + n * zc.size := by rw [Nat.add_mul]; omega
        rw [e, List.range_add, List.map_append, List.map_map]
        congr 1
        · apply List.ext_getElem
          · simp
          · intro i h1 h2
            simp at h1 h2
            simp [Nat.mod_eq_of_lt h1, h1]
        · apply List.map_congr_left
          intro i _
          simp
      rw [hsplit]
      exact hz.append ih
  intro n
  have := key n
  simpa using this
theorem zerosA_length (z : List AV) : ∀ n : Nat, (zerosA z n).length = n * z.length
  | 0 => by simp [zerosA]
  | n + 1 => by simp [zerosA, zerosA_length z n, Nat.add_mul]; omega
theorem newSlice_ok {cells : List AV} {vs : Array Value} {e : TypeId} {s len c : Nat} (hw : W h g w) (hf : ∀ v, g.B h.next v = none) (hv : VRs g cells vs.toList)
    (hl : cells.length = c * s) (hlen : len ≤ c) {t : Sem Value} (hr : t.run P w = .ok (.slice (some ⟨w.heap.size, 0, none⟩) len c) (w.alloc (.cells vs e))) :
    OpOK P h g w (do pure (.value (← t))) (.val (.sl h.next 0 cells.length 0 s len (some c))) (h.alloc (.cells 0 0 cells 0 e true false)) := by
  obtain ⟨g', h1, h2, h3⟩ := row_ok (t := e) hw hf hv
  refine ⟨g', _, .slice (some ⟨w.heap.size, 0, none⟩) len c, by simp [hr], .sl h1 (by omega) hlen (by simp), h2, h3⟩
theorem op_buildSlice {t : TypeId} {len : Nat} {parts : List (Nat × AV)} {parts' : Array (Nat × Value)} {y : AV} (hw : W h g w) (hf : ∀ v, g.B h.next v = none)
    (hr : abuildSlice P h t len parts = some (y, h')) (hp : PartsR g parts parts'.toList) : OpOK P h g w (do pure (.value (← Instr.buildSlice t len parts'))) (.val y) h' := by
  unfold abuildSlice at hr
  split at hr
  · rename_i e hu
    split at hr
    · rename_i s z hs hz
      split at hr
      · rename_i hc
        obtain ⟨hc1, hc2⟩ := hc
        split at hr
        · rename_i cells hfill
          split at hr
          · rename_i hall
            simp only [Option.some.injEq, Prod.mk.injEq] at hr
            obtain ⟨rfl, rfl⟩ := hr
            obtain ⟨v, hv, rfl⟩ := run_zeroValue hz w
            have hvr : VRs g (cellsA (ofVal v)) v.cells.toList := cells_zero rfl
            have hvl : v.cells.size = s := by have := hvr.length; simp at this; omega
            have hlen : cells.length = len * s := by
              have : ∀ {place : Nat → Option (Nat × Nat)} (ps : List (Nat × AV)) (z c : List AV), afill place z ps = some c → c.length = z.length := by
                intro place ps
                induction ps with
                | nil => intro z c h; simp [afill] at h; rw [h]
                | cons p ps ih =>
                  intro z c h
                  obtain ⟨i, x⟩ := p
                  simp only [afill] at h
                  split at h
                  · cases h
                  · split at h
                    · rename_i hcc
                      rw [ih _ _ h, splice_length _ _ _ hcc.2.1]
                    · cases h
              rw [this _ _ _ hfill, zerosA_length, hc2]
            by_cases h0 : len * s = 0
            · have hz2 : VRs g (zerosA (cellsA (ofVal v)) len) ((Array.range (len * s)).map (fun i => (#[] : Array Value)[i % (#[] : Array Value).size]!)).toList := by
                have hl := zerosA_length (cellsA (ofVal v)) len
                rw [hc2, h0] at hl
                rw [List.length_eq_zero_iff.1 hl, h0]; simp [VRs]
              obtain ⟨cc, h1, h2⟩ := afill_ok hfill hp hz2
              refine newSlice_ok hw hf h2 hlen (Nat.le_refl _) ?_
              simp only [Instr.buildSlice, Sem.run_bind, run_underlying hu, Result.andThen_ok, run_sizeOf hs]
              rw [if_neg (by simp; omega), if_pos h0]
              simp only [Sem.run_bind, Sem.run_pure, Result.andThen_ok, h1, newRow, run_newObj]
              rfl
            · have hz2 : VRs g (zerosA (cellsA (ofVal v)) len) ((Array.range (len * s)).map (fun i => v.cells[i % v.cells.size]!)).toList := by
                have hpos : 0 < v.cells.size := by
                  rw [hvl]; exact Nat.pos_of_ne_zero fun e => h0 (by simp [e])
                have := zeros_ok hvr hpos len
                rw [hvl] at this ⊢
                exact this
              obtain ⟨cc, h1, h2⟩ := afill_ok hfill hp hz2
              refine newSlice_ok hw hf h2 hlen (Nat.le_refl _) ?_
              simp only [Instr.buildSlice, Sem.run_bind, run_underlying hu, Result.andThen_ok, run_sizeOf hs]
              rw [if_neg (by simp; omega), if_neg h0]
              simp only [Sem.run_bind, hv, Sem.run_pure, Result.andThen_ok, h1, newRow, run_newObj]
              rfl
          · cases hr
        · cases hr
      · cases hr
    · cases hr
  · cases hr
end
end Go.AI
end

/-
  Operations (3): make, append, copy, and the elements of slices.
-/
section
namespace Go.AI
section
variable {P : Program} {h h' : AHeap} {g : Gh} {w : World}
theorem op_makeSlice {t : TypeId} {x y z : AV} {u v : Value} (hw : W h g w) (hf : ∀ v, g.B h.next v = none) (hx : VR g x u) (hy : VR g y v)
    (hr : amakeSlice P h t x y = some (z, h')) : OpOK P h g w (do pure (.value (← Instr.makeSlice t u v))) (.val z) h' := by
  unfold amakeSlice at hr
  split at hr
  · rename_i e l c hu hl hc
    split at hr
    · rename_i s zz by_ hs hz hb
      split at hr
      · rename_i hcond
        obtain ⟨h1, h2, h3, h4⟩ := hcond
        simp only [Option.some.injEq, Prod.mk.injEq] at hr
        obtain ⟨rfl, rfl⟩ := hr
        obtain ⟨k1, i1, rfl, h0, _, e1⟩ := natOfA_ok hx hl
        obtain ⟨k2, i2, rfl, h0', _, e2⟩ := natOfA_ok hy hc
        obtain ⟨i, hi, rfl⟩ := bytesT_info hb
        have hs' : i.size = s := by simpa [sizeT, hi] using hs
        have hz' : ∃ v, i.zero = some v ∧ zz = ofVal v := by
          unfold zeroT at hz; rw [hi] at hz
          cases hzz : i.zero with
          | none => simp [hzz] at hz
          | some v => simp [hzz] at hz; exact ⟨v, rfl, hz.symm⟩
        obtain ⟨zv, hzv, rfl⟩ := hz'
        have hvr : VRs g (cellsA (ofVal zv)) zv.cells.toList := cells_zero rfl
        have hvl : zv.cells.size = s := by have := hvr.length; simp at this; omega
        have hb' : (i.bytes : Int) * i2 ≤ 281474976710656 := by
          subst e2
          have h5 : ((i.bytes * c : Nat) : Int) ≤ 281474976710656 := by omega
          rwa [Int.natCast_mul] at h5
        have hrun := run_make (P := P) w t e i zv hu hi hzv k1 k2 i1 i2 h0 (by omega) hb' (by omega)
        rw [show i1.toNat = l by omega, show i2.toNat = c by omega] at hrun
        have hcells : VRs g (zerosA (cellsA (ofVal zv)) c) (madeCells zv.cells (c * i.size)).toList := by
          rw [hs', ← hvl]
          by_cases h5 : 0 < zv.cells.size
          · exact zeros_ok hvr h5 c
          · have h6 : zv.cells.size = 0 := by omega
            have hl0 := zerosA_length (cellsA (ofVal zv)) c
            have : (cellsA (ofVal zv)).length = 0 := by omega
            rw [this, Nat.mul_zero] at hl0
            rw [List.length_eq_zero_iff.1 hl0, h6]; simp [madeCells, VRs]
        have hlen : (zerosA (cellsA (ofVal zv)) c).length = c * s := by rw [zerosA_length, h4]
        have := newSlice_ok (s := s) (len := l) (c := c) hw hf hcells hlen h1 hrun
        rw [hlen] at this
        exact this
      · cases hr
    · cases hr
  · cases hr
theorem lenA_ok {x : AV} {v : Value} {n : Nat} (hx : VR g x v) (hr : lenA x = some n) (w : World) : (Builtin.lenOf v).run P w = .ok n w := by
  unfold lenA at hr
  split at hr
  · cases hx; simp at hr; subst hr; rfl
  · cases hx; simp at hr; subst hr; rfl
  · cases hx with
    | islNil => simp at hr; subst hr; rfl
    | islE _ => simp at hr; subst hr; rfl
    | isl _ _ _ => simp at hr; subst hr; rfl
  · cases hx; simp at hr; subst hr; rfl
  · cases hx; simp at hr; subst hr; rfl
  · cases hx; simp at hr; subst hr; rfl
  · cases hr
theorem firstA_ok {s n : Nat} {x : AV} {v : Value} {cs : List AV} (hw : W h g w) (hx : VR g x v) (hr : firstA h s n x = some cs) :
    ∃ vs : List Value, VRs g cs vs ∧ vs.length = n * s ∧ ∀ d, (Builtin.firstCells s n v).run P { w with drawn := d } = .ok vs.toArray { w with drawn := d } := by
  unfold firstA at hr
  split at hr
  · rename_i o ver m off sz len cap
    split at hr
    · rename_i hc
      cases hx with
      | sl hb p1 p2 p3 =>
        rename_i b sb c
        obtain ⟨vs, h1, h2, h3, _⟩ := rdCells_ok hw hr hb
        refine ⟨vs, h1, h2, fun d => ?_⟩
        exact run_firstCells_some (P := P) { w with drawn := d } s n ⟨b, off, none⟩ len c vs h2 (fun j v hv => by rw [add_eq _ _ rfl]; exact h3 j v hv)
    · cases hr
  · rename_i cells sz len cap
    split at hr
    · rename_i hc
      obtain ⟨rfl, h1, h2⟩ := hc
      simp only [Option.some.injEq] at hr; subst hr
      have hx' : VR g (.pref cells) (match v with | .slice a _ _ => .pointer a | _ => v) := by
        cases hx with
        | psl f q1 q2 p1 p2 p3 => exact .pref f q1 q2
      obtain ⟨a, ha, hsp, vs, h3, h4, h5⟩ := rdAt_ok (s := n * s) hw (by simp [rdAt, h2]; rfl) hx'
      cases hx with
      | psl f q1 q2 p1 p2 p3 =>
        rename_i b off c
        simp at ha; subst ha
        refine ⟨vs, h3, h4, fun d => ?_⟩
        exact run_firstCells_some (P := P) { w with drawn := d } s n ⟨b, off, none⟩ len c vs h4 (fun j v hv => by rw [add_eq _ _ rfl]; exact h5 j v hv)
    · cases hr
  · rename_i rows sz
    split at hr
    · rename_i hc
      obtain ⟨rfl, h1⟩ := hc
      simp only [Option.some.injEq] at hr; subst hr
      cases hx with
      | islNil =>
        have : n = 0 := by simpa using h1
        subst this
        exact ⟨[], trivial, by simp, fun d => rfl⟩
      | islE a =>
        have : n = 0 := by simpa using h1
        subst this
        exact ⟨[], trivial, by simp, fun d => run_firstCells_some (P := P) { w with drawn := d } s 0 a 0 0 [] (by simp) (by simp)⟩
      | isl hl hpf hp =>
        rename_i b off c
        rw [flat_take n hl]
        have hx' : VR g (.pref rows.flatten) (.pointer (some ⟨b, off, none⟩)) := by
          cases hp with
          | psl f q1 q2 p1 p2 p3 => exact .pref f q1 q2
        have h2 : n * s ≤ rows.flatten.length := by rw [flat_len hl]; exact Nat.mul_le_mul_right _ h1
        obtain ⟨a, ha, hsp, vs, h3, h4, h5⟩ := rdAt_ok (s := n * s) hw (by simp only [rdAt]; rw [if_pos h2]) hx'
        simp at ha; subst ha
        refine ⟨vs, h3, h4, fun d => ?_⟩
        exact run_firstCells_some (P := P) { w with drawn := d } s n ⟨b, off, none⟩ rows.length c vs h4 (fun j v hv => by rw [add_eq _ _ rfl]; exact h5 j v hv)
    · cases hr
  · split at hr
    · rename_i h0; subst h0
      simp only [Option.some.injEq] at hr; subst hr
      cases hx with
      | esl a c =>
        refine ⟨[], trivial, by simp, fun d => ?_⟩
        exact run_firstCells_some (P := P) _ s 0 a 0 c [] (by simp) (by simp)
    · cases hr
  · split at hr
    · rename_i h0; subst h0
      simp only [Option.some.injEq] at hr; subst hr
      cases hx
      exact ⟨[], trivial, by simp, fun d => rfl⟩
    · cases hr
  · rename_i b
    split at hr
    · rename_i hc
      obtain ⟨rfl, h1⟩ := hc
      simp only [Option.some.injEq] at hr; subst hr
      cases hx
      refine ⟨(b.data.toList.take n).map (fun b => .int .u8 b.toNat), VRs.map _ _ (fun b => .sc _) _, ?_, fun d => ?_⟩
      · simp; exact Nat.min_eq_left h1
      · simp only [Builtin.firstCells, Sem.run_pure]
        congr 1
        apply Array.ext'
        simp [ByteArray.data_extract]
    · cases hr
  · cases hr
theorem run_append_in {ats : Array TypeId} {st xt ty e : TypeId} {xd : TypeDesc} {s n len c : Nat} {a : Addr} {y : Value} {news : List Value} {w' : World} (ha0 : ats[0]? = some st) (ha1 : ats[1]? = some xt) (hu : P.underlying st = some (.slice e))
    (hx : P.underlying xt = some xd) (hxd : ∀ k, xd ≠ .int k) (hs : sizeT P e = some s) (hl : ∀ w, (Builtin.lenOf y).run P w = .ok n w)
    (hn : (Builtin.firstCells s n y).run P w = .ok news.toArray w) (hroom : len + n ≤ c) (hst : (storeCells (a.add (len * s)) news).run P w = .ok () w') :
    (Builtin.append_ ats ty #[.slice (some a) len c, y]).run P w = .ok (.slice (some a) (len + n) c) w' := by
  have hm : (match xd with | .int _ => true | _ => false) = false := by
    cases xd <;> first | rfl | exact absurd rfl (hxd _)
  simp only [Builtin.append_, ha0, ha1, List.getElem?_toArray, List.getElem?_cons_zero, List.getElem?_cons_succ, Sem.run_bind, run_underlying hu, Result.andThen_ok, run_sizeOf hs, run_underlying hx,
    Sem.run_pure, Bool.false_eq_true, if_false, hl, Bool.not_false, if_true, hroom, hn, hst]
theorem run_append_out {ats : Array TypeId} {st xt ty e : TypeId} {xd : TypeDesc} {i : TypeInfo} {z : Value} {n len c : Nat} {base : Option Addr} {y : Value} {olds news : List Value} (ha0 : ats[0]? = some st) (ha1 : ats[1]? = some xt) (hu : P.underlying st = some (.slice e))
    (hx : P.underlying xt = some xd) (hxd : ∀ k, xd ≠ .int k) (hi : P.info? e = some i) (hz : i.zero = some z) (hl : ∀ w, (Builtin.lenOf y).run P w = .ok n w)
    (ho : ∀ d, (Builtin.firstCells i.size len (.slice base len c)).run P { w with drawn := d } = .ok olds.toArray { w with drawn := d })
    (hn : ∀ d, (Builtin.firstCells i.size n y).run P { w with drawn := d } = .ok news.toArray { w with drawn := d }) (hroom : ¬ len + n ≤ c) (hpos : 0 < i.bytes)
    (hbytes : (len + n) * i.bytes ≤ 140737488355328) :
    ∃ k, len + n ≤ k ∧ (Builtin.append_ ats ty #[.slice base len c, y]).run P w =
      .ok (.slice (some ⟨w.heap.size, 0, none⟩) (len + n) k) ({ w with drawn := w.drawn + 1 }.alloc (.cells ((olds ++ news).toArray ++ Builtin.zeroCells z.cells (k - (len + n))) e)) := by
  have hfit : Builtin.nextslicecap (len + n) c * i.bytes ≤ 281474976710656 := growslice_fits (by omega) hbytes
  refine ⟨(Question.appendCap (len + n) c e).cut (w.tape w.drawn (.appendCap (len + n) c e)), by simp [Question.cut], ?_⟩
  have ho' := ho (w.drawn + 1)
  have hn' := hn (w.drawn + 1)
  have hsz : (sizeOf e).run P w = .ok i.size w := run_sizeOf (by simp [sizeT, hi]) w
  have h2 : ¬ (Builtin.nextslicecap (len + n) c * i.bytes > 281474976710656) := by omega
  have hne : ¬ i.bytes = 0 := by omega
  have hm : (match xd with | .int _ => true | _ => false) = false := by
    cases xd <;> first | rfl | exact absurd rfl (hxd _)
  simp only [Builtin.append_, ha0, ha1, List.getElem?_toArray, List.getElem?_cons_zero, List.getElem?_cons_succ, Sem.run_bind, run_underlying hu, Result.andThen_ok, hsz, run_underlying hx,
    Sem.run_pure, Bool.false_eq_true, if_false, hl, Bool.not_false, if_true, hroom, run_typeInfo hi, hne, or_self, and_false, Nat.reducePow, h2, run_choose, Question.forced,
    run_askRoom, ho', hn', zeroValue, hz, newRow, run_newObj]
  simp [World.alloc]
theorem zeroT_parts {e : TypeId} {s by_ : Nat} {z : AV} (hs : sizeT P e = some s) (hb : bytesT P e = some by_) (hz : zeroT P e = some z) :
    ∃ i v, P.info? e = some i ∧ i.size = s ∧ i.bytes = by_ ∧ i.zero = some v ∧ z = ofVal v := by
  obtain ⟨i, hi, rfl⟩ := bytesT_info hb
  refine ⟨i, ?_⟩
  unfold zeroT at hz; rw [hi] at hz
  cases hzz : i.zero with
  | none => simp [hzz] at hz
  | some v => simp [hzz] at hz; exact ⟨v, hi, by simpa [sizeT, hi] using hs, rfl, rfl, hz.symm⟩
theorem grown_ok {cells : List AV} {vs : List Value} {e : TypeId} {s k need : Nat} {z : Array Value} (hw : W h g w) (hf : ∀ v, g.B h.next v = none) (hv : VRs g cells vs)
    (hl : cells.length = need * s) (hz : z.size = s) (hk : need ≤ k) {t : Sem Value}
    (hr : t.run P w = .ok (.slice (some ⟨w.heap.size, 0, none⟩) need k) ({ w with drawn := w.drawn + 1 }.alloc (.cells (vs.toArray ++ Builtin.zeroCells z (k - need)) e))) :
    OpOK P h g w (do pure (.value (← t))) (.val (.sl h.next 0 (need * s) 0 s need none)) (h.alloc (.cells 0 0 cells 0 e false false)) := by
  have hsz : (vs.toArray ++ Builtin.zeroCells z (k - need)).size = k * s := by
    simp only [Array.size_append, List.size_toArray, size_zeroCells, hz, ← hv.length, hl, ← Nat.add_mul]
    congr 1; omega
  have hkey := alloc_ok (x := .cells 0 0 cells 0 e false false) (s := k * s) (n := need * s) (hw.drew (w.drawn + 1)) hf (w' := { w with drawn := w.drawn + 1 }.alloc (.cells (vs.toArray ++ Builtin.zeroCells z (k - need)) e)) rfl ?_
  · refine ⟨_, _, .slice (some ⟨w.heap.size, 0, none⟩) need k, by simp only [Sem.run_bind, hr, Result.andThen_ok, Sem.run_pure], ?_, hkey.1, ?_⟩
    · refine .sl (Gh.setB_same _ _ _ _) ?_ hk (by simp)
      simp
    · have h2 := hkey.2
      exact { h2 with size := h2.size, fr := h2.fr, tape := h2.tape, os := h2.os, out := h2.out, old := h2.old, newM := h2.newM }
  · refine ⟨fun v hv => ?_, ?_⟩
    · cases e : (g.setB h.next 0 (w.heap.size, k * s, need * s)).B h.next v with
      | none => rfl
      | some y =>
        rcases Gh.setB_cases e with ⟨_, e', _⟩ | e'
        · omega
        · rw [hf v] at e'; cases e'
    intro v h1 h2 b s' n' hb
    obtain rfl : v = 0 := by omega
    rw [Gh.setB_same] at hb
    simp only [Option.some.injEq, Prod.mk.injEq] at hb
    obtain ⟨rfl, rfl, rfl⟩ := hb
    have hle : need * s ≤ k * s := Nat.mul_le_mul_right _ hk
    refine ⟨fun _ => hl.symm, _, (0, 0), ⟨pushW_new _ _, hsz, by omega, hle, (fun h => by cases h), (fun i _ h3 h4 => by simp at h4), fun _ => .inl rfl, ?_⟩⟩
    intro i x hi hx
    have hlt : i < vs.length := by rw [← hv.length]; omega
    refine ⟨vs[i], ?_, (hv.get i x vs[i] hx (by simp [hlt])).mono (Gh.setB_le (hf 0))⟩
    rw [Array.getElem?_append_left (by simpa using hlt)]
    simp [hlt]
theorem run_append_none {ats : Array TypeId} {st xt ty e : TypeId} {xd : TypeDesc} {s len c : Nat} {base : Option Addr} {y : Value} (ha0 : ats[0]? = some st) (ha1 : ats[1]? = some xt)
    (hu : P.underlying st = some (.slice e)) (hx : P.underlying xt = some xd) (hxd : ∀ k, xd ≠ .int k) (hs : sizeT P e = some s) (hl : ∀ w, (Builtin.lenOf y).run P w = .ok 0 w)
    (hn : (Builtin.firstCells s 0 y).run P w = .ok #[] w) (hroom : len ≤ c) :
    (Builtin.append_ ats ty #[.slice base len c, y]).run P w = .ok (.slice base len c) w := by
  have hm : (match xd with | .int _ => true | _ => false) = false := by
    cases xd <;> first | rfl | exact absurd rfl (hxd _)
  cases base <;>
  simp only [Builtin.append_, ha0, ha1, List.getElem?_toArray, List.getElem?_cons_zero, List.getElem?_cons_succ, Sem.run_bind, run_underlying hu, Result.andThen_ok, run_sizeOf hs, run_underlying hx,
    Sem.run_pure, Bool.false_eq_true, if_false, hl, Bool.not_false, if_true, Nat.add_zero, hroom, hn, storeCells]
theorem grow_obj {o v mv fz el k : Nat} {ex sh : Bool} {c new : List AV} {g' : Gh} {w' : World} {b' sb' : Nat} {ca : Array Value} {f : Nat × Nat} {news : List Value}
    (hx : OR g w o (.cells v mv c fz el ex sh)) (hl : g.Le g') (hk : k ≤ c.length) (_hfz : fz ≤ k) (hnew : VRs g new news)
    (hB : ∀ v' y, g'.B o v' = some y → (v' = v + 1 ∧ y = (b', sb', k + new.length)) ∨ g.B o v' = some y)
    (hw' : w'.heap[b']? = some (.cells ca el f)) (hsz : ca.size = sb') (hfit : k + new.length ≤ sb') (hcell : ∀ i x, i < k → c[i]? = some x → ∃ u, ca[i]? = some u ∧ VR g x u)
    (hcell' : ∀ i : Nat, i < new.length → ca[k + i]? = news[i]?) (hfree : ∀ i, i < sb' → f.1 ≤ i → i < f.2 → i < fz) (hplain : sh = false → f.1 = f.2 ∨ f.2 ≤ fz)
    (hother : ∀ v' b s n, g.B o v' = some (b, s, n) → k = c.length → mv ≤ v' → v' ≤ v → ∃ cs' f', w'.heap[b]? = some (.cells cs' el f') ∧ cs'.size = s ∧ (∀ i, i < s → f'.1 ≤ i → i < f'.2 → i < fz) ∧ (sh = false → f'.1 = f'.2 ∨ f'.2 ≤ fz) ∧
      ∀ i x, i < n → c[i]? = some x → ∃ u, cs'[i]? = some u ∧ VR g x u) :
    OR g' w' o (.cells (v + 1) (if k = c.length then mv else v + 1) (c.take k ++ new) fz el false sh) := by
  have hlen : (c.take k ++ new).length = k + new.length := by simp; omega
  refine ⟨fun v' hv' => ?_, ?_⟩
  · cases e : g'.B o v' with
    | none => rfl
    | some y =>
      rcases hB v' y e with ⟨e', _⟩ | e'
      · omega
      · rw [hx.1 v' (by omega)] at e'; cases e'
  intro v' h1 h2 b s n hb
  rcases hB v' _ hb with ⟨rfl, e⟩ | hb0
  · simp only [Prod.mk.injEq] at e
    obtain ⟨rfl, rfl, rfl⟩ := e
    refine ⟨fun _ => hlen.symm, ca, f, ⟨hw', hsz, by omega, hfit, (fun h => by cases h), hfree, hplain, ?_⟩⟩
    intro i x hi hx'
    by_cases h3 : i < k
    · rw [List.getElem?_append_left (by simp; omega), List.getElem?_take, if_pos h3] at hx'
      obtain ⟨u, hu, hr⟩ := hcell i x h3 hx'
      exact ⟨u, hu, hr.mono hl⟩
    · rw [List.getElem?_append_right (by simp; omega)] at hx'
      have e : (c.take k).length = k := by simp; omega
      rw [e] at hx'
      have h4 : i - k < new.length := by omega
      have := hcell' (i - k) h4
      rw [show k + (i - k) = i by omega] at this
      have h5 : i - k < news.length := by rw [← hnew.length]; exact h4
      refine ⟨news[i - k], by rw [this]; simp [h5], (hnew.get _ _ _ hx' (by simp [h5])).mono hl⟩
  · by_cases hv : v' = v + 1
    · subst hv
      rw [hx.1 (v + 1) (Nat.lt_succ_self _)] at hb0; cases hb0
    · by_cases hk' : k = c.length
      · rw [if_pos hk'] at h1
        obtain ⟨_, cs0, f0, hc0⟩ := hx.2 v' h1 (by omega) b s n hb0
        obtain ⟨cs', f', q1, q2, q3, q4, q5⟩ := hother v' b s n hb0 hk' h1 (by omega)
        refine ⟨fun e => absurd e hv, cs', f', ⟨q1, q2, ?_, hc0.les, (fun h => by cases h), q3, q4, ?_⟩⟩
        · have := hc0.le; omega
        · intro i x hi hx'
          have := hc0.le
          rw [List.getElem?_append_left (by simp; omega), List.getElem?_take, if_pos (by omega)] at hx'
          obtain ⟨u, hu, hr⟩ := q5 i x hi hx'
          exact ⟨u, hu, hr.mono hl⟩
      · rw [if_neg hk'] at h1
        omega
end
end Go.AI
end

/-
  Operations (4): append, copy.
-/
section
namespace Go.AI
section
variable {P : Program} {h h' : AHeap} {g : Gh} {w : World}
theorem append_out_ok {ats : Array TypeId} {st xt ty e : TypeId} {xd : TypeDesc} {s by_ n len c : Nat} {base : Option Addr} {z : AV} {y : Value} {old new : List AV} {olds news : List Value}
    (hw : W h g w) (hf : ∀ v, g.B h.next v = none) (ha0 : ats[0]? = some st) (ha1 : ats[1]? = some xt) (hu : P.underlying st = some (.slice e)) (hx : P.underlying xt = some xd) (hxd : ∀ k, xd ≠ .int k)
    (hs : sizeT P e = some s) (hb : bytesT P e = some by_) (hz : zeroT P e = some z) (hzl : (cellsA z).length = s) (hl : ∀ w, (Builtin.lenOf y).run P w = .ok n w)
    (ho : ∀ d, (Builtin.firstCells s len (.slice base len c)).run P { w with drawn := d } = .ok olds.toArray { w with drawn := d })
    (hn : ∀ d, (Builtin.firstCells s n y).run P { w with drawn := d } = .ok news.toArray { w with drawn := d })
    (hov : VRs g old olds) (hol : olds.length = len * s) (hnv : VRs g new news) (hnl : news.length = n * s)
    (hroom : ¬ len + n ≤ c) (hpos : 0 < by_) (hbytes : (len + n) * by_ ≤ 140737488355328) :
    OpOK P h g w (do pure (.value (← Builtin.append_ ats ty #[.slice base len c, y]))) (.val (.sl h.next 0 ((len + n) * s) 0 s (len + n) none)) (h.alloc (.cells 0 0 (old ++ new) 0 e false false)) := by
  obtain ⟨i, v, hi, rfl, rfl, hzv, rfl⟩ := zeroT_parts hs hb hz
  obtain ⟨k, hk, hr⟩ := run_append_out (ty := ty) ha0 ha1 hu hx hxd hi hzv hl ho hn hroom hpos hbytes
  have hvl : v.cells.size = i.size := by
    have := (cells_zero (g := g) (z := ofVal v) rfl).length
    simp at this; omega
  refine grown_ok hw hf (hov.append hnv) ?_ hvl hk hr
  rw [List.length_append, hov.length, hnv.length, hol, hnl, Nat.add_mul]
theorem op_append {ats : Array TypeId} {st xt ty : TypeId} {x y r : AV} {u v : Value} (hw : W h g w) (hf : ∀ v, g.B h.next v = none) (ha0 : ats[0]? = some st) (ha1 : ats[1]? = some xt)
    (hx : VR g x u) (hy : VR g y v) (hr : aappend P h st xt x y = some (r, h')) :
    OpOK P h g w (do pure (.value (← Builtin.append_ ats ty #[u, v]))) (.val r) h' := by
  unfold aappend at hr
  split at hr
  · rename_i e xd n hu hxu hn
    split at hr
    · cases hr
    · rename_i hint
      have hxd : ∀ k, xd ≠ .int k := by
        intro k hk; subst hk; exact hint rfl
      split at hr
      · rename_i s by_ z hs hb hz
        split at hr
        · cases hr
        · rename_i hzs
          have hzl : (cellsA z).length = s := by
            rcases Nat.decEq (cellsA z).length s with h1 | h1
            · exact absurd (.inl h1) hzs
            · exact h1
          split at hr
          · cases hr
          · rename_i new hnew
            split at hr
            · cases hr
            · rename_i hall
              have hall : new.all cellOK = true := by simpa using hall
              obtain ⟨news, hnv, hnl, hnr⟩ := firstA_ok (P := P) hw hy hnew
              have hlen := lenA_ok (P := P) hy hn
              have hnlen : new.length = n * s := by rw [hnv.length, hnl]
              split at hr
              · -- nil
                cases hx
                split at hr
                · rename_i h0; subst h0
                  simp only [Option.some.injEq, Prod.mk.injEq] at hr
                  obtain ⟨rfl, rfl⟩ := hr
                  have hnil : news = [] := List.eq_nil_of_length_eq_zero (by simpa using hnl)
                  subst hnil
                  exact OpOK.same hw (by simp [run_append_none ha0 ha1 hu hxu hxd hs hlen (hnr w.drawn) (Nat.le_refl 0)]) (.sc _)
                · rename_i h0
                  split at hr
                  · rename_i hc
                    simp only [Option.some.injEq, Prod.mk.injEq] at hr
                    obtain ⟨rfl, rfl⟩ := hr
                    have := append_out_ok (len := 0) (c := 0) (base := none) (old := []) (olds := []) (ty := ty) hw hf ha0 ha1 hu hxu hxd hs hb hz hzl hlen (fun d => rfl) hnr trivial (by simp) hnv hnl (by omega) hc.1 (by simpa using hc.2)
                    simpa using this
                  · cases hr
              · -- a slice of an object of ours
                rename_i o ver m off sz len cap
                split at hr
                · cases hr
                · rename_i hsz
                  have hsz : sz = s := by simpa using hsz
                  subst hsz
                  cases hx with
                  | sl hB p1 p2 p3 =>
                    rename_i b sb c
                    split at hr
                    · -- the capacity is known
                      rename_i c'
                      obtain rfl : c = c' := p3 c' rfl
                      split at hr
                      · rename_i hroom
                        split at hr
                        · rename_i h0; subst h0
                          simp only [Option.some.injEq, Prod.mk.injEq] at hr
                          obtain ⟨rfl, rfl⟩ := hr
                          have hnil : news = [] := List.eq_nil_of_length_eq_zero (by simpa using hnl)
                          subst hnil
                          exact OpOK.same hw (by simp [run_append_none ha0 ha1 hu hxu hxd hs hlen (hnr w.drawn) p2]) (.sl hB p1 p2 p3)
                        · cases hwr : wrCells h o ver m (off + len * sz) new with
                          | none => rw [hwr] at hr; cases hr
                          | some h2 =>
                            rw [hwr] at hr
                            simp only [Option.some.injEq, Prod.mk.injEq] at hr
                            obtain ⟨rfl, rfl⟩ := hr
                            obtain ⟨w', q1, q2, q3⟩ := wrCells_ok (P := P) hw hwr hB hnv
                            refine ⟨g, w', _, ?_, .sl hB p1 hroom p3, q2, q3⟩
                            have := run_append_in (ty := ty) (a := ⟨b, off, none⟩) ha0 ha1 hu hxu hxd hs hlen (hnr w.drawn) hroom (by rw [add_eq _ _ rfl]; exact q1)
                            simp [this]
                      · rename_i hroom
                        split at hr
                        · rename_i hc
                          cases hrd : rdCells h o ver m off (len * sz) with
                          | none => rw [hrd] at hr; cases hr
                          | some old =>
                            rw [hrd] at hr
                            simp only [Option.some.injEq, Prod.mk.injEq] at hr
                            obtain ⟨rfl, rfl⟩ := hr
                            obtain ⟨olds, q1, q2, q3, _⟩ := rdCells_ok hw hrd hB
                            exact append_out_ok hw hf ha0 ha1 hu hxu hxd hs hb hz hzl hlen
                              (fun d => run_firstCells_some (P := P) { w with drawn := d } sz len ⟨b, off, none⟩ len c olds q2 (fun j v hv => by rw [add_eq _ _ rfl]; exact q3 j v hv)) hnr q1 q2 hnv hnl hroom hc.1 hc.2
                        · cases hr
                    · -- the capacity is not known
                      split at hr
                      · rename_i h0; subst h0
                        simp only [Option.some.injEq, Prod.mk.injEq] at hr
                        obtain ⟨rfl, rfl⟩ := hr
                        have hnil : news = [] := List.eq_nil_of_length_eq_zero (by simpa using hnl)
                        subst hnil
                        exact OpOK.same hw (by simp [run_append_none ha0 ha1 hu hxu hxd hs hlen (hnr w.drawn) p2]) (.sl hB p1 p2 p3)
                      · rename_i h0
                        split at hr
                        · rename_i v0 mv cc fz el ex sh hget
                          split at hr
                          · rename_i hcond
                            obtain ⟨rfl, hmv, rfl, hlm, hfz, rfl, hpos, hbytes⟩ := hcond
                            simp only [Option.some.injEq, Prod.mk.injEq] at hr
                            obtain ⟨rfl, rfl⟩ := hr
                            have hobj := hw.obj o _ hget
                            obtain ⟨hm, ca, f, hk⟩ := hobj.2 ver hmv (Nat.le_refl _) b sb m hB
                            have hm := hm rfl
                            have hone := cellsOK_one hall hnv
                            have hneed : (len + n) * sz = len * sz + n * sz := Nat.add_mul _ _ _
                            by_cases hroom : len + n ≤ c
                            · -- in place
                              have hfit : len * sz + n * sz ≤ sb := by
                                have : (len + n) * sz ≤ c * sz := Nat.mul_le_mul_right _ hroom
                                omega
                              obtain ⟨c', hrun, hcs, hcg⟩ := run_storeCells (P := P) (off := len * sz) news 0 ca w hk.here (by have := hk.size; omega)
                                (fun j q1 q2 q3 => by have := hk.free j (by omega) q3.1 q3.2; omega) hone
                              have happ := run_append_in (ty := ty) (a := ⟨b, 0, none⟩) ha0 ha1 hu hxu hxd hs hlen (hnr w.drawn) hroom (by rw [add_eq _ _ rfl]; simpa using hrun)
                              have hkey := samever_ok (nv := ver + 1) (s := sb) (n := (len + n) * sz) (x' := .cells (ver + 1) (if len * sz = cc.length then mv else ver + 1) (cc.take (len * sz) ++ new) fz el false sh)
                                hw hget hB (hobj.1 _ (Nat.lt_succ_self _)) (w' := setW w b (.cells c' el f)) rfl ?_
                              · refine ⟨_, _, _, by simp only [Sem.run_bind, happ, Result.andThen_ok, Sem.run_pure]; rfl, ?_, hkey.1, hkey.2⟩
                                refine .sl (Gh.setB_same _ _ _ _) (by omega) hroom (by simp)
                              · refine grow_obj (news := news) (b' := b) (sb' := sb) (ca := c') (f := f) hobj (Gh.setB_le (hobj.1 _ (Nat.lt_succ_self _))) (by omega) hfz hnv ?_ (setW_same (lt_of_heap hk.here)) (by rw [hcs]; exact hk.size) (by omega) ?_ ?_ hk.free hk.plain ?_
                                · intro v' y hy'
                                  rcases Gh.setB_cases hy' with ⟨_, e1, e2⟩ | e1
                                  · refine .inl ⟨e1, ?_⟩
                                    rw [e2, hneed, hnlen]
                                  · exact .inr e1
                                · intro i x hi hx'
                                  rw [hcg i, if_neg (by omega)]
                                  exact hk.cell i x (by omega) hx'
                                · intro i hi
                                  rw [hcg, if_pos (by rw [hnl]; omega)]
                                  congr 1; omega
                                · intro v' b2 s2 n2 hb2 hkc h1 h2
                                  obtain ⟨_, cs2, f2, hk2⟩ := hobj.2 v' h1 h2 b2 s2 n2 hb2
                                  by_cases hbb : b2 = b
                                  · subst hbb
                                    have e1 := hk2.here
                                    rw [hk.here] at e1
                                    simp only [Option.some.injEq, Obj.cells.injEq, true_and] at e1
                                    obtain ⟨rfl, rfl⟩ := e1
                                    refine ⟨c', f, setW_same (lt_of_heap hk.here), by rw [hcs]; exact hk2.size, hk2.free, hk2.plain, ?_⟩
                                    intro i x hi hx'
                                    have := hk2.le
                                    rw [hcg i, if_neg (by omega)]
                                    exact hk2.cell i x hi hx'
                                  · exact ⟨cs2, f2, (setW_other hbb).trans hk2.here, hk2.size, hk2.free, hk2.plain, hk2.cell⟩
                            · -- in a new block
                              have holds : ∃ olds, VRs g (cc.take (len * sz)) olds ∧ olds.length = len * sz ∧ (∀ (j : Nat) (v : Value), olds[j]? = some v → w.cell? ⟨b, 0 + j, none⟩ = some v) := by
                                obtain ⟨olds, q1, q2, q3, _⟩ := rdCells_ok (h := h) (o := o) (ver := ver) (n := m) (off := 0) (s := len * sz) (cs := (cc.drop 0).take (len * sz)) hw (by unfold rdCells; rw [hget]; dsimp only; rw [if_pos ⟨hmv, Nat.le_refl _, by omega⟩]) hB
                                exact ⟨olds, by simpa using q1, q2, q3⟩
                              obtain ⟨olds, q1, q2, q3⟩ := holds
                              obtain ⟨i, zv, hi, rfl, rfl, hzv, rfl⟩ := zeroT_parts hs hb hz
                              obtain ⟨k, hk', hrr⟩ := run_append_out (ty := ty) (base := some ⟨b, 0, none⟩) ha0 ha1 hu hxu hxd hi hzv hlen
                                (fun d => run_firstCells_some (P := P) { w with drawn := d } i.size len ⟨b, 0, none⟩ len c olds q2 (fun j v hv => by rw [add_eq _ _ rfl]; exact q3 j v hv)) hnr hroom hpos hbytes
                              have hvl : zv.cells.size = i.size := by
                                have := (cells_zero (g := g) (z := ofVal zv) rfl).length
                                simp at this; omega
                              have hsz2 : ((olds ++ news).toArray ++ Builtin.zeroCells zv.cells (k - (len + n))).size = k * i.size := by
                                simp only [Array.size_append, List.size_toArray, List.length_append, size_zeroCells, hvl, q2, hnl, ← Nat.add_mul]
                                congr 1; omega
                              have hkey := newver_ok (nv := ver + 1) (s := k * i.size) (n := (len + n) * i.size) (x' := .cells (ver + 1) (if len * i.size = cc.length then mv else ver + 1) (cc.take (len * i.size) ++ new) fz el false sh)
                                (hw.drew (w.drawn + 1)) hget hB (hobj.1 _ (Nat.lt_succ_self _)) (w' := { w with drawn := w.drawn + 1 }.alloc (.cells ((olds ++ news).toArray ++ Builtin.zeroCells zv.cells (k - (len + n))) el)) rfl ?_
                              · refine ⟨_, _, _, by simp only [Sem.run_bind, hrr, Result.andThen_ok, Sem.run_pure]; rfl, ?_, hkey.1, ?_⟩
                                · exact .sl (Gh.setB_same _ _ _ _) (by simp) hk' (by simp)
                                · have h2 := hkey.2
                                  exact { h2 with size := h2.size, fr := h2.fr, tape := h2.tape, os := h2.os, out := h2.out, old := h2.old, newM := h2.newM }
                              · have hmul : (len + n) * i.size ≤ k * i.size := Nat.mul_le_mul_right _ hk'
                                refine grow_obj (w := { w with drawn := w.drawn + 1 }) (news := news) (b' := w.heap.size) (sb' := k * i.size) (f := (0, 0)) ((hw.drew (w.drawn + 1)).obj o _ hget) (Gh.setB_le (hobj.1 _ (Nat.lt_succ_self _))) (by omega) hfz hnv ?_ (pushW_new _ _) hsz2 (by omega) ?_ ?_ (fun j _ _ h4 => by simp at h4) (fun _ => .inl rfl) ?_
                                · intro v' y hy'
                                  rcases Gh.setB_cases hy' with ⟨_, e1, e2⟩ | e1
                                  · refine .inl ⟨e1, ?_⟩
                                    rw [e2, hneed, hnlen]
                                  · exact .inr e1
                                · intro j x hj hx'
                                  have hjl : j < olds.length := by omega
                                  refine ⟨olds[j], ?_, q1.get j x olds[j] (by rw [List.getElem?_take, if_pos hj]; exact hx') (by simp [hjl])⟩
                                  rw [Array.getElem?_append_left (by simp; omega)]
                                  simp [List.getElem?_append_left hjl, hjl]
                                · intro j hj
                                  rw [Array.getElem?_append_left (by simp; omega)]
                                  simp only [List.getElem?_toArray]
                                  rw [List.getElem?_append_right (by omega)]
                                  congr 1; omega
                                · intro v' b2 s2 n2 hb2 hkc h1 h2
                                  obtain ⟨_, cs2, f2, hk2⟩ := hobj.2 v' h1 h2 b2 s2 n2 hb2
                                  exact ⟨cs2, f2, (pushW_old (w := { w with drawn := w.drawn + 1 }) (hw.bnd o v' b2 s2 n2 hb2)).trans hk2.here, hk2.size, hk2.free, hk2.plain, hk2.cell⟩
                          · cases hr
                        · cases hr
              · -- memory that nobody writes
                rename_i cells sz len c'
                split at hr
                · cases hr
                · rename_i hsz
                  have hsz' : sz = s := by
                    rcases Nat.decEq sz s with h1 | h1
                    · exact absurd (.inl h1) hsz
                    · exact h1
                  subst hsz'
                  have hcl : cells.length = len * sz := by
                    rcases Nat.decEq cells.length (len * sz) with h1 | h1
                    · exact absurd (.inr h1) hsz
                    · exact h1
                  have hx0 := hx
                  cases hx with
                  | psl fn q1 q2 p1 p2 p3 =>
                    rename_i b off c
                    obtain rfl : c = c' := p3 c' rfl
                    split at hr
                    · rename_i h0; subst h0
                      simp only [Option.some.injEq, Prod.mk.injEq] at hr
                      obtain ⟨rfl, rfl⟩ := hr
                      have hnil : news = [] := List.eq_nil_of_length_eq_zero (by simpa using hnl)
                      subst hnil
                      exact OpOK.same hw (by simp [run_append_none ha0 ha1 hu hxu hxd hs hlen (hnr w.drawn) p2]) hx0
                    · split at hr
                      · rename_i hc
                        simp only [Option.some.injEq, Prod.mk.injEq] at hr
                        obtain ⟨rfl, rfl⟩ := hr
                        obtain ⟨olds, r1, r2, r3⟩ := firstA_ok (P := P) (s := sz) (n := len) (cs := cells) hw hx0 (by unfold firstA; dsimp only; rw [if_pos ⟨rfl, Nat.le_refl _, by omega⟩, List.take_of_length_le (by omega)])
                        exact append_out_ok hw hf ha0 ha1 hu hxu hxd hs hb hz hzl hlen r3 hnr r1 r2 hnv hnl (by omega) hc.2.1 hc.2.2
                      · cases hr
              · split at hr
                · rename_i h0; subst h0
                  simp only [Option.some.injEq, Prod.mk.injEq] at hr
                  obtain ⟨rfl, rfl⟩ := hr
                  have hnil : news = [] := List.eq_nil_of_length_eq_zero (by simpa using hnl)
                  subst hnil
                  have hx0 := hx
                  cases hx with
                  | psl fn q1 q2 p1 p2 p3 => exact OpOK.same hw (by simp [run_append_none ha0 ha1 hu hxu hxd hs hlen (hnr w.drawn) p2]) hx0
                · cases hr
              · split at hr
                · rename_i h0; subst h0
                  simp only [Option.some.injEq, Prod.mk.injEq] at hr
                  obtain ⟨rfl, rfl⟩ := hr
                  have hnil : news = [] := List.eq_nil_of_length_eq_zero (by simpa using hnl)
                  subst hnil
                  have hx0 := hx
                  cases hx with
                  | islNil => exact OpOK.same hw (by simp [run_append_none ha0 ha1 hu hxu hxd hs hlen (hnr w.drawn) (Nat.le_refl _)]) hx0
                  | islE _ => exact OpOK.same hw (by simp [run_append_none ha0 ha1 hu hxu hxd hs hlen (hnr w.drawn) (Nat.le_refl _)]) hx0
                  | isl hl hpf hp =>
                    cases hp with
                    | psl fn q1 q2 p1 p2 p3 => exact OpOK.same hw (by simp [run_append_none ha0 ha1 hu hxu hxd hs hlen (hnr w.drawn) p2]) hx0
                · cases hr
              · split at hr
                · rename_i h0; subst h0
                  simp only [Option.some.injEq, Prod.mk.injEq] at hr
                  obtain ⟨rfl, rfl⟩ := hr
                  have hnil : news = [] := List.eq_nil_of_length_eq_zero (by simpa using hnl)
                  subst hnil
                  have hx0 := hx
                  cases hx with
                  | esl a c => exact OpOK.same hw (by simp [run_append_none ha0 ha1 hu hxu hxd hs hlen (hnr w.drawn) (Nat.zero_le c)]) hx0
                · cases hr
              · cases hr
      · cases hr
  · cases hr
end
end Go.AI
end

/-
  Operations (4, more): append(nil, make([]T, n)...).
-/
section
namespace Go.AI
section
variable {P : Program} {h h' : AHeap} {g : Gh} {w : World}
theorem run_append_zeros {ats : Array TypeId} {st xt ty e : TypeId} {ik : IntKind} {i : TypeInfo} {z : Value} {n : Nat} (ha0 : ats[0]? = some st) (ha1 : ats[1]? = some xt) (hu : P.underlying st = some (.slice e))
    (hx : P.underlying xt = some (.int ik)) (hi : P.info? e = some i) (hz : i.zero = some z) (hn : 0 < n) (hsz : i.size ≠ 0) (hn2 : n < 9223372036854775808) (hpos : 0 < i.bytes)
    (hbytes : n * i.bytes ≤ 140737488355328) :
    ∃ k, n ≤ k ∧ (Builtin.append_ ats ty #[.slice none 0 0, .int .i64 n]).run P w =
      .ok (.slice (some ⟨w.heap.size, 0, none⟩) n k) ({ w with drawn := w.drawn + 1 }.alloc (.cells (Builtin.zeroCells z.cells n ++ Builtin.zeroCells z.cells (k - n)) e)) := by
  have hfit : Builtin.nextslicecap (0 + n) 0 * i.bytes ≤ 281474976710656 := growslice_fits (by omega) (by rw [Nat.zero_add]; exact hbytes)
  refine ⟨(Question.appendCap (0 + n) 0 e).cut (w.tape w.drawn (.appendCap (0 + n) 0 e)), by show n ≤ (0 + n) + _; omega, ?_⟩
  have hsz' : (sizeOf e).run P w = .ok i.size w := run_sizeOf (by simp [sizeT, hi]) w
  have h2 : ¬ (Builtin.nextslicecap (0 + n) 0 * i.bytes > 281474976710656) := by omega
  have hne : ¬ i.bytes = 0 := by omega
  have hw64 : IntKind.i64.wrap (n : Int) = (n : Int) := IntWalk.i64_in _ (by omega)
  have h3 : ¬ ((n : Int) < 0) := by omega
  have h4 : ¬ ((n : Int) * (i.bytes : Int) > 2 ^ 48) := by
    have h48 : (2 : Int) ^ 48 = 281474976710656 := by decide
    rw [h48]
    have this : ((n * i.bytes : Nat) : Int) ≤ ((140737488355328 : Nat) : Int) := Int.ofNat_le.2 hbytes
    rw [Int.natCast_mul] at this
    omega
  have h5 : ¬ (n * i.size = 0) := by
    intro h
    rcases Nat.mul_eq_zero.1 h with h | h <;> omega
  have h6 : ¬ (0 + n ≤ 0) := by omega
  have h7 : ¬ (((0 + n : Nat) : Int) > IntKind.i64.max) := by
    have : IntKind.i64.max = 9223372036854775807 := by decide
    omega
  simp only [Builtin.append_, ha0, ha1, List.getElem?_toArray, List.getElem?_cons_zero, List.getElem?_cons_succ, Sem.run_bind, run_underlying hu, Result.andThen_ok, hsz', run_underlying hx,
    Sem.run_pure, asInt, asIntOf, hw64, h3, if_false, run_typeInfo hi, Nat.reducePow, h4, Int.toNat_natCast, if_true, h6, h7, false_and, h2, run_choose, Question.forced,
    run_askRoom, zeroValue, hz, newRow, run_newObj, Bool.not_true, Bool.false_eq_true, h5, Builtin.firstCells]
  rw [Nat.zero_add, Array.empty_append]
  rfl
theorem op_appendZ {ats : Array TypeId} {st xt ty : TypeId} {x y r : AV} {u v : Value} (hw : W h g w) (hf : ∀ v, g.B h.next v = none) (ha0 : ats[0]? = some st) (ha1 : ats[1]? = some xt)
    (hx : VR g x u) (hy : VR g y v) (hr : aappendZ P h st xt x y = some (r, h')) :
    OpOK P h g w (do pure (.value (← Builtin.append_ ats ty #[u, v]))) (.val r) h' := by
  unfold aappendZ at hr
  split at hr
  · rename_i e ik n hu hxu
    cases hx
    cases hy
    split at hr
    · rename_i s by_ z hs hb hz
      split at hr
      · rename_i hc
        obtain ⟨c1, c2, c3, c4, c5, c6, c7⟩ := hc
        simp only [Option.some.injEq, Prod.mk.injEq] at hr
        obtain ⟨rfl, rfl⟩ := hr
        obtain ⟨i, zv, hi, rfl, rfl, hzv, rfl⟩ := zeroT_parts hs hb hz
        obtain ⟨m, rfl⟩ : ∃ m : Nat, n = (m : Int) := ⟨n.toNat, by omega⟩
        simp only [Int.toNat_natCast] at c7 ⊢
        obtain ⟨k, hk, hrun⟩ := run_append_zeros (w := w) (ty := ty) (n := m) ha0 ha1 hu hxu hi hzv (by omega) c3 (by omega) c6 c7
        have hcz := cells_zero (g := g) (z := ofVal zv) rfl
        have hvl : zv.cells.size = i.size := by
          have := hcz.length
          simp at this; omega
        have hzs := zeros_ok (g := g) (z := cellsA (ofVal zv)) (zc := zv.cells) (by simpa using hcz) (by omega) m
        refine grown_ok (z := zv.cells) hw hf hzs ?_ hvl hk ?_
        · rw [zerosA_length, c4]
        · rw [hrun, Array.toArray_toList]
          rfl
      · cases hr
    · cases hr
  · cases hr
theorem op_append2 {ats : Array TypeId} {st xt ty : TypeId} {x y r : AV} {u v : Value} (hw : W h g w) (hf : ∀ v, g.B h.next v = none) (ha0 : ats[0]? = some st) (ha1 : ats[1]? = some xt)
    (hx : VR g x u) (hy : VR g y v) (hr : aappend2 P h st xt x y = some (r, h')) :
    OpOK P h g w (do pure (.value (← Builtin.append_ ats ty #[u, v]))) (.val r) h' := by
  unfold aappend2 at hr
  split at hr
  · rename_i q e
    simp only [Option.some.injEq] at hr; subst hr
    exact op_append hw hf ha0 ha1 hx hy e
  · exact op_appendZ hw hf ha0 ha1 hx hy hr
end
end Go.AI
end

/-
  Operations (5): slices of slices, copy.
-/
section
namespace Go.AI
section
variable {P : Program} {h h' : AHeap} {g : Gh} {w : World}
def OptR (g : Gh) : Option AV → Option Value → Prop
  | none, none => True
  | some x, some v => VR g x v
  | _, _ => False
theorem OptR.map {ρ : Operand → AV} {ρ' : Operand → Value} (h : ∀ x, VR g (ρ x) (ρ' x)) (o : Option Operand) : OptR g (o.map ρ) (o.map ρ') := by
  cases o with
  | none => trivial
  | some x => exact h x
theorem optNat_ok {x : Option AV} {v : Option Value} {d n : Nat} (hx : OptR g x v) (hr : optNat x d = some n) : (x = none ∧ v = none ∧ n = d) ∨ ∃ y k, x = some y ∧ v = some (.int k (n : Int)) := by
  cases x with
  | none => cases v with
    | none => simp [optNat] at hr; exact .inl ⟨rfl, rfl, hr.symm⟩
    | some _ => exact hx.elim
  | some y => cases v with
    | none => exact hx.elim
    | some u =>
      obtain ⟨k, i, rfl, _, _, e⟩ := natOfA_ok hx hr
      exact .inr ⟨y, k, rfl, by rw [e]⟩
theorem run_bounds {isS : Bool} {lo hi mx : Option Value} {l h m len cap : Nat} (hlo : (lo = none ∧ l = 0) ∨ ∃ k, lo = some (.int k (l : Int)))
    (hhi : (hi = none ∧ h = len ∧ mx = none) ∨ ∃ k, hi = some (.int k (h : Int))) (hmx : (mx = none ∧ m = cap) ∨ ∃ k, mx = some (.int k (m : Int)))
    (h1 : l ≤ h) (h2 : h ≤ m) (h3 : m ≤ cap) : (Instr.sliceBounds isS len cap lo hi mx).run P w = .ok (l, h, m) w := by
  have e1 : (0 : Int) ≤ l ∧ (l : Int) ≤ h := by omega
  have e2 : (0 : Int) ≤ h ∧ (h : Int) ≤ m := by omega
  have e3 : (0 : Int) ≤ m ∧ (m : Int) ≤ cap := by omega
  rcases hmx with ⟨rfl, rfl⟩ | ⟨k3, rfl⟩ <;> rcases hhi with ⟨rfl, rfl, e⟩ | ⟨k2, rfl⟩ <;> rcases hlo with ⟨rfl, rfl⟩ | ⟨k1, rfl⟩ <;>
    first
      | (cases e; done)
      | simp only [Instr.sliceBounds, Instr.sliceBound, asIntOf, Sem.run_bind, Sem.run_pure, Result.andThen_ok, e1, e2, e3, and_self, if_true, Int.toNat_natCast]
theorem run_sliceAt {t e : TypeId} {s : Nat} {lo hi mx : Option Value} {l h m len cap : Nat} {a : Option Addr} (hu : P.underlying t = some (.slice e)) (hs : sizeT P e = some s)
    (hlo : (lo = none ∧ l = 0) ∨ ∃ k, lo = some (.int k (l : Int)))
    (hhi : (hi = none ∧ h = len ∧ mx = none) ∨ ∃ k, hi = some (.int k (h : Int))) (hmx : (mx = none ∧ m = cap) ∨ ∃ k, mx = some (.int k (m : Int)))
    (h1 : l ≤ h) (h2 : h ≤ m) (h3 : m ≤ cap) :
    (Instr.sliceAt t (.slice a len cap) lo hi mx).run P w = .ok (.slice (if m = l then a else a.map (·.add (l * s))) (h - l) (m - l)) w := by
  simp only [Instr.sliceAt, Instr.slice, Sem.run_bind, run_underlying hu, Result.andThen_ok, run_bounds hlo hhi hmx h1 h2 h3, run_sizeOf hs, Sem.run_pure]
theorem mxOpt {mx : Option AV} {mx' : Option Value} {r : Option Nat} (hm : OptR g mx mx') (e : mx.map natOfA = some r) : ∃ y, mx = some y ∧ natOfA y = r := by
  cases mx with
  | none => cases e
  | some y => exact ⟨y, rfl, by simpa using e⟩
theorem op_slice {t : TypeId} {x y : AV} {v : Value} {lo hi mx : Option AV} {lo' hi' mx' : Option Value} (hx : VR g x v) (hlo : OptR g lo lo') (hhi : OptR g hi hi') (hmx : OptR g mx mx')
    (hr : aslice P t x lo hi mx = some y) : ∃ u, (Instr.sliceAt t v lo' hi' mx').run P w = .ok u w ∧ VR g y u := by
  unfold aslice at hr
  split at hr
  · rename_i e hu
    split at hr
    · -- an object of ours
      rename_i s o ver n off sz len cap hs
      cases hx with
      | sl hB p1 p2 p3 =>
        rename_i b sb c
        split at hr
        · rename_i l hh q1 q2 q3
          have hmn : mx' = none := by
            cases mx with
            | none => cases mx' with
              | none => rfl
              | some _ => exact hmx.elim
            | some _ => cases q3
          subst hmn
          have r1 := optNat_ok hlo q1
          have r2 := optNat_ok hhi q2
          have r1' : (lo' = none ∧ l = 0) ∨ ∃ k, lo' = some (.int k (l : Int)) := by
            rcases r1 with ⟨_, a, b⟩ | ⟨_, k, _, b⟩
            · exact .inl ⟨a, b⟩
            · exact .inr ⟨k, b⟩
          have r2' : (hi' = none ∧ hh = len ∧ (none : Option Value) = none) ∨ ∃ k, hi' = some (.int k (hh : Int)) := by
            rcases r2 with ⟨_, a, b⟩ | ⟨_, k, _, b⟩
            · exact .inl ⟨a, b, rfl⟩
            · exact .inr ⟨k, b⟩
          split at hr
          · rename_i c'
            obtain rfl : c = c' := p3 c' rfl
            split at hr
            · rename_i hc
              obtain ⟨rfl, h1, h2, h3⟩ := hc
              simp only [Option.some.injEq] at hr; subst hr
              refine ⟨_, run_sliceAt (m := c) hu hs r1' r2' (.inl ⟨rfl, rfl⟩) h1 h2 (Nat.le_refl _), ?_⟩
              by_cases hcl : c = l
              · rw [if_pos hcl, if_pos hcl]
                refine .sl hB ?_ (by omega) (by simp)
                have : (c - l) * s = 0 := by simp [hcl]
                omega
              · rw [if_neg hcl, if_neg hcl]
                simp only [Option.map_some]
                rw [add_eq _ _ rfl]
                refine .sl hB ?_ (by omega) (by simp)
                rw [Nat.add_assoc, ← Nat.add_mul, show l + (c - l) = c by omega]
                exact p1
            · cases hr
          · split at hr
            · rename_i hc
              obtain ⟨rfl, h1, h2⟩ := hc
              have hsl := run_sliceAt (P := P) (w := w) (a := some ⟨b, off, none⟩) (m := c) (cap := c) hu hs r1' r2' (.inl ⟨rfl, rfl⟩) h1 (Nat.le_trans h2 p2) (Nat.le_refl _)
              split at hr
              · rename_i hl0; subst hl0
                simp only [Option.some.injEq] at hr; subst hr
                refine ⟨_, hsl, ?_⟩
                by_cases hc0 : c = 0
                · rw [if_pos hc0]
                  exact .sl hB (by simpa using p1) (by omega) (by simp)
                · rw [if_neg hc0]
                  simp only [Option.map_some]
                  rw [add_eq _ _ rfl]
                  simp only [Nat.zero_mul, Nat.add_zero, Nat.sub_zero]
                  exact .sl hB p1 (by omega) (by simp)
              · split at hr
                · rename_i hlt
                  simp only [Option.some.injEq] at hr; subst hr
                  refine ⟨_, hsl, ?_⟩
                  rw [if_neg (by omega)]
                  simp only [Option.map_some]
                  rw [add_eq _ _ rfl]
                  refine .sl hB ?_ (by omega) (by simp)
                  rw [Nat.add_assoc, ← Nat.add_mul, show l + (c - l) = c by omega]
                  exact p1
                · simp only [Option.some.injEq] at hr; subst hr
                  refine ⟨_, hsl, ?_⟩
                  have : hh - l = 0 := by omega
                  rw [this]
                  split
                  · exact .esl _ _
                  · exact .esl _ _
            · cases hr
        · rename_i l hh m q1 q2 q3
          obtain ⟨ym, rfl, hym⟩ := mxOpt hmx q3
          cases mx' with
          | none => exact hmx.elim
          | some um =>
            obtain ⟨km, im, rfl, _, _, em⟩ := natOfA_ok hmx hym
            split at hr
            · rename_i hc
              obtain ⟨rfl, h1, h2, h3, h4, h5⟩ := hc
              simp only [Option.some.injEq] at hr; subst hr
              have r1 := optNat_ok hlo q1
              have r2 := optNat_ok hhi q2
              have r1' : (lo' = none ∧ l = 0) ∨ ∃ k, lo' = some (.int k (l : Int)) := by
                rcases r1 with ⟨_, a, b⟩ | ⟨_, k, _, b⟩
                · exact .inl ⟨a, b⟩
                · exact .inr ⟨k, b⟩
              have r2' : ∃ k, hi' = some (.int k (hh : Int)) := by
                rcases r2 with ⟨a, _, _⟩ | ⟨_, k, _, b⟩
                · rw [a] at h5; cases h5
                · exact ⟨k, b⟩
              have hmc : m ≤ c := by
                cases cap with
                | none => simp only [capOf] at h3; omega
                | some c' => have := p3 c' rfl; simp only [capOf] at h3; omega
              refine ⟨_, run_sliceAt (m := m) hu hs r1' (.inr r2') (.inr ⟨km, by rw [em]⟩) h1 h2 hmc, ?_⟩
              have hmul : m * s ≤ c * s := Nat.mul_le_mul_right _ hmc
              by_cases hcl : m = l
              · rw [if_pos hcl, if_pos hcl]
                refine .sl hB ?_ (by omega) (by simp)
                have : (m - l) * s = 0 := by simp [hcl]
                omega
              · rw [if_neg hcl, if_neg hcl]
                simp only [Option.map_some]
                rw [add_eq _ _ rfl]
                refine .sl hB ?_ (by omega) (by simp)
                rw [Nat.add_assoc, ← Nat.add_mul, show l + (m - l) = m by omega]
                omega
            · cases hr
        · cases hr
    · -- memory that nobody writes
      rename_i s cells sz len cap hs
      cases hx with
      | psl fn g1 g2 p1 p2 p3 =>
        rename_i b off c
        have sub : ∀ l k : Nat, ∀ i x, ((cells.drop l).take k)[i]? = some x → cells[l + i]? = some x := by
          intro l k i x hx
          by_cases hi : i < k
          · rwa [getD_drop_take _ _ _ _ hi] at hx
          · rw [List.getElem?_take, if_neg hi] at hx; cases hx
        have hlen : ∀ l hh : Nat, l ≤ hh → hh ≤ len → ((cells.drop (l * sz)).take ((hh - l) * sz)).length = (hh - l) * sz := by
          intro l hh a1 a2
          have e1 : l * sz + (hh - l) * sz = hh * sz := by rw [← Nat.add_mul, show l + (hh - l) = hh by omega]
          have e2 : hh * sz ≤ len * sz := Nat.mul_le_mul_right _ a2
          simp; omega
        split at hr
        · rename_i l hh q1 q2 q3
          have hmn : mx' = none := by
            cases mx with
            | none => cases mx' with
              | none => rfl
              | some _ => exact hmx.elim
            | some _ => cases q3
          subst hmn
          have r1' : (lo' = none ∧ l = 0) ∨ ∃ k, lo' = some (.int k (l : Int)) := by
            rcases optNat_ok hlo q1 with ⟨_, a, b⟩ | ⟨_, k, _, b⟩
            · exact .inl ⟨a, b⟩
            · exact .inr ⟨k, b⟩
          have r2' : (hi' = none ∧ hh = len ∧ (none : Option Value) = none) ∨ ∃ k, hi' = some (.int k (hh : Int)) := by
            rcases optNat_ok hhi q2 with ⟨_, a, b⟩ | ⟨_, k, _, b⟩
            · exact .inl ⟨a, b, rfl⟩
            · exact .inr ⟨k, b⟩
          split at hr
          · rename_i c'
            obtain rfl : c = c' := p3 c' rfl
            split at hr
            · rename_i hc
              obtain ⟨rfl, h1, h2, h3⟩ := hc
              simp only [Option.some.injEq] at hr; subst hr
              refine ⟨_, run_sliceAt (m := c) hu hs r1' r2' (.inl ⟨rfl, rfl⟩) h1 (by omega) (Nat.le_refl _), ?_⟩
              by_cases hcl : c = l
              · rw [if_pos hcl, if_pos hcl]
                refine .psl fn (by simp) (by simp) ?_ (by omega) (by simp)
                have : hh - l = 0 := by omega
                simp [this]
              · rw [if_neg hcl, if_neg hcl]
                simp only [Option.map_some]
                rw [add_eq _ _ rfl]
                refine .psl (fun i => fn (l * s + i)) (fun i x hx => ?_) (fun i x hx => g2 _ x (sub _ _ i x hx)) (hlen l hh h1 h2) (by omega) (by simp)
                rw [Nat.add_assoc]; exact g1 _ x (sub _ _ i x hx)
            · cases hr
          · split at hr
            · rename_i hc
              obtain ⟨rfl, h1, h2⟩ := hc
              have hsl := run_sliceAt (P := P) (w := w) (a := some ⟨b, off, none⟩) (m := c) (cap := c) hu hs r1' r2' (.inl ⟨rfl, rfl⟩) h1 (Nat.le_trans h2 p2) (Nat.le_refl _)
              split at hr
              · rename_i hl0
                simp only [Option.some.injEq] at hr; subst hr
                refine ⟨_, hsl, ?_⟩
                by_cases hc0 : c = l
                · have e0 : l = 0 := by omega
                  subst e0
                  rw [if_pos hc0]
                  have : hh = 0 := by omega
                  subst this
                  refine .psl fn (by simp) (by simp) (by simp) (by omega) (by simp)
                · rw [if_neg hc0]
                  simp only [Option.map_some]
                  rw [add_eq _ _ rfl]
                  refine .psl (fun i => fn (l * s + i)) (fun i x hx => ?_) (fun i x hx => g2 _ x (sub _ _ i x hx)) (hlen l hh h1 h2) (by omega) (by simp)
                  rw [Nat.add_assoc]; exact g1 _ x (sub _ _ i x hx)
              · simp only [Option.some.injEq] at hr; subst hr
                refine ⟨_, hsl, ?_⟩
                have : hh - l = 0 := by omega
                rw [this]
                split
                · exact .esl _ _
                · exact .esl _ _
            · cases hr
        · rename_i l hh m q1 q2 q3
          obtain ⟨ym, rfl, hym⟩ := mxOpt hmx q3
          cases mx' with
          | none => exact hmx.elim
          | some um =>
            obtain ⟨km, im, rfl, _, _, em⟩ := natOfA_ok hmx hym
            split at hr
            · rename_i hc
              obtain ⟨rfl, h1, h2, h3, h5⟩ := hc
              simp only [Option.some.injEq] at hr; subst hr
              have r1' : (lo' = none ∧ l = 0) ∨ ∃ k, lo' = some (.int k (l : Int)) := by
                rcases optNat_ok hlo q1 with ⟨_, a, b⟩ | ⟨_, k, _, b⟩
                · exact .inl ⟨a, b⟩
                · exact .inr ⟨k, b⟩
              have r2' : ∃ k, hi' = some (.int k (hh : Int)) := by
                rcases optNat_ok hhi q2 with ⟨a, _, _⟩ | ⟨_, k, _, b⟩
                · rw [a] at h5; cases h5
                · exact ⟨k, b⟩
              refine ⟨_, run_sliceAt (m := m) hu hs r1' (.inr r2') (.inr ⟨km, by rw [em]⟩) h1 h2 (by omega), ?_⟩
              by_cases hcl : m = l
              · rw [if_pos hcl, if_pos hcl]
                refine .psl fn (by simp) (by simp) ?_ (by omega) (by simp)
                have : hh - l = 0 := by omega
                simp [this]
              · rw [if_neg hcl, if_neg hcl]
                simp only [Option.map_some]
                rw [add_eq _ _ rfl]
                refine .psl (fun i => fn (l * s + i)) (fun i x hx => ?_) (fun i x hx => g2 _ x (sub _ _ i x hx)) (hlen l hh h1 (by omega)) (by omega) (by simp)
                rw [Nat.add_assoc]; exact g1 _ x (sub _ _ i x hx)
            · cases hr
        · cases hr
    · -- rows
      rename_i s rows sz hs
      split at hr
      · rename_i l hh q1 q2
        have hmn : mx' = none := by
          cases mx' with
          | none => rfl
          | some _ => exact hmx.elim
        subst hmn
        have r1' : (lo' = none ∧ l = 0) ∨ ∃ k, lo' = some (.int k (l : Int)) := by
          rcases optNat_ok hlo q1 with ⟨_, a, b⟩ | ⟨_, k, _, b⟩
          · exact .inl ⟨a, b⟩
          · exact .inr ⟨k, b⟩
        split at hr
        · rename_i hc
          obtain ⟨rfl, h1, h2⟩ := hc
          simp only [Option.some.injEq] at hr; subst hr
          cases hx with
          | islNil =>
            have r2' : (hi' = none ∧ hh = 0 ∧ (none : Option Value) = none) ∨ ∃ k, hi' = some (.int k (hh : Int)) := by
              rcases optNat_ok hhi q2 with ⟨_, a, b⟩ | ⟨_, k, _, b⟩
              · exact .inl ⟨a, by simpa using b, rfl⟩
              · exact .inr ⟨k, b⟩
            have e1 : hh = 0 := by simpa using h2
            have e2 : l = 0 := by omega
            subst e1; subst e2
            refine ⟨_, run_sliceAt (a := none) (m := 0) hu hs r1' r2' (.inl ⟨rfl, rfl⟩) (Nat.le_refl _) (Nat.le_refl _) (Nat.le_refl _), ?_⟩
            simp
            exact .islNil
          | islE a =>
            have r2' : (hi' = none ∧ hh = 0 ∧ (none : Option Value) = none) ∨ ∃ k, hi' = some (.int k (hh : Int)) := by
              rcases optNat_ok hhi q2 with ⟨_, a1, b⟩ | ⟨_, k, _, b⟩
              · exact .inl ⟨a1, by simpa using b, rfl⟩
              · exact .inr ⟨k, b⟩
            have e1 : hh = 0 := by simpa using h2
            have e2 : l = 0 := by omega
            subst e1; subst e2
            refine ⟨_, run_sliceAt (a := some a) (m := 0) hu hs r1' r2' (.inl ⟨rfl, rfl⟩) (Nat.le_refl _) (Nat.le_refl _) (Nat.le_refl _), ?_⟩
            simp
            exact .islE a
          | isl hl hpf hp =>
            rename_i b off c
            cases hp with
            | psl fn g1 g2 p1 p2 p3 =>
            have r2' : (hi' = none ∧ hh = rows.length ∧ (none : Option Value) = none) ∨ ∃ k, hi' = some (.int k (hh : Int)) := by
              rcases optNat_ok hhi q2 with ⟨_, a, b⟩ | ⟨_, k, _, b⟩
              · exact .inl ⟨a, b, rfl⟩
              · exact .inr ⟨k, b⟩
            have hln : ((rows.drop l).take (hh - l)).length = hh - l := by simp; omega
            have hl' : ∀ r, r ∈ (rows.drop l).take (hh - l) → r.length = s := fun r hr => hl r (List.mem_of_mem_drop (List.mem_of_mem_take hr))
            have hfl := flat_sub l (hh - l) hl
            have sub : ∀ i x, ((rows.drop l).take (hh - l)).flatten[i]? = some x → rows.flatten[l * s + i]? = some x := by
              intro i x hx
              rw [hfl] at hx
              by_cases hi : i < (hh - l) * s
              · rwa [getD_drop_take _ _ _ _ hi] at hx
              · rw [List.getElem?_take, if_neg hi] at hx; cases hx
            refine ⟨_, run_sliceAt (m := c) hu hs r1' r2' (.inl ⟨rfl, rfl⟩) h1 (Nat.le_trans h2 p2) (Nat.le_refl _), ?_⟩
            by_cases hcl : c = l
            · rw [if_pos hcl]
              have e0 : hh - l = 0 := by omega
              have en : (rows.drop l).take (hh - l) = [] := by rw [e0]; simp
              rw [en]
              rw [show hh - l = ([] : List (List AV)).length by rw [e0]; rfl]
              refine .isl (by simp) rfl (.psl fn (by simp) (by simp) (by simp) (by simp) (by simp))
            · rw [if_neg hcl]
              simp only [Option.map_some]
              rw [add_eq _ _ rfl]
              have key : VR g (.isl ((rows.drop l).take (hh - l)) s) (.slice (some ⟨b, off + l * s, none⟩) ((rows.drop l).take (hh - l)).length (c - l)) := by
                refine .isl hl' (heapFrees_sub hpf fun y hy => by rw [hfl] at hy; exact List.mem_of_mem_drop (List.mem_of_mem_take hy)) (.psl (fun i => fn (l * s + i)) (fun i x hx => ?_) (fun i x hx => g2 _ x (sub i x hx)) (flat_len hl') (by omega) (by simp))
                rw [Nat.add_assoc]; exact g1 _ x (sub i x hx)
              rw [hln] at key
              exact key
        · cases hr
      · rename_i l hh y0 q1 q2
        split at hr
        · rename_i m hym
          cases mx' with
          | none => exact hmx.elim
          | some um =>
            obtain ⟨km, im, rfl, _, _, em⟩ := natOfA_ok hmx hym
            split at hr
            · rename_i hc
              obtain ⟨rfl, h1, h2, h3, h5⟩ := hc
              simp only [Option.some.injEq] at hr; subst hr
              have r1' : (lo' = none ∧ l = 0) ∨ ∃ k, lo' = some (.int k (l : Int)) := by
                rcases optNat_ok hlo q1 with ⟨_, a, b⟩ | ⟨_, k, _, b⟩
                · exact .inl ⟨a, b⟩
                · exact .inr ⟨k, b⟩
              have r2' : ∃ k, hi' = some (.int k (hh : Int)) := by
                rcases optNat_ok hhi q2 with ⟨a, _, _⟩ | ⟨_, k, _, b⟩
                · rw [a] at h5; cases h5
                · exact ⟨k, b⟩
              cases hx with
              | islNil =>
                have e0 : m = 0 := by simpa using h3
                have e1 : hh = 0 := by omega
                have e2 : l = 0 := by omega
                subst e0; subst e1; subst e2
                refine ⟨_, run_sliceAt (a := none) (m := 0) hu hs r1' (.inr r2') (.inr ⟨km, by rw [em]⟩) (Nat.le_refl _) (Nat.le_refl _) (Nat.le_refl _), ?_⟩
                simp
                exact .islNil
              | islE a =>
                have e0 : m = 0 := by simpa using h3
                have e1 : hh = 0 := by omega
                have e2 : l = 0 := by omega
                subst e0; subst e1; subst e2
                refine ⟨_, run_sliceAt (a := some a) (m := 0) hu hs r1' (.inr r2') (.inr ⟨km, by rw [em]⟩) (Nat.le_refl _) (Nat.le_refl _) (Nat.le_refl _), ?_⟩
                simp
                exact .islE a
              | isl hl hpf hp =>
                rename_i b off c
                cases hp with
                | psl fn g1 g2 p1 p2 p3 =>
                have hln : ((rows.drop l).take (hh - l)).length = hh - l := by simp; omega
                have hl' : ∀ r, r ∈ (rows.drop l).take (hh - l) → r.length = s := fun r hr => hl r (List.mem_of_mem_drop (List.mem_of_mem_take hr))
                have hfl := flat_sub l (hh - l) hl
                have sub : ∀ i x, ((rows.drop l).take (hh - l)).flatten[i]? = some x → rows.flatten[l * s + i]? = some x := by
                  intro i x hx
                  rw [hfl] at hx
                  by_cases hi : i < (hh - l) * s
                  · rwa [getD_drop_take _ _ _ _ hi] at hx
                  · rw [List.getElem?_take, if_neg hi] at hx; cases hx
                refine ⟨_, run_sliceAt (m := m) hu hs r1' (.inr r2') (.inr ⟨km, by rw [em]⟩) h1 h2 (Nat.le_trans h3 p2), ?_⟩
                by_cases hcl : m = l
                · rw [if_pos hcl]
                  have e0 : hh - l = 0 := by omega
                  have en : (rows.drop l).take (hh - l) = [] := by rw [e0]; simp
                  rw [en]
                  rw [show hh - l = ([] : List (List AV)).length by rw [e0]; rfl]
                  refine .isl (by simp) rfl (.psl fn (by simp) (by simp) (by simp) (by simp) (by simp))
                · rw [if_neg hcl]
                  simp only [Option.map_some]
                  rw [add_eq _ _ rfl]
                  have key : VR g (.isl ((rows.drop l).take (hh - l)) s) (.slice (some ⟨b, off + l * s, none⟩) ((rows.drop l).take (hh - l)).length (m - l)) := by
                    refine .isl hl' (heapFrees_sub hpf fun y hy => by rw [hfl] at hy; exact List.mem_of_mem_drop (List.mem_of_mem_take hy)) (.psl (fun i => fn (l * s + i)) (fun i x hx => ?_) (fun i x hx => g2 _ x (sub i x hx)) (flat_len hl') (by omega) (by simp))
                    rw [Nat.add_assoc]; exact g1 _ x (sub i x hx)
                  rw [hln] at key
                  exact key
            · cases hr
        · cases hr
      · cases hr
    · -- empty
      rename_i s hs
      cases hx with
      | esl a c =>
        split at hr
        · rename_i q1 q2
          have hmn : mx' = none := by
            cases mx' with
            | none => rfl
            | some _ => exact hmx.elim
          subst hmn
          simp only [Option.some.injEq] at hr; subst hr
          have r1' : (lo' = none ∧ 0 = 0) ∨ ∃ k, lo' = some (.int k ((0 : Nat) : Int)) := by
            rcases optNat_ok hlo q1 with ⟨_, a, b⟩ | ⟨_, k, _, b⟩
            · exact .inl ⟨a, b⟩
            · exact .inr ⟨k, b⟩
          have r2' : (hi' = none ∧ 0 = 0 ∧ (none : Option Value) = none) ∨ ∃ k, hi' = some (.int k ((0 : Nat) : Int)) := by
            rcases optNat_ok hhi q2 with ⟨_, a, b⟩ | ⟨_, k, _, b⟩
            · exact .inl ⟨a, b, rfl⟩
            · exact .inr ⟨k, b⟩
          refine ⟨_, run_sliceAt (m := c) hu hs r1' r2' (.inl ⟨rfl, rfl⟩) (Nat.le_refl _) (Nat.zero_le _) (Nat.le_refl _), ?_⟩
          split
          · exact .esl _ _
          · exact .esl _ _
        · cases hr
    · -- nil
      rename_i s hs
      cases hx
      split at hr
      · rename_i q1 q2 q3
        have hmn : mx' = none := by
          cases mx with
          | none => cases mx' with
            | none => rfl
            | some _ => exact hmx.elim
          | some _ => cases q3
        subst hmn
        simp only [Option.some.injEq] at hr; subst hr
        have r1' : (lo' = none ∧ 0 = 0) ∨ ∃ k, lo' = some (.int k ((0 : Nat) : Int)) := by
          rcases optNat_ok hlo q1 with ⟨_, a, b⟩ | ⟨_, k, _, b⟩
          · exact .inl ⟨a, b⟩
          · exact .inr ⟨k, b⟩
        have r2' : (hi' = none ∧ 0 = 0 ∧ (none : Option Value) = none) ∨ ∃ k, hi' = some (.int k ((0 : Nat) : Int)) := by
          rcases optNat_ok hhi q2 with ⟨_, a, b⟩ | ⟨_, k, _, b⟩
          · exact .inl ⟨a, b, rfl⟩
          · exact .inr ⟨k, b⟩
        refine ⟨_, run_sliceAt (m := 0) hu hs r1' r2' (.inl ⟨rfl, rfl⟩) (Nat.le_refl _) (Nat.le_refl _) (Nat.le_refl _), ?_⟩
        simp; exact .sc _
      · rename_i q1 q2 q3
        obtain ⟨ym, rfl, hym⟩ := mxOpt hmx q3
        cases mx' with
        | none => exact hmx.elim
        | some um =>
          obtain ⟨km, im, rfl, _, _, em⟩ := natOfA_ok hmx hym
          split at hr
          · rename_i h5
            simp only [Option.some.injEq] at hr; subst hr
            have r1' : (lo' = none ∧ 0 = 0) ∨ ∃ k, lo' = some (.int k ((0 : Nat) : Int)) := by
              rcases optNat_ok hlo q1 with ⟨_, a, b⟩ | ⟨_, k, _, b⟩
              · exact .inl ⟨a, b⟩
              · exact .inr ⟨k, b⟩
            have r2' : ∃ k, hi' = some (.int k ((0 : Nat) : Int)) := by
              rcases optNat_ok hhi q2 with ⟨a, _, _⟩ | ⟨_, k, _, b⟩
              · rw [a] at h5; cases h5
              · exact ⟨k, b⟩
            refine ⟨_, run_sliceAt (m := 0) hu hs r1' (.inr r2') (.inr ⟨km, by rw [em]⟩) (Nat.le_refl _) (Nat.le_refl _) (Nat.le_refl _), ?_⟩
            simp; exact .sc _
          · cases hr
      · cases hr
    · cases hr
  · -- a string
    rename_i hu
    split at hr
    · rename_i s l q1
      cases hx
      have hmn : mx' = none := by cases mx' with
        | none => rfl
        | some _ => exact hmx.elim
      subst hmn
      split at hr
      · rename_i hh q2
        split at hr
        · rename_i hc
          rw [forceL_eq] at hr
          simp only [Option.some.injEq] at hr; subst hr
          have r1' : (lo' = none ∧ l = 0) ∨ ∃ k, lo' = some (.int k (l : Int)) := by
            rcases optNat_ok hlo q1 with ⟨_, a, b⟩ | ⟨_, k, _, b⟩
            · exact .inl ⟨a, b⟩
            · exact .inr ⟨k, b⟩
          have r2' : (hi' = none ∧ hh = s.size ∧ (none : Option Value) = none) ∨ ∃ k, hi' = some (.int k (hh : Int)) := by
            rcases optNat_ok hhi q2 with ⟨_, a, b⟩ | ⟨_, k, _, b⟩
            · exact .inl ⟨a, b, rfl⟩
            · exact .inr ⟨k, b⟩
          refine ⟨.string (s.extract l hh), ?_, ?_⟩
          · simp only [Instr.sliceAt, Instr.slice, Sem.run_bind, run_underlying hu, Result.andThen_ok, Option.isSome_none, Bool.false_eq_true, if_false]
            rw [run_bounds r1' r2' (.inl ⟨rfl, rfl⟩) hc.1 hc.2 (Nat.le_refl _)]
            rfl
          · have e : (⟨⟨(s.data.toList.drop l).take (hh - l)⟩⟩ : ByteArray) = s.extract l hh := by
              apply ByteArray.ext
              apply Array.ext'
              simp [List.take_drop, ← List.drop_take]
            rw [e]; exact .sc _
        · cases hr
      · cases hr
    · cases hr
  · cases hr
theorem acopy_dst {x : AV} {u : Value} {n : Nat} (hx : VR g x u) (hr : lenA x = some n) (hs : ∀ b, x ≠ .sc (.string b)) : ∃ base c, u = .slice base n c := by
  unfold lenA at hr
  split at hr
  · cases hx; simp at hr; subst hr; exact ⟨_, _, rfl⟩
  · cases hx; simp at hr; subst hr; exact ⟨_, _, rfl⟩
  · cases hx with
    | islNil => simp at hr; subst hr; exact ⟨_, _, rfl⟩
    | islE _ => simp at hr; subst hr; exact ⟨_, _, rfl⟩
    | isl _ _ _ => simp at hr; subst hr; exact ⟨_, _, rfl⟩
  · cases hx; simp at hr; subst hr; exact ⟨_, _, rfl⟩
  · cases hx; simp at hr; subst hr; exact ⟨_, _, rfl⟩
  · exact absurd rfl (hs _)
  · cases hr
theorem op_copy {ats : Array TypeId} {dt ty : TypeId} {x y r : AV} {u v : Value} (hw : W h g w) (ha0 : ats[0]? = some dt) (hx : VR g x u) (hy : VR g y v)
    (hr : acopy P h dt x y = some (r, h')) : OpOK P h g w (do pure (.value (← Builtin.copy_ ats ty #[u, v]))) (.val r) h' := by
  unfold acopy at hr
  split at hr
  · rename_i e dl n0 hu hdl hn0
    split at hr
    · rename_i s hs
      have hlen := lenA_ok (P := P) hy hn0
      cases hf : firstA h s (Nat.min n0 dl) y with
      | none => rw [hf] at hr; cases hr
      | some new =>
        rw [hf] at hr
        obtain ⟨news, q1, q2, q3⟩ := firstA_ok (P := P) hw hy hf
        have q3 := q3 w.drawn
        split at hr
        · rename_i new' o ver m off sz len cap hnew
          simp only [Option.some.injEq] at hnew; subst hnew
          split at hr
          · rename_i hc
            obtain ⟨rfl, hnl⟩ := hc
            cases hwr : wrCells h o ver m off new with
            | none => rw [hwr] at hr; cases hr
            | some h2 =>
              rw [hwr] at hr
              simp only [Option.map_some, Option.some.injEq, Prod.mk.injEq] at hr
              obtain ⟨rfl, rfl⟩ := hr
              cases hx with
              | sl hB p1 p2 p3 =>
                rename_i b sb c
                have hdl' : len = dl := by simpa [lenA] using hdl
                subst hdl'
                obtain ⟨w', r1, r2, r3⟩ := wrCells_ok (P := P) hw hwr hB q1
                refine ⟨g, w', _, ?_, .sc _, r2, r3⟩
                simp only [Builtin.copy_, ha0, List.getElem?_toArray, List.getElem?_cons_zero, List.getElem?_cons_succ, Sem.run_bind, run_underlying hu, Result.andThen_ok, hlen, run_sizeOf hs, q3, r1, Sem.run_pure]
          · cases hr
        · cases hr
    · cases hr
  · cases hr
end
end Go.AI
end
