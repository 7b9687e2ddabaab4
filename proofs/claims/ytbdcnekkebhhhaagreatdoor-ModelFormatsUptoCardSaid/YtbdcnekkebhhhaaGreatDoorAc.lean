/-
  Operations (6): maps, iterators.
-/
import Derived.Laws.BytesArg
import Derived.Laws.BytesString
import Derived.Lib.ConvBytes
import Derived.KernelRfl
import Derived.Test.YtbdcnekkebhhhaaGreatDoorAb
set_option linter.all false

section
namespace Go.AI
section
variable {P : Program} {h h' : AHeap} {g : Gh} {w : World}
def notCells : Obj → Bool
  | .cells .. => false
  | _ => true
theorem run_getObj {r : Nat} {o : Obj} (hh : w.heap[r]? = some o) (hn : notCells o = true) : (getObj r).run P w = .ok o w := by
  unfold getObj
  cases o <;> first | (cases hn; done) | simp [Sem.run, hh]
theorem run_setObj {r : Nat} {o o' : Obj} (hh : w.heap[r]? = some o) (hn : notCells o = true) : (setObj r o').run P w = .ok () (setW w r o') := by
  unfold setObj
  cases o <;> first | (cases hn; done) | simp [Sem.run, hh, setW]
theorem ba_eq {a b : ByteArray} (h : (a == b) = true) : a = b := by
  have h' : (a.data == b.data) = true := h
  have := eq_of_beq h'
  cases a; cases b; simp_all
theorem ba_refl (a : ByteArray) : (a == a) = true := by
  show (a.data == a.data) = true
  simp
theorem run_checkKey_succ {b : Bool} {kt : TypeId} {kd : TypeDesc} {kv : Value} (n : Nat) (hu : P.underlying kt = some kd) (hk : keyKind kd kv = true) : (Instr.checkKey b (n + 1) kt kv).run P w = .ok () w := by
  unfold keyKind at hk
  split at hk <;> first | (simp [Instr.checkKey, run_underlying hu]; done) | cases hk
theorem run_checkKey {b : Bool} {kt : TypeId} {kd : TypeDesc} {kv : Value} (hu : P.underlying kt = some kd) (hk : keyKind kd kv = true) : (Instr.checkKey b 10000 kt kv).run P w = .ok () w :=
  run_checkKey_succ 9999 hu hk
theorem sameKey_eq {a b : Value} (h : sameKey a b = some true) : b = a := by
  unfold sameKey at h
  split at h
  · split at h
    · rename_i e; simp at h; simp [e, h]
    · cases h
  · simp only [Option.some.injEq] at h; rw [ba_eq h]
  · simp at h; simp [h]
  · cases h
theorem sameNow_of {kd : TypeDesc} {a b : Value} {r : Bool} (hk : keyKind kd a = true) (h : sameKey a b = some r) : Instr.sameNow kd a b = some r := by
  unfold keyKind at hk
  split at hk
  · unfold sameKey at h
    split at h <;> first | (cases h; done) | (unfold Instr.sameNow; simpa using h) | skip
    all_goals simp_all [Instr.sameNow]
  · unfold sameKey at h
    split at h <;> first | (cases h; done) | skip
    all_goals simp_all [Instr.sameNow]
  · unfold sameKey at h
    split at h <;> first | (cases h; done) | skip
    all_goals simp_all [Instr.sameNow]
  · cases hk
theorem sameBits_self {kd : TypeDesc} {a : Value} (hk : keyKind kd a = true) : Instr.sameBits 10000 a a = true := by
  unfold keyKind at hk
  split at hk <;> first | (simp [Instr.sameBits]; done) | (unfold Instr.sameBits; exact ba_refl _) | cases hk
theorem findA_ok {kd : TypeDesc} {kv : Value} (hk : keyKind kd kv = true) : ∀ {es : List (AV × AV × Nat)} {ces : List MapEntry} {i : Nat} {r : Option (Nat × AV × Nat)},
    findA kv es i = some r → EntR g es ces → ∃ r', Instr.findNow kd kv ces i = some r' ∧
      (match r with
       | none => r' = none
       | some (j, v, b) => ∃ v', r' = some (j, v') ∧ VR g v v' ∧ i ≤ j ∧ j - i < es.length ∧ ∃ e, ces[j - i]? = some e ∧ e.key = kv ∧ e.born = b)
  | [], [], i, r, h, _ => by simp [findA] at h; subst h; exact ⟨none, rfl, rfl⟩
  | (k, v, b) :: es, e :: ces, i, r, h, hr => by
    obtain ⟨h1, h2, h3, h4⟩ := hr
    cases k with
    | sc q =>
      simp only [findA] at h
      cases h1
      split at h
      · rename_i hs
        simp only [Option.some.injEq] at h; subst h
        refine ⟨some (i, e.val), ?_, e.val, rfl, h2, Nat.le_refl _, by simp, e, by simp, sameKey_eq hs, h3⟩
        simp [Instr.findNow, sameNow_of hk hs]
      · rename_i hs
        obtain ⟨r', q1, q2⟩ := findA_ok hk h h4
        refine ⟨r', by simp [Instr.findNow, sameNow_of hk hs, q1], ?_⟩
        cases r with
        | none => exact q2
        | some x =>
          obtain ⟨j, v2, b2⟩ := x
          obtain ⟨u, s1, s2, s3, s4, e2, s5, s6⟩ := q2
          refine ⟨u, s1, s2, by omega, by simp; omega, e2, ?_, s6⟩
          rw [show j - i = (j - (i + 1)) + 1 by omega]; simpa using s5
      · cases h
    | _ => simp [findA] at h
  | [], _ :: _, _, _, _, hr => hr.elim
  | (_, _, _) :: _, [], _, _, _, hr => hr.elim
theorem run_findKey {kt : TypeId} {kd : TypeDesc} {kv : Value} {ces : List MapEntry} {r : Option (Nat × Value)} (hu : P.underlying kt = some kd) (hf : Instr.findNow kd kv ces 0 = some r) :
    (Instr.findKey kt kv ces).run P w = .ok r w := by
  unfold Instr.findKey
  simp only [Sem.run_bind, run_underlying hu, Result.andThen_ok, hf, Sem.run_pure]
theorem run_lookup_some {t kt e : TypeId} {kd : TypeDesc} {v zv : Value} {ok : Bool} {b : Nat} {ces : Array MapEntry} {clock : Nat} {r : Option (Nat × Value)} (hu : P.underlying t = some (.map kt e))
    (hku : P.underlying kt = some kd) (hkk : keyKind kd v = true) (hz : (zeroValue e).run P w = .ok zv w) (hh : w.heap[b]? = some (.map ces clock)) (hf : Instr.findNow kd v ces.toList 0 = some r) :
    (Instr.lookup t (.map (some b)) v ok).run P w = .ok (match r with
      | some (_, x) => if ok then .tuple #[x, .bool true] else x
      | none => if ok then .tuple #[zv, .bool false] else zv) w := by
  unfold Instr.lookup
  simp only [Sem.run_bind, run_underlying hu, Result.andThen_ok, run_getObj hh rfl, Sem.run_pure, run_checkKey hku hkk, run_findKey hku hf]
  cases r with
  | none => simp only [Sem.run_bind, hz, Result.andThen_ok, Sem.run_pure]
  | some x => simp only [Sem.run_bind, Sem.run_pure, Result.andThen_ok]
theorem run_lookup_nil {t kt e : TypeId} {kd : TypeDesc} {v zv : Value} {ok : Bool} (hu : P.underlying t = some (.map kt e))
    (hku : P.underlying kt = some kd) (hkk : keyKind kd v = true) (hz : (zeroValue e).run P w = .ok zv w) :
    (Instr.lookup t (.map none) v ok).run P w = .ok (if ok then .tuple #[zv, .bool false] else zv) w := by
  unfold Instr.lookup
  have hf : Instr.findNow kd v (#[] : Array MapEntry).toList 0 = some none := rfl
  simp only [Sem.run_bind, run_underlying hu, Result.andThen_ok, Sem.run_pure, run_checkKey hku hkk, run_findKey hku hf, hz]
theorem VR.opt {ok b : Bool} {x : AV} {v : Value} (hx : VR g x v) : VR g (if ok then .tuple [x, .sc (.bool b)] else x) (if ok then .tuple #[v, .bool b] else v) := by
  cases ok with
  | false => exact hx
  | true => exact VR.tuple_iff.2 ⟨_, rfl, hx, .sc _, trivial⟩
def FoundR (g : Gh) : Option (Nat × AV × Nat) → Option (Nat × Value) → Prop
  | none, r => r = none
  | some (_, y, _), r => ∃ j y', r = some (j, y') ∧ VR g y y'
theorem lookIn_ok {kd : TypeDesc} {x : AV} {u v : Value} {r : Option (Nat × AV × Nat)} (hw : W h g w) (hkk : keyKind kd v = true) (hx : VR g x u) (hr : lookIn h v x = some r) :
    (u = .map none ∧ r = none) ∨ ∃ b, ∃ ces : Array MapEntry, ∃ clock r', u = .map (some b) ∧ w.heap[b]? = some (.map ces clock) ∧ Instr.findNow kd v ces.toList 0 = some r' ∧ FoundR g r r' := by
  cases hx with
  | sc u =>
    unfold lookIn at hr
    split at hr
    · rename_i e; simp only [AV.sc.injEq] at e; subst e
      exact .inl ⟨rfl, by simpa using hr.symm⟩
    · rename_i e; cases e
    · cases hr
  | map hB =>
    rename_i o b s n
    simp only [lookIn] at hr
    split at hr
    · rename_i es clock hg
      obtain ⟨ces, q1, q2⟩ := hw.obj o _ hg b s n hB
      obtain ⟨r', s1, s2⟩ := findA_ok hkk hr q2
      refine .inr ⟨b, ces, clock, r', rfl, q1, s1, ?_⟩
      cases r with
      | none => exact s2
      | some q =>
        obtain ⟨j, y, b2⟩ := q
        obtain ⟨y', e1, e2, _⟩ := s2
        exact ⟨j, y', e1, e2⟩
    · cases hr
  | _ => simp [lookIn] at hr
theorem op_lookup {t : TypeId} {x k y : AV} {u v : Value} {ok : Bool} (hw : W h g w) (hx : VR g x u) (hk : VR g k v) (hr : alookup P h t x k ok = some y) :
    ∃ z, (Instr.lookup t u v ok).run P w = .ok z w ∧ VR g y z := by
  unfold alookup at hr
  split at hr
  · rename_i kt e kv hu
    cases hk
    split at hr
    · rename_i kd z hku hz
      split at hr
      · cases hr
      · rename_i hkk
        have hkk : keyKind kd v = true := by simpa using hkk
        obtain ⟨zv, hzv, rfl⟩ := run_zeroValue hz w
        split at hr
        · rename_i i x b hl
          simp only [Option.some.injEq] at hr; subst hr
          rcases lookIn_ok hw hkk hx hl with ⟨_, e1⟩ | ⟨b', ces, clock, r', rfl, q1, q2, j, x', rfl, q3⟩
          · cases e1
          · exact ⟨_, run_lookup_some hu hku hkk hzv q1 q2, VR.opt q3⟩
        · rename_i hl
          simp only [Option.some.injEq] at hr; subst hr
          rcases lookIn_ok hw hkk hx hl with ⟨rfl, _⟩ | ⟨b', ces, clock, r', rfl, q1, q2, q3⟩
          · exact ⟨_, run_lookup_nil hu hku hkk hzv, VR.opt (VR.ofVal zv)⟩
          · cases q3
            exact ⟨_, run_lookup_some hu hku hkk hzv q1 q2, VR.opt (VR.ofVal zv)⟩
        · cases hr
    · cases hr
  · cases hr
theorem EntR.length : ∀ {es : List (AV × AV × Nat)} {ces : List MapEntry}, EntR g es ces → es.length = ces.length
  | [], [], _ => rfl
  | (_, _, _) :: _, _ :: _, h => by simp [EntR.length h.2.2.2]
  | [], _ :: _, h => h.elim
  | (_, _, _) :: _, [], h => h.elim
theorem EntR.set {k v : AV} {e : MapEntry} (hk : VR g k e.key) (hv : VR g v e.val) : ∀ {es : List (AV × AV × Nat)} {ces : List MapEntry} (i : Nat), EntR g es ces → EntR g (es.set i (k, v, e.born)) (ces.set i e)
  | [], [], _, _ => by simp [EntR]
  | (_, _, _) :: _, _ :: _, 0, h => ⟨hk, hv, rfl, h.2.2.2⟩
  | (_, _, _) :: _, _ :: _, i + 1, h => ⟨h.1, h.2.1, h.2.2.1, EntR.set hk hv i h.2.2.2⟩
  | [], _ :: _, _, h => h.elim
  | (_, _, _) :: _, [], _, h => h.elim
theorem EntR.push {k v : AV} {e : MapEntry} (hk : VR g k e.key) (hv : VR g v e.val) : ∀ {es : List (AV × AV × Nat)} {ces : List MapEntry}, EntR g es ces → EntR g (es ++ [(k, v, e.born)]) (ces ++ [e])
  | [], [], _ => ⟨hk, hv, rfl, trivial⟩
  | (_, _, _) :: _, _ :: _, h => ⟨h.1, h.2.1, h.2.2.1, EntR.push hk hv h.2.2.2⟩
  | [], _ :: _, h => h.elim
  | (_, _, _) :: _, [], h => h.elim
theorem EntR.erase : ∀ {es : List (AV × AV × Nat)} {ces : List MapEntry} (i : Nat), EntR g es ces → EntR g (es.eraseIdx i) (ces.eraseIdx i)
  | [], [], _, _ => by simp [EntR]
  | (_, _, _) :: _, _ :: _, 0, h => by simpa using h.2.2.2
  | (_, _, _) :: _, _ :: _, i + 1, h => ⟨h.1, h.2.1, h.2.2.1, EntR.erase i h.2.2.2⟩
  | [], _ :: _, _, h => h.elim
  | (_, _, _) :: _, [], _, h => h.elim
theorem op_mapUpdate {t : TypeId} {x k y : AV} {u v z : Value} (hw : W h g w) (hx : VR g x u) (hk : VR g k v) (hy : VR g y z) (hr : amapUpdate P h t x k y = some h') :
    OpOK P h g w (do Instr.mapUpdate t u v z; pure .skip) .skip h' := by
  unfold amapUpdate at hr
  split at hr
  · rename_i kt e kv o hu
    cases hk
    cases hx with
    | map hB =>
      rename_i b s n
      split at hr
      · rename_i kd es clock hku hg
        split at hr
        · cases hr
        · rename_i hkk
          have hkk : keyKind kd v = true := by simpa using hkk
          obtain ⟨ces, q1, q2⟩ := hw.obj o _ hg b s n hB
          have hlen := q2.length
          split at hr
          · rename_i i y0 b0 hf
            simp only [Option.some.injEq] at hr; subst hr
            obtain ⟨r', s1, y', s2, s3, s4, s5, e0, s6, s7, s8⟩ := findA_ok hkk hf q2
            subst s2
            simp only [Nat.sub_zero] at s5 s6
            have hi : i < ces.size := by simpa using (by omega : i < ces.toList.length)
            have hce : ces[i]? = some e0 := by simpa using s6
            have hmod : (ces.modify i fun e => { e with key := v, val := z }) = ces.set i { e0 with key := v, val := z } hi := by
              apply Array.ext_getElem?
              intro j
              rw [Array.getElem?_modify, Array.getElem?_set]
              by_cases hj : i = j
              · subst hj; simp [hce]
              · simp [hj]
            have hkey := upd_ok (x' := .map (es.set i (.sc v, y, b0)) clock) hw hg hB (w' := setW w b (.map (ces.modify i fun e => { e with key := v, val := z }) clock)) rfl ?_
            · refine ⟨g, _, ?_, hkey.1, hkey.2⟩
              unfold Instr.mapUpdate
              simp only [Sem.run_bind, run_underlying hu, Result.andThen_ok, run_getObj q1 rfl, run_checkKey hku hkk, run_findKey hku s1, hce, Option.map_some, Option.getD_some, Instr.keyThatStays, s7, sameBits_self hkk, if_true,
                Sem.run_pure, run_setObj q1 rfl]
            · intro b' s' n' hb'
              rw [hB] at hb'
              simp only [Option.some.injEq, Prod.mk.injEq] at hb'
              obtain ⟨rfl, rfl, rfl⟩ := hb'
              refine ⟨_, setW_same (lt_of_heap q1), ?_⟩
              rw [hmod]
              simp only [Array.toList_set]
              rw [← s8]
              exact EntR.set (e := { e0 with key := v, val := z }) (.sc v) hy i q2
          · rename_i hf
            simp only [Option.some.injEq] at hr; subst hr
            obtain ⟨r', s1, s2⟩ := findA_ok hkk hf q2
            subst s2
            have hkey := upd_ok (x' := .map (es ++ [(.sc v, y, clock)]) (clock + 1)) hw hg hB (w' := setW w b (.map (ces.push { key := v, val := z, born := clock }) (clock + 1))) rfl ?_
            · refine ⟨g, _, ?_, hkey.1, hkey.2⟩
              unfold Instr.mapUpdate
              simp only [Sem.run_bind, run_underlying hu, Result.andThen_ok, run_getObj q1 rfl, run_checkKey hku hkk, run_findKey hku s1, Sem.run_pure, run_setObj q1 rfl]
            · intro b' s' n' hb'
              rw [hB] at hb'
              simp only [Option.some.injEq, Prod.mk.injEq] at hb'
              obtain ⟨rfl, rfl, rfl⟩ := hb'
              refine ⟨_, setW_same (lt_of_heap q1), ?_⟩
              simp only [Array.toList_push]
              exact EntR.push (e := { key := v, val := z, born := clock }) (.sc v) hy q2
          · cases hr
      · cases hr
  · cases hr
theorem op_delete {ats : Array TypeId} {t ty : TypeId} {x k : AV} {u v : Value} (hw : W h g w) (ha0 : ats[0]? = some t) (hx : VR g x u) (hk : VR g k v) (hr : adelete P h t x k = some h') :
    OpOK P h g w (do pure (.value (← Builtin.delete_ ats ty #[u, v]))) (.val undefA) h' := by
  unfold adelete at hr
  split at hr
  · rename_i kt e kv o hu
    cases hk
    cases hx with
    | map hB =>
      rename_i b s n
      split at hr
      · rename_i kd es clock hku hg
        split at hr
        · cases hr
        · rename_i hkk
          have hkk : keyKind kd v = true := by simpa using hkk
          obtain ⟨ces, q1, q2⟩ := hw.obj o _ hg b s n hB
          split at hr
          · rename_i i y0 b0 hf
            simp only [Option.some.injEq] at hr; subst hr
            obtain ⟨r', s1, y', s2, _⟩ := findA_ok hkk hf q2
            subst s2
            have hkey := upd_ok (x' := .map (es.eraseIdx i) clock) hw hg hB (w' := setW w b (.map (ces.eraseIdxIfInBounds i) clock)) rfl ?_
            · refine ⟨g, _, .tuple #[], ?_, VR.tuple_iff.2 ⟨#[], rfl, trivial⟩, hkey.1, hkey.2⟩
              unfold Builtin.delete_
              simp only [ha0, List.getElem?_toArray, List.getElem?_cons_zero, List.getElem?_cons_succ, Sem.run_bind, run_underlying hu, Result.andThen_ok, run_getObj q1 rfl, run_checkKey hku hkk, run_findKey hku s1, Sem.run_pure, run_setObj q1 rfl]
            · intro b' s' n' hb'
              rw [hB] at hb'
              simp only [Option.some.injEq, Prod.mk.injEq] at hb'
              obtain ⟨rfl, rfl, rfl⟩ := hb'
              refine ⟨_, setW_same (lt_of_heap q1), ?_⟩
              rw [Array.toList_eraseIdxIfInBounds]
              exact EntR.erase i q2
          · rename_i hf
            simp only [Option.some.injEq] at hr; subst hr
            obtain ⟨r', s1, s2⟩ := findA_ok hkk hf q2
            subst s2
            refine OpOK.same hw (x := .tuple #[]) ?_ (VR.tuple_iff.2 ⟨#[], rfl, trivial⟩)
            unfold Builtin.delete_
            simp only [ha0, List.getElem?_toArray, List.getElem?_cons_zero, List.getElem?_cons_succ, Sem.run_bind, run_underlying hu, Result.andThen_ok, run_getObj q1 rfl, run_checkKey hku hkk, run_findKey hku s1, Sem.run_pure, run_setObj q1 rfl, setW_id q1]
          · cases hr
      · cases hr
  · cases hr
end
end Go.AI
end

/-
  Operations (7): new maps, iterators, conversions, comparisons, interfaces.
-/
section
namespace Go.AI
section
variable {P : Program} {h h' : AHeap} {g : Gh} {w : World}
theorem obj_ok {x : AObj} {ob : Obj} (hw : W h g w) (hf : ∀ v, g.B h.next v = none)
    (ho : ∀ g', (g'.B h.next 0 = some (w.heap.size, 0, 0)) → g.Le g' → (∀ v y, g'.B h.next v = some y → v = 0 ∧ y = (w.heap.size, 0, 0)) → OR g' (w.alloc ob) h.next x) :
    ∃ g', g'.B h.next 0 = some (w.heap.size, 0, 0) ∧ W (h.alloc x) g' (w.alloc ob) ∧ Step h g w (h.alloc x) g' (w.alloc ob) := by
  refine ⟨g.setB h.next 0 (w.heap.size, 0, 0), Gh.setB_same _ _ _ _, ?_⟩
  refine alloc_ok hw hf rfl (ho _ (Gh.setB_same _ _ _ _) (Gh.setB_le (hf 0)) ?_)
  intro v y hy
  rcases Gh.setB_cases hy with ⟨_, e1, e2⟩ | e1
  · exact ⟨e1, e2⟩
  · rw [hf v] at e1; cases e1
theorem op_makeMap {t : TypeId} {r : Option Value} (hw : W h g w) (hf : ∀ v, g.B h.next v = none) (hr : r = none ∨ ∃ k e n i, P.underlying t = some (.map k e) ∧ r = some (.int n i)) :
    OpOK P h g w (do pure (.value (← Instr.makeMap t r))) (.val (.map h.next)) (h.alloc (.map [] 0)) := by
  obtain ⟨g', h1, h2, h3⟩ := obj_ok (x := .map [] 0) (ob := .map #[] 0) hw hf (by
    intro g' e1 _ _ b s n hb
    rw [e1] at hb
    simp only [Option.some.injEq, Prod.mk.injEq] at hb
    obtain ⟨rfl, rfl, rfl⟩ := hb
    exact ⟨#[], pushW_new _ _, trivial⟩)
  refine ⟨g', _, .map (some w.heap.size), ?_, .map h1, h2, h3⟩
  rcases hr with rfl | ⟨k, e, n, i, hu, rfl⟩
  · simp [Instr.makeMap]
  · simp [Instr.makeMap, run_underlying hu, asInt, asIntOf]
theorem op_range_string {t : TypeId} {s : ByteArray} (hw : W h g w) (hf : ∀ v, g.B h.next v = none) (hu : P.underlying t = some .string) :
    OpOK P h g w (do pure (.value (← Instr.range t (.string s)))) (.val (.ref h.next 0 0 0)) (h.alloc (.sit s 0)) := by
  obtain ⟨g', h1, h2, h3⟩ := obj_ok (x := .sit s 0) (ob := .stringIter s 0) hw hf (by
    intro g' e1 _ _ b k n hb
    rw [e1] at hb
    simp only [Option.some.injEq, Prod.mk.injEq] at hb
    obtain ⟨rfl, rfl, rfl⟩ := hb
    exact pushW_new _ _)
  refine ⟨g', _, .pointer (some ⟨w.heap.size, 0, none⟩), ?_, .ref h1, h2, h3⟩
  simp [Instr.range, run_underlying hu]
theorem op_range_nil {t k e : TypeId} (hw : W h g w) (hf : ∀ v, g.B h.next v = none) (hu : P.underlying t = some (.map k e)) :
    OpOK P h g w (do pure (.value (← Instr.range t (.map none)))) (.val (.ref h.next 0 0 0)) (h.alloc (.mit none 0 [] 0)) := by
  obtain ⟨g', h1, h2, h3⟩ := obj_ok (x := .mit none 0 [] 0) (ob := .mapIter none 0 #[] 0) hw hf (by
    intro g' e1 _ _ b k n hb
    rw [e1] at hb
    simp only [Option.some.injEq, Prod.mk.injEq] at hb
    obtain ⟨rfl, rfl, rfl⟩ := hb
    exact ⟨none, pushW_new _ _, rfl⟩)
  refine ⟨g', _, .pointer (some ⟨w.heap.size, 0, none⟩), ?_, .ref h1, h2, h3⟩
  simp [Instr.range, run_underlying hu]
theorem op_range_map {t k e : TypeId} {o b s n clock : Nat} {es : List (AV × AV × Nat)} (hw : W h g w) (hf : ∀ v, g.B h.next v = none) (hu : P.underlying t = some (.map k e))
    (hB : g.B o 0 = some (b, s, n)) (hg : h.get o = some (.map es clock)) :
    OpOK P h g w (do pure (.value (← Instr.range t (.map (some b))))) (.val (.ref h.next 0 0 0)) (h.alloc (.mit (some o) clock [] clock)) := by
  obtain ⟨ces, q1, q2⟩ := hw.obj o _ hg b s n hB
  obtain ⟨g', h1, h2, h3⟩ := obj_ok (x := .mit (some o) clock [] clock) (ob := .mapIter (some b) clock #[] clock) hw hf (by
    intro g' e1 hle _ b' k' n' hb
    rw [e1] at hb
    simp only [Option.some.injEq, Prod.mk.injEq] at hb
    obtain ⟨rfl, rfl, rfl⟩ := hb
    exact ⟨some b, pushW_new _ _, b, s, n, hle.b _ _ _ hB, rfl⟩)
  refine ⟨g', _, .pointer (some ⟨w.heap.size, 0, none⟩), ?_, .ref h1, h2, h3⟩
  simp [Instr.range, run_underlying hu, run_getObj q1 rfl]
theorem op_next_string {o b s n pos : Nat} {str : ByteArray} {ty : TypeId} (hw : W h g w) (hB : g.B o 0 = some (b, s, n)) (hg : h.get o = some (.sit str pos)) (hlt : pos < str.size) :
    OpOK P h g w (do pure (.value (← Instr.next (.pointer (some ⟨b, 0, none⟩)) true ty)))
      (.val (.tuple [.sc (.bool true), .sc (goInt pos), .sc (.int .i32 (Utf8.decode str pos).1)])) (h.upd o (.sit str (pos + (Utf8.decode str pos).2))) := by
  have q1 := hw.obj o _ hg b s n hB
  have hkey := upd_ok (x' := .sit str (pos + (Utf8.decode str pos).2)) hw hg hB (w' := setW w b (.stringIter str (pos + (Utf8.decode str pos).2))) rfl (by
    intro b' k' n' hb'
    rw [hB] at hb'
    simp only [Option.some.injEq, Prod.mk.injEq] at hb'
    obtain ⟨rfl, rfl, rfl⟩ := hb'
    exact setW_same (lt_of_heap q1))
  refine ⟨g, _, .tuple #[.bool true, goInt pos, .int .i32 (Utf8.decode str pos).1], ?_, VR.tuple_iff.2 ⟨_, rfl, .sc _, .sc _, .sc _, trivial⟩, hkey.1, hkey.2⟩
  simp [Instr.next, run_getObj q1 rfl, hlt, run_setObj q1 rfl]
theorem op_next_over {o b s n pos : Nat} {str : ByteArray} {ty : TypeId} (hw : W h g w) (hB : g.B o 0 = some (b, s, n)) (hg : h.get o = some (.sit str pos)) (hlt : ¬ pos < str.size) :
    OpOK P h g w (do pure (.value (← Instr.next (.pointer (some ⟨b, 0, none⟩)) true ty))) (.val (.tuple [.sc (.bool false)])) h := by
  have q1 := hw.obj o _ hg b s n hB
  refine OpOK.same hw (x := .tuple #[.bool false]) ?_ (VR.tuple_iff.2 ⟨_, rfl, .sc _, trivial⟩)
  simp [Instr.next, run_getObj q1 rfl, hlt]
theorem op_next_nil {o b s n since last : Nat} {seen : List Nat} {ty : TypeId} (hw : W h g w) (hB : g.B o 0 = some (b, s, n)) (hg : h.get o = some (.mit none since seen last)) :
    OpOK P h g w (do pure (.value (← Instr.next (.pointer (some ⟨b, 0, none⟩)) false ty))) (.val (.tuple [.sc (.bool false)])) h := by
  obtain ⟨mb, q1, q2⟩ := hw.obj o _ hg b s n hB
  simp only at q2
  subst q2
  refine OpOK.same hw (x := .tuple #[.bool false]) ?_ (VR.tuple_iff.2 ⟨_, rfl, .sc _, trivial⟩)
  simp [Instr.next, run_getObj q1 rfl]
theorem EntR.filter (p : Nat → Bool) : ∀ {es : List (AV × AV × Nat)} {ces : List MapEntry}, EntR g es ces → EntR g (es.filter fun e => p e.2.2) (ces.filter fun e => p e.born)
  | [], [], _ => trivial
  | (k, v, b) :: es, e :: ces, hh => by
    obtain ⟨h1, h2, h3, h4⟩ := hh
    subst h3
    simp only [List.filter_cons]
    cases p e.born with
    | false => simpa using EntR.filter p h4
    | true => simpa using ⟨h1, h2, rfl, EntR.filter p h4⟩
  | [], _ :: _, hh => hh.elim
  | (_, _, _) :: _, [], hh => hh.elim
theorem EntR.all (p : Nat → Bool) : ∀ {es : List (AV × AV × Nat)} {ces : List MapEntry}, EntR g es ces → (es.all fun e => p e.2.2) = (ces.all fun e => p e.born)
  | [], [], _ => rfl
  | (_, _, _) :: _, _ :: _, hh => by
    obtain ⟨h1, h2, h3, h4⟩ := hh
    subst h3
    simp [EntR.all p h4]
  | [], _ :: _, hh => hh.elim
  | (_, _, _) :: _, [], hh => hh.elim
theorem op_next_map {o m b s n bm sm nm since last clock : Nat} {seen : List Nat} {es : List (AV × AV × Nat)} {ty : TypeId} {r : ANext}
    (hw : W h g w) (hB : g.B o 0 = some (b, s, n)) (hg : h.get o = some (.mit (some m) since seen last)) (hBm : g.B m 0 = some (bm, sm, nm)) (hgm : h.get m = some (.map es clock))
    (hok : (!seen.isEmpty && !es.isEmpty && es.all (fun e => decide (last ≤ e.2.2))) = false)
    (hr : (match es.filter (fun e => !seen.contains e.2.2) with
          | [] => some (.val (.tuple [.sc (.bool false)]), h)
          | [e] => if e.2.2 < since then
              some (.val (.tuple [.sc (.bool true), e.1, e.2.1]), h.upd o (.mit (some m) since (seen ++ [e.2.2]) clock)) else none
          | _ => none) = some (r, h')) :
    OpOK P h g w (do pure (.value (← Instr.next (.pointer (some ⟨b, 0, none⟩)) false ty))) r h' := by
  obtain ⟨mb, q1, b', s', n', q2, rfl⟩ := hw.obj o _ hg b s n hB
  rw [hBm] at q2
  simp only [Option.some.injEq, Prod.mk.injEq] at q2
  obtain ⟨rfl, rfl, rfl⟩ := q2
  obtain ⟨ces, q3, q4⟩ := hw.obj m _ hgm bm sm nm hBm
  have hall := EntR.all (fun k => decide (last ≤ k)) q4
  have hlen := q4.length
  have hfil := EntR.filter (fun k => !seen.contains k) q4
  have hok' : (!seen.toArray.isEmpty && !ces.isEmpty && ces.all (fun e => decide (e.born ≥ last))) = false := by
    rw [← hok]
    congr 1
    · congr 1
      · simp
      · congr 1
        rw [Bool.eq_iff_iff]
        simp only [Array.isEmpty_iff, List.isEmpty_iff]
        constructor
        · intro e; subst e; simpa using hlen
        · intro e; subst e; simp at hlen
          exact Array.eq_empty_of_size_eq_zero (by simpa using hlen.symm)
    · rw [hall, ← Array.all_toList]
  have hleft : ces.filter (fun e => !seen.toArray.contains e.born) = (ces.toList.filter fun e => !seen.contains e.born).toArray := by
    apply Array.ext'
    simp
  split at hr
  · rename_i hnil
    simp only [Option.some.injEq, Prod.mk.injEq] at hr
    obtain ⟨rfl, rfl⟩ := hr
    rw [hnil] at hfil
    have hcn : (ces.toList.filter fun e => !seen.contains e.born) = [] := by
      cases hx : (ces.toList.filter fun e => !seen.contains e.born) with
      | nil => rfl
      | cons _ _ => rw [hx] at hfil; exact hfil.elim
    refine OpOK.same hw (x := .tuple #[.bool false]) ?_ (VR.tuple_iff.2 ⟨_, rfl, .sc _, trivial⟩)
    rw [hcn] at hleft
    simp only [Instr.next, Sem.run_bind, run_getObj q1 rfl, Result.andThen_ok, run_getObj q3 rfl, hok', Bool.false_eq_true, if_false, hleft]
    simp [Question.forced]
  · rename_i e heq
    split at hr
    · rename_i hlt
      simp only [Option.some.injEq, Prod.mk.injEq] at hr
      obtain ⟨rfl, rfl⟩ := hr
      rw [heq] at hfil
      obtain ⟨k, v, bo⟩ := e
      generalize hx : (ces.toList.filter fun e => !seen.contains e.born) = fl at hfil hleft
      match fl, hfil, hleft with
      | [ce], hfil, hleft =>
        obtain ⟨f1, f2, f3, _⟩ := hfil
        simp only at hlt f3
        have hlt' : ce.born < since := by omega
        have hnge : ¬ since ≤ ce.born := by omega
        have hkey := upd_ok (x' := .mit (some m) since (seen ++ [bo]) clock) hw hg hB (w' := setW w b (.mapIter (some bm) since (seen.toArray.push ce.born) clock)) rfl (by
          intro b' k' n' hb'
          rw [hB] at hb'
          simp only [Option.some.injEq, Prod.mk.injEq] at hb'
          obtain ⟨rfl, rfl, rfl⟩ := hb'
          refine ⟨some bm, ?_, bm, sm, nm, hBm, rfl⟩
          rw [setW_same (lt_of_heap q1), f3]
          simp)
        refine ⟨g, _, .tuple #[.bool true, ce.key, ce.val], ?_, VR.tuple_iff.2 ⟨_, rfl, .sc _, f1, f2, trivial⟩, hkey.1, hkey.2⟩
        simp only [Instr.next, Sem.run_bind, run_getObj q1 rfl, Result.andThen_ok, run_getObj q3 rfl, hok', Bool.false_eq_true, if_false, hleft]
        simp [Question.forced, hlt', hnge, run_setObj q1 rfl]
      | [], hfil, _ => exact hfil.elim
      | _ :: _ :: _, hfil, _ => exact hfil.2.2.2.elim
    · cases hr
  · cases hr
end
end Go.AI
end

/-
  Operations (8): conversions, comparisons, interfaces, functions without a body.
-/
section
namespace Go.AI
section
variable {P : Program} {h h' : AHeap} {g : Gh} {w : World}
theorem pure_ok {s : Sem Value} {y : AV} (h1 : (peel P s).map ofVal = some y) : ∃ u, s.run P w = .ok u w ∧ VR g y u := by
  cases hp : peel P s with
  | none => rw [hp] at h1; cases h1
  | some u => rw [hp] at h1; simp at h1; subst h1; exact ⟨u, peel_run hp w, VR.ofVal u⟩
theorem bytesOfA_ok : ∀ {xs : List AV} {vs : List Value} {bs : List UInt8}, bytesOfA xs = some bs → VRs g xs vs → ∃ ns : List Int, vs = ns.map (Value.int .u8) ∧ bs = ns.map fun n => UInt8.ofNat n.toNat
  | [], [], bs, hb, _ => by simp [bytesOfA] at hb; subst hb; exact ⟨[], rfl, rfl⟩
  | x :: xs, v :: vs, bs, hb, hr => by
    unfold bytesOfA at hb
    split at hb
    · rename_i e; cases e
    · rename_i n xs' e
      simp only [List.cons.injEq] at e
      obtain ⟨rfl, rfl⟩ := e
      cases hbb : bytesOfA xs with
      | none => rw [hbb] at hb; cases hb
      | some l =>
        rw [hbb] at hb; simp at hb; subst hb
        obtain ⟨ns, e1, e2⟩ := bytesOfA_ok hbb hr.2
        have h1 := hr.1
        cases h1
        exact ⟨n :: ns, by simp [e1], by simp [e2]⟩
    · cases hb
  | [], _ :: _, _, _, hr => hr.elim
  | _ :: _, [], _, _, hr => hr.elim
theorem shape_of {b : Nat} {c : Array Value} {el : TypeId} {f : Nat × Nat} (hh : w.heap[b]? = some (.cells c el f)) : w.shape? b = some (el, c.size) := by
  unfold World.shape?; simp [hh]
theorem run_viewAt {b : Nat} {c : Array Value} {el : TypeId} {f : Nat × Nat} (hh : w.heap[b]? = some (.cells c el f)) : (viewAt b).run P w = .ok none w := by
  unfold viewAt
  simp [shape_of hh]
theorem run_seenAt {b off : Nat} {c : Array Value} {el : TypeId} {f : Nat × Nat} (hh : w.heap[b]? = some (.cells c el f)) : (Conv.seenAt ⟨b, off, none⟩).run P w = .ok ⟨b, off, none⟩ w := by
  unfold Conv.seenAt
  simp only [Sem.run_bind, run_viewAt hh, Result.andThen_ok, Sem.run_pure]
theorem rd_block {o ver n off s b sz : Nat} {cs : List AV} (hw : W h g w) (hr : rdCells h o ver n off s = some cs) (hb : g.B o ver = some (b, sz, n)) :
    ∃ v m c fz el ex sh, h.get o = some (.cells v m c fz el ex sh) ∧ ∃ ca f, CellsOK g w b sz n c fz el ex sh ca f ∧ off + s ≤ n := by
  unfold rdCells at hr
  split at hr
  · rename_i v m c fz el ex sh hx
    split at hr
    · rename_i hc
      obtain ⟨h1, h2, h3⟩ := hc
      obtain ⟨_, ca, f, hk⟩ := (hw.obj o _ hx).2 ver h1 h2 b sz n hb
      exact ⟨v, m, c, fz, el, ex, sh, hx, ca, f, hk, h3⟩
    · cases hr
  · cases hr
theorem bytesWorld_push (w : World) (e : TypeId) (s : ByteArray) :
    Lib.bytesWorld w e s = pushW { w with drawn := w.drawn + 1 } (.cells (Lib.bytesCells w e s) e ((Lib.bytesCells w e s).size, (Lib.bytesCells w e s).size + 1)) := by
  have hh : (Lib.bytesWorld w e s).heap = w.heap.push (.cells (Lib.bytesCells w e s) e ((Lib.bytesCells w e s).size, (Lib.bytesCells w e s).size + 1)) := by
    apply Array.ext_getElem?
    intro j
    rcases Nat.lt_trichotomy j w.heap.size with h | h | h
    · rw [Lib.bytesWorld_at_old w e s j h, Array.getElem?_push, if_neg (by omega)]
    · subst h; rw [Lib.bytesWorld_at_new, Array.getElem?_push, if_pos rfl]
    · rw [Array.getElem?_eq_none (by rw [Lib.bytesWorld_size]; omega), Array.getElem?_eq_none (by simp; omega)]
  have hd : (Lib.bytesWorld w e s).drawn = w.drawn + 1 := rfl
  show Lib.bytesWorld w e s = { w with drawn := w.drawn + 1, heap := w.heap.push _ }
  rw [← hh]
  rfl
theorem op_string_bytes {src dst e : TypeId} {s : ByteArray} (hw : W h g w) (hf : ∀ v, g.B h.next v = none) (hs : P.underlying src = some .string) (hd : P.underlying dst = some (.slice e)) (he : P.underlying e = some (.int .u8)) :
    OpOK P h g w (do pure (.value (← convert src dst (.string s)))) (.val (.sl h.next 0 s.size 0 1 s.size none)) (h.alloc (.cells 0 0 (s.data.toList.map fun b => .sc (.int .u8 b.toNat)) 0 e false true)) := by
  have hr := Lib.run_convert_string_bytes (P := P) w src dst e s hs hd he
  have hcap : s.size ≤ grownCap w s.size 0 e := by simp [grownCap, Question.cut]
  have hcs : (Lib.bytesCells w e s).size = grownCap w s.size 0 e := by
    simp only [Lib.bytesCells, Array.size_append, Array.size_map, Array.size_replicate]
    have : s.data.size = s.size := rfl
    omega
  rw [bytesWorld_push] at hr
  have hkey := alloc_ok (x := .cells 0 0 (s.data.toList.map fun b => .sc (.int .u8 b.toNat)) 0 e false true) (s := grownCap w s.size 0 e) (n := s.size) (hw.drew (w.drawn + 1)) hf
    (w' := pushW { w with drawn := w.drawn + 1 } (.cells (Lib.bytesCells w e s) e ((Lib.bytesCells w e s).size, (Lib.bytesCells w e s).size + 1))) rfl ?_
  · refine ⟨_, _, .slice (some ⟨w.heap.size, 0, none⟩) s.size (grownCap w s.size 0 e), by simp only [Sem.run_bind, hr, Result.andThen_ok, Sem.run_pure], ?_, hkey.1, ?_⟩
    · refine .sl (Gh.setB_same _ _ _ _) ?_ hcap (by simp)
      simp
    · have h2 := hkey.2
      exact { h2 with size := h2.size, fr := h2.fr, tape := h2.tape, os := h2.os, out := h2.out, old := h2.old, newM := h2.newM }
  · refine ⟨fun v hv => ?_, ?_⟩
    · cases e' : (g.setB h.next 0 (w.heap.size, grownCap w s.size 0 e, s.size)).B h.next v with
      | none => rfl
      | some y =>
        rcases Gh.setB_cases e' with ⟨_, e', _⟩ | e'
        · omega
        · rw [hf v] at e'; cases e'
    intro v h1 h2 b s' n' hb
    have hv : v = 0 := by omega
    subst hv
    have hb' : some (w.heap.size, grownCap w s.size 0 e, s.size) = some (b, s', n') := (Gh.setB_same _ _ _ _).symm.trans hb
    simp only [Option.some.injEq, Prod.mk.injEq] at hb'
    obtain ⟨rfl, rfl, rfl⟩ := hb'
    have hln : (s.data.toList.map fun b => AV.sc (.int .u8 b.toNat)).length = s.size := by simp
    refine ⟨fun _ => hln.symm, Lib.bytesCells w e s, _, ⟨pushW_new { w with drawn := w.drawn + 1 } _, hcs, by omega, hcap, (by simp), ?_, (by simp), ?_⟩⟩
    · intro i hi h1 h2
      simp only at h1 h2
      omega
    · intro i x hi hx
      rw [List.getElem?_map] at hx
      cases hb : s.data.toList[i]? with
      | none => rw [hb] at hx; cases hx
      | some u =>
        rw [hb] at hx
        simp only [Option.map_some, Option.some.injEq] at hx
        subst hx
        refine ⟨_, ?_, .sc _⟩
        unfold Lib.bytesCells
        have hi' : i < s.data.size := hi
        rw [Array.getElem?_append_left (by simpa using hi'), Array.getElem?_map]
        rw [show s.data[i]? = some u by rw [← Array.getElem?_toList]; exact hb]
        rfl
theorem op_convert {src dst : TypeId} {x r : AV} {v : Value} (hw : W h g w) (hf : ∀ v, g.B h.next v = none) (hx : VR g x v) (hr : aconvert P h src dst x = some (r, h')) :
    OpOK P h g w (do pure (.value (← convert src dst v))) (.val r) h' := by
  unfold aconvert at hr
  split at hr
  · -- bytes to a string
    rename_i e hs hd
    split at hr
    · rename_i n he hn hsl
      split at hr
      · rename_i l hfa
        cases hbs : bytesOfA l with
        | none => rw [hbs] at hr; cases hr
        | some bs =>
          rw [hbs] at hr
          simp only [Option.map_some, Option.some.injEq, Prod.mk.injEq] at hr
          obtain ⟨rfl, rfl⟩ := hr
          obtain ⟨vs, q1, q2, q3⟩ := firstA_ok (P := P) hw hx hfa
          obtain ⟨ns, e1, e2⟩ := bytesOfA_ok hbs q1
          have q3 := q3 w.drawn
          have hsl' : ∃ a c, v = .slice a n c := by
            unfold lenA at hn
            split at hn
            · cases hx; simp at hn; subst hn; exact ⟨_, _, rfl⟩
            · cases hx; simp at hn; subst hn; exact ⟨_, _, rfl⟩
            · cases hx with
              | islNil => simp at hn; subst hn; exact ⟨_, _, rfl⟩
              | islE _ => simp at hn; subst hn; exact ⟨_, _, rfl⟩
              | isl _ _ _ => simp at hn; subst hn; exact ⟨_, _, rfl⟩
            · cases hx; simp at hn; subst hn; exact ⟨_, _, rfl⟩
            · cases hx; simp at hn; subst hn; exact ⟨_, _, rfl⟩
            · simp [isSl] at hsl
            · cases hn
          obtain ⟨a, c, rfl⟩ := hsl'
          refine OpOK.same hw (x := .string ⟨bs.toArray⟩) ?_ (.sc _)
          simp only [Sem.run_bind]
          rw [run_convert_bytes_string w src dst e a n c hs he hd]
          cases a with
          | none =>
            simp only [Builtin.firstCells, Sem.run_pure, Result.ok.injEq, and_true] at q3
            have : vs = [] := by simpa using q3.symm
            rw [this] at e1
            have : ns = [] := by simpa using e1.symm
            subst this
            subst e2
            simp [Conv.bytesToString]
            rfl
          | some a =>
            have hl : (loadCells a n).run P w = .ok (ns.map (Value.int .u8)).toArray w := by
              rw [← e1]
              have : (Builtin.firstCells 1 n (.slice (some a) n c)).run P w = (loadCells a (n * 1)).run P w := rfl
              rw [Nat.mul_one] at this
              rw [← this]; exact q3
            rw [run_bytesToString w a n c ns hl, foldl_push_bytes, e2, show ByteArray.empty.data = #[] from rfl, Array.empty_append]
            rfl
      · cases hr
    · cases hr
  · -- a string to bytes
    rename_i e hs hd
    split at hr
    · rename_i s he
      split at hr
      · simp only [Option.some.injEq, Prod.mk.injEq] at hr
        obtain ⟨rfl, rfl⟩ := hr
        cases hx
        exact op_string_bytes hw hf hs hd he
      · cases hr
    · cases hr
  · -- a pointer to unsafe.Pointer
    rename_i t hs hd
    split at hr
    · rename_i o ver n off k hsz
      split at hr
      · rename_i cs hrd
        simp only [Option.some.injEq, Prod.mk.injEq] at hr
        obtain ⟨rfl, rfl⟩ := hr
        have hx0 := hx
        cases hx with
        | ref hB =>
          rename_i b sb
          obtain ⟨v', m', c', fz, el, ex, sh, _, ca, f, hk, hle⟩ := rd_block hw hrd hB
          refine OpOK.same hw (x := .pointer (some ⟨b, off, none⟩)) ?_ hx0
          have h1 : ¬ ca.size ≤ off := by have := hk.les; have := hk.size; omega
          simp [convert, run_underlying hs, run_underlying hd, Conv.unsafePointer, run_seenAt hk.here, cellsIn, shape_of hk.here, run_sizeOf hsz, h1]
      · cases hr
    · simp only [Option.some.injEq, Prod.mk.injEq] at hr
      obtain ⟨rfl, rfl⟩ := hr
      cases hx
      refine OpOK.same hw (x := .pointer none) ?_ (.sc _)
      simp [convert, run_underlying hs, run_underlying hd, Conv.unsafePointer]
    · cases hr
  · -- unsafe.Pointer to itself
    rename_i hs hd
    split at hr
    · simp only [Option.some.injEq, Prod.mk.injEq] at hr
      obtain ⟨rfl, rfl⟩ := hr
      have hx0 := hx
      cases hx with
      | ref hB =>
        refine OpOK.same hw ?_ hx0
        simp [convert, run_underlying hs, run_underlying hd, Conv.unsafePointer]
    · simp only [Option.some.injEq, Prod.mk.injEq] at hr
      obtain ⟨rfl, rfl⟩ := hr
      cases hx
      refine OpOK.same hw (x := .pointer none) ?_ (.sc _)
      simp [convert, run_underlying hs, run_underlying hd, Conv.unsafePointer]
    · cases hr
  · -- unsafe.Pointer to a pointer
    rename_i u hs hd
    split at hr
    · rename_i o ver n off k hsz
      split at hr
      · rename_i cs v2 m2 c2 fz2 el2 sh2 hrd hget
        split at hr
        · rename_i hlies
          simp only [Option.some.injEq, Prod.mk.injEq] at hr
          obtain ⟨rfl, rfl⟩ := hr
          have hx0 := hx
          cases hx with
          | ref hB =>
            rename_i b sb
            obtain ⟨v', m', c', fz, el, ex, sh, hg', ca, f, hk, hle⟩ := rd_block hw hrd hB
            rw [hget] at hg'
            simp only [Option.some.injEq, AObj.cells.injEq] at hg'
            obtain ⟨rfl, rfl, rfl, rfl, rfl, rfl, rfl⟩ := hg'
            refine OpOK.same hw (x := .pointer (some ⟨b, off, none⟩)) ?_ hx0
            have hcs : ca.size = c2.length := by rw [hk.size, hk.exact rfl]
            simp [convert, run_underlying hs, run_underlying hd, Conv.unsafePointer, run_seenAt hk.here, variablesAt, shape_of hk.here, run_sizeOf hsz, hcs, hlies]
        · cases hr
      · cases hr
    · simp only [Option.some.injEq, Prod.mk.injEq] at hr
      obtain ⟨rfl, rfl⟩ := hr
      cases hx
      refine OpOK.same hw (x := .pointer none) ?_ (.sc _)
      simp [convert, run_underlying hs, run_underlying hd, Conv.unsafePointer]
    · cases hr
  · -- plain values
    split at hr
    · rename_i v' hv
      cases hp : peel P (convert src dst v') with
      | none => rw [hp] at hr; cases hr
      | some u =>
        rw [hp] at hr
        simp only [Option.map_some, Option.some.injEq, Prod.mk.injEq] at hr
        obtain ⟨rfl, rfl⟩ := hr
        rw [toVal_eq hv hx]
        exact OpOK.same hw (by simp [peel_run hp w]) (VR.ofVal u)
    · cases hr
  · cases hr
end
end Go.AI
end

/-
  Operations (9): comparisons, interfaces, calls, built-in functions.
-/
section
namespace Go.AI
section
variable {P : Program} {h h' : AHeap} {g : Gh} {w : World}
inductive NilPair : TypeDesc → Value → Value → Prop where
  | ptr (e : TypeId) (p : Addr) : NilPair (.pointer e) (.pointer (some p)) (.pointer none)
  | slice (e : TypeId) (p : Addr) (l c l' c' : Nat) : NilPair (.slice e) (.slice (some p) l c) (.slice none l' c')
  | map (k e : TypeId) (r : Nat) : NilPair (.map k e) (.map (some r)) (.map none)
  | func (ps rs : Array TypeId) (v : Bool) (fn : Fn) (a c : Array Value) : NilPair (.func ps rs v) (.func fn a c) .nilFunc
  | iface (ms : Array (String × TypeId)) (t : TypeId) (v : Value) : NilPair (.interface ms) (.iface t v) .nilIface
theorem nilPair_of {d : TypeDesc} {x y : AV} {a b : Value} (h1 : nilType d x = true) (h2 : nilOf d y = true) (hx : VR g x a) (hy : VR g y b) : NilPair d a b := by
  unfold nilType at h1
  split at h1
  · unfold nilOf at h2
    split at h2 <;> first | (cases h2; done) | (rename_i e; cases e; done) | skip
    cases hx; cases hy; exact .ptr _ _
  · unfold nilOf at h2
    split at h2 <;> first | (cases h2; done) | (rename_i e; cases e; done) | skip
    cases hx; cases hy; exact .ptr _ _
  · unfold nilOf at h2
    split at h2 <;> first | (cases h2; done) | (rename_i e; cases e; done) | skip
    cases hx; cases hy; exact .slice _ _ _ _ _ _
  · unfold nilOf at h2
    split at h2 <;> first | (cases h2; done) | (rename_i e; cases e; done) | skip
    cases hx; cases hy; exact .slice _ _ _ _ _ _
  · unfold nilOf at h2
    split at h2 <;> first | (cases h2; done) | (rename_i e; cases e; done) | skip
    cases hx; cases hy; exact .slice _ _ _ _ _ _
  · unfold nilOf at h2
    split at h2 <;> first | (cases h2; done) | (rename_i e; cases e; done) | skip
    cases hx; cases hy; exact .slice _ _ _ _ _ _
  · unfold nilOf at h2
    split at h2 <;> first | (cases h2; done) | (rename_i e; cases e; done) | skip
    cases hx; cases hy; exact .map _ _ _
  · unfold nilOf at h2
    split at h2 <;> first | (cases h2; done) | (rename_i e; cases e; done) | skip
    cases hx; cases hy; exact .func _ _ _ _ _ _
  · unfold nilOf at h2
    split at h2 <;> first | (cases h2; done) | (rename_i e; cases e; done) | skip
    cases hx; cases hy; exact .func _ _ _ _ _ _
  · unfold nilOf at h2
    split at h2 <;> first | (cases h2; done) | (rename_i e; cases e; done) | skip
    cases hx; cases hy; exact .iface _ _ _
  · cases h1
theorem run_equalIn_nil {d : TypeDesc} {t : TypeId} {a b : Value} (hu : P.underlying t = some d) (hp : NilPair d a b) (n : Nat) :
    (Op.equalIn (n + 1) t a b).run P w = .ok false w ∧ (Op.equalIn (n + 1) t b a).run P w = .ok false w := by
  cases hp <;> constructor <;> simp only [Op.equalIn, Sem.run_bind, run_underlying hu, Result.andThen_ok, Sem.run_pure, Option.isNone_some]
theorem run_eq_of {op : BinOp} {t : TypeId} {xo yo : Operand} {a b : Value} {r : Bool} (hop : op = .eql ∨ op = .neq) (he : (Op.equal t a b).run P w = .ok r w)
    (hg : ∀ op, (eqGuard op t xo yo a b).run P w = .ok () w)
    (hb : ∀ op, (op = BinOp.eql → binOp op t a b = (do pure (.bool (← Op.equal t a b)))) ∧ (op = BinOp.neq → binOp op t a b = (do pure (.bool (!(← Op.equal t a b)))))) :
    (do eqGuard op t xo yo a b; binOp op t a b : Sem Value).run P w = .ok (.bool (if op = .eql then r else !r)) w := by
  rcases hop with rfl | rfl
  · simp only [Sem.run_bind, hg, Result.andThen_ok, (hb .eql).1 rfl, he, Sem.run_pure, if_true]
  · simp only [Sem.run_bind, hg, Result.andThen_ok, (hb .neq).2 rfl, he, Sem.run_pure]
    simp
def eqPlain : Value → Value → Bool
  | .pointer _, .pointer _ => true
  | .slice .., .slice .. => true
  | .map _, .map _ => true
  | .func .., .nilFunc | .nilFunc, .func .. => true
  | .iface .., .nilIface | .nilIface, .iface .. => true
  | .iface .., .iface .. => true
  | _, _ => false
theorem eqPlain_guard {t : TypeId} {xo yo : Operand} {a b : Value} (hp : eqPlain a b = true) (op : BinOp) : (eqGuard op t xo yo a b).run P w = .ok () w := by
  unfold eqPlain at hp
  split at hp <;> first | (cases hp; done) | skip
  all_goals
    unfold eqGuard
    cases op <;> rfl
theorem eqPlain_bin {t : TypeId} {a b : Value} (hp : eqPlain a b = true) (op : BinOp) :
    (op = .eql → binOp op t a b = (do pure (.bool (← Op.equal t a b)))) ∧ (op = .neq → binOp op t a b = (do pure (.bool (!(← Op.equal t a b))))) := by
  unfold eqPlain at hp
  split at hp <;> first | (cases hp; done) | skip
  all_goals exact ⟨fun e => by subst e; rfl, fun e => by subst e; rfl⟩
theorem aeq_ok {t : TypeId} {x y : AV} {a b : Value} {r : Bool} (hx : VR g x a) (hy : VR g y b) (hr : aeq P t x y = some r) : eqPlain a b = true ∧ (Op.equal t a b).run P w = .ok r w := by
  unfold aeq at hr
  split at hr
  · rename_i d hu
    split at hr
    · rename_i hc
      simp only [Option.some.injEq] at hr; subst hr
      simp only [Bool.or_eq_true, Bool.and_eq_true] at hc
      rcases hc with ⟨h1, h2⟩ | ⟨h1, h2⟩
      · have hp := nilPair_of h1 h2 hx hy
        refine ⟨by cases hp <;> rfl, (run_equalIn_nil hu hp 9999).1⟩
      · have hp := nilPair_of h1 h2 hy hx
        refine ⟨by cases hp <;> rfl, (run_equalIn_nil hu hp 9999).2⟩
    · split at hr
      · rename_i e o v n off o' v' n' off' hnil
        split at hr
        · rename_i hc
          obtain ⟨rfl, rfl, h3, h4⟩ := hc
          simp only [Option.some.injEq] at hr; subst hr
          cases hx with
          | ref hB =>
            cases hy with
            | ref hB' =>
              rename_i b s b' s'
              rw [hB] at hB'
              simp only [Option.some.injEq, Prod.mk.injEq] at hB'
              obtain ⟨rfl, rfl, rfl⟩ := hB'
              refine ⟨rfl, ?_⟩
              cases hs : sizeT P e with
              | none => rw [hs] at h4; cases h4
              | some k =>
                have hk : k ≠ 0 := fun e' => h3 (by rw [hs, e'])
                have key : ∀ m : Nat, (Op.equalIn (m + 1) t (.pointer (some ⟨b, off, none⟩)) (.pointer (some ⟨b, off', none⟩))).run P w = .ok (off == off') w := by
                  intro m
                  simp only [Op.equalIn, Sem.run_bind, run_underlying hu, Result.andThen_ok, run_sizeOf hs]
                  rw [if_pos hk]
                  unfold sameAddr
                  simp only [beq_self_eq_true, if_true, Sem.run_pure]
                  congr 1
                  rw [Bool.eq_iff_iff]
                  simp
                exact key 9999
        · cases hr
      · split at hr
        · rename_i hne
          simp only [Option.some.injEq] at hr; subst hr
          cases hx; cases hy
          refine ⟨rfl, ?_⟩
          have key : ∀ (m : Nat) (u v : Value) (ta tb : TypeId), ta ≠ tb → (Op.equalIn (m + 1) t (.iface ta u) (.iface tb v)).run P w = .ok false w := by
            intro m u v ta tb hne
            simp only [Op.equalIn, Sem.run_bind, run_underlying hu, Result.andThen_ok]
            rw [if_pos hne]; rfl
          exact key 9999 _ _ _ _ hne
        · cases hr
      · split at hr
        · rename_i hne
          simp only [Option.some.injEq] at hr; subst hr
          cases hx; cases hy
          refine ⟨rfl, ?_⟩
          have key : ∀ (m : Nat) (u v : Value) (ta tb : TypeId), ta ≠ tb → (Op.equalIn (m + 1) t (.iface ta u) (.iface tb v)).run P w = .ok false w := by
            intro m u v ta tb hne
            simp only [Op.equalIn, Sem.run_bind, run_underlying hu, Result.andThen_ok]
            rw [if_pos hne]; rfl
          exact key 9999 _ _ _ _ hne
        · cases hr
      · split at hr
        · rename_i hne
          simp only [Option.some.injEq] at hr; subst hr
          cases hx; cases hy
          refine ⟨rfl, ?_⟩
          have key : ∀ (m : Nat) (u v : Value) (ta tb : TypeId), ta ≠ tb → (Op.equalIn (m + 1) t (.iface ta u) (.iface tb v)).run P w = .ok false w := by
            intro m u v ta tb hne
            simp only [Op.equalIn, Sem.run_bind, run_underlying hu, Result.andThen_ok]
            rw [if_pos hne]; rfl
          exact key 9999 _ _ _ _ hne
        · cases hr
      · cases hr
  · cases hr
theorem op_bin {op : BinOp} {t : TypeId} {xo yo : Operand} {x y r : AV} {a b : Value} (hx : VR g x a) (hy : VR g y b) (hr : abin P op t xo yo x y = some r) :
    ∃ u, (do eqGuard op t xo yo a b; binOp op t a b : Sem Value).run P w = .ok u w ∧ VR g r u := by
  unfold abin at hr
  split at hr
  · rename_i a' b' ha hb
    rw [toVal_eq ha hx, toVal_eq hb hy]
    exact pure_ok hr
  · split at hr
    · cases he : aeq P t x y with
      | none => rw [he] at hr; cases hr
      | some q =>
        rw [he] at hr; simp at hr; subst hr
        obtain ⟨h1, h2⟩ := aeq_ok (w := w) hx hy he
        refine ⟨_, run_eq_of (.inl rfl) h2 (eqPlain_guard h1) (eqPlain_bin h1), ?_⟩
        simp; exact .sc _
    · cases he : aeq P t x y with
      | none => rw [he] at hr; cases hr
      | some q =>
        rw [he] at hr; simp at hr; subst hr
        obtain ⟨h1, h2⟩ := aeq_ok (w := w) hx hy he
        refine ⟨_, run_eq_of (.inr rfl) h2 (eqPlain_guard h1) (eqPlain_bin h1), ?_⟩
        simp; exact .sc _
    · cases hr
theorem inner_ok {x : AV} {v : Value} {t : TypeId} {y : AV} (hx : VR g x v) (hr : innerA x = some (t, y)) : ∃ u, v = .iface t u ∧ VR g y u := by
  unfold innerA at hr
  split at hr
  · simp only [Option.some.injEq, Prod.mk.injEq] at hr
    obtain ⟨rfl, rfl⟩ := hr
    cases hx with
    | iface h1 => exact ⟨_, rfl, h1⟩
  · simp only [Option.some.injEq, Prod.mk.injEq] at hr
    obtain ⟨rfl, rfl⟩ := hr
    cases hx
    exact ⟨_, rfl, VR.ofVal _⟩
  · cases hr
theorem op_assert {x r : AV} {v : Value} {xt asserted : TypeId} {ok : Bool} (hx : VR g x v) (hr : aassert P x asserted ok = some r) :
    ∃ u, (Instr.typeAssert v xt asserted ok).run P w = .ok u w ∧ VR g r u := by
  unfold aassert at hr
  -- the two outcomes
  have fails : ∀ (a b : Option TypeId) (m : String), failsA P asserted ok = some r →
      ∃ u, ((if ok then do pure (.tuple #[← zeroValue asserted, .bool false]) else runtimePanic (.typeAssertion a b asserted m) : Sem Value)).run P w = .ok u w ∧ VR g r u := by
    intro a b m hf
    unfold failsA at hf
    cases ok with
    | false => cases hf
    | true =>
      cases hz : zeroT P asserted with
      | none => simp [hz] at hf
      | some z =>
        simp [hz] at hf; subst hf
        obtain ⟨zv, h1, rfl⟩ := run_zeroValue hz w
        exact ⟨.tuple #[zv, .bool false], by simp [h1], VR.tuple_iff.2 ⟨_, rfl, VR.ofVal zv, .sc _, trivial⟩⟩
  split at hr
  · rename_i want hu
    split at hr
    · rename_i t y hin
      obtain ⟨u, rfl, hy⟩ := inner_ok hx hin
      split at hr
      · rename_i i hi
        split at hr
        · rename_i hm
          simp only [Option.some.injEq] at hr; subst hr
          refine ⟨_, ?_, VR.opt (b := true) hx⟩
          simp only [Instr.typeAssert, Sem.run_bind, run_underlying hu, Result.andThen_ok, run_typeInfo hi, hm, Sem.run_pure]
        · rename_i m hm
          obtain ⟨u', h1, h2⟩ := fails none (some t) m hr
          refine ⟨u', ?_, h2⟩
          rw [← h1]
          simp only [Instr.typeAssert, Sem.run_bind, run_underlying hu, Result.andThen_ok, run_typeInfo hi, hm]
      · cases hr
    · split at hr
      · cases hx
        obtain ⟨u', h1, h2⟩ := fails none none "" hr
        refine ⟨u', ?_, h2⟩
        rw [← h1]
        simp only [Instr.typeAssert, Sem.run_bind, run_underlying hu, Result.andThen_ok]
      · cases hr
  · rename_i d hd hu
    split at hr
    · rename_i t y hin
      obtain ⟨u, rfl, hy⟩ := inner_ok hx hin
      have hrun : (Instr.typeAssert (.iface t u) xt asserted ok).run P w =
          (if t = asserted then pure (if ok then .tuple #[u, .bool true] else u) else
            if ok then do pure (.tuple #[← zeroValue asserted, .bool false]) else runtimePanic (.typeAssertion (some xt) (some t) asserted "") : Sem Value).run P w := by
        simp only [Instr.typeAssert, Sem.run_bind, run_underlying hu, Result.andThen_ok]
      split at hr
      · rename_i e
        simp only [Option.some.injEq] at hr; subst hr
        refine ⟨_, ?_, VR.opt (b := true) hy⟩
        rw [hrun, if_pos e]; rfl
      · rename_i e
        obtain ⟨u', h1, h2⟩ := fails (some xt) (some t) "" hr
        exact ⟨u', by rw [hrun, if_neg e]; exact h1, h2⟩
    · split at hr
      · cases hx
        obtain ⟨u', h1, h2⟩ := fails (some xt) none "" hr
        refine ⟨u', ?_, h2⟩
        rw [← h1]
        simp only [Instr.typeAssert, Sem.run_bind, run_underlying hu, Result.andThen_ok]
      · cases hr
  · cases hr
end
end Go.AI
end

/-
  Operations (10): calls of functions, built-in functions.
-/
section
namespace Go.AI
structure ProgOK (P : Program) : Prop where
  ng : ∀ (f : FuncId) (fn : Func), P.funcs[f]? = some fn → fn.body.isSome = true → (fn.name == "runtime.NumGoroutine") = false
  mixed : P.follows .mixedOrders = true
theorem find_noEscape {fn : Func} (h : extKind fn = 1) : Extern.findNext fn = none ∧ Extern.find fn = some Extern.AbiNoEscape.same ∧ (fn.name == "runtime.NumGoroutine") = false := by
  unfold extKind at h
  split at h
  · rename_i hc
    obtain ⟨h1, h2⟩ := hc
    unfold Extern.findNext Extern.find
    rw [h1, h2]
    refine ⟨?_, ?_, by decide⟩
    · have e1 : Extern.allNextRows.lookup "internal/abi.NoEscape" = none := by kernel_rfl
      have e2 : Extern.allNextRows.lookup "" = none := by kernel_rfl
      simp [e1, e2]
    · have e1 : Extern.allGenericRows.lookup "internal/abi.NoEscape" = none := by kernel_rfl
      have e2 : Extern.allTypedRows.lookup "internal/abi.NoEscape" = none := by kernel_rfl
      have e3 : Extern.allRows.lookup "internal/abi.NoEscape" = some Extern.AbiNoEscape.same := by kernel_rfl
      simp [e1, e2, e3]
  · split at h <;> cases h
theorem find_makeNoZero {fn : Func} (h : extKind fn = 2) : Extern.findNext fn = none ∧ Extern.find fn = some (Extern.BytealgMakeNoZero.makeNoZero fn.params fn.resultTypes) ∧ (fn.name == "runtime.NumGoroutine") = false := by
  unfold extKind at h
  split at h
  · cases h
  · split at h
    · rename_i hc
      obtain ⟨h1, h2⟩ := hc
      unfold Extern.findNext Extern.find
      rw [h1, h2]
      refine ⟨?_, ?_, by decide⟩
      · have e1 : Extern.allNextRows.lookup "internal/bytealg.MakeNoZero" = none := by kernel_rfl
        have e2 : Extern.allNextRows.lookup "" = none := by kernel_rfl
        simp [e1, e2]
      · have e1 : Extern.allGenericRows.lookup "internal/bytealg.MakeNoZero" = none := by kernel_rfl
        have e2 : Extern.allTypedRows.lookup "internal/bytealg.MakeNoZero" = some Extern.BytealgMakeNoZero.makeNoZero := by kernel_rfl
        simp [e1, e2]
    · cases h
section
variable {P : Program} {h h' : AHeap} {g : Gh} {w : World}
theorem run_callFunc_ext {f : FuncId} {fn : Func} {e : Array Value → Sem Value} {args : Array Value} (hfn : P.funcs[f]? = some fn) (hb : fn.body = none) (h1 : Extern.findNext fn = none) (h2 : Extern.find fn = some e)
    (h3 : (fn.name == "runtime.NumGoroutine") = false) : (callFunc f args).run P w = (do pure (.value (← e args)) : Sem Next).run P w := by
  have h3' : ¬ fn.name = "runtime.NumGoroutine" := by simpa using h3
  unfold callFunc
  simp [hfn, hb, h1, h2, h3']
theorem size_digits : ∀ (n t : Nat) (acc : Array Value), (Extern.BytealgMakeNoZero.digits n t acc).size = acc.size + n
  | 0, _, _ => by simp [Extern.BytealgMakeNoZero.digits]
  | n + 1, t, acc => by simp [Extern.BytealgMakeNoZero.digits, size_digits n]; omega
theorem op_callFunc {f : FuncId} {args : List AV} {vs : List Value} {r : ANext} (hP : ProgOK P) (hw : W h g w) (hf : ∀ v, g.B h.next v = none) (hv : VRs g args vs) (hr : acallFunc P h f args = some (r, h')) :
    OpOK P h g w (callFunc f vs.toArray) r h' := by
  unfold acallFunc at hr
  split at hr
  · cases hr
  · rename_i fn hfn
    split at hr
    · rename_i c hb
      simp only [Option.some.injEq, Prod.mk.injEq] at hr
      obtain ⟨rfl, rfl⟩ := hr
      refine ⟨rfl, vs, ?_, hv⟩
      have hng := hP.ng f fn hfn (by simp [hb])
      have hng' : ¬ fn.name = "runtime.NumGoroutine" := by simpa using hng
      unfold callFunc
      simp [hfn, hb, hng']
    · rename_i hb
      split at hr
      · rename_i k hk
        unfold aspecial at hr
        split at hr
        · rename_i x hk1
          simp only [Option.some.injEq, Prod.mk.injEq] at hr
          obtain ⟨rfl, rfl⟩ := hr
          obtain ⟨h1, h2, h3⟩ := find_noEscape hk1
          match vs, hv with
          | [v], hv =>
            refine OpOK.same hw ?_ hv.1
            rw [run_callFunc_ext hfn hb h1 h2 h3, show Extern.AbiNoEscape.same [v].toArray = pure v from rfl]
            simp
        · rename_i n hk2
          obtain ⟨h1, h2, h3⟩ := find_makeNoZero hk2
          match vs, hv with
          | [v], hv =>
            have hv1 := hv.1
            cases hv1
            split at hr
            · rename_i t ht
              split at hr
              · rename_i e hu
                split at hr
                · rename_i hc
                  obtain ⟨h0, hmax⟩ := hc
                  simp only [Option.some.injEq, Prod.mk.injEq] at hr
                  obtain ⟨rfl, rfl⟩ := hr
                  have hlt1 : ¬ n < 0 := by omega
                  have hlt2 : ¬ n > 281474976710656 := by omega
                  -- the capacity and the bytes that were drawn
                  generalize hcap : (Question.appendCap n.toNat 0 e).cut (w.tape w.drawn (.appendCap n.toNat 0 e)) = cap
                  have hge : n.toNat ≤ cap := by rw [← hcap]; simp [Question.cut]
                  have hrun : ∃ by_, (callFunc f #[.int .i64 n]).run P w = .ok (.value (.slice (some ⟨w.heap.size, 0, none⟩) n.toNat cap))
                      ({ w with drawn := w.drawn + 2 }.alloc (.cells (Extern.BytealgMakeNoZero.digits cap by_ #[]) e)) := by
                    obtain ⟨q, z1, z2, z3, hq, hdef⟩ : ∃ (q : Question) (z1 : Sem Value) (z2 : TypeDesc → Sem Value) (z3 : Sem Unit), q.forced = false ∧
                        Extern.BytealgMakeNoZero.makeNoZero fn.params fn.resultTypes #[.int .i64 n] = (do
                          let some t := fn.resultTypes[0]? | z1
                          match ← underlying t with
                          | .slice elem =>
                            if n < 0 || n > 2 ^ 48 then z3
                            let cap ← choose (.appendCap n.toNat 0 elem)
                            askRoom cap
                            let bytes ← choose q
                            let a ← newRow elem (Extern.BytealgMakeNoZero.digits cap bytes #[])
                            pure (.slice (some a) n.toNat cap)
                          | d => z2 d) := ⟨_, _, _, _, rfl, rfl⟩
                    rw [run_callFunc_ext hfn hb h1 h2 h3, hdef]
                    simp only [ht, Sem.run_bind, run_underlying hu, Result.andThen_ok, hlt1, hlt2, Int.reducePow, decide_false, Bool.or_self, Bool.false_eq_true, if_false,
                      run_choose, show ∀ m l, (Question.appendCap m l e).forced = false from fun _ _ => rfl, hq, run_askRoom, newRow, run_newObj, Sem.run_pure, hcap]
                    exact ⟨_, rfl⟩
                  obtain ⟨by_, hrun⟩ := hrun
                  have hkey := alloc_ok (x := .cells 0 0 [] 0 e false false) (s := cap) (n := 0) (hw.drew (w.drawn + 2)) hf (w' := { w with drawn := w.drawn + 2 }.alloc (.cells (Extern.BytealgMakeNoZero.digits cap by_ #[]) e)) rfl ?_
                  · refine ⟨_, _, .slice (some ⟨w.heap.size, 0, none⟩) n.toNat cap, hrun, ?_, hkey.1, ?_⟩
                    · exact .sl (Gh.setB_same _ _ _ _) (by simp) hge (by simp)
                    · have h2 := hkey.2
                      exact { h2 with size := h2.size, fr := h2.fr, tape := h2.tape, os := h2.os, out := h2.out, old := h2.old, newM := h2.newM }
                  · refine ⟨fun v hv => ?_, ?_⟩
                    · cases e' : (g.setB h.next 0 (w.heap.size, cap, 0)).B h.next v with
                      | none => rfl
                      | some y =>
                        rcases Gh.setB_cases e' with ⟨_, e'', _⟩ | e''
                        · omega
                        · rw [hf v] at e''; cases e''
                    intro v h1 h2 b s' n' hb
                    obtain rfl : v = 0 := by omega
                    rw [Gh.setB_same] at hb
                    simp only [Option.some.injEq, Prod.mk.injEq] at hb
                    obtain ⟨rfl, rfl, rfl⟩ := hb
                    refine ⟨fun _ => rfl, _, (0, 0), ⟨pushW_new _ _, by simp [size_digits], Nat.le_refl _, Nat.zero_le _, (fun h => by cases h), (fun i _ h3 h4 => by simp at h4), fun _ => .inl rfl, ?_⟩⟩
                    intro i x hi; omega
                · cases hr
              · cases hr
            · cases hr
        · cases hr
      · split at hr
        · rename_i us hus
          split at hr
          · rename_i u hp
            simp only [Option.some.injEq, Prod.mk.injEq] at hr
            obtain ⟨rfl, rfl⟩ := hr
            rw [extArgs_eq hus hv]
            exact OpOK.same hw (peel_run hp w) (VR.ofVal u)
          · cases hr
        · cases hr
end
end Go.AI
end

/-
  Operations (11): built-in functions; every operation.
-/
section
namespace Go.AI
section
variable {P : Program} {h h' : AHeap} {g : Gh} {w : World}
theorem op_len {ats : Array TypeId} {t ty : TypeId} {x : AV} {v : Value} {n : Nat} (hw : W h g w) (ha : ats[0]? = some t) (hx : VR g x v) (hr : alen P h t x = some n) :
    (Builtin.len_ ats ty #[v]).run P w = .ok (goInt n) w := by
  unfold alen at hr
  have h0 : (#[v] : Array Value)[0]? = some v := rfl
  split at hr
  · rename_i e hu
    split at hr
    · rename_i hs
      have : ∃ a c, v = .slice a n c := by
        unfold lenA at hr
        split at hr
        · cases hx; simp at hr; subst hr; exact ⟨_, _, rfl⟩
        · cases hx; simp at hr; subst hr; exact ⟨_, _, rfl⟩
        · cases hx with
          | islNil => simp at hr; subst hr; exact ⟨_, _, rfl⟩
          | islE _ => simp at hr; subst hr; exact ⟨_, _, rfl⟩
          | isl _ _ _ => simp at hr; subst hr; exact ⟨_, _, rfl⟩
        · cases hx; simp at hr; subst hr; exact ⟨_, _, rfl⟩
        · cases hx; simp at hr; subst hr; exact ⟨_, _, rfl⟩
        · simp [isSl] at hs
        · cases hr
      obtain ⟨a, c, rfl⟩ := this
      simp only [Builtin.len_, ha, h0, Sem.run_bind, run_underlying hu, Result.andThen_ok, Sem.run_pure]
    · cases hr
  · rename_i hu
    split at hr
    · cases hx; simp at hr; subst hr
      simp only [Builtin.len_, ha, h0, Sem.run_bind, run_underlying hu, Result.andThen_ok, Sem.run_pure]
    · cases hr
  · rename_i k e hu
    simp at hr; subst hr
    simp only [Builtin.len_, ha, h0, Sem.run_bind, run_underlying hu, Result.andThen_ok, Sem.run_pure]
  · rename_i k e hu
    split at hr
    · cases hx; simp at hr; subst hr
      simp only [Builtin.len_, ha, h0, Sem.run_bind, run_underlying hu, Result.andThen_ok, Sem.run_pure]
      rfl
    · rename_i o
      cases hx with
      | map hB =>
        rename_i b s m
        split at hr
        · rename_i es clock hg
          simp at hr; subst hr
          obtain ⟨ces, q1, q2⟩ := hw.obj o _ hg b s m hB
          have := q2.length
          simp only [Builtin.len_, ha, h0, Sem.run_bind, run_underlying hu, Result.andThen_ok, run_getObj q1 rfl, Sem.run_pure]
          rw [this]; simp
        · cases hr
    · cases hr
  · cases hr
theorem op_cap {ats : Array TypeId} {t ty : TypeId} {x : AV} {v : Value} {n : Nat} (ha : ats[0]? = some t) (hx : VR g x v) (hr : acap P t x = some n) :
    (Builtin.cap_ ats ty #[v]).run P w = .ok (goInt n) w := by
  unfold acap at hr
  have h0 : (#[v] : Array Value)[0]? = some v := rfl
  split at hr
  · rename_i hu
    simp at hr; subst hr
    cases hx with
    | sl hB p1 p2 p3 =>
      obtain rfl := p3 _ rfl
      simp only [Builtin.cap_, ha, h0, Sem.run_bind, run_underlying hu, Result.andThen_ok, Sem.run_pure]
  · rename_i hu
    simp at hr; subst hr
    cases hx with
    | psl f q1 q2 p1 p2 p3 =>
      obtain rfl := p3 _ rfl
      simp only [Builtin.cap_, ha, h0, Sem.run_bind, run_underlying hu, Result.andThen_ok, Sem.run_pure]
  · rename_i hu
    simp at hr; subst hr
    cases hx
    simp only [Builtin.cap_, ha, h0, Sem.run_bind, run_underlying hu, Result.andThen_ok, Sem.run_pure]
  · cases hr
theorem op_clear {ats : Array TypeId} {ty : TypeId} {o b s n clock : Nat} {d : TypeDesc} {es : List (AV × AV × Nat)} (hw : W h g w) (hd : ats[0]?.bind P.underlying = some d) (hB : g.B o 0 = some (b, s, n)) (hg : h.get o = some (.map es clock)) :
    OpOK P h g w (do pure (.value (← Builtin.clear_ ats ty #[.map (some b)]))) (.val undefA) (h.upd o (.map [] clock)) := by
  obtain ⟨ces, q1, q2⟩ := hw.obj o _ hg b s n hB
  have h0 : (#[Value.map (some b)] : Array Value)[0]? = some (.map (some b)) := rfl
  cases ha : ats[0]? with
  | none => rw [ha] at hd; cases hd
  | some t =>
    rw [ha] at hd
    have hu : P.underlying t = some d := hd
    have hkey := upd_ok (x' := .map [] clock) hw hg hB (w' := setW w b (.map #[] clock)) rfl (by
      intro b' k' n' hb'
      rw [hB] at hb'
      simp only [Option.some.injEq, Prod.mk.injEq] at hb'
      obtain ⟨rfl, rfl, rfl⟩ := hb'
      exact ⟨#[], setW_same (lt_of_heap q1), trivial⟩)
    refine ⟨g, _, .tuple #[], ?_, VR.tuple_iff.2 ⟨#[], rfl, trivial⟩, hkey.1, hkey.2⟩
    simp only [Builtin.clear_, ha, h0, Sem.run_bind, run_underlying hu, Result.andThen_ok, run_getObj q1 rfl, run_setObj q1 rfl, Sem.run_pure]
theorem run_loadBytes {b : Nat} : ∀ (ns : List Int) (off : Nat) (acc : ByteArray), (∀ (j : Nat) (v : Value), (ns.map (Value.int .u8))[j]? = some v → w.cell? ⟨b, off + j, none⟩ = some v) →
    (loadBytes ⟨b, off, none⟩ acc ns.length).run P w = .ok ⟨acc.data ++ (ns.map fun n => UInt8.ofNat n.toNat).toArray⟩ w
  | [], off, acc, _ => by simp [loadBytes]
  | n :: ns, off, acc, hc => by
    have h1 := hc 0 (.int .u8 n) (by simp)
    simp only [Nat.add_zero] at h1
    simp only [List.length_cons, loadBytes, Sem.run_bind, run_load, h1, Result.andThen_ok]
    rw [add_eq _ _ rfl, run_loadBytes ns (off + 1) _ (fun j v hv => by rw [Nat.add_assoc, Nat.add_comm 1 j]; exact hc (j + 1) v (by simpa using hv))]
    simp [ByteArray.push]
theorem lies_bytes {u off n cells : Nat} (hs : sizeT P u = some 1) (hle : off + n ≤ cells) : liesAt P P.depth u (cells / P.cellsOf u) off u n = true := by
  have hc : P.cellsOf u = 1 := by
    unfold sizeT at hs
    unfold Program.cellsOf
    cases hi : P.info? u with
    | none => rw [hi] at hs; cases hs
    | some i => rw [hi] at hs; simpa using hs
  have hd : ∃ k, P.depth = k + 1 := ⟨2 * (P.types.size + Made.depth) + 1, rfl⟩
  obtain ⟨k, hk⟩ := hd
  rw [hk, hc]
  unfold liesAt
  rw [hk]
  unfold rowAt
  rw [hc]
  simp only [Nat.div_one, Nat.mod_one]
  unfold sameLayout
  simp [hle]
theorem freeze_eq {b off n : Nat} {c : Array Value} {el : TypeId} {f : Nat × Nat} (hn : n ≠ 0) (hh : w.heap[b]? = some (.cells c el f)) :
    w.freeze ⟨b, off, none⟩ n = setW w b (.cells c el (if f.1 == f.2 then (off, off + n) else (min f.1 off, max f.2 (off + n)))) := by
  unfold World.freeze setW
  rw [if_neg hn]
  congr 1
  apply Array.ext_getElem?
  intro j
  have hlt := lt_of_heap hh
  by_cases e : b = j
  · subst e
    rw [Array.getElem?_modify, hh, Array.getElem?_setIfInBounds_self_of_lt hlt]
    simp
  · rw [Array.getElem?_setIfInBounds_ne e, Array.getElem?_modify, if_neg e]
theorem op_unsafeString {ats : Array TypeId} {pt ty : TypeId} {p n r : AV} {a v : Value} (hw : W h g w) (ha : ats[0]? = some pt) (hp : VR g p a) (hn : VR g n v) (hr : aunsafeString P h pt p n = some (r, h')) :
    OpOK P h g w (do pure (.value (← Builtin.unsafeString_ ats ty #[a, v]))) (.val r) h' := by
  unfold aunsafeString at hr
  obtain ⟨z1, z2, z3, z4, z5, hdef⟩ : ∃ (z1 : Sem Value) (z2 z3 : Sem Unit) (z4 z5 : Sem Value), ∀ (q : Option Addr) (len_ : Value), Builtin.unsafeString_ ats ty #[.pointer q, len_] = (do
      let n ← asInt len_
      let some pt := ats[0]? | z1
      if n < 0 then z2
      if n > IntKind.i64.max then z3
      match q with
      | none => if n = 0 then pure (.string .empty) else z4
      | some a =>
        if n = 0 then pure (.string .empty)
        else if ← variablesAt a (← elemOf pt) n.toNat then do
          let s ← loadBytes a .empty n.toNat
          freeze a n.toNat
          pure (.string s)
        else z5) := ⟨_, _, _, _, _, fun _ _ => rfl⟩
  split at hr
  · rename_i hnn
    simp only [Option.some.injEq, Prod.mk.injEq] at hr
    obtain ⟨rfl, rfl⟩ := hr
    cases hp
    obtain ⟨k, i, rfl, _, _, e⟩ := natOfA_ok hn hnn
    simp only [Int.natCast_zero] at e
    subst e
    refine OpOK.same hw (x := .string .empty) ?_ (.sc _)
    rw [hdef]
    have hmaxe : IntKind.i64.max = 9223372036854775807 := by decide
    simp [asInt, asIntOf, ha, hmaxe]
  · rename_i o ver m off k hnn
    split at hr
    · rename_i u v0 m' c fz el ex hu hg
      split at hr
      · rename_i hc
        obtain ⟨rfl, hm', rfl, hsz, hmax⟩ := hc
        split at hr
        · rename_i l hrd
          cases hb : bytesOfA l with
          | none => rw [hb] at hr; cases hr
          | some bs =>
            rw [hb] at hr
            simp only [Option.map_some, Option.some.injEq, Prod.mk.injEq] at hr
            obtain ⟨rfl, rfl⟩ := hr
            cases hp with
            | ref hB =>
              rename_i b sb
              obtain ⟨kk, i, rfl, hi0, hi1, hi2⟩ := natOfA_ok hn hnn
              obtain ⟨vs, q1, q2, q3, q4, q5⟩ := rdCells_ok hw hrd hB
              obtain ⟨ns, e1, e2⟩ := bytesOfA_ok hb q1
              have hobj := hw.obj o _ hg
              obtain ⟨hm, ca, f, hk⟩ := hobj.2 ver hm' (Nat.le_refl _) b sb m hB
              have hlen : ns.length = k + 1 := by rw [← q2, e1]; simp
              have hload : (loadBytes ⟨b, off, none⟩ .empty (k + 1)).run P w = .ok ⟨bs.toArray⟩ w := by
                rw [← hlen, run_loadBytes ns off .empty (by rw [← e1]; exact q3), e2, show ByteArray.empty.data = #[] from rfl, Array.empty_append]
              have hlie := lies_bytes (P := P) (u := el) (off := off) (n := k + 1) (cells := ca.size) hsz (by have := hk.size; omega)
              have hfz := freeze_eq (n := k + 1) (off := off) (by omega) hk.here
              have hkey := upd_ok (x' := .cells ver ver c (max fz (off + (k + 1))) el ex false) hw hg hB (w' := w.freeze ⟨b, off, none⟩ (k + 1)) hfz ?_
              · refine ⟨g, _, .string ⟨bs.toArray⟩, ?_, .sc _, hkey.1, hkey.2⟩
                rw [hdef]
                have hlt0 : ¬ i < 0 := by omega
                have hmaxe : IntKind.i64.max = 9223372036854775807 := by decide
                have hmx : ¬ i > IntKind.i64.max := by rw [hmaxe]; omega
                have hne : ¬ i = 0 := by omega
                simp only [asInt, asIntOf, Sem.run_bind, Sem.run_pure, Result.andThen_ok, ha, hlt0, hmx, hne, if_false, elemOf, run_underlying hu, variablesAt, run_program, run_shape, shape_of hk.here, hi1, hlie, if_true,
                  hload, run_freeze]
              · refine ⟨hobj.1, ?_⟩
                intro v' h1 h2 b' s' n' hb'
                obtain rfl : v' = ver := by omega
                rw [hB] at hb'
                simp only [Option.some.injEq, Prod.mk.injEq] at hb'
                obtain ⟨rfl, rfl, rfl⟩ := hb'
                refine ⟨hm, ca, _, ⟨by rw [hfz]; exact setW_same (lt_of_heap hk.here), hk.size, hk.le, hk.les, hk.exact, ?_, ?_, hk.cell⟩⟩
                · intro j hj h3 h4
                  split at h3
                  · rename_i hff
                    rw [if_pos hff] at h4
                    simp at h3 h4; omega
                  · rename_i hff
                    rw [if_neg hff] at h4
                    have := hk.plain rfl
                    simp at hff h3 h4; omega
                · intro _
                  right
                  have := hk.plain rfl
                  split
                  · simp; omega
                  · rename_i hff
                    simp at hff ⊢; omega
        · cases hr
      · cases hr
    · cases hr
  · cases hr
theorem one_arg {xs : List AV} {x : AV} {vs : List Value} (e : xs = [x]) (hv : VRs g xs vs) : ∃ v, vs = [v] ∧ VR g x v := by
  subst e
  match vs, hv with
  | [v], hv => exact ⟨v, rfl, hv.1⟩
theorem two_args {xs : List AV} {x y : AV} {vs : List Value} (e : xs = [x, y]) (hv : VRs g xs vs) : ∃ v u, vs = [v, u] ∧ VR g x v ∧ VR g y u := by
  subst e
  match vs, hv with
  | [v, u], hv => exact ⟨v, u, rfl, hv.1, hv.2.1⟩
theorem hv_ok {s : Sem Next} {q : Option (AV × AHeap)} {r : ANext} (hr : (q.map fun (x : AV × AHeap) => (ANext.val x.1, x.2)) = some (r, h')) (hk : ∀ v h2, q = some (v, h2) → OpOK P h g w s (.val v) h2) : OpOK P h g w s r h' := by
  cases q with
  | none => cases hr
  | some x =>
    obtain ⟨v, h2⟩ := x
    simp only [Option.map_some, Option.some.injEq, Prod.mk.injEq] at hr
    obtain ⟨rfl, rfl⟩ := hr
    exact hk v h2 rfl
theorem op_builtin {b : Builtin} {ats : Array TypeId} {ty : TypeId} {cs : Array Bool} {xs : List AV} {vs : List Value} {r : ANext} (hw : W h g w) (hf : ∀ v, g.B h.next v = none) (hv : VRs g xs vs)
    (hr : abuiltin P h b ats ty xs = some (r, h')) : OpOK P h g w (builtin b ats ty cs vs.toArray) r h' := by
  unfold abuiltin at hr
  split at hr
  · obtain ⟨u, v, rfl, hu, hv⟩ := two_args rfl hv
    split at hr
    · rename_i st xt h0 h1
      exact hv_ok hr fun v h2 e => op_append2 hw hf h0 h1 hu hv e
    · cases hr
  · obtain ⟨u, v, rfl, hu, hv⟩ := two_args rfl hv
    split at hr
    · rename_i dt h0
      exact hv_ok hr fun v h2 e => op_copy hw h0 hu hv e
    · cases hr
  · rename_i x
    obtain ⟨u, rfl, hu⟩ := one_arg rfl hv
    split at hr
    · rename_i t h0
      refine val_ok (s := Builtin.len_ ats ty #[u]) hw hr fun v e => ?_
      cases hl : alen P h t x with
      | none => rw [hl] at e; cases e
      | some n => rw [hl] at e; simp at e; subst e; exact ⟨_, op_len hw h0 hu hl, .sc _⟩
    · cases hr
  · rename_i x
    obtain ⟨u, rfl, hu⟩ := one_arg rfl hv
    split at hr
    · rename_i t h0
      refine val_ok (s := Builtin.cap_ ats ty #[u]) hw hr fun v e => ?_
      cases hl : acap P t x with
      | none => rw [hl] at e; cases e
      | some n => rw [hl] at e; simp at e; subst e; exact ⟨_, op_cap h0 hu hl, .sc _⟩
    · cases hr
  · rename_i m k
    obtain ⟨u, v, rfl, hu, hv⟩ := two_args rfl hv
    split at hr
    · rename_i t h0
      cases hd : adelete P h t m k with
      | none => rw [hd] at hr; cases hr
      | some h2 =>
        rw [hd] at hr
        simp only [Option.map_some, Option.some.injEq, Prod.mk.injEq] at hr
        obtain ⟨rfl, rfl⟩ := hr
        exact op_delete hw h0 hu hv hd
    · cases hr
  · obtain ⟨u, rfl, hu⟩ := one_arg rfl hv
    split at hr
    · rename_i o d hd
      cases hu with
      | map hB =>
        split at hr
        · rename_i es clock hg
          simp only [Option.some.injEq, Prod.mk.injEq] at hr
          obtain ⟨rfl, rfl⟩ := hr
          exact op_clear hw hd hB hg
        · cases hr
    · cases hr
  · obtain ⟨u, rfl, hu⟩ := one_arg rfl hv
    split at hr
    · simp only [Option.some.injEq, Prod.mk.injEq] at hr
      obtain ⟨rfl, rfl⟩ := hr
      have hu0 := hu
      cases hu with
      | iface hi =>
        refine ⟨rfl, _, ?_, hu0⟩
        simp only [builtin, Instr.panic]
        rfl
    · simp only [Option.some.injEq, Prod.mk.injEq] at hr
      obtain ⟨rfl, rfl⟩ := hr
      have hu0 := hu
      cases hu
      refine ⟨rfl, _, ?_, hu0⟩
      simp only [builtin, Instr.panic]
      rfl
    · cases hr
  · simp only [Option.some.injEq, Prod.mk.injEq] at hr
    obtain ⟨rfl, rfl⟩ := hr
    match vs, hv with
    | [], _ => exact ⟨rfl, rfl⟩
  · split at hr
    · rename_i us hus
      split at hr
      · rename_i u hp
        simp only [Option.some.injEq, Prod.mk.injEq] at hr
        obtain ⟨rfl, rfl⟩ := hr
        rw [extArgs_eq hus hv]
        exact OpOK.same hw (peel_run hp w) (VR.ofVal u)
      · cases hr
    · cases hr
  · split at hr
    · rename_i us hus
      split at hr
      · rename_i u hp
        simp only [Option.some.injEq, Prod.mk.injEq] at hr
        obtain ⟨rfl, rfl⟩ := hr
        rw [extArgs_eq hus hv]
        exact OpOK.same hw (peel_run hp w) (VR.ofVal u)
      · cases hr
    · cases hr
  · obtain ⟨u, rfl, hu⟩ := one_arg rfl hv
    have hdef : builtin .unsafeSliceData ats ty cs [u].toArray = (do pure (.value (← Builtin.unsafeSliceData_ ats ty #[u]))) := rfl
    rw [hdef]
    split at hr
    · simp only [Option.some.injEq, Prod.mk.injEq] at hr
      obtain ⟨rfl, rfl⟩ := hr
      cases hu
      exact OpOK.same hw (x := .pointer none) rfl (.sc _)
    · split at hr
      · rename_i hc
        simp only [Option.some.injEq, Prod.mk.injEq] at hr
        obtain ⟨rfl, rfl⟩ := hr
        cases hu with
        | sl hB p1 p2 p3 =>
          rename_i o ver n off sz len cap b s c
          have hc0 : c ≠ 0 := by
            rcases hc with hc | hc
            · omega
            · cases cap with
              | none => simp [capOf] at hc
              | some k => have := p3 k rfl; simp [capOf] at hc; omega
          refine OpOK.same hw (x := .pointer (some ⟨b, off, none⟩)) ?_ (.ref hB)
          have hd2 : Builtin.unsafeSliceData_ ats ty #[.slice (some ⟨b, off, none⟩) len c] = (do
              if c ≠ 0 then pure (.pointer (some ⟨b, off, none⟩))
              else if (← viewAt b).isSome then pure (.pointer (some ⟨b, off, none⟩))
              else pure (.pointer (some ⟨← newObj (.view ⟨b, off, none⟩ (← elemOf ty)), 0, none⟩))) := rfl
          rw [hd2]
          simp [hc0]
      · cases hr
    · cases hr
  · obtain ⟨u, v, rfl, hu, hv⟩ := two_args rfl hv
    split at hr
    · rename_i pt h0
      exact hv_ok hr fun v h2 e => op_unsafeString hw h0 hu hv e
    · cases hr
  · cases hr
end
end Go.AI
end

/-
  Every operation.
-/
section
namespace Go.AI
section
variable {P : Program} {h h' : AHeap} {g : Gh} {w : World}
theorem VR.sc_inv {v u : Value} (h : VR g (.sc v) u) : u = v := by cases h; rfl
theorem VRs.ops {ρ : Operand → AV} {ρ' : Operand → Value} (hρ : ∀ x, VR g (ρ x) (ρ' x)) (l : Array Operand) : VRs g (l.toList.map ρ) (l.map ρ').toList := by
  rw [Array.toList_map]
  exact VRs.map ρ ρ' hρ l.toList
theorem fnOf_ok {x : AV} {v : Value} {fn : Fn} {a c : List AV} (hx : VR g x v) (hr : fnOf x = some (fn, a, c)) : ∃ a' c' : Array Value, v = .func fn a' c' ∧ VRs g a a'.toList ∧ VRs g c c'.toList := by
  unfold fnOf at hr
  split at hr
  · simp only [Option.some.injEq, Prod.mk.injEq] at hr
    obtain ⟨rfl, rfl, rfl⟩ := hr
    exact VR.func_iff.1 hx
  · simp only [Option.some.injEq, Prod.mk.injEq] at hr
    obtain ⟨rfl, rfl, rfl⟩ := hr
    cases hx
    exact ⟨_, _, rfl, VRs.scs _, VRs.scs _⟩
  · cases hr
theorem op_call {ρ : Operand → AV} {ρ' : Operand → Value} {c : Call} {ty : TypeId} {r : ANext} (hP : ProgOK P) (hw : W h g w) (hf : ∀ v, g.B h.next v = none) (hρ : ∀ x, VR g (ρ x) (ρ' x))
    (hr : acall P h ρ c ty = some (r, h')) : OpOK P h g w (do let d ← resolve ρ' c ty; invoke d.target d.args) r h' := by
  unfold acall at hr
  have hargs := VRs.ops hρ c.args
  split at hr
  · rename_i b hc
    have := op_builtin (cs := c.args.map fun | .const _ => true | _ => false) hw hf hargs hr
    have e : (do let d ← resolve ρ' c ty; invoke d.target d.args : Sem Next) = builtin b c.argTypes ty (c.args.map fun | .const _ => true | _ => false) (c.args.map ρ') := by
      unfold resolve; rw [hc]; rfl
    rw [e]
    rwa [Array.toArray_toList] at this
  · cases hr
  · rename_i f hc
    split at hr
    · rename_i l hl
      simp only [Option.some.injEq, Prod.mk.injEq] at hr
      obtain ⟨rfl, rfl⟩ := hr
      have hx := hρ f
      rw [hl] at hx
      cases hv : ρ' f with
      | func fn a cc =>
        rw [hv] at hx
        cases hx with
        | yld hB =>
          rename_i b s n
          refine ⟨rfl, b, s, n, (c.args.map ρ').toList, hB, hargs, ?_⟩
          have e : (do let d ← resolve ρ' c ty; invoke d.target d.args : Sem Next) = Instr.yield b (#[] ++ c.args.map ρ') := by
            unfold resolve; rw [hc]; dsimp only; rw [hv]; rfl
          rw [e, Array.toArray_toList, Array.empty_append]
      | _ => rw [hv] at hx; cases hx
    · split at hr
      · rename_i fn first cap hfn
        obtain ⟨a', c', hv, h1, h2⟩ := fnOf_ok (hρ f) hfn
        unfold ainvoke at hr
        split at hr
        · rename_i k
          have e : (do let d ← resolve ρ' c ty; invoke d.target d.args : Sem Next) = callFunc k ((a' ++ c.args.map ρ') ++ c') := by
            unfold resolve; rw [hc]; dsimp only; rw [hv]; rfl
          rw [e]
          have := op_callFunc (vs := (a'.toList ++ (c.args.map ρ').toList) ++ c'.toList) hP hw hf ((h1.append hargs).append h2) hr
          have ea : ((a'.toList ++ (c.args.map ρ').toList) ++ c'.toList).toArray = (a' ++ c.args.map ρ') ++ c' := Array.ext' (by simp)
          rwa [ea] at this
        · cases hr
      · cases hr
theorem op_defer {ρ : Operand → AV} {ρ' : Operand → Value} {c : Call} {ty : TypeId} {r : ANext} (hρ : ∀ x, VR g (ρ x) (ρ' x))
    (hr : adefer h ρ c = some (r, h')) : OpOK P h g w (do pure (.defer (← resolve ρ' c ty))) r h' := by
  unfold adefer at hr
  have hargs := VRs.ops hρ c.args
  split at hr
  · rename_i f hc
    split at hr
    · rename_i fn first cap hfn
      simp only [Option.some.injEq, Prod.mk.injEq] at hr
      obtain ⟨rfl, rfl⟩ := hr
      obtain ⟨a', c', hv, h1, h2⟩ := fnOf_ok (hρ f) hfn
      refine ⟨rfl, { target := .fn fn c', args := a' ++ c.args.map ρ' }, ?_, c'.toList, a'.toList ++ (c.args.map ρ').toList, by simp, h2, h1.append hargs⟩
      have e : resolve ρ' c ty = pure { target := .fn fn c', args := a' ++ c.args.map ρ' } := by
        unfold resolve; rw [hc]; dsimp only; rw [hv]; rfl
      rw [e]; rfl
    · cases hr
  · cases hr
theorem aop_ok {ρ : Operand → AV} {ρ' : Operand → Value} {o : Oper} {r : ANext} (hP : ProgOK P) (hw : W h g w) (hf : ∀ v, g.B h.next v = none) (hρ : ∀ x, VR g (ρ x) (ρ' x))
    (hr : aop P ρ o h = some (r, h')) : OpOK P h g w (execOp ρ' o) r h' := by
  obtain ⟨dst, op, type, pos, after, guard⟩ := o
  cases op <;> simp only [aop] at hr <;> simp only [execOp] <;> first | (cases hr; done) | skip
  case move x =>
    simp only [Option.some.injEq, Prod.mk.injEq] at hr
    obtain ⟨rfl, rfl⟩ := hr
    exact OpOK.same hw rfl (hρ x)
  case assign x =>
    simp only [Option.some.injEq, Prod.mk.injEq] at hr
    obtain ⟨rfl, rfl⟩ := hr
    exact OpOK.same hw rfl (hρ x)
  case pick c a b =>
    have hc := hρ c
    split at hr
    · rename_i t ht
      simp only [Option.some.injEq, Prod.mk.injEq] at hr
      obtain ⟨rfl, rfl⟩ := hr
      rw [ht] at hc
      have hv : ρ' c = .bool t := VR.sc_inv hc
      rw [hv]
      cases t with
      | true => exact OpOK.same hw rfl (hρ a)
      | false => exact OpOK.same hw rfl (hρ b)
    · cases hr
  case alloc e =>
    split at hr
    · rename_i z hz
      split at hr
      · simp only [Option.some.injEq, Prod.mk.injEq] at hr
        obtain ⟨rfl, rfl⟩ := hr
        exact op_alloc hw hf hz
      · cases hr
    · cases hr
  case box e x =>
    split at hr
    · rename_i hc
      simp only [Option.some.injEq, Prod.mk.injEq] at hr
      obtain ⟨rfl, rfl⟩ := hr
      exact op_box hw hf (hρ x) hc
    · cases hr
  case build t parts => exact val_ok hw hr fun v e => op_build e (by rw [Array.toList_map]; exact PartsR.map hρ _)
  case buildSlice t len parts => exact hv_ok hr fun v h2 e => op_buildSlice hw hf e (by rw [Array.toList_map]; exact PartsR.map hρ _)
  case load t a => exact val_ok hw hr fun v e => aload_ok hw e (hρ a)
  case store t a x =>
    cases hs : astore P h t (ρ a) (ρ x) with
    | none => rw [hs] at hr; cases hr
    | some h2 =>
      rw [hs] at hr
      simp only [Option.map_some, Option.some.injEq, Prod.mk.injEq] at hr
      obtain ⟨rfl, rfl⟩ := hr
      exact op_store hw (hρ a) (hρ x) hs
  case nilCheck x =>
    have hx := hρ x
    split at hr
    · rename_i hx'
      simp only [Option.some.injEq, Prod.mk.injEq] at hr
      obtain ⟨rfl, rfl⟩ := hr
      have hx0 := hx
      rw [hx'] at hx
      cases hv : ρ' x with
      | pointer p => rw [hv] at hx hx0; cases hx; exact OpOK.same hw rfl hx0
      | _ => rw [hv] at hx; cases hx
    · rename_i hx'
      simp only [Option.some.injEq, Prod.mk.injEq] at hr
      obtain ⟨rfl, rfl⟩ := hr
      have hx0 := hx
      rw [hx'] at hx
      cases hv : ρ' x with
      | pointer p => rw [hv] at hx hx0; cases hx; exact OpOK.same hw rfl hx0
      | _ => rw [hv] at hx; cases hx
    · rename_i f a c hx'
      simp only [Option.some.injEq, Prod.mk.injEq] at hr
      obtain ⟨rfl, rfl⟩ := hr
      rw [hx'] at hx
      obtain ⟨a', c', hv, h1, h2⟩ := VR.func_iff.1 hx
      rw [hv]
      exact OpOK.same hw rfl (by rw [← hv]; exact hx)
    · rename_i l hx'
      simp only [Option.some.injEq, Prod.mk.injEq] at hr
      obtain ⟨rfl, rfl⟩ := hr
      rw [hx'] at hx
      cases hv : ρ' x with
      | func fn a cc => rw [hv] at hx; have hx0 := hx; cases hx; exact OpOK.same hw rfl hx0
      | _ => rw [hv] at hx; cases hx
    · rename_i f a c hx'
      simp only [Option.some.injEq, Prod.mk.injEq] at hr
      obtain ⟨rfl, rfl⟩ := hr
      rw [hx'] at hx
      have hv : ρ' x = .func (.func f) a c := VR.sc_inv hx
      rw [hv]
      exact OpOK.same hw rfl (.sc _)
    · rename_i t v hx'
      simp only [Option.some.injEq, Prod.mk.injEq] at hr
      obtain ⟨rfl, rfl⟩ := hr
      rw [hx'] at hx
      cases hv : ρ' x with
      | iface t' u => rw [hv] at hx; have hx0 := hx; cases hx; exact OpOK.same hw rfl hx0
      | _ => rw [hv] at hx; cases hx
    · cases hr
  case binOp op xt x y yt => exact val_ok hw hr fun v e => op_bin (hρ x) (hρ y) e
  case unOp op xt x =>
    split at hr
    · rename_i v hv
      rw [toVal_eq hv (hρ x)]
      exact val_ok hw hr fun v e => pure_ok e
    · cases hr
  case convert s d x => exact hv_ok hr fun v h2 e => op_convert hw hf (hρ x) e
  case makeInterface t x =>
    split at hr
    · cases hr
    · rename_i d hd hu
      simp only [Option.some.injEq, Prod.mk.injEq] at hr
      obtain ⟨rfl, rfl⟩ := hr
      refine OpOK.same hw ?_ (.iface (hρ x))
      have : (Instr.makeInterface t (ρ' x)).run P w = .ok (.iface t (ρ' x)) w := by
        unfold Instr.makeInterface
        simp only [Sem.run_bind, run_underlying hu, Result.andThen_ok]
        cases d <;> first | (exact absurd rfl (hd _)) | rfl
      simp [this]
    · cases hr
  case makeFunc fn first captured =>
    simp only [Option.some.injEq, Prod.mk.injEq] at hr
    obtain ⟨rfl, rfl⟩ := hr
    exact OpOK.same hw rfl (VR.func_iff.2 ⟨_, _, rfl, VRs.ops hρ _, VRs.ops hρ _⟩)
  case makeMap t r0 =>
    split at hr
    · simp only [Option.some.injEq, Prod.mk.injEq] at hr
      obtain ⟨rfl, rfl⟩ := hr
      exact op_makeMap hw hf (.inl rfl)
    · rename_i x k e hu
      have hx := hρ x
      split at hr
      · rename_i n i hx'
        simp only [Option.some.injEq, Prod.mk.injEq] at hr
        obtain ⟨rfl, rfl⟩ := hr
        rw [hx'] at hx
        have hv : ρ' x = .int n i := VR.sc_inv hx
        exact op_makeMap hw hf (.inr ⟨k, e, n, i, hu, by simp [hv]⟩)
      · cases hr
    · cases hr
  case makeSlice t l c => exact hv_ok hr fun v h2 e => op_makeSlice hw hf (hρ l) (hρ c) e
  case slice t x lo hi mx => exact val_ok hw hr fun v e => op_slice (hρ x) (OptR.map hρ lo) (OptR.map hρ hi) (OptR.map hρ mx) e
  case fieldAddr s x f => exact val_ok hw hr fun v e => op_fieldAddr (hρ x) e
  case field t x f => exact val_ok hw hr fun v e => op_field (hρ x) e
  case indexAddr t x i => exact val_ok hw hr fun v e => op_indexAddr (hρ x) (hρ i) e
  case index t x i => exact val_ok hw hr fun v e => op_index (hρ x) (hρ i) e
  case lookup t x i ok => exact val_ok hw hr fun v e => op_lookup hw (hρ x) (hρ i) e
  case mapUpdate t m k x =>
    cases hs : amapUpdate P h t (ρ m) (ρ k) (ρ x) with
    | none => rw [hs] at hr; cases hr
    | some h2 =>
      rw [hs] at hr
      simp only [Option.map_some, Option.some.injEq, Prod.mk.injEq] at hr
      obtain ⟨rfl, rfl⟩ := hr
      exact op_mapUpdate hw (hρ m) (hρ k) (hρ x) hs
  case insert t m k x =>
    cases hs : amapUpdate P h t (ρ m) (ρ k) (ρ x) with
    | none => rw [hs] at hr; cases hr
    | some h2 =>
      rw [hs] at hr
      simp only [Option.map_some, Option.some.injEq, Prod.mk.injEq] at hr
      obtain ⟨rfl, rfl⟩ := hr
      exact op_mapUpdate hw (hρ m) (hρ k) (hρ x) hs
  case range t x =>
    have hx := hρ x
    split at hr
    · rename_i s hu hx'
      simp only [Option.some.injEq, Prod.mk.injEq] at hr
      obtain ⟨rfl, rfl⟩ := hr
      rw [hx'] at hx
      have hv : ρ' x = .string s := VR.sc_inv hx
      rw [hv]
      exact op_range_string hw hf hu
    · rename_i k e hu hx'
      simp only [Option.some.injEq, Prod.mk.injEq] at hr
      obtain ⟨rfl, rfl⟩ := hr
      rw [hx'] at hx
      have hv : ρ' x = .map none := VR.sc_inv hx
      rw [hv]
      exact op_range_nil hw hf hu
    · rename_i k e m hu hx'
      rw [hx'] at hx
      cases hv : ρ' x with
      | map r =>
        rw [hv] at hx
        cases hx with
        | map hB =>
          split at hr
          · rename_i es clock hg
            simp only [Option.some.injEq, Prod.mk.injEq] at hr
            obtain ⟨rfl, rfl⟩ := hr
            exact op_range_map hw hf hu hB hg
          · cases hr
      | _ => rw [hv] at hx; cases hx
    · cases hr
  case next it str =>
    have hx := hρ it
    cases str with
    | true =>
      simp only at hr
      split at hr
      · rename_i o hx'
        rw [hx'] at hx
        cases hv : ρ' it with
        | pointer p =>
          rw [hv] at hx
          cases hx with
          | ref hB =>
            split at hr
            · rename_i s pos hg
              split at hr
              · rename_i hlt
                simp only [Option.some.injEq, Prod.mk.injEq] at hr
                obtain ⟨rfl, rfl⟩ := hr
                exact op_next_string hw hB hg hlt
              · rename_i hlt
                simp only [Option.some.injEq, Prod.mk.injEq] at hr
                obtain ⟨rfl, rfl⟩ := hr
                exact op_next_over hw hB hg hlt
            · cases hr
        | _ => rw [hv] at hx; cases hx
      · cases hr
    | false =>
      simp only at hr
      split at hr
      · rename_i o hx'
        rw [hx'] at hx
        cases hv : ρ' it with
        | pointer p =>
          rw [hv] at hx
          cases hx with
          | ref hB =>
            rename_i b s
            split at hr
            · rename_i since seen last hg
              simp only [Option.some.injEq, Prod.mk.injEq] at hr
              obtain ⟨rfl, rfl⟩ := hr
              exact op_next_nil hw hB hg
            · rename_i m since seen last hg
              split at hr
              · rename_i es clock hgm
                obtain ⟨mb, q1, b', s', n', q2, rfl⟩ := hw.obj o _ hg b s 0 hB
                split at hr
                · cases hr
                · rename_i hok
                  exact op_next_map hw hB hg q2 hgm (by simpa using hok) hr
              · cases hr
            · cases hr
        | _ => rw [hv] at hx; cases hx
      · cases hr
  case typeAssert x xt a ok => exact val_ok hw hr fun v e => op_assert (hρ x) e
  case extract t i =>
    have hx := hρ t
    split at hr
    · rename_i vs hx'
      rw [hx'] at hx
      obtain ⟨us, hv, h1⟩ := VR.tuple_iff.1 hx
      rw [hv]
      refine val_ok hw hr fun v e => ?_
      have hi : i < us.size := by
        have := h1.length
        have h2 : i < vs.length := by
          rcases Nat.lt_or_ge i vs.length with h' | h'
          · exact h'
          · rw [List.getElem?_eq_none h'] at e; cases e
        simp at this; omega
      refine ⟨us[i], by simp [Instr.extract, hi], h1.get i v us[i] e (by simp [hi])⟩
    · cases hr
  case call c => exact op_call hP hw hf hρ hr
  case defer c => exact op_defer hρ hr
  case panic x =>
    have hx := hρ x
    split at hr
    · rename_i t v hx'
      simp only [Option.some.injEq, Prod.mk.injEq] at hr
      obtain ⟨rfl, rfl⟩ := hr
      rw [hx'] at hx
      cases hv : ρ' x with
      | iface t' u => rw [hv] at hx; exact ⟨rfl, _, rfl, hx⟩
      | _ => rw [hv] at hx; cases hx
    · rename_i t v hx'
      simp only [Option.some.injEq, Prod.mk.injEq] at hr
      obtain ⟨rfl, rfl⟩ := hr
      rw [hx'] at hx
      have hv : ρ' x = .iface t v := VR.sc_inv hx
      rw [hv]
      exact ⟨rfl, _, rfl, .sc _⟩
    · cases hr
end
end Go.AI
end
