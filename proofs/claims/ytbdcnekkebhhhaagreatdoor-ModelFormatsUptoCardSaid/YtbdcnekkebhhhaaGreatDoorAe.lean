/-
  Regions whose order is open: the run in the order of the text; what comes before what.
-/
import Derived.Orders
import Derived.Test.YtbdcnekkebhhhaaGreatDoorAd
set_option linter.all false

section
namespace Go.AI
section
variable {P : Program} {R : Rec} {cx : Ctx} {ops : Array Oper}
inductive DOne (P : Program) (R : Rec) (cx : Ctx) (ops : Array Oper) (kf : Book) (o : Oper) (i aid : Nat) (st : ASt) (aid' : Nat) (st' : ASt) : Prop
  | skip (hw : wantedA ops o st.tm = some false) (hp : st.put cx.tn o.dst undefA = some st') (ha : aid' = if isA o.op then aid + 1 else aid)
  | mk (v : AV) (h : AHeap) (x : AObj) (hw : wantedA ops o st.tm = some true) (hA : isA o.op = true)
      (hr : aop P (evo (tmpsOf o) st.tm) o { objs := .leaf, next := aid, floor := 0, wr := [] } = some (.val v, h)) (hg : h.get aid = some x) (hn : h.next = aid + 1)
      (hp : ASt.put { st with h := { st.h with objs := st.h.objs.put aid x } } cx.tn o.dst v = some st') (ha : aid' = aid + 1)
  | look (v : AV) (h : AHeap) (hw : wantedA ops o st.tm = some true) (hA : isA o.op = false) (hF : isF o.op = true)
      (hr : aop P (evo (tmpsOf o) st.tm) o { st.h with objs := onlyA st.h (lookIds o st.tm) } = some (.val v, h)) (hn : h.next = st.h.next)
      (hp : st.put cx.tn o.dst v = some st') (ha : aid' = aid) (hk : (i, lookIds o st.tm) ∈ kf.fs)
  | act (v : AV) (cm : AMode) (h : AHeap) (hw : wantedA ops o st.tm = some true) (hA : isA o.op = false) (hF : isF o.op = false)
      (hr : opRun P R cx (evo (tmpsOf o) st.tm) o .none st.h.inner = some (.val v cm h))
      (hp : ASt.put { st with h := st.h.outer h } cx.tn o.dst v = some st') (ha : aid' = aid) (hk : (i, h.wr) ∈ kf.es)
def Trace (P : Program) (R : Rec) (cx : Ctx) (ops : Array Oper) (kf : Book) (l : List Oper) (i aid : Nat) (st stf : ASt) : Prop :=
  ∃ (T : Nat → ASt) (A : Nat → Nat), T i = st ∧ A i = aid ∧ T (i + l.length) = stf ∧ ∀ j o, l[j]? = some o → DOne P R cx ops kf o (i + j) (A (i + j)) (T (i + j)) (A (i + j + 1)) (T (i + j + 1))
theorem Trace.cons {kf : Book} {l : List Oper} {o : Oper} {i aid aid1 : Nat} {st st1 stf : ASt} (h1 : DOne P R cx ops kf o i aid st aid1 st1) (h2 : Trace P R cx ops kf l (i + 1) aid1 st1 stf) : Trace P R cx ops kf (o :: l) i aid st stf := by
  obtain ⟨T, A, t1, t2, t3, t4⟩ := h2
  refine ⟨fun j => if j = i then st else T j, fun j => if j = i then aid else A j, by simp, by simp, ?_, ?_⟩
  · simp only [List.length_cons]
    rw [if_neg (by omega), ← t3]
    congr 1; omega
  · intro j q hq
    cases j with
    | zero =>
      simp only [List.getElem?_cons_zero, Option.some.injEq] at hq
      subst hq
      simp only [Nat.add_zero, if_true]
      rw [if_neg (by omega), if_neg (by omega), t1, t2]
      exact h1
    | succ j =>
      simp only [List.getElem?_cons_succ] at hq
      have := t4 j q hq
      show DOne P R cx ops kf q (i + (j + 1)) (if i + (j + 1) = i then aid else A (i + (j + 1))) (if i + (j + 1) = i then st else T (i + (j + 1))) (if i + (j + 1) + 1 = i then aid else A (i + (j + 1) + 1)) (if i + (j + 1) + 1 = i then st else T (i + (j + 1) + 1))
      rw [if_neg (by omega), if_neg (by omega), if_neg (by omega), if_neg (by omega)]
      rw [show i + (j + 1) = i + 1 + j by omega]
      exact this
theorem runDraw_trace : ∀ (l : List Oper) (i aid : Nat) (k : Book) (st : ASt) (kf : Book) (stf : ASt), runDraw P R cx ops l i aid k st = some (kf, stf) →
    ((∀ x, x ∈ k.es → x ∈ kf.es) ∧ (∀ x, x ∈ k.fs → x ∈ kf.fs)) ∧ Trace P R cx ops kf l i aid st stf
  | [], i, aid, k, st, kf, stf, hr => by
    simp only [runDraw, Option.some.injEq, Prod.mk.injEq] at hr
    obtain ⟨rfl, rfl⟩ := hr
    exact ⟨⟨fun _ h => h, fun _ h => h⟩, fun _ => st, fun _ => aid, rfl, rfl, rfl, fun j o h => by simp at h⟩
  | o :: l, i, aid, k, st, kf, stf, hr => by
    unfold runDraw at hr
    split at hr
    · rename_i hw
      split at hr
      · rename_i st1 hp
        obtain ⟨q1, q2⟩ := runDraw_trace l _ _ _ _ _ _ hr
        exact ⟨q1, .cons (.skip hw hp rfl) q2⟩
      · cases hr
    · rename_i hw
      split at hr
      · rename_i hA
        split at hr
        · rename_i v h hop
          split at hr
          · rename_i x hx
            split at hr
            · rename_i hn
              split at hr
              · rename_i st1 hp
                obtain ⟨q1, q2⟩ := runDraw_trace l _ _ _ _ _ _ hr
                exact ⟨q1, .cons (.mk v h x hw hA hop hx hn hp rfl) q2⟩
              · cases hr
            · cases hr
          · cases hr
        · cases hr
      · rename_i hA
        have hA : isA o.op = false := by simpa using hA
        split at hr
        · rename_i hF
          split at hr
          · rename_i v h hop
            split at hr
            · rename_i hnx
              split at hr
              · rename_i st1 hp
                obtain ⟨q1, q2⟩ := runDraw_trace l _ _ _ _ _ _ hr
                exact ⟨⟨q1.1, fun x hx => q1.2 x (List.mem_cons_of_mem _ hx)⟩, .cons (.look v h hw hA hF hop hnx hp rfl (q1.2 _ (List.mem_cons_self ..))) q2⟩
              · cases hr
            · cases hr
          · cases hr
        · rename_i hF
          have hF : isF o.op = false := by simpa using hF
          split at hr
          · rename_i v cm h hop
            split at hr
            · rename_i st1 hp
              obtain ⟨q1, q2⟩ := runDraw_trace l _ _ _ _ _ _ hr
              exact ⟨⟨fun x hx => q1.1 x (List.mem_cons_of_mem _ hx), q1.2⟩, .cons (.act v cm h hw hA hF hop hp rfl (q1.1 _ (List.mem_cons_self ..))) q2⟩
            · cases hr
          · cases hr
    · cases hr
def ancFold (o : Oper) (acc : List Nat) : Nat := o.after.foldl (fun s e => if Region.binds .any e then s ||| 2 ^ e.on ||| acc.getD e.on 0 else s) 0
theorem ancs_spec : ∀ (l : List Oper) (acc : List Nat), (∃ B, ancs l acc = acc ++ B ∧ B.length = l.length) ∧
    ∀ j o, l[j]? = some o → (ancs l acc).getD (acc.length + j) 0 = ancFold o ((ancs l acc).take (acc.length + j))
  | [], acc => ⟨⟨[], by simp [ancs], rfl⟩, fun j o h => by simp at h⟩
  | o :: l, acc => by
    have e : ancs (o :: l) acc = ancs l (acc ++ [ancFold o acc]) := rfl
    rw [e]
    obtain ⟨⟨B, h1, h2⟩, h3⟩ := ancs_spec l (acc ++ [ancFold o acc])
    refine ⟨⟨ancFold o acc :: B, by rw [h1]; simp, by simp [h2]⟩, ?_⟩
    intro j q hq
    cases j with
    | zero =>
      simp only [List.getElem?_cons_zero, Option.some.injEq] at hq
      subst hq
      rw [h1]
      simp
    | succ j =>
      simp only [List.getElem?_cons_succ] at hq
      have := h3 j q hq
      simp only [List.length_append, List.length_cons, List.length_nil] at this
      rw [show acc.length + (j + 1) = acc.length + (0 + 1) + j by omega]
      exact this
def Anc (ops : Array Oper) (i k : Nat) : Prop := ((ancs ops.toList []).getD i 0).testBit k = true
theorem fold_bits (acc : List Nat) (k : Nat) : ∀ (es : List Edge) (s : Nat), (es.foldl (fun s e => if Region.binds .any e then s ||| 2 ^ e.on ||| acc.getD e.on 0 else s) s).testBit k = true →
    s.testBit k = true ∨ ∃ e, e ∈ es ∧ Region.binds .any e = true ∧ (e.on = k ∨ (acc.getD e.on 0).testBit k = true)
  | [], s, h => .inl h
  | e :: es, s, h => by
    simp only [List.foldl_cons] at h
    rcases fold_bits acc k es _ h with h1 | ⟨e', h1, h2, h3⟩
    · split at h1
      · rename_i hb
        simp only [Nat.testBit_or, Nat.testBit_two_pow, Bool.or_eq_true, decide_eq_true_eq] at h1
        rcases h1 with (h1 | h1) | h1
        · exact .inl h1
        · exact .inr ⟨e, List.mem_cons_self .., hb, .inl h1⟩
        · exact .inr ⟨e, List.mem_cons_self .., hb, .inr h1⟩
      · exact .inl h1
    · exact .inr ⟨e', List.mem_cons_of_mem _ h1, h2, h3⟩
theorem Anc.direct {i k : Nat} {o : Oper} (ho : ops[i]? = some o) (h : Anc ops i k) : ∃ e, e ∈ o.after ∧ Region.binds .any e = true ∧ (e.on = k ∨ Anc ops e.on k) := by
  unfold Anc at h
  have hs := (ancs_spec ops.toList []).2 i o (by simpa using ho)
  simp only [List.length_nil, Nat.zero_add] at hs
  rw [hs] at h
  unfold ancFold at h
  rw [← Array.foldl_toList] at h
  rcases fold_bits _ k _ _ h with h1 | ⟨e, h1, h2, h3⟩
  · simp at h1
  · refine ⟨e, by simpa using h1, h2, ?_⟩
    rcases h3 with h3 | h3
    · exact .inl h3
    · right
      unfold Anc
      rw [List.getD_eq_getElem?_getD, List.getElem?_take] at h3
      rw [List.getD_eq_getElem?_getD]
      split at h3
      · exact h3
      · simp at h3
theorem Anc.here {i k : Nat} (h : Anc ops i k) : ∃ o, ops[i]? = some o := by
  rcases Nat.lt_or_ge i ops.size with h1 | h1
  · exact ⟨ops[i], by simp [h1]⟩
  · unfold Anc at h
    obtain ⟨⟨B, h2, h3⟩, _⟩ := ancs_spec ops.toList []
    rw [h2, List.nil_append, List.getD_eq_getElem?_getD, List.getElem?_eq_none (by rw [h3]; simpa using h1)] at h
    simp at h
structure Static (ops : Array Oper) : Prop where
  back : ∀ (i : Nat) (o : Oper) (e : Edge), ops[i]? = some o → e ∈ o.after → Region.binds .any e = true → e.on < i
  guard : ∀ (i : Nat) (o : Oper) (j : Nat) (b : Bool), ops[i]? = some o → o.guard = some (j, b) → Anc ops i j
  one : ∀ (i k : Nat) (o q : Oper) (d : Tmp), ops[i]? = some o → ops[k]? = some q → q.dst = some d → o.dst = some d → k = i
  use : ∀ (i k : Nat) (o q : Oper) (d : Tmp), ops[i]? = some o → ops[k]? = some q → q.dst = some d → d ∈ tmpsOf o → Anc ops i k ∨ Anc ops k i
  chain : ∀ (i k : Nat) (o q : Oper), ops[i]? = some o → ops[k]? = some q → k < i → isA o.op = false → isF o.op = false → isA q.op = false → isF q.op = false → Anc ops i k
theorem static_of (h : drawStatic ops = true) : Static ops := by
  unfold drawStatic at h
  simp only [List.all_eq_true] at h
  have hmem : ∀ (i : Nat) (o : Oper), ops[i]? = some o → (o, i) ∈ ops.toList.zipIdx := by
    intro i o ho
    rw [List.mem_zipIdx_iff_getElem?]
    simpa using ho
  have key : ∀ (i : Nat) (o : Oper), ops[i]? = some o → _ := fun i o ho => h (o, i) (hmem i o ho)
  refine ⟨?_, ?_, ?_, ?_, ?_⟩
  · intro i o e ho he hb
    have := key i o ho
    simp only [Bool.and_eq_true] at this
    have h1 := this.1.1
    rw [Array.all_eq_true] at h1
    obtain ⟨n, hn, rfl⟩ := Array.mem_iff_getElem.1 he
    have := h1 n hn
    rw [hb] at this
    simpa using this
  · intro i o j b ho hg
    have := key i o ho
    simp only [Bool.and_eq_true] at this
    have h1 := this.1.2
    rw [hg] at h1
    exact h1
  · intro i k o q d ho hq h1 h2
    have := key i o ho
    simp only [Bool.and_eq_true] at this
    have h3 := this.2
    rw [List.all_eq_true] at h3
    have h4 := h3 (q, k) (hmem k q hq)
    simp only [Bool.and_eq_true] at h4
    have h5 := h4.1
    rw [h1] at h5
    simp only [Bool.and_eq_true, Bool.or_eq_true] at h5
    rcases h5.1 with h6 | h6
    · simpa using h6
    · rw [h2] at h6; simp at h6
  · intro i k o q d ho hq h1 h2
    have := key i o ho
    simp only [Bool.and_eq_true] at this
    have h3 := this.2
    rw [List.all_eq_true] at h3
    have h4 := h3 (q, k) (hmem k q hq)
    simp only [Bool.and_eq_true] at h4
    have h5 := h4.1
    rw [h1] at h5
    simp only [Bool.and_eq_true, Bool.or_eq_true] at h5
    rcases h5.2 with (h6 | h6) | h6
    · simp [h2] at h6
    · exact .inl h6
    · exact .inr h6
  · intro i k o q ho hq hki a1 a2 a3 a4
    have := key i o ho
    simp only [Bool.and_eq_true] at this
    have h3 := this.2
    rw [List.all_eq_true] at h3
    have h4 := h3 (q, k) (hmem k q hq)
    simp only [Bool.and_eq_true] at h4
    have h5 := h4.2
    simp only [a1, a2, a3, a4, hki, decide_true, Bool.not_true, Bool.false_or] at h5
    exact h5
theorem Anc.lt (hs : Static ops) : ∀ {i k : Nat}, Anc ops i k → k < i := by
  intro i
  induction i using Nat.strongRecOn with
  | ind i ih =>
    intro k h
    obtain ⟨o, ho⟩ := h.here
    obtain ⟨e, h1, h2, h3⟩ := h.direct ho
    have := hs.back i o e ho h1 h2
    rcases h3 with h3 | h3
    · omega
    · have := ih e.on this h3; omega
theorem Anc.closed (hs : Static ops) {S : Nat → Prop} (hS : ∀ i o e, ops[i]? = some o → S i → e ∈ o.after → Region.binds .any e = true → S e.on) : ∀ {i k : Nat}, S i → Anc ops i k → S k := by
  intro i
  induction i using Nat.strongRecOn with
  | ind i ih =>
    intro k hi h
    obtain ⟨o, ho⟩ := h.here
    obtain ⟨e, h1, h2, h3⟩ := h.direct ho
    have h4 := hS i o e ho hi h1 h2
    rcases h3 with rfl | h3
    · exact h4
    · exact ih e.on (hs.back i o e ho h1 h2) h4 h3
theorem Anc.ready (hs : Static ops) {S : Nat → Prop} (hS : ∀ i o e, ops[i]? = some o → S i → e ∈ o.after → Region.binds .any e = true → S e.on) {i k : Nat} {o : Oper} (ho : ops[i]? = some o)
    (hi : ∀ e, e ∈ o.after → Region.binds .any e = true → S e.on) (h : Anc ops i k) : S k := by
  obtain ⟨e, h1, h2, h3⟩ := h.direct ho
  rcases h3 with rfl | h3
  · exact hi e h1 h2
  · exact Anc.closed hs hS (hi e h1 h2) h3
theorem bookOK_of {kf : Book} (h : bookOK (ancs ops.toList []) kf = true) {i j : Nat} {ids wr : List Nat} (hi : (i, ids) ∈ kf.fs) (hj : (j, wr) ∈ kf.es) (h1 : ¬ Anc ops i j) (h2 : ¬ Anc ops j i) : ∀ o, o ∈ ids → o ∉ wr := by
  unfold bookOK at h
  rw [List.all_eq_true] at h
  have h3 := h _ hi
  simp only [List.all_eq_true] at h3
  have h4 := h3 _ hj
  simp only [Bool.or_eq_true] at h4
  intro o ho hw
  rcases h4 with (h4 | h4) | h4
  · exact h1 h4
  · exact h2 h4
  · have := h4
    rw [List.all_eq_true] at this
    have := this o ho
    simp [hw] at this
end
end Go.AI
end

/-
  Regions whose order is open: facts of the run in the order of the text.
-/
section
namespace Go.AI
def isE (o : Oper) : Bool := !isA o.op && !isF o.op
theorem isE_iff {o : Oper} : isE o = true ↔ isA o.op = false ∧ isF o.op = false := by
  unfold isE; cases isA o.op <;> cases isF o.op <;> simp
structure Rgn (P : Program) (R : Rec) (cx : Ctx) (ops : Array Oper) (kf : Book) (T : Nat → ASt) (A : Nat → Nat) (h0 : AHeap) : Prop where
  st : Static ops
  tr : ∀ (i : Nat) (o : Oper), ops[i]? = some o → DOne P R cx ops kf o i (A i) (T i) (A (i + 1)) (T (i + 1))
  bk : bookOK (ancs ops.toList []) kf = true
  a0 : A 0 = h0.next
  t0 : (T 0).h = { h0 with next := h0.next + countA ops.toList }
  nn : ∀ o, h0.next ≤ o → o < h0.next + countA ops.toList → h0.get o = none
section
variable {P : Program} {R : Rec} {cx : Ctx} {ops : Array Oper} {kf : Book} {T : Nat → ASt} {A : Nat → Nat} {h0 : AHeap}
theorem lt_of_op {i : Nat} {o : Oper} (h : ops[i]? = some o) : i < ops.size := by
  rcases Nat.lt_or_ge i ops.size with h1 | h1
  · exact h1
  · rw [Array.getElem?_eq_none h1] at h; cases h
theorem put_tm {st st' : ASt} {tn : Nat} {dst : Option Tmp} {v : AV} (hp : st.put tn dst v = some st') :
    (∀ t, dst ≠ some t → st'.tm.get t = st.tm.get t) ∧ (∀ d, dst = some d → st'.tm.get d = some v ∧ d < tn) := by
  unfold ASt.put at hp
  cases dst with
  | none => simp only [Option.some.injEq] at hp; subst hp; exact ⟨fun _ _ => rfl, fun _ h => by cases h⟩
  | some d =>
    simp only at hp
    split at hp
    · rename_i hd
      simp only [Option.some.injEq] at hp; subst hp
      refine ⟨fun t ht => Tr.get_put_other _ _ (fun e => ht (by rw [e])), fun d' e => ?_⟩
      simp only [Option.some.injEq] at e; subst e
      exact ⟨Tr.get_put_same _ _ _, hd⟩
    · cases hp
namespace Rgn
variable (hr : Rgn P R cx ops kf T A h0)
include hr
theorem puts (i : Nat) (o : Oper) (ho : ops[i]? = some o) : ∃ v, (∀ t, o.dst ≠ some t → (T (i + 1)).tm.get t = (T i).tm.get t) ∧ (∀ d, o.dst = some d → (T (i + 1)).tm.get d = some v ∧ d < cx.tn) ∧ (T (i + 1)).cm = (T i).cm ∧ (T (i + 1)).df = (T i).df := by
  cases hr.tr i o ho with
  | skip hw hp ha => exact ⟨_, (put_tm hp).1, (put_tm hp).2, (put_h hp).2.1, (put_h hp).2.2⟩
  | mk v h x hw hA hrr hg hn hp ha => exact ⟨_, (put_tm hp).1, (put_tm hp).2, (put_h hp).2.1, (put_h hp).2.2⟩
  | look v h hw hA hF hrr hnx hp ha hk => exact ⟨_, (put_tm hp).1, (put_tm hp).2, (put_h hp).2.1, (put_h hp).2.2⟩
  | act v cm h hw hA hF hrr hp ha hk => exact ⟨_, (put_tm hp).1, (put_tm hp).2, (put_h hp).2.1, (put_h hp).2.2⟩
theorem same_tm {t : Tmp} {i : Nat} : ∀ (d : Nat), i + d ≤ ops.size → (∀ k q, ops[k]? = some q → q.dst = some t → k < i) → (T (i + d)).tm.get t = (T i).tm.get t
  | 0, _, _ => rfl
  | d + 1, hd, hk => by
    have hlt : i + d < ops.size := by omega
    have ho : ops[i + d]? = some ops[i + d] := by simp [hlt]
    obtain ⟨v, h1, _⟩ := hr.puts (i + d) _ ho
    rw [show i + (d + 1) = i + d + 1 by omega, h1 t (fun e => by have := hk _ _ ho e; omega)]
    exact same_tm d (by omega) hk
theorem fin_tm {t : Tmp} {i : Nat} (hi : i ≤ ops.size) (hk : ∀ k q, ops[k]? = some q → q.dst = some t → k < i) : (T ops.size).tm.get t = (T i).tm.get t := by
  have := hr.same_tm (t := t) (i := i) (ops.size - i) (by omega) hk
  rwa [show i + (ops.size - i) = ops.size by omega] at this
theorem fin_start {t : Tmp} (hk : ∀ (k : Nat) (q : Oper), ops[k]? = some q → q.dst ≠ some t) : (T ops.size).tm.get t = (T 0).tm.get t :=
  hr.fin_tm (Nat.zero_le _) fun k q h1 h2 => absurd h2 (hk k q h1)
theorem same0_tm {t : Tmp} : ∀ (d : Nat), d ≤ ops.size → (∀ k q, ops[k]? = some q → q.dst = some t → d ≤ k) → (T d).tm.get t = (T 0).tm.get t
  | 0, _, _ => rfl
  | d + 1, hd, hk => by
    have hlt : d < ops.size := by omega
    have ho : ops[d]? = some ops[d] := by simp [hlt]
    obtain ⟨v, h1, _⟩ := hr.puts d _ ho
    rw [h1 t (fun e => by have := hk _ _ ho e; omega)]
    exact same0_tm d (by omega) fun k q h2 h3 => by have := hk k q h2 h3; omega
theorem opn {i : Nat} {o : Oper} (ho : ops[i]? = some o) {t : Tmp} (ht : t ∈ tmpsOf o) :
    ((T ops.size).tm.get t = (T i).tm.get t ∧ ∀ (k : Nat) (q : Oper), ops[k]? = some q → q.dst = some t → Anc ops i k) ∨
    ((T 0).tm.get t = (T i).tm.get t ∧ ∀ (k : Nat) (q : Oper), ops[k]? = some q → q.dst = some t → Anc ops k i) := by
  rcases Classical.em (∃ (k : Nat) (q : Oper), ops[k]? = some q ∧ q.dst = some t) with ⟨k, q, hk, hq⟩ | hn
  · have uniq : ∀ (k' : Nat) (q' : Oper), ops[k']? = some q' → q'.dst = some t → k' = k := fun k' q' h1 h2 => hr.st.one k k' q q' t hk h1 h2 hq
    rcases hr.st.use i k o q t ho hk hq ht with h | h
    · refine .inl ⟨hr.fin_tm (Nat.le_of_lt (lt_of_op ho)) fun k' q' h1 h2 => ?_, fun k' q' h1 h2 => by rw [uniq k' q' h1 h2]; exact h⟩
      rw [uniq k' q' h1 h2]; exact Anc.lt hr.st h
    · refine .inr ⟨(hr.same0_tm i (Nat.le_of_lt (lt_of_op ho)) fun k' q' h1 h2 => ?_).symm, fun k' q' h1 h2 => by rw [uniq k' q' h1 h2]; exact h⟩
      rw [uniq k' q' h1 h2]; exact Nat.le_of_lt (Anc.lt hr.st h)
  · exact .inl ⟨hr.fin_tm (Nat.le_of_lt (lt_of_op ho)) fun k q h1 h2 => absurd ⟨k, q, h1, h2⟩ hn, fun k q h1 h2 => absurd ⟨k, q, h1, h2⟩ hn⟩
theorem fin_wanted {i : Nat} {o : Oper} (ho : ops[i]? = some o) : wantedA ops o (T i).tm = wantedA ops o (T ops.size).tm := by
  unfold wantedA
  cases hg : o.guard with
  | none => rfl
  | some p =>
    obtain ⟨j, want⟩ := p
    simp only
    cases hd : (ops[j]?).bind (·.dst) with
    | none => rfl
    | some d =>
      simp only
      have hj := hr.st.guard i o j want ho hg
      have hji := Anc.lt hr.st hj
      have : (T ops.size).tm.get d = (T i).tm.get d := by
        refine hr.fin_tm (Nat.le_of_lt (lt_of_op ho)) fun k q h1 h2 => ?_
        cases hq : ops[j]? with
        | none => rw [hq] at hd; cases hd
        | some q' =>
          rw [hq] at hd
          have := hr.st.one k j q q' d h1 hq (by simpa using hd) h2
          omega
      rw [this]
theorem fin_put {i : Nat} {o : Oper} (ho : ops[i]? = some o) {st1 : ASt} {v : AV} (hp : st1.put cx.tn o.dst v = some (T (i + 1))) {d : Tmp} (hd : o.dst = some d) : (T ops.size).tm.get d = some v ∧ d < cx.tn := by
  have h1 := (put_tm hp).2 d hd
  refine ⟨?_, h1.2⟩
  rw [← h1.1]
  refine hr.fin_tm (lt_of_op ho) fun k q h2 h3 => ?_
  have := hr.st.one i k o q d ho h2 h3 hd
  omega
theorem aid (i : Nat) (o : Oper) (ho : ops[i]? = some o) : A (i + 1) = if isA o.op then A i + 1 else A i := by
  cases hr.tr i o ho with
  | skip hw hp ha => exact ha
  | mk v h x hw hA hrr hg hn hp ha => rw [ha, hA]; rfl
  | look v h hw hA hF hrr hnx hp ha hk => rw [ha, hA]; rfl
  | act v cm h hw hA hF hrr hp ha hk => rw [ha, hA]; rfl
theorem aid_sum : ∀ (i : Nat), i ≤ ops.size → A i + countA (ops.toList.drop i) = h0.next + countA ops.toList
  | 0, _ => by rw [hr.a0]; simp
  | i + 1, hi => by
    have hlt : i < ops.size := by omega
    have ho : ops[i]? = some ops[i] := by simp [hlt]
    have h1 := aid_sum i (by omega)
    have hd : ops.toList.drop i = ops[i] :: ops.toList.drop (i + 1) := by
      rw [List.drop_eq_getElem_cons (by simpa using hlt)]; simp
    rw [hd] at h1
    rw [hr.aid i _ ho]
    simp only [countA] at h1
    split at h1 <;> rename_i hA <;> simp only [hA] <;> simp <;> omega
theorem aid_mono {i : Nat} : ∀ (d : Nat), i + d ≤ ops.size → A i ≤ A (i + d)
  | 0, _ => Nat.le_refl _
  | d + 1, hd => by
    have hlt : i + d < ops.size := by omega
    have ho : ops[i + d]? = some ops[i + d] := by simp [hlt]
    have := aid_mono (i := i) d (by omega)
    rw [show i + (d + 1) = i + d + 1 by omega, hr.aid _ _ ho]
    split <;> omega
theorem aid_lt {i : Nat} {o : Oper} (ho : ops[i]? = some o) (hA : isA o.op = true) : h0.next ≤ A i ∧ A i < h0.next + countA ops.toList := by
  have hi := lt_of_op ho
  have h1 := hr.aid_sum (i + 1) (by omega)
  have h2 := hr.aid i o ho
  have h3 := hr.aid_mono (i := 0) i (by omega)
  rw [hr.a0] at h3
  rw [hA] at h2
  simp only [if_true] at h2
  rw [Nat.zero_add] at h3
  omega
theorem aid_ne {i k : Nat} {o q : Oper} (ho : ops[i]? = some o) (hq : ops[k]? = some q) (hA : isA o.op = true) (hik : i < k) : A i < A k := by
  have h2 := hr.aid i o ho
  rw [hA] at h2
  simp only [if_true] at h2
  have hk := lt_of_op hq
  have h1 := hr.aid_mono (i := i + 1) (k - (i + 1)) (by omega)
  rw [show i + 1 + (k - (i + 1)) = k by omega] at h1
  omega
theorem aid_inj {i k : Nat} {o q : Oper} (ho : ops[i]? = some o) (hq : ops[k]? = some q) (hA : isA o.op = true) (hB : isA q.op = true) (he : A i = A k) : i = k := by
  rcases Nat.lt_trichotomy i k with h | h | h
  · have := hr.aid_ne ho hq hA h; omega
  · exact h
  · have := hr.aid_ne hq ho hB h; omega
end Rgn
def HStep (kf : Book) (T : Nat → ASt) (A : Nat → Nat) (j : Nat) (o : Oper) : Prop :=
  (isA o.op = true ∧ (∀ p, p ≠ A j → (T (j + 1)).h.get p = (T j).h.get p) ∧ (T (j + 1)).h.next = (T j).h.next ∧ (T (j + 1)).h.floor = (T j).h.floor ∧ (T (j + 1)).h.wr = (T j).h.wr) ∨
  (isA o.op = false ∧ (T (j + 1)).h = (T j).h) ∨
  (isE o = true ∧ ∃ wr, (j, wr) ∈ kf.es ∧ (T j).h.next ≤ (T (j + 1)).h.next ∧ (∀ p, p < (T j).h.next → p ∉ wr → (T (j + 1)).h.get p = (T j).h.get p) ∧ (∀ p, p < (T j).h.next → (T j).h.get p = none → (T (j + 1)).h.get p = none))
def Pure (ops : Array Oper) (kf : Book) (T : Nat → ASt) (A : Nat → Nat) (m : Nat) : Prop := ∀ j o, j < m → ops[j]? = some o → HStep kf T A j o
theorem Pure.le {m m' : Nat} (h : Pure ops kf T A m) (hm : m' ≤ m) : Pure ops kf T A m' := fun j o hj ho => h j o (by omega) ho
namespace Rgn
variable (hr : Rgn P R cx ops kf T A h0)
include hr
theorem hstep {j : Nat} {o : Oper} (ho : ops[j]? = some o) (hE : isE o = false) : HStep kf T A j o := by
  cases hr.tr j o ho with
  | skip hw hp ha =>
    cases hA : isA o.op with
    | true => exact .inl ⟨hA, fun p _ => by rw [(put_h hp).1], by rw [(put_h hp).1], by rw [(put_h hp).1], by rw [(put_h hp).1]⟩
    | false => exact .inr (.inl ⟨hA, (put_h hp).1⟩)
  | mk v h x hw hA hrr hg hn hp ha => exact .inl ⟨hA, fun p hp' => by rw [(put_h hp).1]; exact Tr.get_put_other _ _ hp', by rw [(put_h hp).1], by rw [(put_h hp).1], by rw [(put_h hp).1]⟩
  | look v h hw hA hF hrr hnx hp ha hk => exact .inr (.inl ⟨hA, (put_h hp).1⟩)
  | act v cm h hw hA hF hrr hp ha hk => rw [isE_iff.2 ⟨hA, hF⟩] at hE; cases hE
theorem next_mono {m : Nat} (hm : m ≤ ops.size) (hp : Pure ops kf T A m) {i : Nat} : ∀ (d : Nat), i + d ≤ m → (T i).h.next ≤ (T (i + d)).h.next
  | 0, _ => Nat.le_refl _
  | d + 1, hd => by
    have hlt : i + d < ops.size := by omega
    have ho : ops[i + d]? = some ops[i + d] := by simp [hlt]
    have h1 := next_mono hm hp (i := i) d (by omega)
    rw [show i + (d + 1) = i + d + 1 by omega]
    rcases hp (i + d) _ (by omega) ho with ⟨_, _, h2, _⟩ | ⟨_, h2⟩ | ⟨_, wr, _, h2, _⟩
    · omega
    · rw [h2]; exact h1
    · omega
theorem aid_next {m : Nat} (hm : m ≤ ops.size) (hp : Pure ops kf T A m) {k : Nat} {o : Oper} (ho : ops[k]? = some o) (hA : isA o.op = true) {j : Nat} (hj : j ≤ m) : A k < (T j).h.next := by
  have h1 := hr.next_mono hm hp (i := 0) j (by omega)
  rw [Nat.zero_add, hr.t0] at h1
  have := (hr.aid_lt ho hA).2
  simp only at h1
  omega
theorem free {m : Nat} (hm : m ≤ ops.size) (hp : Pure ops kf T A m) {k : Nat} {o : Oper} (ho : ops[k]? = some o) (hA : isA o.op = true) : ∀ (j : Nat), j ≤ k → j ≤ m → (T j).h.get (A k) = none
  | 0, _, _ => by
    rw [hr.t0]
    exact hr.nn _ (hr.aid_lt ho hA).1 (hr.aid_lt ho hA).2
  | j + 1, hk, hj => by
    have hlt : j < ops.size := by omega
    have hq : ops[j]? = some ops[j] := by simp [hlt]
    have h1 := free hm hp ho hA j (by omega) (by omega)
    rcases hp j _ (by omega) hq with ⟨hB, h2, _⟩ | ⟨_, h2⟩ | ⟨_, wr, _, _, _, h2⟩
    · rw [h2 _ (fun e => by have := hr.aid_ne hq ho hB (by omega); omega)]; exact h1
    · rw [h2]; exact h1
    · exact h2 _ (hr.aid_next hm hp ho hA (by omega)) h1
end Rgn
end
end Go.AI
end

/-
  Regions whose order is open: what holds after some of the operations.
-/
section
namespace Go.AI
theorem OR.phantom {g : Gh} {w : World} {o : Nat} {x : AObj} (h : ∀ v, g.B o v = none) : OR g w o x := by
  cases x with
  | cells ver minv c fz el ex sh => exact ⟨fun v _ => h v, fun v _ _ b s n e => by rw [h v] at e; cases e⟩
  | map es clock => intro b s n e; rw [h 0] at e; cases e
  | sit s pos => intro b s n e; rw [h 0] at e; cases e
  | mit m since seen last => intro b s n e; rw [h 0] at e; cases e
  | loop st pend fn tn tm ps assign body dd => intro b s n e; rw [h 0] at e; cases e
  | dfr ds => intro b s n e; rw [h 0] at e; cases e
structure DInv (ops : Array Oper) (T : Nat → ASt) (A : Nat → Nat) (tn : Nat) (h0 : AHeap) (g0 : Gh) (w0 : World) (S : Nat → Prop) (q : Nat) (g : Gh) (w : World) (a : Act) : Prop where
  ql : q ≤ ops.size
  ee : ∀ (j : Nat) (o : Oper), ops[j]? = some o → isE o = true → (S j ↔ j < q)
  ww : W (T q).h g w
  fr : Fresh (T q).h g
  early : ∀ (k : Nat) (o : Oper), ops[k]? = some o → isA o.op = true → S k → q ≤ k → ∀ x, (T (k + 1)).h.get (A k) = some x → OR g w (A k) x
  ph : ∀ (k : Nat) (o : Oper), ops[k]? = some o → isA o.op = true → ¬ S k → ∀ v, g.B (A k) v = none
  kp : ∀ (k : Nat) (o : Oper), ops[k]? = some o → isA o.op = true → ¬ S k → k < q → (T q).h.get (A k) = (T (k + 1)).h.get (A k)
  tm : ∀ t x, (T ops.size).tm.get t = some x → (∀ (k : Nat) (o : Oper), ops[k]? = some o → o.dst = some t → S k) → ∃ v, a.tmps[t]? = some v ∧ VR g x v
  sz : a.tmps.size = tn
  df : DefsR g (T 0).df a.defers
  stp : Step h0 g0 w0 (T q).h g w
  tm0 : ∀ t x, (T 0).tm.get t = some x → (∀ (k : Nat) (o : Oper), ops[k]? = some o → o.dst = some t → ¬ S k) → ∃ v, a.tmps[t]? = some v ∧ VR g x v
section
variable {P : Program} {R : Rec} {cx : Ctx} {ops : Array Oper} {kf : Book} {T : Nat → ASt} {A : Nat → Nat} {h0 : AHeap} {g0 : Gh} {w0 : World} {S : Nat → Prop} {q : Nat} {g : Gh} {w : World} {a : Act}
theorem Step.eqh {h1 h2 : AHeap} (hs : Step h0 g0 w0 h1 g w) (hn : h2.next = h1.next) (hfl : h2.floor = h1.floor) (hwr : h2.wr = h1.wr) (hg : ∀ o, o < h0.next → h2.get o = h1.get o) : Step h0 g0 w0 h2 g w where
  le := hs.le
  nxt := by rw [hn]; exact hs.nxt
  flo := by rw [hfl]; exact hs.flo
  wr := by rw [hwr]; exact hs.wr
  keep := fun o a b c => by rw [hg o b]; exact hs.keep o a b (by rw [← hwr]; exact c)
  ph := fun o a b => by rw [hg o a]; exact hs.ph o a b
  gone := fun o a b => by rw [hg o a]; exact hs.gone o a b
  newB := fun o v x e => by rw [hn]; exact hs.newB o v x e
  size := hs.size
  old := hs.old
  fr := fun b hb hk => hs.fr b hb (by rw [← hwr]; exact hk)
  tape := hs.tape
  os := hs.os
  out := hs.out
  newM := hs.newM
theorem DInv.adv (hr : Rgn P R cx ops kf T A h0) (hd : DInv ops T A cx.tn h0 g0 w0 S q g w a) {o : Oper} (ho : ops[q]? = some o) (hE : isE o = false) : DInv ops T A cx.tn h0 g0 w0 S (q + 1) g w a := by
  have hstep := hr.hstep ho hE
  have he : ∀ (j : Nat) (o : Oper), ops[j]? = some o → isE o = true → (S j ↔ j < q + 1) := by
    intro j o' ho' hE'
    rw [hd.ee j o' ho' hE']
    refine ⟨fun h => by omega, fun h => ?_⟩
    rcases Nat.lt_or_ge j q with h1 | h1
    · exact h1
    · obtain rfl : j = q := by omega
      rw [ho] at ho'
      simp only [Option.some.injEq] at ho'; subst ho'
      rw [hE] at hE'; cases hE'
  rcases hstep with ⟨hA, h1, h2, h3, h4⟩ | ⟨hA, h1⟩ | ⟨h1, _⟩
  · refine ⟨lt_of_op ho, he, ⟨?_, hd.ww.bnd, hd.ww.inj, hd.ww.ro, hd.ww.dis, hd.ww.gl⟩, fun p hp => hd.fr p (by rw [← h2]; exact hp), fun k o' h5 h6 h7 h8 => hd.early k o' h5 h6 h7 (by omega), hd.ph, ?_, hd.tm, hd.sz, hd.df, ?_, hd.tm0⟩
    · intro p x hx
      by_cases e : p = A q
      · subst e
        rcases Classical.em (S q) with hS | hS
        · exact hd.early q o ho hA hS (Nat.le_refl _) x hx
        · exact OR.phantom (hd.ph q o ho hA hS)
      · rw [h1 p e] at hx
        exact hd.ww.obj p x hx
    · intro k o' h5 h6 h7 h8
      rcases Nat.lt_or_ge k q with h9 | h9
      · rw [h1 (A k) (fun e => by have := hr.aid_ne h5 ho h6 h9; omega)]
        exact hd.kp k o' h5 h6 h7 h9
      · obtain rfl : k = q := by omega
        rfl
    · exact hd.stp.eqh h2 h3 h4 fun p hp => h1 p (fun e => by have := (hr.aid_lt ho hA).1; omega)
  · refine ⟨lt_of_op ho, he, by rw [h1]; exact hd.ww, by rw [h1]; exact hd.fr, fun k o' h5 h6 h7 h8 => hd.early k o' h5 h6 h7 (by omega), hd.ph, ?_, hd.tm, hd.sz, hd.df, by rw [h1]; exact hd.stp, hd.tm0⟩
    intro k o' h5 h6 h7 h8
    rcases Nat.lt_or_ge k q with h9 | h9
    · rw [h1]; exact hd.kp k o' h5 h6 h7 h9
    · obtain rfl : k = q := by omega
      rfl
  · rw [hE] at h1; cases h1
theorem DInv.advTo (hr : Rgn P R cx ops kf T A h0) : ∀ (d : Nat) (q : Nat), DInv ops T A cx.tn h0 g0 w0 S q g w a → q + d ≤ ops.size → (∀ (j : Nat) (o : Oper), ops[j]? = some o → q ≤ j → j < q + d → isE o = false) → DInv ops T A cx.tn h0 g0 w0 S (q + d) g w a
  | 0, _, hd, _, _ => hd
  | d + 1, q, hd, hn, hk => by
    have hlt : q < ops.size := by omega
    have ho : ops[q]? = some ops[q] := by simp [hlt]
    have := DInv.advTo hr d (q + 1) (hd.adv hr ho (hk q _ ho (Nat.le_refl _) (by omega))) (by omega) (fun j o h1 h2 h3 => hk j o h1 (by omega) (by omega))
    rwa [show q + 1 + d = q + (d + 1) by omega] at this
theorem tm0_put {i : Nat} {o : Oper} (ho : ops[i]? = some o) {x : Value} {g' : Gh}
    (htm : ∀ t x, (T 0).tm.get t = some x → (∀ (k : Nat) (o : Oper), ops[k]? = some o → o.dst = some t → ¬ S k) → ∃ v, a.tmps[t]? = some v ∧ VR g x v) (hl : g.Le g') :
    ∀ t y, (T 0).tm.get t = some y → (∀ (k : Nat) (o : Oper), ops[k]? = some o → o.dst = some t → ¬ (S k ∨ k = i)) → ∃ u, (a.put o.dst x).tmps[t]? = some u ∧ VR g' y u := by
  intro t y hy hk
  obtain ⟨u, h1, h2⟩ := htm t y hy fun k o' h1 h2 h3 => hk k o' h1 h2 (.inl h3)
  refine ⟨u, ?_, h2.mono hl⟩
  cases hd : o.dst with
  | none => exact h1
  | some d =>
    have hne : d ≠ t := fun e => hk i o ho (by rw [hd, e]) (.inr rfl)
    simp only [Act.put]
    rw [Array.getElem?_setIfInBounds_ne hne]
    exact h1
theorem tm_put (hr : Rgn P R cx ops kf T A h0) {i : Nat} {o : Oper} (ho : ops[i]? = some o) {st1 : ASt} {v : AV} {x : Value} {g' : Gh} (hp : st1.put cx.tn o.dst v = some (T (i + 1))) (hs : a.tmps.size = cx.tn)
    (htm : ∀ t x, (T ops.size).tm.get t = some x → (∀ (k : Nat) (o : Oper), ops[k]? = some o → o.dst = some t → S k) → ∃ v, a.tmps[t]? = some v ∧ VR g x v) (hl : g.Le g') (hv : VR g' v x) :
    ∀ t y, (T ops.size).tm.get t = some y → (∀ (k : Nat) (o : Oper), ops[k]? = some o → o.dst = some t → S k ∨ k = i) → ∃ u, (a.put o.dst x).tmps[t]? = some u ∧ VR g' y u := by
  intro t y hy hk
  cases hd : o.dst with
  | none =>
    obtain ⟨u, h1, h2⟩ := htm t y hy fun k o' h1 h2 => by
      rcases hk k o' h1 h2 with h3 | h3
      · exact h3
      · subst h3
        rw [ho] at h1
        simp only [Option.some.injEq] at h1; subst h1
        rw [hd] at h2; cases h2
    exact ⟨u, h1, h2.mono hl⟩
  | some d =>
    by_cases e : t = d
    · subst e
      obtain ⟨h1, h2⟩ := hr.fin_put ho hp hd
      rw [h1] at hy
      simp only [Option.some.injEq] at hy; subst hy
      exact ⟨x, by simp [Act.put, hs, h2], hv⟩
    · obtain ⟨u, h1, h2⟩ := htm t y hy fun k o' h1 h2 => by
        rcases hk k o' h1 h2 with h3 | h3
        · exact h3
        · subst h3
          rw [ho] at h1
          simp only [Option.some.injEq] at h1; subst h1
          rw [hd] at h2
          simp only [Option.some.injEq] at h2
          exact absurd h2.symm e
      refine ⟨u, ?_, h2.mono hl⟩
      simp only [Act.put]
      rw [Array.getElem?_setIfInBounds_ne (Ne.symm e)]
      exact h1
theorem put_size {dst : Option Tmp} {x : Value} : (a.put dst x).tmps.size = a.tmps.size := by
  cases dst <;> simp [Act.put]
theorem put_defers {dst : Option Tmp} {x : Value} : (a.put dst x).defers = a.defers := by
  cases dst <;> rfl
theorem DInv.quiet (hr : Rgn P R cx ops kf T A h0) (hd : DInv ops T A cx.tn h0 g0 w0 S q g w a) {i : Nat} {o : Oper} (ho : ops[i]? = some o) (hE : isE o = false) (hi : ¬ S i) {st1 : ASt} {v : AV} {x : Value}
    (hp : st1.put cx.tn o.dst v = some (T (i + 1))) (hv : VR g v x) : DInv ops T A cx.tn h0 g0 w0 (fun j => S j ∨ j = i) q g w (a.put o.dst x) where
  ql := hd.ql
  ee := fun j o' h1 h2 => by
    rw [← hd.ee j o' h1 h2]
    refine ⟨fun h => ?_, .inl⟩
    rcases h with h | rfl
    · exact h
    · rw [ho] at h1
      simp only [Option.some.injEq] at h1; subst h1
      rw [hE] at h2; cases h2
  ww := hd.ww
  fr := hd.fr
  early := fun k o' h1 h2 h3 h4 x hx => by
    rcases h3 with h3 | rfl
    · exact hd.early k o' h1 h2 h3 h4 x hx
    · exact OR.phantom (hd.ph k o' h1 h2 hi)
  ph := fun k o' h1 h2 h3 => hd.ph k o' h1 h2 fun h => h3 (.inl h)
  kp := fun k o' h1 h2 h3 h4 => hd.kp k o' h1 h2 (fun h => h3 (.inl h)) h4
  tm := tm_put hr ho hp hd.sz hd.tm (.refl g) hv
  sz := put_size.trans hd.sz
  df := by rw [put_defers]; exact hd.df
  tm0 := tm0_put ho hd.tm0 (.refl g)
  stp := hd.stp
theorem DInv.make (hr : Rgn P R cx ops kf T A h0) (hd : DInv ops T A cx.tn h0 g0 w0 S q g w a) (hpq : Pure ops kf T A q) {i : Nat} {o : Oper} (ho : ops[i]? = some o) (hA : isA o.op = true) (hi : ¬ S i) {v : AV} {x : Value} {h : AHeap} {y : AObj} {g' : Gh} {w' : World}
    (hg : h.get (A i) = some y) (hn : h.next = A i + 1) (hp : ASt.put { T i with h := { (T i).h with objs := (T i).h.objs.put (A i) y } } cx.tn o.dst v = some (T (i + 1))) (hv : VR g' v x)
    (hw : W h g' w') (hs : Step { objs := .leaf, next := A i, floor := 0, wr := [] } g w h g' w') : DInv ops T A cx.tn h0 g0 w0 (fun j => S j ∨ j = i) q g' w' (a.put o.dst x) := by
  have hB0 : ∀ v, g.B (A i) v = none := hd.ph i o ho hA hi
  have hempty : ∀ p, AHeap.get { objs := .leaf, next := A i, floor := 0, wr := [] } p = none := fun p => by simp [AHeap.get, Tr.get]
  have hnew : ∀ p v x, g'.B p v = some x → g.B p v = some x ∨ p = A i := by
    intro p v x e
    rcases hs.newB p v x e with h1 | ⟨h1, h2⟩ | ⟨h1, _⟩
    · exact .inl h1
    · right; simp only at h1; omega
    · exact absurd (hempty p) h1
  have hblk : ∀ b, b < w.heap.size → w'.heap[b]? = w.heap[b]? := fun b hb => hs.fr b hb fun p v s n _ => .inr (hempty p)
  have hmove : ∀ p x, p ≠ A i → OR g w p x → OR g' w' p x := fun p x hp h1 =>
    h1.move hs.le (fun v y e => (hnew p v y e).resolve_right hp) (fun v b s n e => hblk b (hd.ww.bnd p v b s n e))
  have hy : OR g' w' (A i) y := hw.obj _ _ hg
  have hTi : (T (i + 1)).h.get (A i) = some y := by rw [(put_h hp).1]; exact Tr.get_put_same _ _ _
  have hAn : A i < (T q).h.next := hr.aid_next hd.ql hpq ho hA (Nat.le_refl _)
  have hwq : W (T q).h g' w' := by
    refine ⟨?_, hw.bnd, hw.inj, hw.ro, hw.dis, hw.gl⟩
    intro p z hz
    by_cases e : p = A i
    · subst e
      rcases Nat.lt_or_ge i q with h1 | h1
      · rw [hd.kp i o ho hA hi h1, hTi] at hz
        simp only [Option.some.injEq] at hz; subst hz
        exact hy
      · rw [hr.free hd.ql hpq ho hA q h1 (Nat.le_refl _)] at hz; cases hz
    · exact hmove p z e (hd.ww.obj p z hz)
  refine ⟨hd.ql, ?_, hwq, ?_, ?_, ?_, ?_, tm_put hr ho hp hd.sz hd.tm hs.le hv, put_size.trans hd.sz, by rw [put_defers]; exact hd.df.mono hs.le, ?_, tm0_put ho hd.tm0 hs.le⟩
  · intro j o' h1 h2
    rw [← hd.ee j o' h1 h2]
    refine ⟨fun h => ?_, .inl⟩
    rcases h with h | rfl
    · exact h
    · rw [ho] at h1
      simp only [Option.some.injEq] at h1; subst h1
      rw [(isE_iff.1 h2).1] at hA; cases hA
  · intro p hp' v
    cases e : g'.B p v with
    | none => rfl
    | some z =>
      rcases hnew p v z e with h1 | h1
      · rw [hd.fr p hp' v] at h1; cases h1
      · omega
  · intro k o' h1 h2 h3 h4 z hz
    by_cases e : k = i
    · subst e
      rw [hTi] at hz
      simp only [Option.some.injEq] at hz; subst hz
      exact hy
    · rcases h3 with h3 | h3
      · exact hmove _ _ (fun e' => e (hr.aid_inj h1 ho h2 hA e')) (hd.early k o' h1 h2 h3 h4 z hz)
      · exact absurd h3 e
  · intro k o' h1 h2 h3 v
    cases e : g'.B (A k) v with
    | none => rfl
    | some z =>
      rcases hnew _ v z e with h4 | h4
      · rw [hd.ph k o' h1 h2 (fun h => h3 (.inl h)) v] at h4; cases h4
      · exact absurd (.inr (hr.aid_inj h1 ho h2 hA h4)) h3
  · exact fun k o' h1 h2 h3 h4 => hd.kp k o' h1 h2 (fun h => h3 (.inl h)) h4
  · have hst := hd.stp
    refine ⟨hst.le.trans hs.le, hst.nxt, hst.flo, hst.wr, hst.keep, hst.ph, hst.gone, ?_, Nat.le_trans hst.size hs.size, ?_, ?_, hs.tape.trans hst.tape, hs.os.trans hst.os, hs.out.trans hst.out, fun bb i v hm => (hs.newM bb i v hm).elim (fun e => hst.newM bb i v e) fun e => .inr (Nat.le_trans hst.size e)⟩
    · intro p v z e
      rcases hnew p v z e with h1 | h1
      · exact hst.newB p v z h1
      · subst h1
        exact .inr (.inl ⟨(hr.aid_lt ho hA).1, hAn⟩)
    · intro p v b s n e hb
      obtain ⟨v', s', n', h1⟩ := hs.old p v b s n e (Nat.lt_of_lt_of_le hb hst.size)
      exact hst.old p v' b s' n' h1 hb
    · intro b hb h1
      rw [hblk b (Nat.lt_of_lt_of_le hb hst.size)]
      exact hst.fr b hb h1
end
end Go.AI
end

/-
  Regions whose order is open: one operation more.
-/
section
namespace Go.AI
section
variable {P : Program} {R : Rec} {cx : Ctx} {ops : Array Oper} {kf : Book} {T : Nat → ASt} {A : Nat → Nat} {h0 : AHeap} {g0 : Gh} {w0 : World} {S : Nat → Prop} {q : Nat} {g : Gh} {w : World} {a : Act}
theorem DInv.skipE (hr : Rgn P R cx ops kf T A h0) {i : Nat} (hd : DInv ops T A cx.tn h0 g0 w0 S i g w a) {o : Oper} (ho : ops[i]? = some o) (hE : isE o = true) {v : AV} {x : Value}
    (hp : (T i).put cx.tn o.dst v = some (T (i + 1))) (hv : VR g v x) : DInv ops T A cx.tn h0 g0 w0 (fun j => S j ∨ j = i) (i + 1) g w (a.put o.dst x) := by
  have hh : (T (i + 1)).h = (T i).h := (put_h hp).1
  have hne : ∀ (k : Nat) (o' : Oper), ops[k]? = some o' → isA o'.op = true → k ≠ i := by
    rintro k o' h1 h2 rfl
    rw [ho] at h1
    simp only [Option.some.injEq] at h1; subst h1
    rw [(isE_iff.1 hE).1] at h2; cases h2
  refine ⟨lt_of_op ho, ?_, by rw [hh]; exact hd.ww, by rw [hh]; exact hd.fr, ?_, fun k o' h1 h2 h3 => hd.ph k o' h1 h2 fun h => h3 (.inl h), ?_, tm_put hr ho hp hd.sz hd.tm (.refl g) hv, put_size.trans hd.sz, by rw [put_defers]; exact hd.df, by rw [hh]; exact hd.stp, tm0_put ho hd.tm0 (.refl g)⟩
  · intro j o' h1 h2
    rw [hd.ee j o' h1 h2]; omega
  · intro k o' h1 h2 h3 h4 y hy
    rcases h3 with h3 | h3
    · exact hd.early k o' h1 h2 h3 (by omega) y hy
    · exact absurd h3 (hne k o' h1 h2)
  · intro k o' h1 h2 h3 h4
    have := hne k o' h1 h2
    rw [hh]; exact hd.kp k o' h1 h2 (fun h => h3 (.inl h)) (by omega)
theorem DInv.actE (hr : Rgn P R cx ops kf T A h0) {i : Nat} (hd : DInv ops T A cx.tn h0 g0 w0 S i g w a) (hf0 : Fresh h0 g0) (hpi : Pure ops kf T A i) {o : Oper} (ho : ops[i]? = some o) (hE : isE o = true) {st1 : ASt} {v : AV} {x : Value} {g' : Gh} {w' : World}
    (hp : st1.put cx.tn o.dst v = some (T (i + 1))) (hv : VR g' v x) (hw : W (T (i + 1)).h g' w') (hs : Step (T i).h g w (T (i + 1)).h g' w') :
    DInv ops T A cx.tn h0 g0 w0 (fun j => S j ∨ j = i) (i + 1) g' w' (a.put o.dst x) := by
  have hne : ∀ (k : Nat) (o' : Oper), ops[k]? = some o' → isA o'.op = true → k ≠ i := by
    rintro k o' h1 h2 rfl
    rw [ho] at h1
    simp only [Option.some.injEq] at h1; subst h1
    rw [(isE_iff.1 hE).1] at h2; cases h2
  have hlt : ∀ (k : Nat) (o' : Oper), ops[k]? = some o' → isA o'.op = true → A k < (T i).h.next := fun k o' h1 h2 => hr.aid_next hd.ql hpi h1 h2 (Nat.le_refl _)
  refine ⟨lt_of_op ho, ?_, hw, hd.fr.step hs, ?_, ?_, ?_, tm_put hr ho hp hd.sz hd.tm hs.le hv, put_size.trans hd.sz, by rw [put_defers]; exact hd.df.mono hs.le, hd.stp.trans hf0 hs, tm0_put ho hd.tm0 hs.le⟩
  · intro j o' h1 h2
    rw [hd.ee j o' h1 h2]; omega
  · intro k o' h1 h2 h3 h4 y hy
    rcases h3 with h3 | h3
    · have hor := hd.early k o' h1 h2 h3 (by omega) y hy
      have hnone : (T i).h.get (A k) = none := hr.free hd.ql hpi h1 h2 i (by omega) (Nat.le_refl _)
      refine hor.move hs.le ?_ ?_
      · intro v' z e
        rcases hs.newB _ v' z e with h5 | ⟨h5, _⟩ | ⟨h5, _⟩
        · exact h5
        · have := hlt k o' h1 h2; omega
        · exact absurd hnone h5
      · intro v' b s n e
        refine hs.fr b (hd.ww.bnd _ _ _ _ _ e) fun p v2 s2 n2 e2 => ?_
        have := hd.ww.inj _ _ _ _ _ _ _ _ _ e2 e
        subst this
        exact .inr hnone
    · exact absurd h3 (hne k o' h1 h2)
  · intro k o' h1 h2 h3 v'
    have h4 := hd.ph k o' h1 h2 (fun h => h3 (.inl h))
    cases e : g'.B (A k) v' with
    | none => rfl
    | some z =>
      rcases hs.newB _ v' z e with h5 | ⟨h5, _⟩ | ⟨_, v2, h5⟩
      · rw [h4] at h5; cases h5
      · have := hlt k o' h1 h2; omega
      · exact absurd (h4 v2) h5
  · intro k o' h1 h2 h3 h4
    have h5 := hne k o' h1 h2
    have h6 := hd.ph k o' h1 h2 (fun h => h3 (.inl h))
    rw [hs.ph (A k) (hlt k o' h1 h2) h6]
    exact hd.kp k o' h1 h2 (fun h => h3 (.inl h)) (by omega)
theorem onlyA_get (h : AHeap) : ∀ (ids : List Nat) (p : Nat) (x : AObj), (onlyA h ids).get p = some x → p ∈ ids ∧ p < h.next ∧ h.get p = some x
  | [], p, x, e => by simp [onlyA, Tr.get] at e
  | o :: os, p, x, e => by
    have ih := onlyA_get h os p x
    unfold onlyA at e
    split at e
    · rename_i hlt
      split at e
      · rename_i y hy
        rw [Tr.get_put] at e
        split at e
        · rename_i hpo
          subst hpo
          simp only [Option.some.injEq] at e; subst e
          exact ⟨List.mem_cons_self .., hlt, hy⟩
        · obtain ⟨h1, h2⟩ := ih e
          exact ⟨List.mem_cons_of_mem _ h1, h2⟩
      · obtain ⟨h1, h2⟩ := ih e
        exact ⟨List.mem_cons_of_mem _ h1, h2⟩
    · obtain ⟨h1, h2⟩ := ih e
      exact ⟨List.mem_cons_of_mem _ h1, h2⟩
theorem DInv.looks (hr : Rgn P R cx ops kf T A h0) (hd : DInv ops T A cx.tn h0 g0 w0 S q g w a) (hS : ∀ (i : Nat) (o : Oper) (e : Edge), ops[i]? = some o → S i → e ∈ o.after → Region.binds .any e = true → S e.on)
    {i : Nat} {o : Oper} (hpi : Pure ops kf T A i) (hpq : Pure ops kf T A q) (ho : ops[i]? = some o) (hi : ¬ S i) (hrd : ∀ e, e ∈ o.after → Region.binds .any e = true → S e.on)
    {ids : List Nat} (hk : (i, ids) ∈ kf.fs) : W { (T i).h with objs := onlyA (T i).h ids } g w := by
  refine ⟨?_, hd.ww.bnd, hd.ww.inj, hd.ww.ro, hd.ww.dis, hd.ww.gl⟩
  intro p x hx
  obtain ⟨h1, h2, h3⟩ := onlyA_get _ _ _ _ hx
  have hil := lt_of_op ho
  rcases Nat.lt_or_ge i q with hiq | hiq
  · -- the chain is ahead
    have key : ∀ d, i + d ≤ q → (T (i + d)).h.get p = some x := by
      intro d
      induction d with
      | zero => intro _; exact h3
      | succ d ih =>
        intro hdq
        have ih := ih (by omega)
        have hlt : i + d < ops.size := by have := hd.ql; omega
        have hq : ops[i + d]? = some ops[i + d] := by simp [hlt]
        rw [show i + (d + 1) = i + d + 1 by omega]
        rcases hpq (i + d) _ (by omega) hq with ⟨hA, h4, _⟩ | ⟨_, h4⟩ | ⟨hE, wr, h4, _, h5, _⟩
        · rw [h4 p ?_]
          · exact ih
          · intro e
            rw [e, hr.free hd.ql hpq hq hA (i + d) (Nat.le_refl _) (by omega)] at ih
            cases ih
        · rw [h4]; exact ih
        · rw [h5 p ?_ ?_]
          · exact ih
          · have := hr.next_mono hd.ql hpq (i := i) d (by omega); omega
          · refine bookOK_of hr.bk hk h4 ?_ ?_ p h1
            · intro hanc; have := Anc.lt hr.st hanc; omega
            · intro hanc
              have hSj : S (i + d) := (hd.ee _ _ hq hE).2 (by omega)
              exact hi (Anc.closed hr.st hS hSj hanc)
    have := key (q - i) (by omega)
    rw [show i + (q - i) = q by omega] at this
    exact hd.ww.obj p x this
  · have key : ∀ d, q + d ≤ i → ∀ y, (T (q + d)).h.get p = some y → OR g w p y := by
      intro d
      induction d with
      | zero => intro _ y hy; exact hd.ww.obj p y hy
      | succ d ih =>
        intro hdq y hy
        have ih := ih (by omega)
        have hlt : q + d < ops.size := by omega
        have hq : ops[q + d]? = some ops[q + d] := by simp [hlt]
        rw [show q + (d + 1) = q + d + 1 by omega] at hy
        rcases hpi (q + d) _ (by omega) hq with ⟨hA, h4, _⟩ | ⟨_, h4⟩ | ⟨hE, wr, h4, _, h5, _⟩
        · by_cases e : p = A (q + d)
          · subst e
            rcases Classical.em (S (q + d)) with hSj | hSj
            · exact hd.early _ _ hq hA hSj (by omega) y hy
            · exact OR.phantom (hd.ph _ _ hq hA hSj)
          · rw [h4 p e] at hy; exact ih y hy
        · rw [h4] at hy; exact ih y hy
        · rcases Nat.lt_or_ge p (T (q + d)).h.next with h6 | h6
          · rw [h5 p h6 ?_] at hy
            · exact ih y hy
            · refine bookOK_of hr.bk hk h4 ?_ ?_ p h1
              · intro hanc
                have hSj := Anc.ready hr.st hS ho hrd hanc
                have := (hd.ee _ _ hq hE).1 hSj
                omega
              · intro hanc; have := Anc.lt hr.st hanc; omega
          · have h7 := hr.next_mono (Nat.le_of_lt hil) hpi (i := q) d (by omega)
            exact OR.phantom fun v => hd.fr p (by omega) v
    have := key (i - q) (by omega) x
    rw [show q + (i - q) = i by omega] at this
    exact this h3
theorem DInv.opnds (hr : Rgn P R cx ops kf T A h0) (hd : DInv ops T A cx.tn h0 g0 w0 S q g w a) {i : Nat} {o : Oper} (ho : ops[i]? = some o) (hanc : ∀ k, Anc ops i k → S k) (hlate : ∀ k, Anc ops k i → ¬ S k) :
    ∀ x, VR g (evo (tmpsOf o) (T i).tm x) (a.eval x) := by
  intro x
  cases x with
  | tmp t =>
    show VR g (if (tmpsOf o).contains t then (match (T i).tm.get t with | some v => v | none => .unk) else .unk) (a.tmps.getD t undef)
    split
    · rename_i hc
      have ht : t ∈ tmpsOf o := by simpa using hc
      cases hx : (T i).tm.get t with
      | none => exact .unk _
      | some v =>
        have : ∃ u, a.tmps[t]? = some u ∧ VR g v u := by
          rcases hr.opn ho ht with ⟨e, h⟩ | ⟨e, h⟩
          · exact hd.tm t v (e.trans hx) fun k o' h1 h2 => hanc k (h k o' h1 h2)
          · exact hd.tm0 t v (e.trans hx) fun k o' h1 h2 => hlate k (h k o' h1 h2)
        obtain ⟨u, h1, h2⟩ := this
        rw [Array.getD_eq_getD_getElem?, h1]
        exact h2
    · exact .unk _
  | const v => exact VR.ofVal v
  | global n => exact .sc _
  | func f => exact .sc _
theorem DInv.want (hr : Rgn P R cx ops kf T A h0) (hd : DInv ops T A cx.tn h0 g0 w0 S q g w a) {i : Nat} {o : Oper} (ho : ops[i]? = some o) (hanc : ∀ k, Anc ops i k → S k) {b : Bool}
    (hw : wantedA ops o (T i).tm = some b) : Region.wanted o (yielded ops a.tmps) = b := by
  rw [hr.fin_wanted ho] at hw
  unfold wantedA at hw
  unfold Region.wanted
  cases hg : o.guard with
  | none => rw [hg] at hw; simpa using hw
  | some p =>
    obtain ⟨j, want⟩ := p
    rw [hg] at hw
    simp only at hw ⊢
    unfold yielded
    cases hdst : (ops[j]?).bind (·.dst) with
    | none => rw [hdst] at hw; cases hw
    | some d =>
      rw [hdst] at hw
      simp only at hw
      have hj : S j := hanc j (hr.st.guard i o j want ho hg)
      cases ht : (T ops.size).tm.get d with
      | none => rw [ht] at hw; cases hw
      | some v =>
        rw [ht] at hw
        obtain ⟨u, h1, h2⟩ := hd.tm d v ht fun k o' h1 h2 => by
          cases hq : ops[j]? with
          | none => rw [hq] at hdst; cases hdst
          | some q' =>
            rw [hq] at hdst
            rw [hr.st.one j k q' o' d hq h1 h2 (by simpa using hdst)]
            exact hj
        simp only [Option.bind_some, h1]
        split at hw
        · rename_i q hq
          simp only [Option.some.injEq] at hq; subst hq
          cases h2
          simp at hw ⊢
          rw [← hw]
          try (cases q <;> cases want <;> rfl)
        · rename_i q hq
          simp only [Option.some.injEq] at hq; subst hq
          obtain ⟨cs, rfl, _⟩ := VR.tuple_iff.1 h2
          simp at hw
          subst hw
          rfl
        · cases hw
end
end Go.AI
end

/-
  Regions whose order is open: every order.
-/
section
namespace Go.AI
section
variable {P : Program} {R : Rec} {cx : Ctx} {ops : Array Oper} {kf : Book} {T : Nat → ASt} {A : Nat → Nat} {h0 : AHeap} {g0 : Gh} {w0 : World} {S : Nat → Prop} {q : Nat} {g : Gh} {w : World} {a : Act}
def ClosedS (ops : Array Oper) (S : Nat → Prop) : Prop := ∀ (i : Nat) (o : Oper) (e : Edge), ops[i]? = some o → S i → e ∈ o.after → Region.binds .any e = true → S e.on
theorem DInv.one (hP : ProgOK P) (hR : RecOK P R) (hr : Rgn P R cx ops kf T A h0) (hd : DInv ops T A cx.tn h0 g0 w0 S q g w a) (hf0 : Fresh h0 g0) (hS : ClosedS ops S) {i : Nat} {o : Oper}
    (hpi : Pure ops kf T A i) (hpq : Pure ops kf T A q) (ho : ops[i]? = some o) (hi : ¬ S i) (hrd : ∀ e, e ∈ o.after → Region.binds .any e = true → S e.on) {b : Frame} (hc : CtxR g0 cx b) (cs : List Frame) (k : List Item) (rest : List Nat) :
    ∃ g' w' a' q', DInv ops T A cx.tn h0 g0 w0 (fun j => S j ∨ j = i) q' g' w' a' ∧ (q' = q ∨ q' = i + 1) ∧ HStep kf T A i o ∧
      Steps P (lone (frm b a (.inRegion ops (i :: rest) :: k)) cs w) (lone (frm b a' (.inRegion ops rest :: k)) cs w') := by
  have hanc : ∀ j, Anc ops i j → S j := fun j h => Anc.ready hr.st hS ho hrd h
  have hlate : ∀ j, Anc ops j i → ¬ S j := by
    intro j h hj
    obtain ⟨o', ho'⟩ := Anc.here h
    exact hi (Anc.ready hr.st hS ho' (fun e h1 h2 => hS j o' e ho' hj h1 h2) h)
  have hopn := hd.opnds hr ho hanc hlate
  have toE : isE o = true → DInv ops T A cx.tn h0 g0 w0 S i g w a := by
    intro hE
    have hqi : q ≤ i := by
      rcases Nat.lt_or_ge i q with h | h
      · exact absurd ((hd.ee i o ho hE).2 h) hi
      · exact h
    have := DInv.advTo hr (i - q) q hd (by have := lt_of_op ho; omega) (fun j o' h1 h2 h3 => by
      cases hE' : isE o' with
      | false => rfl
      | true =>
        have hE1 := isE_iff.1 hE
        have hE2 := isE_iff.1 hE'
        have hSj := hanc j (hr.st.chain i j o o' ho h1 (by omega) hE1.1 hE1.2 hE2.1 hE2.2)
        have := (hd.ee j o' h1 hE').1 hSj
        omega)
    rwa [show q + (i - q) = i by omega] at this
  cases hr.tr i o ho with
  | skip hw hp ha =>
    have hwant := hd.want hr ho hanc hw
    have hstep := fstep_op_skip (P := P) (b := b) (a := a) (k := k) (cs := cs) (w := w) (ops := ops) (i := i) (rest := rest) (by simp [ho, hwant])
    rw [ho] at hstep
    cases hE : isE o with
    | false => exact ⟨g, w, _, q, hd.quiet hr ho hE hi hp VR.undef, .inl rfl, hr.hstep ho hE, .one hstep⟩
    | true =>
      exact ⟨g, w, _, i + 1, (toE hE).skipE hr ho hE hp VR.undef, .inr rfl, .inr (.inl ⟨(isE_iff.1 hE).1, (put_h hp).1⟩), .one hstep⟩
  | mk v h x hw hA hrr hg hn hp ha =>
    have hwant := hd.want hr ho hanc hw
    have hE : isE o = false := by unfold isE; rw [hA]; rfl
    have hnd : noDefer b o := .inr fun c e => by rw [e] at hA; simp [isA] at hA
    have hWe : W { objs := .leaf, next := A i, floor := 0, wr := [] } g w := ⟨fun p y hy => by simp [AHeap.get, Tr.get] at hy, hd.ww.bnd, hd.ww.inj, hd.ww.ro, hd.ww.dis, hd.ww.gl⟩
    obtain ⟨g', w', y, h1, h2, h3, h4⟩ := aop_ok hP hWe (hd.ph i o ho hA hi) hopn hrr
    exact ⟨g', w', _, q, hd.make hr hpq ho hA hi hg hn hp h2 h3 h4, .inl rfl, hr.hstep ho hE, .one (fstep_value ho hwant hnd h1)⟩
  | look v h hw hA hF hrr hnx hp ha hk =>
    have hwant := hd.want hr ho hanc hw
    have hE : isE o = false := by unfold isE; rw [hF]; simp
    have hnd : noDefer b o := .inr fun c e => by rw [e] at hF; simp [isF] at hF
    obtain ⟨y, h1, h2⟩ := aop_pure hF (hd.looks hr hS hpi hpq ho hi hrd hk) hopn hrr hnx
    exact ⟨g, w, _, q, hd.quiet hr ho hE hi hp h2, .inl rfl, hr.hstep ho hE, .one (fstep_value ho hwant hnd h1)⟩
  | act v cm h hw hA hF hrr hp ha hk =>
    have hwant := hd.want hr ho hanc hw
    have hE : isE o = true := isE_iff.2 ⟨hA, hF⟩
    have hdi := toE hE
    obtain ⟨g', w', y, cs', h1, h2, h3, h4, _, _, h5⟩ := opRun_ok (ops := ops) (i := i) (rest := rest) (k := k) (cs := cs) (b := b) (a := a) hP hR hrr hdi.ww.inner hdi.fr.inner (hc.mono hd.stp.le) hopn trivial ho hwant
    obtain rfl : cs' = cs := h4.1 rfl
    obtain ⟨h6, h7⟩ := outer_ok hdi.fr h1 h2
    have hh : (T (i + 1)).h = (T i).h.outer h := (put_h hp).1
    refine ⟨g', w', _, i + 1, hdi.actE hr hf0 hpi ho hE hp h3 (by rw [hh]; exact h7) (by rw [hh]; exact h6), .inr rfl, .inr (.inr ⟨hE, h.wr, hk, ?_, ?_, ?_⟩), h5⟩
    · rw [hh]; exact h1.nxt
    · intro p hp1 hp2; rw [hh]; exact h1.keep p hp1 hp1 hp2
    · intro p hp1 hp2; rw [hh]; exact h1.gone p hp1 hp2
theorem Rgn.start (hr : Rgn P R cx ops kf T A h0) (hw : W h0 g w) (hf : Fresh h0 g) (ht : TR g (T 0).tm a.tmps) (hs : a.tmps.size = cx.tn) (hdf : DefsR g (T 0).df a.defers) (hS : ∀ j, ¬ S j) :
    DInv ops T A cx.tn h0 g w S 0 g w a where
  ql := Nat.zero_le _
  ee := fun j o _ _ => ⟨fun h => absurd h (hS j), fun h => by omega⟩
  ww := hw.congr fun o => by rw [hr.t0]; rfl
  fr := fun p hp v => hf p (by rw [hr.t0] at hp; simp only at hp; omega) v
  early := fun k o _ _ h => absurd h (hS k)
  ph := fun k o h1 h2 _ v => hf _ (hr.aid_lt h1 h2).1 v
  kp := fun k o _ _ _ h => by omega
  tm := fun t x hx hk => by
    rw [hr.fin_start fun k q h1 h2 => hS k (hk k q h1 h2)] at hx
    exact ht t x hx
  sz := hs
  df := hdf
  tm0 := fun t x hx _ => ht t x hx
  stp := by
    rw [hr.t0]
    exact { Step.refl h0 g w with nxt := Nat.le_add_right _ _, keep := fun _ _ _ _ => rfl, ph := fun _ _ _ => rfl, gone := fun _ _ h => h, newB := fun _ _ _ h => .inl h, fr := fun _ _ _ => rfl }
theorem Rgn.pure (hP : ProgOK P) (hR : RecOK P R) (hr : Rgn P R cx ops kf T A h0) (hw : W h0 g w) (hf : Fresh h0 g) (ht : TR g (T 0).tm a.tmps) (hs : a.tmps.size = cx.tn) (hdf : DefsR g (T 0).df a.defers) {b : Frame} (hc : CtxR g cx b) :
    ∀ m, m ≤ ops.size → Pure ops kf T A m ∧ ∃ g' w' a' q', q' ≤ m ∧ DInv ops T A cx.tn h0 g w (fun j => j < m) q' g' w' a'
  | 0, _ => ⟨fun j o hj _ => by omega, g, w, a, 0, Nat.le_refl _, hr.start hw hf ht hs hdf fun j => by omega⟩
  | m + 1, hm => by
    obtain ⟨h1, g', w', a', q', h2, h3⟩ := Rgn.pure hP hR hr hw hf ht hs hdf hc m (by omega)
    have hlt : m < ops.size := by omega
    have ho : ops[m]? = some ops[m] := by simp [hlt]
    obtain ⟨g2, w2, a2, q2, h4, h5, h6, _⟩ := h3.one hP hR hr hf (fun i o e h1 h2 h3 h4 => by have := hr.st.back i o e h1 h3 h4; omega) h1 (h1.le h2) ho (by omega) (fun e h1 h2 => hr.st.back m _ e ho h1 h2) hc [] [] []
    refine ⟨fun j o hj hoj => ?_, g2, w2, a2, q2, by omega, ?_⟩
    · rcases Nat.lt_or_ge j m with h7 | h7
      · exact h1 j o h7 hoj
      · obtain rfl : j = m := by omega
        rw [ho] at hoj
        simp only [Option.some.injEq] at hoj; subst hoj
        exact h6
    · have : (fun j => j < m ∨ j = m) = (fun j => j < m + 1) := by funext j; apply propext; omega
      rw [← this]; exact h4
theorem draw_go (hP : ProgOK P) (hR : RecOK P R) (hr : Rgn P R cx ops kf T A h0) (hf0 : Fresh h0 g0) (hpn : Pure ops kf T A ops.size) {b : Frame} (hc : CtxR g0 cx b) (cs : List Frame) (k : List Item) :
    ∀ (fuel t : Nat) (listed : Array Bool) (q : Nat) (g : Gh) (w : World) (a : Act), listed.size = ops.size → listed.toList.count false = fuel → ClosedS ops (fun j => listed[j]? = some true) →
      DInv ops T A cx.tn h0 g0 w0 (fun j => listed[j]? = some true) q g w a →
      ∃ (S' : Nat → Prop) (q' : Nat) (g' : Gh) (w' : World) (a' : Act), DInv ops T A cx.tn h0 g0 w0 S' q' g' w' a' ∧ (∀ j, j < ops.size → S' j) ∧
        Steps P (lone (frm b a (.inRegion ops (Region.linearise.go .any ops fuel t listed []) :: k)) cs w) (lone (frm b a' (.inRegion ops [] :: k)) cs w') := by
  intro fuel
  induction fuel with
  | zero =>
    intro t listed q g w a hsz hcnt hcl hd
    refine ⟨_, q, g, w, a, hd, ?_, ?_⟩
    · intro j hj
      have hj' : j < listed.size := by omega
      have hne := List.count_eq_zero.1 hcnt
      cases hv : listed[j] with
      | true => simp [hj', hv]
      | false => exact absurd (by rw [← hv]; simp) hne
    · simp only [Region.linearise.go, List.reverse_nil]
      exact .refl _ _
  | succ fuel ih =>
    intro t listed q g w a hsz hcnt hcl hd
    have hready : ∀ i : Nat, i ∈ Region.ready .any ops listed → ∃ o, ops[i]? = some o ∧ listed[i]? = some false ∧ ∀ e, e ∈ o.after → Region.binds .any e = true → listed[e.on]? = some true := by
      intro i hi
      unfold Region.ready at hi
      simp only [List.mem_filter, List.mem_range, Bool.and_eq_true] at hi
      obtain ⟨h1, h2, h3⟩ := hi
      have ho : ops[i]? = some ops[i] := by simp [h1]
      refine ⟨ops[i], ho, ?_, ?_⟩
      · have hl : i < listed.size := by omega
        cases hv : listed[i] with
        | false => simp [hl, hv]
        | true => simp [hl, hv] at h2
      · intro e he hb
        rw [ho] at h3
        simp only [Option.map_some, Option.getD_some, Array.all_eq_true] at h3
        obtain ⟨n, hn, rfl⟩ := Array.mem_iff_getElem.1 he
        have h4 := h3 n hn
        rw [hb] at h4
        simp only [Bool.not_true, Bool.false_or] at h4
        rcases Nat.lt_or_ge (ops[i].after[n]).on listed.size with h5 | h5
        · rw [Array.getD_eq_getD_getElem?] at h4
          simp only [h5, getElem?_pos, Option.getD_some] at h4 ⊢
          rw [h4]
        · rw [Array.getD_eq_getD_getElem?, Array.getElem?_eq_none h5] at h4
          simp at h4
    have hsome : Region.ready .any ops listed ≠ [] := by
      intro hnil
      have hmem : false ∈ listed.toList := List.count_pos_iff.1 (by omega)
      have hex : ∃ j : Nat, listed[j]? = some false := by
        obtain ⟨j, hj, he⟩ := List.mem_iff_getElem.1 hmem
        have hj' : j < listed.size := by simpa using hj
        have he' : listed[j] = false := by simpa using he
        exact ⟨j, by simp [hj', he']⟩
      have hleast : ∀ n : Nat, (∃ j : Nat, j < n ∧ listed[j]? = some false) → False := by
        intro n
        induction n with
        | zero => rintro ⟨j, hj, _⟩; omega
        | succ n ihn =>
          rintro ⟨j, hj, hjf⟩
          rcases Nat.lt_or_ge j n with h1 | h1
          · exact ihn ⟨j, h1, hjf⟩
          · obtain rfl : j = n := by omega
            have hjl : j < listed.size := by
              rcases Nat.lt_or_ge j listed.size with h2 | h2
              · exact h2
              · rw [Array.getElem?_eq_none h2] at hjf; cases hjf
            have ho : ops[j]? = some ops[j] := by simp [show j < ops.size by omega]
            have hin : j ∈ Region.ready .any ops listed := by
              unfold Region.ready
              simp only [List.mem_filter, List.mem_range, Bool.and_eq_true]
              refine ⟨by omega, ?_, ?_⟩
              · rw [Array.getD_eq_getD_getElem?, hjf]; rfl
              · rw [ho]
                simp only [Option.map_some, Option.getD_some, Array.all_eq_true]
                intro n hn
                cases hb : Region.binds .any ops[j].after[n] with
                | false => rfl
                | true =>
                  have hlt := hr.st.back j _ _ ho (Array.getElem_mem hn) hb
                  have hlt' : (ops[j].after[n]).on < listed.size := by omega
                  simp only [Bool.not_true, Bool.false_or]
                  rw [Array.getD_eq_getD_getElem?]
                  simp only [hlt', getElem?_pos, Option.getD_some]
                  cases hv : listed[(ops[j].after[n]).on] with
                  | true => rfl
                  | false => exact (ihn ⟨_, hlt, by simp [hlt', hv]⟩).elim
            rw [hnil] at hin; cases hin
      obtain ⟨j, hj⟩ := hex
      exact hleast (j + 1) ⟨j, by omega, hj⟩
    have hpos : 0 < (Region.ready .any ops listed).length := List.length_pos_iff.2 hsome
    simp only [Region.linearise.go]
    change ∃ (S' : Nat → Prop) (q' : Nat) (g' : Gh) (w' : World) (a' : Act), DInv ops T A cx.tn h0 g0 w0 S' q' g' w' a' ∧ (∀ j, j < ops.size → S' j) ∧
        Steps P (lone (frm b a (.inRegion ops (match (Region.ready .any ops listed)[t % (Region.ready .any ops listed).length]? with
      | some i => Region.linearise.go .any ops fuel (t / (Region.ready .any ops listed).length) (listed.setIfInBounds i true) [i]
      | none => [].reverse) :: k)) cs w) (lone (frm b a' (.inRegion ops [] :: k)) cs w')
    cases hi : (Region.ready .any ops listed)[t % (Region.ready .any ops listed).length]? with
    | none =>
      have := Nat.mod_lt t hpos
      rw [List.getElem?_eq_none_iff] at hi
      omega
    | some i =>
      simp only []
      rw [linearise_go_acc, List.reverse_singleton, List.singleton_append]
      obtain ⟨o, ho, hif, hrd⟩ := hready i (List.mem_of_getElem? hi)
      have hil : i < listed.size := by rw [hsz]; exact lt_of_op ho
      obtain ⟨g1, w1, a1, q1, h1, _, _, h2⟩ := hd.one hP hR hr hf0 hcl (hpn.le (Nat.le_of_lt (lt_of_op ho))) (hpn.le hd.ql) ho (by rw [hif]; simp) hrd hc cs k
        (Region.linearise.go .any ops fuel (t / (Region.ready .any ops listed).length) (listed.setIfInBounds i true) [])
      have hSe : (fun j : Nat => listed[j]? = some true ∨ j = i) = (fun j : Nat => (listed.setIfInBounds i true)[j]? = some true) := by
        funext j
        apply propext
        by_cases e : j = i
        · subst e; simp [hil]
        · rw [Array.getElem?_setIfInBounds_ne (Ne.symm e)]
          exact ⟨fun h => h.resolve_right e, .inl⟩
      rw [hSe] at h1
      have hcl' : ClosedS ops (fun j => (listed.setIfInBounds i true)[j]? = some true) := by
        rw [← hSe]
        intro j o' e h3 h4 h5 h6
        rcases h4 with h4 | rfl
        · exact .inl (hcl j o' e h3 h4 h5 h6)
        · rw [ho] at h3
          simp only [Option.some.injEq] at h3; subst h3
          exact .inl (hrd e h5 h6)
      have hcnt' : (listed.setIfInBounds i true).toList.count false = fuel := by
        have hv : listed[i] = false := by simpa [hil] using hif
        have : listed.toList[i]'(by simpa using hil) = false := by simpa using hv
        rw [Array.toList_setIfInBounds, List.count_set (by simpa using hil), this, hcnt]
        simp
      obtain ⟨S', q', g', w', a', h3, h4, h5⟩ := ih (t / (Region.ready .any ops listed).length) (listed.setIfInBounds i true) q1 g1 w1 a1 (by simp [hsz]) hcnt' hcl' h1
      exact ⟨S', q', g', w', a', h3, h4, Steps.trans h2 h5⟩
theorem Rgn.fin_rest (hr : Rgn P R cx ops kf T A h0) : ∀ (i : Nat), i ≤ ops.size → (T i).cm = (T 0).cm ∧ (T i).df = (T 0).df
  | 0, _ => ⟨rfl, rfl⟩
  | i + 1, hi => by
    have ho : ops[i]? = some ops[i] := by simp [show i < ops.size by omega]
    obtain ⟨v, _, _, h1, h2⟩ := hr.puts i _ ho
    obtain ⟨h3, h4⟩ := Rgn.fin_rest hr i (by omega)
    exact ⟨h1.trans h3, h2.trans h4⟩
theorem noneA_ok {h : AHeap} : ∀ (n o : Nat), noneA h n o = true → ∀ p, o ≤ p → p < o + n → h.get p = none
  | 0, o, _, p, h1, h2 => by omega
  | n + 1, o, hn, p, h1, h2 => by
    simp only [noneA, Bool.and_eq_true] at hn
    by_cases e : p = o
    · subst e; simpa using hn.1
    · exact noneA_ok n (o + 1) hn.2 p (by omega) (by omega)
theorem draw_ok (hP : ProgOK P) (hR : RecOK P R) : DrawOK P R := by
  intro cx id ops st ex st' hr g w b a k cs hw hf hc ha hm
  unfold evalDraw at hr
  split at hr
  · rename_i hst
    simp only [Bool.and_eq_true] at hst
    split at hr
    · rename_i kf stf hrun
      split at hr
      · rename_i hbk
        simp only [Option.some.injEq, Prod.mk.injEq] at hr
        obtain ⟨rfl, rfl⟩ := hr
        obtain ⟨_, T, A, t1, t2, t3, t4⟩ := runDraw_trace _ _ _ _ _ _ _ hrun
        have hrgn : Rgn P R cx ops kf T A st.h := ⟨static_of hst.1, fun i o ho => by have := t4 i o (by simpa using ho); simpa using this, hbk, t2, by rw [t1], noneA_ok _ _ hst.2⟩
        have htn : T ops.size = stf := by rw [← t3]; simp
        have ht0 : (T 0).tm = st.tm ∧ (T 0).df = st.df ∧ (T 0).cm = st.cm := by rw [t1]; exact ⟨rfl, rfl, rfl⟩
        have hw1 := hw.drew (w.drawn + 1)
        have htm : TR g (T 0).tm a.tmps := by rw [ht0.1]; exact ha.tm
        have hdf : DefsR g (T 0).df a.defers := by rw [ht0.2.1]; exact ha.df
        obtain ⟨hpn, _⟩ := hrgn.pure (a := a) hP hR hw1 hf htm ha.size hdf hc ops.size (Nat.le_refl _)
        have hrep : ∀ j : Nat, ¬ (Array.replicate ops.size false)[j]? = some true := by
          intro j hj
          rw [Array.getElem?_replicate] at hj
          split at hj <;> simp at hj
        obtain ⟨S', q', g', w', a', h1, h2, h3⟩ := draw_go hP hR hrgn hf hpn hc cs k ops.size (w.tape w.drawn (.order b.fn id)) (Array.replicate ops.size false) 0 g { w with drawn := w.drawn + 1 } a (by simp) (by simp)
          (fun j o e _ h => absurd h (hrep j)) (hrgn.start hw1 hf htm ha.size hdf hrep)
        have h4 := DInv.advTo hrgn (ops.size - q') q' h1 (by have := h1.ql; omega) (fun j o ho h5 h6 => by
          cases hE : isE o with
          | false => rfl
          | true => have := (h1.ee j o ho hE).1 (h2 j (lt_of_op ho)); omega)
        rw [show q' + (ops.size - q') = ops.size by have := h1.ql; omega] at h4
        obtain ⟨r1, r2⟩ := hrgn.fin_rest ops.size (Nat.le_refl _)
        rw [htn] at r1 r2
        have h5 := h4.ww
        have h6 := h4.stp
        have h7 := h4.tm
        rw [htn] at h5 h6 h7
        refine ⟨g', w', a', cs, (Step.drew st.h g w (w.drawn + 1)).trans hf h6, h5, ⟨fun t x hx => h7 t x hx fun k o ho _ => h2 k (lt_of_op ho), h4.sz, by rw [r2]; exact h4.df⟩, .refl _ _, by rw [r1, ht0.2.2]; exact hm.mono h6.le, by rw [r1, ht0.2.2]; exact fun e => e, ?_⟩
        refine Steps.head fstep_region_draw (Steps.trans ?_ (.one (fstep_region_end (ops := ops))))
        simp only [Region.schedule, hP.mixed, Bool.true_or, if_true, Region.linearise]
        exact h3
      · cases hr
    · cases hr
  · cases hr
end
end Go.AI
end

/-
  All depths; a closed run.
-/
section
namespace Go.AI
section
variable {P : Program} {R : Rec}
theorem rec_zero : RecOK P Rec.zero :=
  ⟨fun _ _ _ _ _ _ h => (by cases h), fun _ _ _ _ _ _ _ _ h => (by cases h), fun _ _ _ _ _ h => (by cases h), fun _ _ _ _ _ h => (by cases h)⟩
theorem eval_ok (hP : ProgOK P) (hR : RecOK P R) : EvalOK P R :=
  fun _ c st ex st' h => evalCode_ok hP hR (draw_ok hP hR) (range_ok hP hR) c st ex st' h
theorem rec_succ (hP : ProgOK P) (hR : RecOK P R) : RecOK P (Rec.succ P R) where
  call := fun _ _ _ _ _ _ h => call_ok hP hR (eval_ok hP hR) h
  calld := fun _ _ _ _ _ _ _ hn h => calld_ok hP hR (eval_ok hP hR) hn h
  loop := fun _ _ _ _ _ h => loop_ok hR (eval_ok hP hR) h
  round := fun _ _ _ _ _ h => round_ok (eval_ok hP hR) h
theorem rec_ok (hP : ProgOK P) : ∀ n, RecOK P (recN P n)
  | 0 => rec_zero
  | n + 1 => rec_succ hP (rec_ok hP n)
def g00 : Gh := ⟨fun _ _ => none, fun b i => (gloH b).bind (·[i]?)⟩
theorem w00 {w : World} (hg : GloOK w) : W h0 g00 w :=
  ⟨fun o x h => (by simp [h0, AHeap.get, Tr.get] at h), fun _ _ _ _ _ h => (by cases h), fun _ _ _ _ _ _ _ _ _ h => (by cases h), fun b i v h => (by
    have h : (gloH b).bind (·[i]?) = some v := h
    cases hc : gloH b with
    | none => rw [hc] at h; cases h
    | some cs =>
      rw [hc] at h
      obtain ⟨⟨x, y, h1⟩, _⟩ := hg b cs hc
      refine ⟨?_, ?_⟩
      · unfold World.cell?; simp only [h1]; simpa using h
      · rcases Nat.lt_or_ge b w.heap.size with h2 | h2
        · exact h2
        · rw [Array.getElem?_eq_none h2] at h1; cases h1), fun _ _ _ _ _ _ _ _ h => (by cases h), fun b cs e => ⟨(hg b cs e).1, by
      obtain ⟨_, h2⟩ := hg b cs e
      exact ⟨cs[0], by show (gloH b).bind (·[0]?) = _; rw [e]; simp [h2]⟩⟩⟩
theorem f00 : Fresh h0 g00 := fun _ _ _ => rfl
theorem closed_run (hP : ProgOK P) {n : Nat} {f : FuncId} {v : Value} {cm : AMode} {h : AHeap} (hr : (recN P n).call .normal f [] .none h0 = some (.ret (.sc v), cm, h)) {w : World} (hg : GloOK w) :
    Calls P f #[] w fun e w' => e = .returned v ∧ w.heap.size ≤ w'.heap.size ∧ (∀ b, b < w.heap.size → w'.heap[b]? = w.heap[b]?) ∧ w'.tape = w.tape ∧ w'.os = w.os ∧ w'.output = w.output := by
  refine ((rec_ok hP n).call _ _ _ _ _ _ hr g00 w [] (w00 hg) f00 trivial).mono ?_
  rintro e w' ⟨g', h1, _, h3⟩
  refine ⟨?_, h1.size, fun b hb => h1.fr b hb fun o v s n e => (by cases e), h1.tape, h1.os, h1.out⟩
  cases e with
  | returned x => cases h3; rfl
  | panicked _ => exact h3.elim
  | outgrown => exact h3.elim
end
end Go.AI
end

/-
  A call that takes data alone and hands data back: run in the empty heap, it goes so in every heap; what it made is frozen.
-/
section
namespace Go.AI
def chunks (sz : Nat) : Nat → List AV → List (List AV)
  | 0, _ => []
  | n + 1, l => l.take sz :: chunks sz n (l.drop sz)
mutual
def snap (h : AHeap) : Nat → AV → Option AV
  | 0, _ => none
  | n + 1, v => match v with
    | .sl o ver m off sz len _ =>
      if sz = 0 then none else
      match rdCells h o ver m off (len * sz) with
      | some cs => match snaps h n cs with
        | some l => some (.isl (chunks sz len l) sz)
        | none => none
      | none => none
    | .agg cs => match snaps h n cs with
      | some l => some (.agg l)
      | none => none
    | .tuple cs => match snaps h n cs with
      | some l => some (.tuple l)
      | none => none
    | .sc v => some (.sc v)
    | .isl r s => some (.isl r s)
    | .esl => some .esl
    | .unk => some .unk
    | _ => none
def snaps (h : AHeap) : Nat → List AV → Option (List AV)
  | _, [] => some []
  | 0, _ :: _ => none
  | n + 1, x :: xs => match snap h n x, snaps h n xs with
    | some y, some ys => some (y :: ys)
    | _, _ => none
end
theorem chunks_flatten (sz : Nat) : ∀ (n : Nat) (l : List AV), l.length = n * sz → (chunks sz n l).flatten = l
  | 0, l, h => by simp at h; simp [chunks, h]
  | n + 1, l, h => by
    rw [chunks, List.flatten_cons, chunks_flatten sz n _ (by rw [List.length_drop, h, Nat.add_mul]; omega)]
    exact List.take_append_drop sz l
theorem chunks_length (sz : Nat) : ∀ (n : Nat) (l : List AV), (chunks sz n l).length = n
  | 0, _ => rfl
  | n + 1, l => by simp [chunks, chunks_length sz n]
theorem chunks_row (sz : Nat) : ∀ (n : Nat) (l : List AV), l.length = n * sz → ∀ r, r ∈ chunks sz n l → r.length = sz
  | 0, _, _, r, hr => by simp [chunks] at hr
  | n + 1, l, h, r, hr => by
    rw [chunks] at hr
    rcases List.mem_cons.1 hr with rfl | hr
    · rw [List.length_take, h, Nat.add_mul]; omega
    · exact chunks_row sz n _ (by rw [List.length_drop, h, Nat.add_mul]; omega) r hr
theorem snaps_length {h : AHeap} : ∀ {n : Nat} {xs ys : List AV}, snaps h n xs = some ys → ys.length = xs.length
  | _, [], ys, e => by simp [snaps] at e; subst e; rfl
  | 0, x :: xs, ys, e => by simp [snaps] at e
  | n + 1, x :: xs, ys, e => by
    rw [snaps] at e
    split at e
    · rename_i h1 h2
      simp only [Option.some.injEq] at e; subst e
      simp [snaps_length h2]
    · cases e
mutual
theorem snap_free {h : AHeap} : ∀ {n : Nat} {x y : AV}, snap h n x = some y → heapFree y = true
  | 0, _, _, e => by simp [snap] at e
  | n + 1, x, y, e => by
    cases x <;> simp only [snap] at e <;> try (first | (cases e; done) | (simp only [Option.some.injEq] at e; subst e; rfl))
    · split at e
      · cases e
      · split at e
        · split at e
          · simp only [Option.some.injEq] at e; subst e; rfl
          · cases e
        · cases e
    · split at e
      · rename_i l hl
        simp only [Option.some.injEq] at e; subst e
        simp only [heapFree]; exact snaps_free hl
      · cases e
    · split at e
      · rename_i l hl
        simp only [Option.some.injEq] at e; subst e
        simp only [heapFree]; exact snaps_free hl
      · cases e
theorem snaps_free {h : AHeap} : ∀ {n : Nat} {xs ys : List AV}, snaps h n xs = some ys → heapFrees ys = true
  | _, [], ys, e => by simp [snaps] at e; subst e; rfl
  | 0, x :: xs, ys, e => by simp [snaps] at e
  | n + 1, x :: xs, ys, e => by
    rw [snaps] at e
    split at e
    · rename_i h1 h2
      simp only [Option.some.injEq] at e; subst e
      simp only [heapFrees, Bool.and_eq_true]
      exact ⟨snap_free h1, snaps_free h2⟩
    · cases e
end
mutual
theorem snap_of_free {h h' : AHeap} : ∀ (n : Nat) {x y : AV}, heapFree x = true → snap h n x = some y → snap h' n x = some y
  | 0, _, _, _, e => by simp [snap] at e
  | n + 1, x, y, hf, e => by
    cases x <;> simp only [snap] at e ⊢ <;> try (first | exact e | (cases e; done) | (simp [heapFree] at hf; done))
    · split at e
      · rename_i l hl
        rw [snaps_of_free n (by simpa [heapFree] using hf) hl]; exact e
      · cases e
    · split at e
      · rename_i l hl
        rw [snaps_of_free n (by simpa [heapFree] using hf) hl]; exact e
      · cases e
theorem snaps_of_free {h h' : AHeap} : ∀ (n : Nat) {xs ys : List AV}, heapFrees xs = true → snaps h n xs = some ys → snaps h' n xs = some ys
  | _, [], ys, _, e => by simp [snaps] at e ⊢; exact e
  | 0, x :: xs, ys, _, e => by simp [snaps] at e
  | n + 1, x :: xs, ys, hf, e => by
    simp only [heapFrees, Bool.and_eq_true] at hf
    rw [snaps] at e ⊢
    split at e
    · rename_i h1 h2
      rw [snap_of_free n hf.1 h1, snaps_of_free n hf.2 h2]; exact e
    · cases e
end
section
variable {P : Program} {h : AHeap} {g g2 : Gh} {w : World}
mutual
theorem snap_ok (hw : W h g w) (hm : ∀ b i v, g.M b i = some v → g2.M b i = some v) (hb : ∀ o v b s n i u, g.B o v = some (b, s, n) → w.cell? ⟨b, i, none⟩ = some u → g2.M b i = some u) :
    ∀ {n : Nat} {x y : AV} {v : Value}, snap h n x = some y → VR g x v → VR g2 y v
  | 0, _, _, _, e, _ => by simp [snap] at e
  | n + 1, x, y, v, e, hr => by
    cases x <;> simp only [snap] at e <;> try (cases e; done)
    case unk => simp only [Option.some.injEq] at e; subst e; exact .unk _
    case sc => simp only [Option.some.injEq] at e; subst e; cases hr; exact .sc _
    case esl => simp only [Option.some.injEq] at e; subst e; cases hr; exact .esl _ _
    case isl => simp only [Option.some.injEq] at e; subst e; exact VR.free hm hr rfl
    case agg cs =>
      split at e
      · rename_i l hl
        simp only [Option.some.injEq] at e; subst e
        obtain ⟨a, rfl, ha⟩ := VR.agg_iff.1 hr
        exact VR.agg_iff.2 ⟨a, rfl, snaps_ok hw hm hb hl ha⟩
      · cases e
    case tuple cs =>
      split at e
      · rename_i l hl
        simp only [Option.some.injEq] at e; subst e
        obtain ⟨a, rfl, ha⟩ := VR.tuple_iff.1 hr
        exact VR.tuple_iff.2 ⟨a, rfl, snaps_ok hw hm hb hl ha⟩
      · cases e
    case sl o ver m off sz len cap =>
      split at e
      · cases e
      · rename_i hz
        split at e
        · rename_i cs hcs
          split at e
          · rename_i l hl
            simp only [Option.some.injEq] at e; subst e
            cases hr with
            | sl hB p1 p2 p3 =>
              rename_i b s c
              obtain ⟨vs, q1, q2, q3, _⟩ := rdCells_ok hw hcs hB
              have hlen : l.length = len * sz := by rw [snaps_length hl, q1.length, q2]
              have hvs := snaps_ok hw hm hb hl q1
              have key : VR g2 (.isl (chunks sz len l) sz) (.slice (some ⟨b, off, none⟩) (chunks sz len l).length c) := by
                refine .isl (b := b) (off := off) (c := c) (chunks_row sz len l hlen) (by rw [chunks_flatten sz len l hlen]; exact snaps_free hl) ?_
                rw [chunks_flatten sz len l hlen, chunks_length]
                refine .psl (fun i => vs.getD i .nilIface) ?_ ?_ hlen p2 (by simp)
                · intro i x hx
                  have hi : i < vs.length := by
                    have := hvs.length
                    rcases Nat.lt_or_ge i vs.length with a | a
                    · exact a
                    · rw [List.getElem?_eq_none (by omega)] at hx; cases hx
                  have := q3 i vs[i] (by rw [List.getElem?_eq_getElem hi])
                  rw [show vs.getD i .nilIface = vs[i] by simp [List.getD, List.getElem?_eq_getElem hi]]
                  exact hb _ _ _ _ _ _ _ hB this
                · intro i x hx
                  have hi : i < vs.length := by
                    have := hvs.length
                    rcases Nat.lt_or_ge i vs.length with a | a
                    · exact a
                    · rw [List.getElem?_eq_none (by omega)] at hx; cases hx
                  rw [show vs.getD i .nilIface = vs[i] by simp [List.getD, List.getElem?_eq_getElem hi]]
                  exact hvs.get i x vs[i] hx (List.getElem?_eq_getElem hi)
              rw [chunks_length] at key
              exact key
          · cases e
        · cases e
theorem snaps_ok (hw : W h g w) (hm : ∀ b i v, g.M b i = some v → g2.M b i = some v) (hb : ∀ o v b s n i u, g.B o v = some (b, s, n) → w.cell? ⟨b, i, none⟩ = some u → g2.M b i = some u) :
    ∀ {n : Nat} {xs ys : List AV} {vs : List Value}, snaps h n xs = some ys → VRs g xs vs → VRs g2 ys vs
  | _, [], ys, vs, e, hr => by
    simp [snaps] at e; subst e
    cases vs with
    | nil => trivial
    | cons _ _ => exact hr.elim
  | 0, x :: xs, ys, _, e, _ => by simp [snaps] at e
  | n + 1, x :: xs, ys, vs, e, hr => by
    cases vs with
    | nil => exact hr.elim
    | cons v vs =>
      rw [snaps] at e
      split at e
      · rename_i h1 h2
        simp only [Option.some.injEq] at e; subst e
        exact ⟨snap_ok hw hm hb h1 hr.1, snaps_ok hw hm hb h2 hr.2⟩
      · cases e
end
theorem VRs.free (hm : ∀ b i v, g.M b i = some v → g2.M b i = some v) : ∀ {xs : List AV} {vs : List Value}, heapFrees xs = true → VRs g xs vs → VRs g2 xs vs
  | [], [], _, _ => trivial
  | x :: xs, v :: vs, e, h => by
    simp only [heapFrees, Bool.and_eq_true] at e
    exact ⟨VR.free hm h.1 e.1, VRs.free hm e.2 h.2⟩
  | [], _ :: _, _, h => h.elim
  | _ :: _, [], _, h => h.elim
theorem pure_call {f : FuncId} {args : List AV} {v v' : AV} {h1 : AHeap} {n : Nat} (hc : CallOK P f args h0 (.ret v) h1) (ha : heapFrees args = true) (hs : snap h1 n v = some v') (h : AHeap) : CallOK P f args h (.ret v') h := by
  intro g w vs hw hf hv
  let g1 : Gh := ⟨fun _ _ => none, g.M⟩
  have hw1 : W h0 g1 w := ⟨fun o x e => (by simp [h0, AHeap.get, Tr.get] at e), fun _ _ _ _ _ e => (by cases e), fun _ _ _ _ _ _ _ _ _ e => (by cases e), hw.ro, fun _ _ _ _ _ _ _ _ e => (by cases e), hw.gl⟩
  refine (hc g1 w vs hw1 (fun _ _ _ => rfl) (VRs.free (g := g) (g2 := g1) (fun _ _ _ e => e) ha hv)).mono ?_
  rintro e w' ⟨g', st, hw', ho⟩
  have hold : ∀ b, b < w.heap.size → w'.heap[b]? = w.heap[b]? := fun b hb => st.fr b hb fun o v s n e => by cases e
  let g2 : Gh := ⟨g.B, fun b i => if w.heap.size ≤ b then w'.cell? ⟨b, i, none⟩ else g.M b i⟩
  have hmle : ∀ b i v, g.M b i = some v → g2.M b i = some v := by
    intro b i v hm
    have := (hw.ro b i v hm).2
    show (if w.heap.size ≤ b then _ else _) = _
    rw [if_neg (by omega)]; exact hm
  have hle : g.Le g2 := ⟨fun _ _ _ e => e, hmle⟩
  have hsz := st.size
  have hws := hw.same hsz hold
  refine ⟨g2, ⟨hle, Nat.le_refl _, rfl, fun _ h => h, fun _ _ _ _ => rfl, fun _ _ _ => rfl, fun _ _ h => h, fun _ _ _ h => .inl h, hsz, fun o v b s n e _ => ⟨v, s, n, e⟩, fun b hb _ => hold b hb, st.tape, st.os, st.out, ?_⟩, ?_, ?_⟩
  · intro b i v hm
    by_cases hb : w.heap.size ≤ b
    · exact .inr hb
    · have hm' : (if w.heap.size ≤ b then w'.cell? ⟨b, i, none⟩ else g.M b i) = some v := hm
      rw [if_neg hb] at hm'; exact .inl hm'
  · refine ⟨fun o x hx => (hws.obj o x hx).move hle (fun _ _ e => e) (fun _ _ _ _ _ => rfl), hws.bnd, hws.inj, ?_, ?_, hws.glMove (fun _ _ _ => rfl) hmle⟩
    · intro b i v hm
      have hm' : (if w.heap.size ≤ b then w'.cell? ⟨b, i, none⟩ else g.M b i) = some v := hm
      by_cases hb : w.heap.size ≤ b
      · rw [if_pos hb] at hm'
        refine ⟨hm', ?_⟩
        rcases Nat.lt_or_ge b w'.heap.size with a | a
        · exact a
        · exfalso
          have hn : w'.heap[b]? = none := Array.getElem?_eq_none a
          unfold World.cell? at hm'
          simp [hn] at hm'
      · rw [if_neg hb] at hm'
        exact hws.ro b i v hm'
    · intro b i u hm o v s n e
      have hm' : (if w.heap.size ≤ b then w'.cell? ⟨b, i, none⟩ else g.M b i) = some u := hm
      have hb := hw.bnd o v b s n e
      rw [if_neg (by omega)] at hm'
      exact hw.dis b i u hm' o v s n e
  · cases e with
    | returned x =>
      refine snap_ok (g := g') (g2 := g2) hw' ?_ ?_ hs ho
      · intro b i v hm
        rcases st.newM b i v hm with h1 | h1
        · exact hmle b i v h1
        · show (if w.heap.size ≤ b then _ else _) = _
          rw [if_pos h1]; exact (hw'.ro b i v hm).1
      · intro o v b s n i u hB hcell
        have hb : w.heap.size ≤ b := by
          rcases Nat.lt_or_ge b w.heap.size with a | a
          · obtain ⟨_, _, _, e⟩ := st.old o v b s n hB a; cases e
          · exact a
        show (if w.heap.size ≤ b then _ else _) = _
        rw [if_pos hb]; exact hcell
    | panicked _ => exact ho.elim
    | outgrown => exact ho.elim
end
end Go.AI
end

/-
  Small facts of bytes, texts and rows.
-/
section
namespace Go.AI
theorem bytes_loop (bs : ByteArray) : ∀ (d i : Nat) (r : List UInt8), bs.size - i = d → i ≤ bs.size → ByteArray.toList.loop bs i r = r.reverse ++ bs.data.toList.drop i
  | 0, i, r, h, hi => by
    rw [ByteArray.toList.loop]
    rw [if_neg (by omega)]
    have : i = bs.data.toList.length := by
      have : bs.data.toList.length = bs.size := by simp
      omega
    rw [this]; simp
  | d + 1, i, r, h, hi => by
    rw [ByteArray.toList.loop]
    have hlt : i < bs.size := by omega
    rw [if_pos hlt, bytes_loop bs d (i + 1) _ (by omega) (by omega)]
    have hlt' : i < bs.data.toList.length := by simpa using hlt
    rw [List.drop_eq_getElem_cons hlt']
    have : bs.get! i = bs.data.toList[i] := by
      have hs : i < bs.data.size := hlt
      simp only [ByteArray.get!, Array.getElem_toList]
      exact getElem!_pos bs.data i hs
    rw [this]; simp
theorem bytes_toList (bs : ByteArray) : bs.toList = bs.data.toList := by
  rw [ByteArray.toList, bytes_loop bs bs.size 0 [] (by omega) (by omega)]; simp
theorem bytes_ext {a b : ByteArray} (h : a.toList = b.toList) : a = b := by
  rw [bytes_toList, bytes_toList] at h
  cases a; cases b
  simp only [ByteArray.mk.injEq]
  exact Array.ext' h
theorem bytes_iff {a b : ByteArray} : a.toList = b.toList ↔ a = b := ⟨bytes_ext, fun h => by rw [h]⟩
theorem byte_get (s : ByteArray) (i : Nat) : s[i]? = s.data.toList[i]? := by
  rcases Nat.lt_or_ge i s.size with h | h
  · have h' : i < s.data.size := h
    rw [getElem?_pos s i h, List.getElem?_eq_getElem (by simpa using h)]
    simp [ByteArray.getElem_eq_getElem_data]
  · rw [getElem?_neg s i (by omega), List.getElem?_eq_none (by simpa using h)]
theorem byte_len (s : ByteArray) : s.data.toList.length = s.size := by simp
section
variable {P : Program}
theorem aslice_str {t : TypeId} {s : ByteArray} {lo hi : Option AV} {l u : Nat} (hu : P.underlying t = some .string) (hlo : optNat lo 0 = some l) (hhi : optNat hi s.size = some u) (hle : l ≤ u ∧ u ≤ s.size) :
    aslice P t (.sc (.string s)) lo hi none = some (.sc (.string (s.extract l u))) := by
  unfold aslice
  simp only [hu, hlo, hhi]
  rw [if_pos hle, forceL_eq]
  have e : (⟨⟨(s.data.toList.drop l).take (u - l)⟩⟩ : ByteArray) = s.extract l u := by
    apply ByteArray.ext
    apply Array.ext'
    simp [List.take_drop]
  rw [e]
end
theorem chunks_rows {sz : Nat} : ∀ {rows : List (List AV)}, (∀ r, r ∈ rows → r.length = sz) → chunks sz rows.length rows.flatten = rows
  | [], _ => rfl
  | r :: rows, h => by
    have h1 := h r (by simp)
    simp only [List.length_cons, chunks, List.flatten_cons]
    rw [← h1, List.take_left', List.drop_left', h1, chunks_rows fun q hq => h q (by simp [hq])]
    · rfl
    · rfl
end Go.AI
end
