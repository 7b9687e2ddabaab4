/-
  Walking a function's text with the interpreter, operation by operation, over open data.
-/
import Derived.Test.YtmlcjnhkphkpiaaGreatDoorAiE
set_option linter.all false

section
namespace Go.AI

section
variable {P : Program} {R : Rec} {cx : Ctx} {ops : Array Oper}

structure OpsW (P : Program) (R : Rec) (cx : Ctx) (ops : Array Oper) (l : List Oper) (st : ASt) (K : ASt → Prop) : Prop where
  ok : ∃ st', runOps P R cx ops l st = some (.normal, st') ∧ K st'
structure CodeW (P : Program) (R : Rec) (cx : Ctx) (c : Code) (st : ASt) (K : AEx → ASt → Prop) : Prop where
  ok : ∃ ex st', evalCode P R cx c st = some (ex, st') ∧ K ex st'
structure DrawW (P : Program) (R : Rec) (cx : Ctx) (ops : Array Oper) (l : List Oper) (i aid : Nat) (k : Book) (st : ASt) (K : Book → ASt → Prop) : Prop where
  ok : ∃ k' st', runDraw P R cx ops l i aid k st = some (k', st') ∧ K k' st'

/-! code -/

theorem CodeW.seq {a b : Code} {st : ASt} {K : AEx → ASt → Prop} (h : CodeW P R cx a st fun ex st => match ex with
    | .normal => CodeW P R cx b st K
    | ex => K ex st) : CodeW P R cx (.seq a b) st K := by
  obtain ⟨ex, st1, e, hk⟩ := h
  cases ex with
  | normal => obtain ⟨ex2, st2, e2, hk⟩ := hk; exact ⟨_, _, by simp only [evalCode, e]; exact e2, hk⟩
  | exit id => exact ⟨_, _, by simp only [evalCode, e], hk⟩
  | ret => exact ⟨_, _, by simp only [evalCode, e], hk⟩
  | panic v => exact ⟨_, _, by simp only [evalCode, e], hk⟩

theorem CodeW.skip {st : ASt} {K : AEx → ASt → Prop} (h : K .normal st) : CodeW P R cx .skip st K := ⟨_, _, rfl, h⟩
theorem CodeW.exit {id : Nat} {st : ASt} {K : AEx → ASt → Prop} (h : K (.exit id) st) : CodeW P R cx (.exit id) st K := ⟨_, _, rfl, h⟩
theorem CodeW.ret {st : ASt} {K : AEx → ASt → Prop} (h : K .ret st) : CodeW P R cx .ret st K := ⟨_, _, rfl, h⟩
theorem CodeW.scope {c : Code} {st : ASt} {K : AEx → ASt → Prop} (h : CodeW P R cx c st K) : CodeW P R cx (.scope c) st K := ⟨h.ok⟩

theorem CodeW.cond {c : Operand} {a b : Code} {st : ASt} {K : AEx → ASt → Prop} {t : Bool} (hc : ev st.tm c = .sc (.bool t)) (h1 : t = true → CodeW P R cx a st K) (h2 : t = false → CodeW P R cx b st K) :
    CodeW P R cx (.cond c a b) st K := by
  cases t with
  | true => obtain ⟨ex, st1, e, hk⟩ := h1 rfl; exact ⟨_, _, by simp only [evalCode, hc]; exact e, hk⟩
  | false => obtain ⟨ex, st1, e, hk⟩ := h2 rfl; exact ⟨_, _, by simp only [evalCode, hc]; exact e, hk⟩

theorem CodeW.yes {c : Operand} {a b : Code} {st : ASt} {K : AEx → ASt → Prop} (hc : ev st.tm c = .sc (.bool true)) (h : CodeW P R cx a st K) : CodeW P R cx (.cond c a b) st K :=
  CodeW.cond hc (fun _ => h) (fun e => by cases e)
theorem CodeW.no {c : Operand} {a b : Code} {st : ASt} {K : AEx → ASt → Prop} (hc : ev st.tm c = .sc (.bool false)) (h : CodeW P R cx b st K) : CodeW P R cx (.cond c a b) st K :=
  CodeW.cond hc (fun e => by cases e) (fun _ => h)

theorem CodeW.block {id : Nat} {c : Code} {st : ASt} {K : AEx → ASt → Prop} (h : CodeW P R cx c st fun ex st => match ex with
    | .exit id' => match Nat.beq id' id with
      | true => K .normal st
      | false => K (.exit id') st
    | ex => K ex st) : CodeW P R cx (.block id c) st K := by
  obtain ⟨ex, st1, e, hk⟩ := h
  cases ex with
  | normal => exact ⟨_, _, by simp only [evalCode, e], hk⟩
  | ret => exact ⟨_, _, by simp only [evalCode, e], hk⟩
  | panic v => exact ⟨_, _, by simp only [evalCode, e], hk⟩
  | exit id' =>
    dsimp only at hk
    split at hk
    · rename_i hb
      exact ⟨_, _, by simp only [evalCode, e]; rw [if_pos (Nat.eq_of_beq_eq_true hb)], hk⟩
    · rename_i hb
      exact ⟨_, _, by simp only [evalCode, e]; rw [if_neg (Nat.ne_of_beq_eq_false hb)], hk⟩

theorem CodeW.loop {c : Code} {st st' : ASt} {ex : AEx} {K : AEx → ASt → Prop} (hl : R.loop c cx st = some (ex, st')) (h : K ex st') : CodeW P R cx (.loop c) st K := ⟨_, _, hl, h⟩

theorem CodeW.region {id : Nat} {st : ASt} {K : AEx → ASt → Prop} (h : OpsW P R cx ops ops.toList st fun st => K .normal st) : CodeW P R cx (.region id ops false) st K := by
  obtain ⟨st', e, hk⟩ := h
  exact ⟨_, _, by simp only [evalCode, Bool.false_eq_true, if_false]; exact e, hk⟩

theorem CodeW.draw {id n : Nat} {st : ASt} {K : AEx → ASt → Prop} (hn : countA ops.toList = n) (hs : (drawStatic ops && noneA st.h n st.h.next) = true)
    (h : DrawW P R cx ops ops.toList 0 st.h.next { es := [], fs := [] } { tm := st.tm, df := st.df, cm := st.cm, h := { objs := st.h.objs, next := st.h.next + n, floor := st.h.floor, wr := st.h.wr } }
      fun k st => bookOK (ancs ops.toList []) k = true ∧ K .normal st) : CodeW P R cx (.region id ops true) st K := by
  subst hn
  obtain ⟨k, st', e, hb, hk⟩ := h
  refine ⟨⟨_, st', ?_, hk⟩⟩
  simp only [evalCode, if_true, evalDraw]
  rw [if_pos hs]
  simp only [e]
  rw [if_pos hb]

/-! operations in the order of the text -/

theorem OpsW.nil {st : ASt} {K : ASt → Prop} (h : K st) : OpsW P R cx ops [] st K := ⟨st, rfl, h⟩

theorem OpsW.step {o : Oper} {rest : List Oper} {st st1 : ASt} {K : ASt → Prop} (e : stepOp P R cx ops o st = some (.normal, st1)) (h : OpsW P R cx ops rest st1 K) : OpsW P R cx ops (o :: rest) st K := by
  obtain ⟨st2, e2, hk⟩ := h
  exact ⟨st2, by rw [runOps, e]; exact e2, hk⟩

theorem OpsW.val {d : Tmp} {op : Op} {ty : TypeId} {pos : String} {af : Array Edge} {rest : List Oper} {tm : Tr AV} {df : List ADef} {cm : AMode} {h h' : AHeap} {v : AV} {K : ASt → Prop}
    (e : aop P (ev tm) ⟨some d, op, ty, pos, af, none⟩ h = some (.val v, h')) (hd : Nat.blt d cx.tn = true) (hk : OpsW P R cx ops rest ⟨tm.put d v, df, cm, h'⟩ K) :
    OpsW P R cx ops (⟨some d, op, ty, pos, af, none⟩ :: rest) ⟨tm, df, cm, h⟩ K := by
  refine OpsW.step ?_ hk
  simp only [stepOp, wantedA, opRun, e, ASt.put]
  rw [if_pos (by simpa [Nat.blt_eq] using hd)]
  rfl

theorem OpsW.unit {op : Op} {ty : TypeId} {pos : String} {af : Array Edge} {rest : List Oper} {tm : Tr AV} {df : List ADef} {cm : AMode} {h h' : AHeap} {K : ASt → Prop}
    (e : aop P (ev tm) ⟨none, op, ty, pos, af, none⟩ h = some (.skip, h')) (hk : OpsW P R cx ops rest ⟨tm, df, cm, h'⟩ K) :
    OpsW P R cx ops (⟨none, op, ty, pos, af, none⟩ :: rest) ⟨tm, df, cm, h⟩ K := by
  refine OpsW.step ?_ hk
  simp only [stepOp, wantedA, opRun, e, ASt.put]
  rfl

/-- a guard that is known to be met: as if there were none -/
theorem OpsW.met {dst : Option Tmp} {op : Op} {ty : TypeId} {pos : String} {af : Array Edge} {j : Nat} {d : Tmp} {want b : Bool} {rest : List Oper} {st : ASt} {K : ASt → Prop}
    (hj : (ops[j]?).bind (·.dst) = some d) (ht : st.tm.get d = some (.sc (.bool b))) (hb : b = want) (hk : OpsW P R cx ops (⟨dst, op, ty, pos, af, none⟩ :: rest) st K) :
    OpsW P R cx ops (⟨dst, op, ty, pos, af, some (j, want)⟩ :: rest) st K := by
  obtain ⟨st', e, hk⟩ := hk
  refine ⟨⟨st', ?_, hk⟩⟩
  rw [← e, runOps, runOps]
  have : ∀ g, stepOp P R cx ops ⟨dst, op, ty, pos, af, g⟩ st = (match wantedA ops ⟨dst, op, ty, pos, af, g⟩ st.tm with
    | some true => stepOp P R cx ops ⟨dst, op, ty, pos, af, none⟩ st
    | some false => (st.put cx.tn dst undefA).map fun st => (.normal, st)
    | none => none) := by
    intro g
    simp only [stepOp]
    cases hw : wantedA ops ⟨dst, op, ty, pos, af, g⟩ st.tm with
    | none => rfl
    | some b => cases b <;> rfl
  rw [this (some (j, want))]
  have hw : wantedA ops ⟨dst, op, ty, pos, af, some (j, want)⟩ st.tm = some true := by
    simp only [wantedA, hj, ht, hb]; simp
  rw [hw]

theorem OpsW.unmet {d' : Tmp} {op : Op} {ty : TypeId} {pos : String} {af : Array Edge} {j : Nat} {d : Tmp} {want b : Bool} {rest : List Oper} {tm : Tr AV} {df : List ADef} {cm : AMode} {h : AHeap} {K : ASt → Prop}
    (hj : (ops[j]?).bind (·.dst) = some d) (ht : tm.get d = some (.sc (.bool b))) (hb : b = !want) (hd : Nat.blt d' cx.tn = true) (hk : OpsW P R cx ops rest ⟨tm.put d' undefA, df, cm, h⟩ K) :
    OpsW P R cx ops (⟨some d', op, ty, pos, af, some (j, want)⟩ :: rest) ⟨tm, df, cm, h⟩ K := by
  refine OpsW.step ?_ hk
  have hw : wantedA ops ⟨some d', op, ty, pos, af, some (j, want)⟩ tm = some false := by
    simp only [wantedA, hj, ht, hb]; cases want <;> rfl
  simp only [stepOp, hw, ASt.put]
  rw [if_pos (by simpa [Nat.blt_eq] using hd)]
  rfl

theorem OpsW.gone {d' : Tmp} {op : Op} {ty : TypeId} {pos : String} {af : Array Edge} {j : Nat} {d : Tmp} {want : Bool} {rest : List Oper} {tm : Tr AV} {df : List ADef} {cm : AMode} {h : AHeap} {K : ASt → Prop}
    (hj : (ops[j]?).bind (·.dst) = some d) (ht : tm.get d = some undefA) (hd : Nat.blt d' cx.tn = true) (hk : OpsW P R cx ops rest ⟨tm.put d' undefA, df, cm, h⟩ K) :
    OpsW P R cx ops (⟨some d', op, ty, pos, af, some (j, want)⟩ :: rest) ⟨tm, df, cm, h⟩ K := by
  refine OpsW.step ?_ hk
  have hw : wantedA ops ⟨some d', op, ty, pos, af, some (j, want)⟩ tm = some false := by
    simp only [wantedA, hj, ht]; rfl
  simp only [stepOp, hw, ASt.put]
  rw [if_pos (by simpa [Nat.blt_eq] using hd)]
  rfl

theorem OpsW.pick {d : Tmp} {c x y : Operand} {ty : TypeId} {pos : String} {af : Array Edge} {rest : List Oper} {tm : Tr AV} {df : List ADef} {cm : AMode} {h : AHeap} {t : Bool} {K : ASt → Prop}
    (hc : ev tm c = .sc (.bool t)) (hd : Nat.blt d cx.tn = true) (h1 : t = true → OpsW P R cx ops rest ⟨tm.put d (ev tm x), df, cm, h⟩ K) (h2 : t = false → OpsW P R cx ops rest ⟨tm.put d (ev tm y), df, cm, h⟩ K) :
    OpsW P R cx ops (⟨some d, .pick c x y, ty, pos, af, none⟩ :: rest) ⟨tm, df, cm, h⟩ K := by
  cases t with
  | true => exact OpsW.val (by simp only [aop, hc]; rfl) hd (h1 rfl)
  | false => exact OpsW.val (by simp only [aop, hc]; rfl) hd (h2 rfl)

theorem OpsW.call {d : Tmp} {op : Op} {ty : TypeId} {pos : String} {af : Array Edge} {rest : List Oper} {tm : Tr AV} {df : List ADef} {cm : AMode} {h h1 h' : AHeap} {f : FuncId} {args : List AV} {v : AV} {cm' : AMode} {K : ASt → Prop}
    (e : aop P (ev tm) ⟨some d, op, ty, pos, af, none⟩ h = some (.enter f args, h1)) (hc : R.call .normal f args .none h1 = some (.ret v, cm', h')) (hd : Nat.blt d cx.tn = true)
    (hk : OpsW P R cx ops rest ⟨tm.put d v, df, cm, h'⟩ K) : OpsW P R cx ops (⟨some d, op, ty, pos, af, none⟩ :: rest) ⟨tm, df, cm, h⟩ K := by
  refine OpsW.step ?_ hk
  simp only [stepOp, wantedA, opRun, e, hc, ASt.put]
  rw [if_pos (by simpa [Nat.blt_eq] using hd)]
  rfl

theorem OpsW.index {d : Tmp} {t : TypeId} {x i : Operand} {ty : TypeId} {pos : String} {af : Array Edge} {rest : List Oper} {tm : Tr AV} {df : List ADef} {cm : AMode} {h : AHeap} {rows : List (List AV)} {sz : Nat} {k : IntKind} {n : Int} {r : List AV} {e : TypeId} {K : ASt → Prop}
    (hx : ev tm x = .isl rows sz) (hi : ev tm i = .sc (.int k n)) (hu : P.underlying t = some (.slice e)) (hs : sizeT P e = some sz) (hn : 0 ≤ n) (hr : rows[n.toNat]? = some r) (hd : Nat.blt d cx.tn = true)
    (hk : OpsW P R cx ops rest ⟨tm.put d (.pref r), df, cm, h⟩ K) : OpsW P R cx ops (⟨some d, .indexAddr t x i, ty, pos, af, none⟩ :: rest) ⟨tm, df, cm, h⟩ K := by
  refine OpsW.val (h' := h) ?_ hd hk
  simp only [aop, aindexAddr, hu, hx, hi, natOfA, if_pos hn, hs, hr]
  simp [AI.val]

/-- a comparison: both answers -/
theorem OpsW.test {d : Tmp} {bo : BinOp} {bt bt' : TypeId} {x y : Operand} {ty : TypeId} {pos : String} {af : Array Edge} {rest : List Oper} {tm : Tr AV} {df : List ADef} {cm : AMode} {h h' : AHeap} {b : Bool} {K : ASt → Prop}
    (e : aop P (ev tm) ⟨some d, .binOp bo bt x y bt', ty, pos, af, none⟩ h = some (.val (.sc (.bool b)), h')) (hd : Nat.blt d cx.tn = true)
    (h1 : b = true → OpsW P R cx ops rest ⟨tm.put d (.sc (.bool true)), df, cm, h'⟩ K) (h2 : b = false → OpsW P R cx ops rest ⟨tm.put d (.sc (.bool false)), df, cm, h'⟩ K) :
    OpsW P R cx ops (⟨some d, .binOp bo bt x y bt', ty, pos, af, none⟩ :: rest) ⟨tm, df, cm, h⟩ K := by
  cases b with
  | true => exact OpsW.val e hd (h1 rfl)
  | false => exact OpsW.val e hd (h2 rfl)

/-- a call that answers yes or no -/
theorem OpsW.callB {d : Tmp} {op : Op} {ty : TypeId} {pos : String} {af : Array Edge} {rest : List Oper} {tm : Tr AV} {df : List ADef} {cm : AMode} {h h1 h' : AHeap} {f : FuncId} {args : List AV} {t : Bool} {cm' : AMode} {K : ASt → Prop}
    (e : aop P (ev tm) ⟨some d, op, ty, pos, af, none⟩ h = some (.enter f args, h1)) (hc : R.call .normal f args .none h1 = some (.ret (.sc (.bool t)), cm', h')) (hd : Nat.blt d cx.tn = true)
    (k1 : t = true → OpsW P R cx ops rest ⟨tm.put d (.sc (.bool true)), df, cm, h'⟩ K) (k2 : t = false → OpsW P R cx ops rest ⟨tm.put d (.sc (.bool false)), df, cm, h'⟩ K) :
    OpsW P R cx ops (⟨some d, op, ty, pos, af, none⟩ :: rest) ⟨tm, df, cm, h⟩ K := by
  cases t with
  | true => exact OpsW.call e hc hd (k1 rfl)
  | false => exact OpsW.call e hc hd (k2 rfl)

/-! operations of a region whose order is open, in the order of the text -/

theorem DrawW.nil {i aid : Nat} {k : Book} {st : ASt} {K : Book → ASt → Prop} (h : K k st) : DrawW P R cx ops [] i aid k st K := ⟨k, st, rfl, h⟩

theorem DrawW.val {d : Tmp} {op : Op} {ty : TypeId} {pos : String} {af : Array Edge} {rest : List Oper} {i aid : Nat} {es fs : List (Nat × List Nat)} {tm : Tr AV} {df : List ADef} {cm : AMode} {h h' : AHeap} {v : AV} {ids : List Nat} {K : Book → ASt → Prop}
    (hA : isA op = false) (hF : isF op = true) (hids : lookIds ⟨some d, op, ty, pos, af, none⟩ tm = ids)
    (e : aop P (evo (tmpsOf ⟨some d, op, ty, pos, af, none⟩) tm) ⟨some d, op, ty, pos, af, none⟩ { objs := onlyA h ids, next := h.next, floor := h.floor, wr := h.wr } = some (.val v, h')) (hn : Nat.beq h'.next h.next = true)
    (hd : Nat.blt d cx.tn = true) (hk : DrawW P R cx ops rest (i + 1) aid ⟨es, (i, ids) :: fs⟩ ⟨tm.put d v, df, cm, h⟩ K) :
    DrawW P R cx ops (⟨some d, op, ty, pos, af, none⟩ :: rest) i aid ⟨es, fs⟩ ⟨tm, df, cm, h⟩ K := by
  subst hids
  obtain ⟨k', st', e2, hk⟩ := hk
  refine ⟨⟨k', st', ?_, hk⟩⟩
  rw [runDraw]
  simp only [wantedA, hA, hF, if_true, Bool.false_eq_true, if_false, e, ASt.put]
  rw [if_pos (Nat.eq_of_beq_eq_true hn), if_pos (by simpa [Nat.blt_eq] using hd)]
  exact e2

theorem DrawW.test {d : Tmp} {bo : BinOp} {bt bt' : TypeId} {x y : Operand} {ty : TypeId} {pos : String} {af : Array Edge} {rest : List Oper} {i aid : Nat} {es fs : List (Nat × List Nat)} {tm : Tr AV} {df : List ADef} {cm : AMode} {h h' : AHeap} {b : Bool} {K : Book → ASt → Prop}
    (e : aop P (evo (tmpsOf ⟨some d, .binOp bo bt x y bt', ty, pos, af, none⟩) tm) ⟨some d, .binOp bo bt x y bt', ty, pos, af, none⟩ { objs := .leaf, next := h.next, floor := h.floor, wr := h.wr } = some (.val (.sc (.bool b)), h')) (hn : Nat.beq h'.next h.next = true)
    (hd : Nat.blt d cx.tn = true) (h1 : b = true → DrawW P R cx ops rest (i + 1) aid ⟨es, (i, []) :: fs⟩ ⟨tm.put d (.sc (.bool true)), df, cm, h⟩ K) (h2 : b = false → DrawW P R cx ops rest (i + 1) aid ⟨es, (i, []) :: fs⟩ ⟨tm.put d (.sc (.bool false)), df, cm, h⟩ K) :
    DrawW P R cx ops (⟨some d, .binOp bo bt x y bt', ty, pos, af, none⟩ :: rest) i aid ⟨es, fs⟩ ⟨tm, df, cm, h⟩ K := by
  cases b with
  | true => exact DrawW.val rfl rfl rfl e hn hd (h1 rfl)
  | false => exact DrawW.val rfl rfl rfl e hn hd (h2 rfl)

theorem DrawW.index {d : Tmp} {t : TypeId} {x j : Operand} {ty : TypeId} {pos : String} {af : Array Edge} {rest : List Oper} {i aid : Nat} {es fs : List (Nat × List Nat)} {tm : Tr AV} {df : List ADef} {cm : AMode} {h : AHeap} {rows : List (List AV)} {sz : Nat} {kk : IntKind} {n : Int} {r : List AV} {e : TypeId} {K : Book → ASt → Prop}
    (hx : evo (tmpsOf ⟨some d, .indexAddr t x j, ty, pos, af, none⟩) tm x = .isl rows sz) (hi : evo (tmpsOf ⟨some d, .indexAddr t x j, ty, pos, af, none⟩) tm j = .sc (.int kk n)) (hu : P.underlying t = some (.slice e)) (hs : sizeT P e = some sz) (hn : 0 ≤ n) (hr : rows[n.toNat]? = some r) (hd : Nat.blt d cx.tn = true)
    (hk : DrawW P R cx ops rest (i + 1) aid ⟨es, (i, []) :: fs⟩ ⟨tm.put d (.pref r), df, cm, h⟩ K) : DrawW P R cx ops (⟨some d, .indexAddr t x j, ty, pos, af, none⟩ :: rest) i aid ⟨es, fs⟩ ⟨tm, df, cm, h⟩ K := by
  refine DrawW.val (ids := []) (h' := { objs := .leaf, next := h.next, floor := h.floor, wr := h.wr }) rfl rfl rfl ?_ (by simp) hd hk
  simp only [aop, aindexAddr, hu, hx, hi, natOfA, if_pos hn, hs, hr]
  simp [AI.val, onlyA]

theorem DrawW.new {d : Tmp} {op : Op} {ty : TypeId} {pos : String} {af : Array Edge} {rest : List Oper} {i aid : Nat} {k : Book} {tm : Tr AV} {df : List ADef} {cm : AMode} {h h' : AHeap} {v : AV} {x : AObj} {K : Book → ASt → Prop}
    (hA : isA op = true) (e : aop P (evo (tmpsOf ⟨some d, op, ty, pos, af, none⟩) tm) ⟨some d, op, ty, pos, af, none⟩ { objs := .leaf, next := aid, floor := 0, wr := [] } = some (.val v, h')) (hx : h'.get aid = some x) (hn : Nat.beq h'.next (aid + 1) = true)
    (hd : Nat.blt d cx.tn = true) (hk : DrawW P R cx ops rest (i + 1) (aid + 1) k ⟨tm.put d v, df, cm, { objs := h.objs.put aid x, next := h.next, floor := h.floor, wr := h.wr }⟩ K) :
    DrawW P R cx ops (⟨some d, op, ty, pos, af, none⟩ :: rest) i aid k ⟨tm, df, cm, h⟩ K := by
  obtain ⟨k', st', e2, hk⟩ := hk
  refine ⟨⟨k', st', ?_, hk⟩⟩
  rw [runDraw]
  simp only [wantedA, hA, if_true, e, hx, ASt.put]
  rw [if_pos (Nat.eq_of_beq_eq_true hn), if_pos (by simpa [Nat.blt_eq] using hd)]
  exact e2

theorem DrawW.call {d : Tmp} {op : Op} {ty : TypeId} {pos : String} {af : Array Edge} {rest : List Oper} {i aid : Nat} {es fs : List (Nat × List Nat)} {tm : Tr AV} {df : List ADef} {cm cm' : AMode} {h h1 h' : AHeap} {f : FuncId} {args : List AV} {v : AV} {K : Book → ASt → Prop}
    (hA : isA op = false) (hF : isF op = false) (e : aop P (evo (tmpsOf ⟨some d, op, ty, pos, af, none⟩) tm) ⟨some d, op, ty, pos, af, none⟩ h.inner = some (.enter f args, h1)) (hc : R.call .normal f args .none h1 = some (.ret v, cm', h'))
    (hd : Nat.blt d cx.tn = true) (hk : DrawW P R cx ops rest (i + 1) aid ⟨(i, h'.wr) :: es, fs⟩ ⟨tm.put d v, df, cm, h.outer h'⟩ K) :
    DrawW P R cx ops (⟨some d, op, ty, pos, af, none⟩ :: rest) i aid ⟨es, fs⟩ ⟨tm, df, cm, h⟩ K := by
  obtain ⟨k', st', e2, hk⟩ := hk
  refine ⟨⟨k', st', ?_, hk⟩⟩
  rw [runDraw]
  simp only [wantedA, hA, hF, Bool.false_eq_true, if_false, opRun, e, hc, ASt.put]
  rw [if_pos (by simpa [Nat.blt_eq] using hd)]
  exact e2

theorem DrawW.callB {d : Tmp} {op : Op} {ty : TypeId} {pos : String} {af : Array Edge} {rest : List Oper} {i aid : Nat} {es fs : List (Nat × List Nat)} {tm : Tr AV} {df : List ADef} {cm cm' : AMode} {h h1 h' : AHeap} {f : FuncId} {args : List AV} {t : Bool} {K : Book → ASt → Prop}
    (hA : isA op = false) (hF : isF op = false) (e : aop P (evo (tmpsOf ⟨some d, op, ty, pos, af, none⟩) tm) ⟨some d, op, ty, pos, af, none⟩ h.inner = some (.enter f args, h1)) (hc : R.call .normal f args .none h1 = some (.ret (.sc (.bool t)), cm', h'))
    (hd : Nat.blt d cx.tn = true) (k1 : t = true → DrawW P R cx ops rest (i + 1) aid ⟨(i, h'.wr) :: es, fs⟩ ⟨tm.put d (.sc (.bool true)), df, cm, h.outer h'⟩ K) (k2 : t = false → DrawW P R cx ops rest (i + 1) aid ⟨(i, h'.wr) :: es, fs⟩ ⟨tm.put d (.sc (.bool false)), df, cm, h.outer h'⟩ K) :
    DrawW P R cx ops (⟨some d, op, ty, pos, af, none⟩ :: rest) i aid ⟨es, fs⟩ ⟨tm, df, cm, h⟩ K := by
  cases t with
  | true => exact DrawW.call hA hF e hc hd (k1 rfl)
  | false => exact DrawW.call hA hF e hc hd (k2 rfl)

/-- what is neither looked at nor made nor called: a store, an append -/
theorem DrawW.act {dst : Option Tmp} {op : Op} {ty : TypeId} {pos : String} {af : Array Edge} {rest : List Oper} {i aid : Nat} {es fs : List (Nat × List Nat)} {tm : Tr AV} {df : List ADef} {cm : AMode} {h h' : AHeap} {st' : ASt} {n : ANext} {v : AV} {K : Book → ASt → Prop}
    (hA : isA op = false) (hF : isF op = false) (e : aop P (evo (tmpsOf ⟨dst, op, ty, pos, af, none⟩) tm) ⟨dst, op, ty, pos, af, none⟩ h.inner = some (n, h')) (hnv : (n = .val v) ∨ (n = .skip ∧ v = undefA))
    (hp : ASt.put ⟨tm, df, cm, h.outer h'⟩ cx.tn dst v = some st') (hk : DrawW P R cx ops rest (i + 1) aid ⟨(i, h'.wr) :: es, fs⟩ st' K) :
    DrawW P R cx ops (⟨dst, op, ty, pos, af, none⟩ :: rest) i aid ⟨es, fs⟩ ⟨tm, df, cm, h⟩ K := by
  obtain ⟨k', st2, e2, hk⟩ := hk
  refine ⟨⟨k', st2, ?_, hk⟩⟩
  rw [runDraw]
  rcases hnv with rfl | ⟨rfl, rfl⟩
  · simp only [wantedA, hA, hF, Bool.false_eq_true, if_false, opRun, e, hp]
    exact e2
  · simp only [wantedA, hA, hF, Bool.false_eq_true, if_false, opRun, e, hp]
    exact e2

theorem DrawW.met {dst : Option Tmp} {op : Op} {ty : TypeId} {pos : String} {af : Array Edge} {j : Nat} {d : Tmp} {want : Bool} {rest : List Oper} {i aid : Nat} {k : Book} {st : ASt} {K : Book → ASt → Prop}
    (hj : (ops[j]?).bind (·.dst) = some d) (ht : st.tm.get d = some (.sc (.bool want))) (hk : DrawW P R cx ops (⟨dst, op, ty, pos, af, none⟩ :: rest) i aid k st K) :
    DrawW P R cx ops (⟨dst, op, ty, pos, af, some (j, want)⟩ :: rest) i aid k st K := by
  obtain ⟨k', st', e, hk⟩ := hk
  refine ⟨⟨k', st', ?_, hk⟩⟩
  rw [← e, runDraw, runDraw]
  have hw : wantedA ops ⟨dst, op, ty, pos, af, some (j, want)⟩ st.tm = some true := by
    simp only [wantedA, hj, ht]; simp
  rw [hw]
  rfl

theorem DrawW.unmet {d' : Tmp} {op : Op} {ty : TypeId} {pos : String} {af : Array Edge} {j : Nat} {d : Tmp} {want b : Bool} {rest : List Oper} {i aid : Nat} {k : Book} {tm : Tr AV} {df : List ADef} {cm : AMode} {h : AHeap} {K : Book → ASt → Prop}
    (hA : isA op = false) (hj : (ops[j]?).bind (·.dst) = some d) (ht : tm.get d = some (.sc (.bool b))) (hb : b = !want) (hd : Nat.blt d' cx.tn = true) (hk : DrawW P R cx ops rest (i + 1) aid k ⟨tm.put d' undefA, df, cm, h⟩ K) :
    DrawW P R cx ops (⟨some d', op, ty, pos, af, some (j, want)⟩ :: rest) i aid k ⟨tm, df, cm, h⟩ K := by
  obtain ⟨k', st', e, hk⟩ := hk
  refine ⟨⟨k', st', ?_, hk⟩⟩
  rw [runDraw]
  have hw : wantedA ops ⟨some d', op, ty, pos, af, some (j, want)⟩ tm = some false := by
    simp only [wantedA, hj, ht, hb]; cases want <;> rfl
  simp only [hw, ASt.put, hA, Bool.false_eq_true, if_false]
  rw [if_pos (by simpa [Nat.blt_eq] using hd)]
  exact e

theorem DrawW.gone {d' : Tmp} {op : Op} {ty : TypeId} {pos : String} {af : Array Edge} {j : Nat} {d : Tmp} {want : Bool} {rest : List Oper} {i aid : Nat} {k : Book} {tm : Tr AV} {df : List ADef} {cm : AMode} {h : AHeap} {K : Book → ASt → Prop}
    (hA : isA op = false) (hj : (ops[j]?).bind (·.dst) = some d) (ht : tm.get d = some undefA) (hd : Nat.blt d' cx.tn = true) (hk : DrawW P R cx ops rest (i + 1) aid k ⟨tm.put d' undefA, df, cm, h⟩ K) :
    DrawW P R cx ops (⟨some d', op, ty, pos, af, some (j, want)⟩ :: rest) i aid k ⟨tm, df, cm, h⟩ K := by
  obtain ⟨k', st', e, hk⟩ := hk
  refine ⟨⟨k', st', ?_, hk⟩⟩
  rw [runDraw]
  have hw : wantedA ops ⟨some d', op, ty, pos, af, some (j, want)⟩ tm = some false := by
    simp only [wantedA, hj, ht]; rfl
  simp only [hw, ASt.put, hA, Bool.false_eq_true, if_false]
  rw [if_pos (by simpa [Nat.blt_eq] using hd)]
  exact e

/-! a call -/

/-- what a function answers -/
def CallW (P : Program) (R : Rec) (f : FuncId) (fn : Func) (args : List AV) (v : AV) : Prop :=
  ∃ code, fn.body = some code ∧ CodeW P R { fn := f, tn := Nat.max fn.ntmps args.length, kind := .normal, round := none } code { tm := putArgs args 0 .leaf, df := [], cm := .none, h := { objs := .leaf, next := 0, floor := 0, wr := [] } } fun ex st =>
    (ex = .ret ∨ ex = .normal) ∧ st.df = [] ∧ ∃ u n, retA P fn st.tm st.h = some u ∧ snap { objs := st.h.objs, next := st.h.next, floor := 0, wr := [] } n u = some v

theorem addWrs_zero : ∀ (l : List Nat), addWrs [] 0 l = []
  | [] => rfl
  | o :: os => by simp only [addWrs, addWr, Nat.not_lt_zero, if_false]; exact addWrs_zero os

theorem CallW.ok (hP : ProgOK P) (hR : RecOK P R) {f : FuncId} {fn : Func} {args : List AV} (hf : P.funcs[f]? = some fn) (ha : heapFrees args = true) {v : AV} (hc : CallW P R f fn args v) (h : AHeap) : CallOK P f args h (.ret v) h := by
  obtain ⟨code, hb, ex, st, e, hx, hd, u, n, hv, hs⟩ := hc
  have hl : leaveA P R fn st.tm st.df .ret st.h = some (.ret u, st.h) := by rw [hd]; simp [leaveA, hv]
  have hev : evalCode P R { fn := f, tn := max fn.ntmps args.length, kind := .normal, round := none } code { tm := putArgs args 0 .leaf, df := [], cm := .none, h := h0.inner } = some (ex, st) := e
  have hout : AHeap.outer h0 st.h = { objs := st.h.objs, next := st.h.next, floor := 0, wr := [] } := by
    unfold AHeap.outer h0; simp only [addWrs_zero]
  have hcall : ∃ cm2 h2, stepCall P R .normal f args .none h0 = some (.ret u, cm2, h2) ∧ (h2 = AHeap.outer h0 st.h ∨ (h2 = h0 ∧ heapFree u = true)) := by
    unfold stepCall
    simp only [hf, hb, hev]
    rcases hx with rfl | rfl
    all_goals
      simp only [hl, endCall]
      split
      · rename_i hc; exact ⟨_, _, rfl, .inr ⟨rfl, hc.2.2⟩⟩
      · exact ⟨_, _, rfl, .inl rfl⟩
  obtain ⟨cm2, h2, e2, e3⟩ := hcall
  have hco := call_ok hP hR (eval_ok hP hR) e2
  rcases e3 with rfl | ⟨rfl, hfree⟩
  · rw [hout] at hco; exact pure_call hco ha hs h
  · exact pure_call hco ha (snap_of_free n hfree hs) h
end
end Go.AI
namespace Go.AI
section
variable {P : Program} {R : Rec} {cx : Ctx} {ops : Array Oper}
theorem OpsW.id {l : List Oper} {st : ASt} {K : ASt → Prop} (h : OpsW P R cx ops l st K) : OpsW P R cx ops l st K := h
theorem OpsW.as (op : Op) {dst : Option Tmp} {ty : TypeId} {pos : String} {af : Array Edge} {g : Option (Nat × Bool)} {rest : List Oper} {st : ASt} {K : ASt → Prop} (h : OpsW P R cx ops (⟨dst, op, ty, pos, af, g⟩ :: rest) st K) : OpsW P R cx ops (⟨dst, op, ty, pos, af, g⟩ :: rest) st K := h
theorem OpsW.guarded {op : Op} {dst : Option Tmp} {ty : TypeId} {pos : String} {af : Array Edge} {g : Nat × Bool} {rest : List Oper} {st : ASt} {K : ASt → Prop} (h : OpsW P R cx ops (⟨dst, op, ty, pos, af, some g⟩ :: rest) st K) : OpsW P R cx ops (⟨dst, op, ty, pos, af, some g⟩ :: rest) st K := h
theorem DrawW.id {l : List Oper} {i aid : Nat} {k : Book} {st : ASt} {K : Book → ASt → Prop} (h : DrawW P R cx ops l i aid k st K) : DrawW P R cx ops l i aid k st K := h
theorem DrawW.as (op : Op) {dst : Option Tmp} {ty : TypeId} {pos : String} {af : Array Edge} {g : Option (Nat × Bool)} {rest : List Oper} {i aid : Nat} {k : Book} {st : ASt} {K : Book → ASt → Prop} (h : DrawW P R cx ops (⟨dst, op, ty, pos, af, g⟩ :: rest) i aid k st K) : DrawW P R cx ops (⟨dst, op, ty, pos, af, g⟩ :: rest) i aid k st K := h
theorem DrawW.guarded {op : Op} {dst : Option Tmp} {ty : TypeId} {pos : String} {af : Array Edge} {g : Nat × Bool} {rest : List Oper} {i aid : Nat} {k : Book} {st : ASt} {K : Book → ASt → Prop} (h : DrawW P R cx ops (⟨dst, op, ty, pos, af, some g⟩ :: rest) i aid k st K) : DrawW P R cx ops (⟨dst, op, ty, pos, af, some g⟩ :: rest) i aid k st K := h
end
end Go.AI
namespace Go.AI
section
variable {P : Program} {R : Rec} {cx : Ctx} {ops : Array Oper}
theorem new_get (n : Nat) (x : AObj) : (AHeap.alloc { objs := .leaf, next := n, floor := 0, wr := [] } x).get n = some x := Tr.get_put_same _ _ _

theorem DrawW.alloc {d : Tmp} {e ty : TypeId} {pos : String} {af : Array Edge} {rest : List Oper} {i aid : Nat} {k : Book} {tm : Tr AV} {df : List ADef} {cm : AMode} {objs : Tr AObj} {nx fl : Nat} {wr : List Nat} {z : AV} {cs : List AV} {len : Nat} {K : Book → ASt → Prop}
    (hz : zeroT P e = some z) (hcs : cellsA z = cs) (hok : cs.all cellOK = true) (hl : cs.length = len) (hd : Nat.blt d cx.tn = true)
    (hk : DrawW P R cx ops rest (i + 1) (aid + 1) k ⟨tm.put d (.ref aid 0 len 0), df, cm, ⟨objs.put aid (.cells 0 0 cs 0 e true false), nx, fl, wr⟩⟩ K) :
    DrawW P R cx ops (⟨some d, .alloc e, ty, pos, af, none⟩ :: rest) i aid k ⟨tm, df, cm, ⟨objs, nx, fl, wr⟩⟩ K := by
  subst hcs; subst hl
  refine DrawW.new (v := .ref aid 0 (cellsA z).length 0) (h' := (anew { objs := .leaf, next := aid, floor := 0, wr := [] } e (cellsA z)).1) rfl ?_ (new_get _ _) ?_ hd hk
  · simp only [aop, hz, hok, if_true]; rfl
  · simp [anew, AHeap.alloc]

theorem DrawW.box {d : Tmp} {e ty : TypeId} {x : Operand} {pos : String} {af : Array Edge} {rest : List Oper} {i aid : Nat} {k : Book} {tm : Tr AV} {df : List ADef} {cm : AMode} {objs : Tr AObj} {nx fl : Nat} {wr : List Nat} {cs : List AV} {len : Nat} {K : Book → ASt → Prop}
    (hcs : cellsA (evo (tmpsOf ⟨some d, .box e x, ty, pos, af, none⟩) tm x) = cs) (hok : cs.all cellOK = true) (hl : cs.length = len) (hd : Nat.blt d cx.tn = true)
    (hk : DrawW P R cx ops rest (i + 1) (aid + 1) k ⟨tm.put d (.ref aid 0 len 0), df, cm, ⟨objs.put aid (.cells 0 0 cs 0 e true false), nx, fl, wr⟩⟩ K) :
    DrawW P R cx ops (⟨some d, .box e x, ty, pos, af, none⟩ :: rest) i aid k ⟨tm, df, cm, ⟨objs, nx, fl, wr⟩⟩ K := by
  subst hcs; subst hl
  refine DrawW.new (v := .ref aid 0 _ 0) (h' := (anew { objs := .leaf, next := aid, floor := 0, wr := [] } e (cellsA (evo (tmpsOf ⟨some d, .box e x, ty, pos, af, none⟩) tm x))).1) rfl ?_ (new_get _ _) ?_ hd hk
  · simp only [aop, hok, if_true]; rfl
  · simp [anew, AHeap.alloc]

theorem DrawW.buildSlice {d : Tmp} {t ty e : TypeId} {n s : Nat} {parts : Array (Nat × Operand)} {pos : String} {af : Array Edge} {rest : List Oper} {i aid : Nat} {k : Book} {tm : Tr AV} {df : List ADef} {cm : AMode} {objs : Tr AObj} {nx fl : Nat} {wr : List Nat} {z : AV} {cs : List AV} {len : Nat} {K : Book → ASt → Prop}
    (hu : P.underlying t = some (.slice e)) (hs : sizeT P e = some s) (hz : zeroT P e = some z) (hsm : (decide (n * s ≤ 16777216) && decide ((cellsA z).length = s)) = true)
    (hf : afill (fun i => some (i * s, s)) (zerosA (cellsA z) n) (parts.toList.map fun (i, x) => (i, evo (tmpsOf ⟨some d, .buildSlice t n parts, ty, pos, af, none⟩) tm x)) = some cs) (hok : cs.all cellOK = true) (hl : cs.length = len) (hd : Nat.blt d cx.tn = true)
    (hk : DrawW P R cx ops rest (i + 1) (aid + 1) k ⟨tm.put d (.sl aid 0 len 0 s n (some n)), df, cm, ⟨objs.put aid (.cells 0 0 cs 0 e true false), nx, fl, wr⟩⟩ K) :
    DrawW P R cx ops (⟨some d, .buildSlice t n parts, ty, pos, af, none⟩ :: rest) i aid k ⟨tm, df, cm, ⟨objs, nx, fl, wr⟩⟩ K := by
  subst hl
  have hsm' : n * s ≤ 16777216 ∧ (cellsA z).length = s := by simpa using hsm
  refine DrawW.new (v := .sl aid 0 cs.length 0 s n (some n)) (h' := AHeap.alloc { objs := .leaf, next := aid, floor := 0, wr := [] } (.cells 0 0 cs 0 e true false)) rfl ?_ (new_get _ _) ?_ hd hk
  · simp only [aop, abuildSlice, hu, hs, hz]
    rw [if_pos hsm']
    simp only [hf, hok, if_true]
    rfl
  · simp [AHeap.alloc]
end
end Go.AI
namespace Go.AI
section
variable {P : Program} {R : Rec} {cx : Ctx} {ops : Array Oper}
theorem evo_of (o : Oper) (tm : Tr AV) (x : Operand) (hx : x ∈ o.op.operands.toList) : evo (tmpsOf o) tm x = ev tm x := by
  cases x with
  | tmp t =>
    show (if (tmpsOf o).contains t then ev tm (.tmp t) else .unk) = _
    rw [if_pos]
    simp only [List.contains_iff_mem]
    unfold tmpsOf
    rw [List.mem_filterMap]
    exact ⟨.tmp t, hx, rfl⟩
  | _ => rfl

theorem DrawW.store {t ty : TypeId} {a x : Operand} {pos : String} {af : Array Edge} {rest : List Oper} {i aid : Nat} {es fs : List (Nat × List Nat)} {tm : Tr AV} {df : List ADef} {cm : AMode} {h h' : AHeap} {K : Book → ASt → Prop}
    (e : astore P h.inner t (ev tm a) (ev tm x) = some h') (hk : DrawW P R cx ops rest (i + 1) aid ⟨(i, h'.wr) :: es, fs⟩ ⟨tm, df, cm, h.outer h'⟩ K) :
    DrawW P R cx ops (⟨none, .store t a x, ty, pos, af, none⟩ :: rest) i aid ⟨es, fs⟩ ⟨tm, df, cm, h⟩ K := by
  refine DrawW.act rfl rfl ?_ (.inr ⟨rfl, rfl⟩) rfl hk
  simp only [aop]
  rw [evo_of _ tm a (by simp [Op.operands]), evo_of _ tm x (by simp [Op.operands]), e]
  rfl
theorem DrawW.actv {d : Tmp} {op : Op} {ty : TypeId} {pos : String} {af : Array Edge} {rest : List Oper} {i aid : Nat} {es fs : List (Nat × List Nat)} {tm : Tr AV} {df : List ADef} {cm : AMode} {h h' : AHeap} {v : AV} {K : Book → ASt → Prop}
    (hA : isA op = false) (hF : isF op = false) (e : aop P (evo (tmpsOf ⟨some d, op, ty, pos, af, none⟩) tm) ⟨some d, op, ty, pos, af, none⟩ h.inner = some (.val v, h')) (hd : Nat.blt d cx.tn = true)
    (hk : DrawW P R cx ops rest (i + 1) aid ⟨(i, h'.wr) :: es, fs⟩ ⟨tm.put d v, df, cm, h.outer h'⟩ K) :
    DrawW P R cx ops (⟨some d, op, ty, pos, af, none⟩ :: rest) i aid ⟨es, fs⟩ ⟨tm, df, cm, h⟩ K :=
  DrawW.act hA hF e (.inl rfl) (by simp only [ASt.put]; rw [if_pos (by simpa [Nat.blt_eq] using hd)]) hk
end
end Go.AI
namespace Go.AI
section
variable {P : Program} {R : Rec} {cx : Ctx} {ops : Array Oper}
theorem astore_of {h : AHeap} {t : TypeId} {a v : AV} {s o ver n off m fz : Nat} {c cs : List AV} {el : TypeId} {ex sh : Bool} (hs : sizeT P t = some s) (ha : a = .ref o ver n off) (hv : cellsA v = cs) (hl : Nat.beq cs.length s = true)
    (hg : h.get o = some (.cells ver m c fz el ex sh)) (hm : Nat.ble m ver = true) (hn : Nat.ble (off + cs.length) n = true) (hf : Nat.ble fz off = true) (hok : cs.all cellOK = true) :
    astore P h t a v = some (h.upd o (.cells ver ver (splice c off cs) fz el ex sh)) := by
  subst ha; subst hv
  unfold astore
  simp only [hs]
  rw [if_pos (Nat.eq_of_beq_eq_true hl)]
  unfold wrCells
  simp only [hg]
  rw [if_pos ⟨trivial, Nat.le_of_ble_eq_true hm, Nat.le_of_ble_eq_true hn, Nat.le_of_ble_eq_true hf, hok⟩]
end
end Go.AI

namespace Go.AI
section
variable {P : Program} {R : Rec} {cx : Ctx} {ops : Array Oper}
theorem DrawW.put {t ty : TypeId} {a x : Operand} {pos : String} {af : Array Edge} {rest : List Oper} {i aid : Nat} {es fs : List (Nat × List Nat)} {tm : Tr AV} {df : List ADef} {cm : AMode} {objs : Tr AObj} {nx fl : Nat} {wr : List Nat} {s o ver n off m fz : Nat} {c cs : List AV} {el : TypeId} {ex sh : Bool} {K : Book → ASt → Prop}
    (hs : sizeT P t = some s) (ha : ev tm a = .ref o ver n off) (hv : cellsA (ev tm x) = cs) (hl : Nat.beq cs.length s = true)
    (hg : objs.get o = some (.cells ver m c fz el ex sh)) (hm : Nat.ble m ver = true) (hn : Nat.ble (off + cs.length) n = true) (hf : Nat.ble fz off = true) (hok : cs.all cellOK = true)
    (hk : DrawW P R cx ops rest (i + 1) aid ⟨(i, addWr [] nx o) :: es, fs⟩ ⟨tm, df, cm, ⟨objs.put o (.cells ver ver (splice c off cs) fz el ex sh), nx, fl, addWrs wr fl (addWr [] nx o)⟩⟩ K) :
    DrawW P R cx ops (⟨none, .store t a x, ty, pos, af, none⟩ :: rest) i aid ⟨es, fs⟩ ⟨tm, df, cm, ⟨objs, nx, fl, wr⟩⟩ K :=
  DrawW.store (astore_of hs ha hv hl (h := AHeap.inner ⟨objs, nx, fl, wr⟩) hg hm hn hf hok) hk

theorem OpsW.put {t ty : TypeId} {a x : Operand} {pos : String} {af : Array Edge} {rest : List Oper} {tm : Tr AV} {df : List ADef} {cm : AMode} {objs : Tr AObj} {nx fl : Nat} {wr : List Nat} {s o ver n off m fz : Nat} {c cs : List AV} {el : TypeId} {ex sh : Bool} {K : ASt → Prop}
    (hs : sizeT P t = some s) (ha : ev tm a = .ref o ver n off) (hv : cellsA (ev tm x) = cs) (hl : Nat.beq cs.length s = true)
    (hg : objs.get o = some (.cells ver m c fz el ex sh)) (hm : Nat.ble m ver = true) (hn : Nat.ble (off + cs.length) n = true) (hf : Nat.ble fz off = true) (hok : cs.all cellOK = true)
    (hk : OpsW P R cx ops rest ⟨tm, df, cm, ⟨objs.put o (.cells ver ver (splice c off cs) fz el ex sh), nx, fl, addWr wr fl o⟩⟩ K) :
    OpsW P R cx ops (⟨none, .store t a x, ty, pos, af, none⟩ :: rest) ⟨tm, df, cm, ⟨objs, nx, fl, wr⟩⟩ K := by
  refine OpsW.unit (h' := AHeap.upd ⟨objs, nx, fl, wr⟩ o (.cells ver ver (splice c off cs) fz el ex sh)) ?_ hk
  simp only [aop]
  rw [astore_of hs ha hv hl (h := ⟨objs, nx, fl, wr⟩) hg hm hn hf hok]
  rfl

theorem OpsW.box {d : Tmp} {e ty : TypeId} {x : Operand} {pos : String} {af : Array Edge} {rest : List Oper} {tm : Tr AV} {df : List ADef} {cm : AMode} {objs : Tr AObj} {nx fl : Nat} {wr : List Nat} {cs : List AV} {len : Nat} {K : ASt → Prop}
    (hcs : cellsA (ev tm x) = cs) (hok : cs.all cellOK = true) (hl : cs.length = len) (hd : Nat.blt d cx.tn = true)
    (hk : OpsW P R cx ops rest ⟨tm.put d (.ref nx 0 len 0), df, cm, ⟨objs.put nx (.cells 0 0 cs 0 e true false), nx + 1, fl, wr⟩⟩ K) :
    OpsW P R cx ops (⟨some d, .box e x, ty, pos, af, none⟩ :: rest) ⟨tm, df, cm, ⟨objs, nx, fl, wr⟩⟩ K := by
  subst hcs; subst hl
  refine OpsW.val (h' := AHeap.alloc ⟨objs, nx, fl, wr⟩ (.cells 0 0 (cellsA (ev tm x)) 0 e true false)) ?_ hd hk
  simp only [aop, hok, if_true]; rfl

theorem OpsW.alloc {d : Tmp} {e ty : TypeId} {pos : String} {af : Array Edge} {rest : List Oper} {tm : Tr AV} {df : List ADef} {cm : AMode} {objs : Tr AObj} {nx fl : Nat} {wr : List Nat} {z : AV} {cs : List AV} {len : Nat} {K : ASt → Prop}
    (hz : zeroT P e = some z) (hcs : cellsA z = cs) (hok : cs.all cellOK = true) (hl : cs.length = len) (hd : Nat.blt d cx.tn = true)
    (hk : OpsW P R cx ops rest ⟨tm.put d (.ref nx 0 len 0), df, cm, ⟨objs.put nx (.cells 0 0 cs 0 e true false), nx + 1, fl, wr⟩⟩ K) :
    OpsW P R cx ops (⟨some d, .alloc e, ty, pos, af, none⟩ :: rest) ⟨tm, df, cm, ⟨objs, nx, fl, wr⟩⟩ K := by
  subst hcs; subst hl
  refine OpsW.val (h' := AHeap.alloc ⟨objs, nx, fl, wr⟩ (.cells 0 0 (cellsA z) 0 e true false)) ?_ hd hk
  simp only [aop, hz, hok, if_true]; rfl

theorem OpsW.buildSlice {d : Tmp} {t ty e : TypeId} {n s : Nat} {parts : Array (Nat × Operand)} {pos : String} {af : Array Edge} {rest : List Oper} {tm : Tr AV} {df : List ADef} {cm : AMode} {objs : Tr AObj} {nx fl : Nat} {wr : List Nat} {z : AV} {cs : List AV} {len : Nat} {K : ASt → Prop}
    (hu : P.underlying t = some (.slice e)) (hs : sizeT P e = some s) (hz : zeroT P e = some z) (hsm : (decide (n * s ≤ 16777216) && decide ((cellsA z).length = s)) = true)
    (hf : afill (fun i => some (i * s, s)) (zerosA (cellsA z) n) (parts.toList.map fun (i, x) => (i, ev tm x)) = some cs) (hok : cs.all cellOK = true) (hl : cs.length = len) (hd : Nat.blt d cx.tn = true)
    (hk : OpsW P R cx ops rest ⟨tm.put d (.sl nx 0 len 0 s n (some n)), df, cm, ⟨objs.put nx (.cells 0 0 cs 0 e true false), nx + 1, fl, wr⟩⟩ K) :
    OpsW P R cx ops (⟨some d, .buildSlice t n parts, ty, pos, af, none⟩ :: rest) ⟨tm, df, cm, ⟨objs, nx, fl, wr⟩⟩ K := by
  subst hl
  have hsm' : n * s ≤ 16777216 ∧ (cellsA z).length = s := by simpa using hsm
  refine OpsW.val (h' := AHeap.alloc ⟨objs, nx, fl, wr⟩ (.cells 0 0 cs 0 e true false)) ?_ hd hk
  simp only [aop, abuildSlice, hu, hs, hz]
  rw [if_pos hsm']
  simp only [hf, hok, if_true]
  rfl
end
end Go.AI
end

/-
  Runs of a function's text over data: what lies outside stays; what the function made itself may be forgotten.
-/
section
namespace Go.AI

structure Out (M0 : Nat → Nat → Option Value) (w0 : World) (g : Gh) (w : World) : Prop where
  m : ∀ b i v, M0 b i = some v → g.M b i = some v
  nm : ∀ b i v, g.M b i = some v → M0 b i = some v ∨ w0.heap.size ≤ b
  nb : ∀ o v b s n, g.B o v = some (b, s, n) → w0.heap.size ≤ b
  size : w0.heap.size ≤ w.heap.size
  old : ∀ b, b < w0.heap.size → w.heap[b]? = w0.heap[b]?
  tape : w.tape = w0.tape
  os : w.os = w0.os
  out : w.output = w0.output

theorem Out.step {M0 : Nat → Nat → Option Value} {w0 : World} {h h' : AHeap} {g g' : Gh} {w w' : World} (ho : Out M0 w0 g w) (hs : Step h g w h' g' w') : Out M0 w0 g' w' where
  m := fun b i v e => hs.le.m _ _ _ (ho.m b i v e)
  nm := fun b i v e => by
    rcases hs.newM b i v e with h1 | h1
    · exact ho.nm b i v h1
    · exact .inr (Nat.le_trans ho.size h1)
  nb := fun o v b s n e => by
    rcases Nat.lt_or_ge b w.heap.size with h1 | h1
    · obtain ⟨v', s', n', h2⟩ := hs.old o v b s n e h1
      exact ho.nb o v' b s' n' h2
    · exact Nat.le_trans ho.size h1
  size := Nat.le_trans ho.size hs.size
  old := fun b hb => by
    rw [hs.fr b (Nat.lt_of_lt_of_le hb ho.size) fun o v s n e => by have := ho.nb o v b s n e; omega]
    exact ho.old b hb
  tape := hs.tape.trans ho.tape
  os := hs.os.trans ho.os
  out := hs.out.trans ho.out

/-- from a state, the items 'todo' come to an end that is asked for -/
structure PR (P : Program) (cx : Ctx) (todo : List Item → List Item) (st : ASt) (K : AEx → ASt → Prop) : Prop where
  run : ∀ (M0 : Nat → Nat → Option Value) (w0 : World) (g : Gh) (w : World) (b : Frame) (a : Act) (k : List Item) (cs : List Frame),
    Out M0 w0 g w → W st.h g w → Fresh st.h g → (b.fn = cx.fn ∧ b.kind = cx.kind ∧ b.roundOf = none) → ActR g cx.tn st a →
    ∃ ex st' g' w' a', K ex st' ∧ Out M0 w0 g' w' ∧ W st'.h g' w' ∧ Fresh st'.h g' ∧ ActR g' cx.tn st' a' ∧ Arr P (lone (frm b a (todo k)) cs w) b k cs g' ex a' w'

abbrev one (c : Code) : List Item → List Item := fun k => .code c :: k
abbrev looping (c : Code) : List Item → List Item := fun k => .code c :: .inLoop c :: k

section
variable {P : Program} {cx : Ctx} {R : Rec}

theorem PR.mono {todo : List Item → List Item} {st : ASt} {K K' : AEx → ASt → Prop} (h : PR P cx todo st K) (hk : ∀ ex st, K ex st → K' ex st) : PR P cx todo st K' := by
  refine ⟨?_⟩
  intro M0 w0 g w b a k cs h1 h2 h3 h4 h5
  obtain ⟨ex, st', g', w', a', q0, q⟩ := h.run M0 w0 g w b a k cs h1 h2 h3 h4 h5
  exact ⟨ex, st', g', w', a', hk _ _ q0, q⟩

theorem PR.eval (hP : ProgOK P) (hR : RecOK P R) (hc : cx.round = none) {c : Code} {st : ASt} {K : AEx → ASt → Prop} (hm : st.cm = .none) (h : CodeW P R cx c st K) : PR P cx (one c) st K := by
  obtain ⟨ex, st', e, hk⟩ := h
  refine ⟨?_⟩
  intro M0 w0 g w b a k cs h1 h2 h3 h4 h5
  have hcx : CtxR g cx b := ⟨h4.1, h4.2.1, by rw [hc]; exact h4.2.2⟩
  obtain ⟨g', w', a', cs', q1, q2, q3, q4, q5, q6, q7⟩ := eval_ok hP hR cx c st ex st' e g w b a k cs h2 h3 hcx h5 (by rw [hm]; trivial)
  obtain rfl : cs' = cs := q4.1 hm
  exact ⟨ex, st', g', w', a', hk, h1.step q1, q2, h3.step q1, q3, q7⟩

theorem PR.seq {a b : Code} {st : ASt} {K : AEx → ASt → Prop} (h : PR P cx (one a) st fun ex st => match ex with
    | .normal => PR P cx (one b) st K
    | ex => K ex st) : PR P cx (one (.seq a b)) st K := by
  refine ⟨?_⟩
  intro M0 w0 g w fr ac k cs h1 h2 h3 h4 h5
  obtain ⟨ex, st1, g1, w1, a1, q0, q1, q2, q3, q5, q6⟩ := h.run M0 w0 g w fr ac (.code b :: k) cs h1 h2 h3 h4 h5
  cases ex with
  | normal =>
    obtain ⟨ex, st2, g2, w2, a2, r0, r1, r2, r3, r5, r6⟩ := q0.run M0 w0 g1 w1 fr a1 k cs q1 q2 q3 h4 q5
    exact ⟨ex, st2, g2, w2, a2, r0, r1, r2, r3, r5, Arr.of_steps (.head fstep_seq q6) r6⟩
  | exit id => exact ⟨_, st1, g1, w1, a1, q0, q1, q2, q3, q5, Arr.of_steps (.one fstep_seq) (Arr.pass (by simp) (fun _ => rfl) q6)⟩
  | ret => exact ⟨_, st1, g1, w1, a1, q0, q1, q2, q3, q5, Arr.of_steps (.one fstep_seq) (Arr.pass (by simp) (fun _ => rfl) q6)⟩
  | panic v => exact ⟨_, st1, g1, w1, a1, q0, q1, q2, q3, q5, Arr.of_steps (.one fstep_seq) (Arr.pass (by simp) (fun _ => rfl) q6)⟩

theorem PR.cond {c : Operand} {a b : Code} {st : ASt} {K : AEx → ASt → Prop} {t : Bool} (hc : ev st.tm c = .sc (.bool t)) (h1 : t = true → PR P cx (one a) st K) (h2 : t = false → PR P cx (one b) st K) : PR P cx (one (.cond c a b)) st K := by
  refine ⟨?_⟩
  intro M0 w0 g w fr ac k cs p1 p2 p3 p4 p5
  have hev := p5.ev c
  rw [hc] at hev
  have hv := VR.sc_inv hev
  cases t with
  | true =>
    obtain ⟨ex, st1, g1, w1, a1, q0, q1, q2, q3, q5, q6⟩ := (h1 rfl).run M0 w0 g w fr ac k cs p1 p2 p3 p4 p5
    exact ⟨ex, st1, g1, w1, a1, q0, q1, q2, q3, q5, Arr.of_steps (.one (fstep_cond hv)) q6⟩
  | false =>
    obtain ⟨ex, st1, g1, w1, a1, q0, q1, q2, q3, q5, q6⟩ := (h2 rfl).run M0 w0 g w fr ac k cs p1 p2 p3 p4 p5
    exact ⟨ex, st1, g1, w1, a1, q0, q1, q2, q3, q5, Arr.of_steps (.one (fstep_cond hv)) q6⟩

theorem PR.yes {c : Operand} {a b : Code} {st : ASt} {K : AEx → ASt → Prop} (hc : ev st.tm c = .sc (.bool true)) (h : PR P cx (one a) st K) : PR P cx (one (.cond c a b)) st K :=
  PR.cond hc (fun _ => h) (fun e => by cases e)
theorem PR.no {c : Operand} {a b : Code} {st : ASt} {K : AEx → ASt → Prop} (hc : ev st.tm c = .sc (.bool false)) (h : PR P cx (one b) st K) : PR P cx (one (.cond c a b)) st K :=
  PR.cond hc (fun e => by cases e) (fun _ => h)

theorem PR.block {id : Nat} {c : Code} {st : ASt} {K : AEx → ASt → Prop} (h : PR P cx (one c) st fun ex st => match ex with
    | .exit id' => match Nat.beq id' id with
      | true => K .normal st
      | false => K (.exit id') st
    | ex => K ex st) : PR P cx (one (.block id c)) st K := by
  refine ⟨?_⟩
  intro M0 w0 g w fr ac k cs h1 h2 h3 h4 h5
  obtain ⟨ex, st1, g1, w1, a1, q0, q1, q2, q3, q5, q7⟩ := h.run M0 w0 g w fr ac (.inBlock id :: k) cs h1 h2 h3 h4 h5
  cases ex with
  | normal => exact ⟨_, st1, g1, w1, a1, q0, q1, q2, q3, q5, .head fstep_block (Steps.trans q7 (.one fstep_inBlock))⟩
  | ret => exact ⟨_, st1, g1, w1, a1, q0, q1, q2, q3, q5, Arr.of_steps (k := k) (.one fstep_block) q7⟩
  | panic v => exact ⟨_, st1, g1, w1, a1, q0, q1, q2, q3, q5, Arr.of_steps (k := k) (ex := .panic v) (.one fstep_block) q7⟩
  | exit id' =>
    dsimp only at q0
    split at q0
    · rename_i e
      have e := Nat.eq_of_beq_eq_true e
      exact ⟨_, st1, g1, w1, a1, q0, q1, q2, q3, q5, .head fstep_block (q7.1 k (by simp [exitTo, e]))⟩
    · rename_i e
      have e := Nat.ne_of_beq_eq_false e
      have hne : (id == id') = false := by simp; exact fun h => e h.symm
      have hex : exitTo id' (.inBlock id :: k) = exitTo id' k := by simp [exitTo, hne]
      refine ⟨_, st1, g1, w1, a1, q0, q1, q2, q3, q5, Arr.of_steps (.one fstep_block) ?_⟩
      exact ⟨fun k' e' => q7.1 k' (by rw [hex]; exact e'), fun e' => q7.2 (by rw [hex]; exact e')⟩

theorem PR.loop {c : Code} {st : ASt} {K : AEx → ASt → Prop} (h : PR P cx (looping c) st K) : PR P cx (one (.loop c)) st K := by
  refine ⟨?_⟩
  intro M0 w0 g w fr ac k cs h1 h2 h3 h4 h5
  obtain ⟨ex, st1, g1, w1, a1, q0, q1, q2, q3, q5, q7⟩ := h.run M0 w0 g w fr ac k cs h1 h2 h3 h4 h5
  exact ⟨ex, st1, g1, w1, a1, q0, q1, q2, q3, q5, Arr.of_steps (.one fstep_loop) q7⟩

/-- one round of a loop -/
theorem PR.around {c : Code} {st : ASt} {K : AEx → ASt → Prop} (h : PR P cx (one c) st fun ex st => match ex with
    | .normal => PR P cx (looping c) st K
    | ex => K ex st) : PR P cx (looping c) st K := by
  refine ⟨?_⟩
  intro M0 w0 g w fr ac k cs h1 h2 h3 h4 h5
  obtain ⟨ex, st1, g1, w1, a1, q0, q1, q2, q3, q5, q6⟩ := h.run M0 w0 g w fr ac (.inLoop c :: k) cs h1 h2 h3 h4 h5
  cases ex with
  | normal =>
    obtain ⟨ex, st2, g2, w2, a2, r0, r1, r2, r3, r5, r6⟩ := q0.run M0 w0 g1 w1 fr a1 k cs q1 q2 q3 h4 q5
    exact ⟨ex, st2, g2, w2, a2, r0, r1, r2, r3, r5, Arr.of_steps (Steps.trans q6 (.one fstep_inLoop)) r6⟩
  | exit id => exact ⟨_, st1, g1, w1, a1, q0, q1, q2, q3, q5, Arr.pass (by simp) (fun _ => rfl) q6⟩
  | ret => exact ⟨_, st1, g1, w1, a1, q0, q1, q2, q3, q5, Arr.pass (by simp) (fun _ => rfl) q6⟩
  | panic v => exact ⟨_, st1, g1, w1, a1, q0, q1, q2, q3, q5, Arr.pass (by simp) (fun _ => rfl) q6⟩

/-! forgetting -/

mutual
/-- names only objects below a number -/
def under (n : Nat) : AV → Bool
  | .sc _ | .unk | .esl | .isl _ _ => true
  | .ref o _ _ _ => Nat.blt o n
  | .sl o _ _ _ _ _ _ => Nat.blt o n
  | .map o => Nat.blt o n
  | .yld o => Nat.blt o n
  | .pref cs => unders n cs
  | .psl cs _ _ _ => unders n cs
  | .func _ a c => unders n a && unders n c
  | .iface _ v => under n v
  | .agg cs => unders n cs
  | .tuple vs => unders n vs
def unders (n : Nat) : List AV → Bool
  | [] => true
  | x :: xs => under n x && unders n xs
end

theorem unders_get {n : Nat} : ∀ {xs : List AV}, unders n xs = true → ∀ (i : Nat) (x : AV), xs[i]? = some x → under n x = true
  | [], _, i, x, hx => by simp at hx
  | y :: ys, hh, 0, x, hx => by simp [unders] at hh hx; subst hx; exact hh.1
  | y :: ys, hh, i + 1, x, hx => by simp [unders] at hh hx; exact unders_get hh.2 i x hx

def Gh.cut (g : Gh) (n : Nat) : Gh := ⟨fun o v => if o < n then g.B o v else none, g.M⟩

theorem VR.cut {g : Gh} {n : Nat} {x : AV} {v : Value} (hr : VR g x v) : under n x = true → VR (g.cut n) x v := by
  induction hr with
  | unk v => intro _; exact .unk v
  | sc v => intro _; exact .sc v
  | ref h => intro e; simp [under, Nat.blt_eq] at e; exact .ref (by simp only [Gh.cut]; rw [if_pos e]; exact h)
  | sl h a b c => intro e; simp [under, Nat.blt_eq] at e; exact .sl (by simp only [Gh.cut]; rw [if_pos e]; exact h) a b c
  | esl a c => intro _; exact .esl a c
  | pref f h1 _ ih => intro e; simp [under] at e; exact .pref f h1 (fun i x hx => ih i x hx (unders_get e i x hx))
  | psl f h1 _ a b c ih => intro e; simp [under] at e; exact .psl f h1 (fun i x hx => ih i x hx (unders_get e i x hx)) a b c
  | islNil => intro _; exact .islNil
  | islE a => intro _; exact .islE a
  | isl hl hpf h _ => intro _; exact .isl hl hpf (VR.free (g := g) (g' := g.cut n) (fun _ _ _ e => e) h (by simp only [heapFree]; exact hpf))
  | map h => intro e; simp [under, Nat.blt_eq] at e; exact .map (by simp only [Gh.cut]; rw [if_pos e]; exact h)
  | func h1 _ h2 _ ih1 ih2 =>
    intro e; simp [under] at e
    exact .func h1 (fun i x v a b => ih1 i x v a b (unders_get e.1 i x a)) h2 (fun i x v a b => ih2 i x v a b (unders_get e.2 i x a))
  | yld h => intro e; simp [under, Nat.blt_eq] at e; exact .yld (by simp only [Gh.cut]; rw [if_pos e]; exact h)
  | iface _ ih => intro e; simp [under] at e; exact .iface (ih e)
  | agg h1 _ ih => intro e; simp [under] at e; exact .agg h1 (fun i x v a b => ih i x v a b (unders_get e i x a))
  | tuple h1 _ ih => intro e; simp [under] at e; exact .tuple h1 (fun i x v a b => ih i x v a b (unders_get e i x a))

/-- the objects that are kept: cells alone -/
def objUnder (n : Nat) : AObj → Bool
  | .cells _ _ c _ _ _ _ => unders n c
  | _ => false

/-- a state that knows less: its temporaries, its objects (numbers below its own next one) -/
structure Weaker (st2 st : ASt) : Prop where
  tm : ∀ t x, st2.tm.get t = some x → st.tm.get t = some x ∧ under st2.h.next x = true
  ob : ∀ o x, st2.h.get o = some x → st.h.get o = some x ∧ o < st2.h.next ∧ objUnder st2.h.next x = true
  df : st2.df = [] ∧ st.df = []

theorem PR.weak {todo : List Item → List Item} {st st2 : ASt} {K : AEx → ASt → Prop} (hwk : Weaker st2 st) (h : PR P cx todo st2 K) : PR P cx todo st K := by
  refine ⟨?_⟩
  intro M0 w0 g w b a k cs h1 h2 h3 h4 h5
  have hle : (g.cut st2.h.next).Le g := ⟨fun o v x e => (by
    simp only [Gh.cut] at e; split at e
    · exact e
    · cases e), fun _ _ _ e => e⟩
  have hsub : ∀ o v x, (g.cut st2.h.next).B o v = some x → g.B o v = some x := hle.b
  refine h.run M0 w0 (g.cut st2.h.next) w b a k cs ?_ ?_ ?_ h4 ?_
  · exact ⟨h1.m, h1.nm, fun o v b s n e => h1.nb o v b s n (hsub _ _ _ e), h1.size, h1.old, h1.tape, h1.os, h1.out⟩
  · refine ⟨fun o x hx => ?_, fun o v b s n e => h2.bnd o v b s n (hsub _ _ _ e), fun o v o' v' b s n s' n' e e' => h2.inj o v o' v' b s n s' n' (hsub _ _ _ e) (hsub _ _ _ e'), h2.ro, fun b i u hm o v s n e => h2.dis b i u hm o v s n (hsub _ _ _ e)⟩
    obtain ⟨q1, q2, q3⟩ := hwk.ob o x hx
    have hor := h2.obj o x q1
    cases x with
    | cells ver minv c fz el ex sh =>
      refine ⟨fun v hv => ?_, fun v p1 p2 b s n e => ?_⟩
      · have := hor.1 v hv
        simp only [Gh.cut]; split <;> first | exact this | rfl
      · obtain ⟨hn, ca, f, hk⟩ := hor.2 v p1 p2 b s n (hsub _ _ _ e)
        exact ⟨hn, ca, f, ⟨hk.here, hk.size, hk.le, hk.les, hk.exact, hk.free, hk.plain, fun i x hi hx => by
          obtain ⟨v, a1, a2⟩ := hk.cell i x hi hx
          exact ⟨v, a1, a2.cut (unders_get (by simpa [objUnder] using q3) i x hx)⟩⟩⟩
    | map _ _ => simp [objUnder] at q3
    | mit _ _ _ _ => simp [objUnder] at q3
    | sit _ _ => simp [objUnder] at q3
    | loop _ _ _ _ _ _ _ _ _ => simp [objUnder] at q3
    | dfr _ => simp [objUnder] at q3
  · intro o ho v
    simp only [Gh.cut]
    rw [if_neg (by omega)]
  · refine ⟨fun t x hx => ?_, h5.size, ?_⟩
    · obtain ⟨q1, q2⟩ := hwk.tm t x hx
      obtain ⟨v, a1, a2⟩ := h5.tm t x q1
      exact ⟨v, a1, a2.cut q2⟩
    · have := h5.df
      rw [hwk.df.2] at this
      rw [hwk.df.1]
      cases hd : a.defers with
      | nil => trivial
      | cons d ds => rw [hd] at this; exact this.elim

/-! a call -/

theorem PR.call (hP : ProgOK P) {f : FuncId} {fn : Func} {code : Code} {args : List AV} (hf : P.funcs[f]? = some fn) (hb : fn.body = some code) (ha : heapFrees args = true) {v : AV}
    (h : PR P { fn := f, tn := Nat.max fn.ntmps args.length, kind := .normal, round := none } (one code) { tm := putArgs args 0 .leaf, df := [], cm := .none, h := { objs := .leaf, next := 0, floor := 0, wr := [] } }
      fun ex st => (ex = .ret ∨ ex = .normal) ∧ st.df = [] ∧ ∃ u n, retA P fn st.tm st.h = some u ∧ snap st.h n u = some v) (hh : AHeap) : CallOK P f args hh (.ret v) hh := by
  intro g w vs hw hfr hv cs
  have henter : Frame.enter P f vs.toArray .normal = frm { (default : Frame) with fn := f, kind := .normal } { tmps := vs.toArray ++ Array.replicate (fn.ntmps - vs.toArray.size) undef, defers := [] } [.code code] := by
    simp [Frame.enter, frm, hf, hb]
    rfl
  have hlen : vs.length = args.length := hv.length.symm
  let g1 : Gh := ⟨fun _ _ => none, g.M⟩
  have hv1 : VRs g1 args vs := VRs.free (g := g) (g2 := g1) (fun _ _ _ e => e) ha hv
  have hact : ActR g1 (Nat.max fn.ntmps args.length) { tm := putArgs args 0 .leaf, df := [], cm := .none, h := { objs := .leaf, next := 0, floor := 0, wr := [] } } { tmps := vs.toArray ++ Array.replicate (fn.ntmps - vs.toArray.size) undef, defers := [] } :=
    ⟨args_TR hv1, by show _ = max fn.ntmps args.length; simp; omega, trivial⟩
  have hw1 : W { objs := .leaf, next := 0, floor := 0, wr := [] } g1 w := ⟨fun o x e => (by simp [AHeap.get, Tr.get] at e), fun _ _ _ _ _ e => (by cases e), fun _ _ _ _ _ _ _ _ _ e => (by cases e), hw.ro, fun _ _ _ _ _ _ _ _ e => (by cases e)⟩
  obtain ⟨ex, st, g', w', a', ⟨hx, hd, u, n, hu, hs⟩, q1, q2, q3, q4, q5⟩ := h.run g.M w g1 w { (default : Frame) with fn := f, kind := .normal } _ [] cs
    ⟨fun _ _ _ e => e, fun _ _ _ e => .inl e, fun _ _ _ _ _ e => (by cases e), Nat.le_refl _, fun _ _ => rfl, rfl, rfl, rfl⟩ hw1 (fun _ _ _ => rfl) ⟨rfl, rfl, rfl⟩ hact
  rw [← henter] at q5
  have hl : leaveA P Rec.zero fn st.tm [] .ret st.h = some (.ret u, st.h) := by simp [leaveA, hu]
  have fin : ∀ fr0 : Frame, Steps P (lone (Frame.enter P f vs.toArray .normal) cs w) (lone fr0 cs w') → fr0.mode = .returning → fr0.fn = f → fr0.kind = .normal → fr0.defers = a'.defers → fr0.tmps = a'.tmps →
      ∃ e w2 fr, (∃ g2, Step hh g w hh g2 w2 ∧ W hh g2 w2 ∧ OutR g2 (.ret v) e) ∧ Steps P (lone (Frame.enter P f vs.toArray .normal) cs w) (lone fr cs w2) ∧ fr.fn = f ∧ fr.mode = .returning ∧ fr.defers = [] ∧ fr.kind = .normal ∧ ∃ x, e = .returned x ∧ (results fn fr.tmps).run P w2 = .ok x w2 := by
    intro fr0 hst e0 e1 e2 e3 e4
    obtain ⟨g2, w2, fr2, r1, r2, r3, r4, _, r5, r6⟩ := leaveA_ok hP rec_zero [] .ret st.h (.ret u) st.h hl g' w' fr0 cs q2 q3 (by rw [e1]; exact hf) e0 (by rw [e3]; have := q4.df; rw [hd] at this; exact this) (by rw [e4]; exact q4.tm)
    obtain ⟨x1, x2, x, x3, x4⟩ := r6
    have ho := q1.step r1
    let gf : Gh := ⟨g.B, fun b i => if w.heap.size ≤ b then w2.cell? ⟨b, i, none⟩ else g.M b i⟩
    have hmle : ∀ b i v, g.M b i = some v → gf.M b i = some v := by
      intro b i v hm
      have := (hw.ro b i v hm).2
      show (if w.heap.size ≤ b then _ else _) = _
      rw [if_neg (by omega)]; exact hm
    have hle : g.Le gf := ⟨fun _ _ _ e => e, hmle⟩
    have hws := hw.same ho.size ho.old
    refine ⟨.returned x, w2, fr2, ⟨gf, ?_, ?_, ?_⟩, Steps.trans hst r5, by rw [r4, e1], x1, x2, by rw [r3, e2], x, rfl, x3⟩
    · refine ⟨hle, Nat.le_refl _, rfl, fun _ h => h, fun _ _ _ _ => rfl, fun _ _ _ => rfl, fun _ _ h => h, fun _ _ _ h => .inl h, ho.size, fun o v b s n e _ => ⟨v, s, n, e⟩, fun b hb _ => ho.old b hb, ho.tape, ho.os, ho.out, ?_⟩
      intro b i v hm
      by_cases hb : w.heap.size ≤ b
      · exact .inr hb
      · have hm' : (if w.heap.size ≤ b then w2.cell? ⟨b, i, none⟩ else g.M b i) = some v := hm
        rw [if_neg hb] at hm'; exact .inl hm'
    · refine ⟨fun o x hx => (hws.obj o x hx).move hle (fun _ _ e => e) (fun _ _ _ _ _ => rfl), hws.bnd, hws.inj, ?_, ?_⟩
      · intro b i v hm
        have hm' : (if w.heap.size ≤ b then w2.cell? ⟨b, i, none⟩ else g.M b i) = some v := hm
        by_cases hb : w.heap.size ≤ b
        · rw [if_pos hb] at hm'
          refine ⟨hm', ?_⟩
          rcases Nat.lt_or_ge b w2.heap.size with a | a
          · exact a
          · exfalso
            have hn : w2.heap[b]? = none := Array.getElem?_eq_none a
            unfold World.cell? at hm'
            simp [hn] at hm'
        · rw [if_neg hb] at hm'
          exact hws.ro b i v hm'
      · intro b i u hm o v s n e
        have hm' : (if w.heap.size ≤ b then w2.cell? ⟨b, i, none⟩ else g.M b i) = some u := hm
        have hb := hw.bnd o v b s n e
        rw [if_neg (by omega)] at hm'
        exact hw.dis b i u hm' o v s n e
    · refine snap_ok (g := g2) (g2 := gf) r2 ?_ ?_ hs x4
      · intro b i v hm
        rcases ho.nm b i v hm with h1 | h1
        · exact hmle b i v h1
        · show (if w.heap.size ≤ b then _ else _) = _
          rw [if_pos h1]; exact (r2.ro b i v hm).1
      · intro o v b s n i u hB hcell
        have hb := ho.nb o v b s n hB
        show (if w.heap.size ≤ b then _ else _) = _
        rw [if_pos hb]; exact hcell
  have fin2 : ∀ fr0 : Frame, Steps P (lone (Frame.enter P f vs.toArray .normal) cs w) (lone fr0 cs w') → fr0.mode = .returning → fr0.fn = f → fr0.kind = .normal → fr0.defers = a'.defers → fr0.tmps = a'.tmps → _ := fun fr0 a1 a2 a3 a4 a5 a6 => fin fr0 a1 a2 a3 a4 a5 a6
  rcases hx with rfl | rfl
  · obtain ⟨k2, q5⟩ := q5
    obtain ⟨e, w2, fr, z1, z2, z3, z4, z5, z6, x, rfl, z7⟩ := fin2 _ (Steps.trans q5 (.one (fstep_ret rfl))) rfl rfl rfl rfl rfl
    exact ⟨.returned x, w2, fr, z1, z2, z3, z4, z5, z6, fn, by rw [z3]; exact hf, z7⟩
  · obtain ⟨e, w2, fr, z1, z2, z3, z4, z5, z6, x, rfl, z7⟩ := fin2 _ (Steps.trans q5 (.one (fstep_end rfl))) rfl rfl rfl rfl rfl
    exact ⟨.returned x, w2, fr, z1, z2, z3, z4, z5, z6, fn, by rw [z3]; exact hf, z7⟩
end
end Go.AI
end

/-
  Contracts as the interpreter's answers.
-/
section
namespace Go.AI

theorem rec_of {P : Program} (C : FuncId → List AV → AV → Prop) (hfun : ∀ f x v v', C f x v → C f x v' → v = v') (hok : ∀ f x v, C f x v → ∀ h, CallOK P f x h (.ret v) h) :
    ∃ R, RecOK P R ∧ ∀ f x v, C f x v → ∀ h, R.call .normal f x .none h = some (.ret v, .none, h) := by
  have hex : ∀ f x, ∃ o : Option AV, ∀ v, o = some v ↔ C f x v := by
    intro f x
    rcases Classical.em (∃ v, C f x v) with ⟨v, hv⟩ | hn
    · exact ⟨some v, fun u => ⟨fun e => (by cases e; exact hv), fun hu => by rw [hfun f x v u hv hu]⟩⟩
    · exact ⟨none, fun u => ⟨fun e => (by cases e), fun hu => absurd ⟨u, hu⟩ hn⟩⟩
  have hch := fun f => Classical.axiomOfChoice (fun x => hex f x)
  obtain ⟨F, hF⟩ := Classical.axiomOfChoice hch
  refine ⟨{ call := fun kind f x cm h => match kind, cm with
    | .normal, .none => (F f x).map fun v => (.ret v, .none, h)
    | _, _ => none, loop := fun _ _ _ => none, round := fun _ _ _ => none }, ⟨?_, ?_, ?_, ?_⟩, ?_⟩
  · intro f args h out cm' h' e
    dsimp only at e
    cases hv : F f args with
    | none => rw [hv] at e; cases e
    | some v =>
      rw [hv] at e
      simp only [Option.map_some, Option.some.injEq, Prod.mk.injEq] at e
      obtain ⟨rfl, _, rfl⟩ := e
      exact hok f args v ((hF f args v).1 hv) h
  · intro f args cm h out cm' h' _ e; cases e
  · intro body cx st ex st' e; cases e
  · intro l args h out h' e; cases e
  · intro f x v hc h
    dsimp only
    rw [(hF f x v).2 hc]
    rfl
end Go.AI
namespace Go.AI
/-! a state by lists -/

def mkT {α : Type} : List (Nat × α) → Tr α
  | [] => .leaf
  | (t, x) :: r => (mkT r).put t x

theorem mkT_get {α : Type} : ∀ (l : List (Nat × α)) (t : Nat) (x : α), (mkT l).get t = some x → (t, x) ∈ l
  | [], t, x, h => by simp [mkT, Tr.get] at h
  | (s, y) :: r, t, x, h => by
    by_cases e : t = s
    · subst e
      rw [mkT, Tr.get_put_same] at h
      simp only [Option.some.injEq] at h; subst h
      exact List.mem_cons_self ..
    · rw [mkT, Tr.get_put_other _ _ e] at h
      exact List.mem_cons_of_mem _ (mkT_get r t x h)

/-- a state: temporaries, objects, the next object's number -/
def mkS (l : List (Nat × AV)) (hs : List (Nat × AObj)) (n : Nat) : ASt := { tm := mkT l, df := [], cm := .none, h := { objs := mkT hs, next := n, floor := 0, wr := [] } }

def AllT (tm : Tr AV) (n : Nat) : List (Nat × AV) → Prop
  | [] => True
  | (t, x) :: r => tm.get t = some x ∧ under n x = true ∧ AllT tm n r
def AllH (h : AHeap) (n : Nat) : List (Nat × AObj) → Prop
  | [] => True
  | (o, x) :: r => h.get o = some x ∧ Nat.blt o n = true ∧ objUnder n x = true ∧ AllH h n r

theorem AllT.mem {tm : Tr AV} {n : Nat} : ∀ {l : List (Nat × AV)}, AllT tm n l → ∀ t x, (t, x) ∈ l → tm.get t = some x ∧ under n x = true
  | [], _, t, x, h => by cases h
  | (s, y) :: r, ha, t, x, h => by
    rcases List.mem_cons.1 h with e | h
    · cases e; exact ⟨ha.1, ha.2.1⟩
    · exact AllT.mem ha.2.2 t x h
theorem AllH.mem {hp : AHeap} {n : Nat} : ∀ {l : List (Nat × AObj)}, AllH hp n l → ∀ t x, (t, x) ∈ l → hp.get t = some x ∧ t < n ∧ objUnder n x = true
  | [], _, t, x, h => by cases h
  | (s, y) :: r, ha, t, x, h => by
    rcases List.mem_cons.1 h with e | h
    · cases e; exact ⟨ha.1, by simpa [Nat.blt_eq] using ha.2.1, ha.2.2.1⟩
    · exact AllH.mem ha.2.2.2 t x h

theorem PR.to {P : Program} {cx : Ctx} {todo : List Item → List Item} {st : ASt} {K : AEx → ASt → Prop} (l : List (Nat × AV)) (hs : List (Nat × AObj)) (n : Nat) (hd : st.df = []) (h1 : AllT st.tm n l) (h2 : AllH st.h n hs) (h : PR P cx todo (mkS l hs n) K) :
    PR P cx todo st K :=
  PR.weak (st2 := mkS l hs n) ⟨fun t x e => h1.mem t x (mkT_get l t x e), fun o x e => h2.mem o x (mkT_get hs o x e), rfl, hd⟩ h

section
variable {P : Program} {cx : Ctx} {R : Rec} {ops : Array Oper} {id : Nat} {st : ASt} {K : AEx → ASt → Prop}

theorem PR.region (hP : ProgOK P) (hR : RecOK P R) (hc : cx.round = none) (hm : st.cm = .none) (h : OpsW P R cx ops ops.toList st fun st => K .normal st) : PR P cx (one (.region id ops false)) st K :=
  PR.eval hP hR hc hm (CodeW.region h)
theorem PR.draw {n : Nat} {tm : Tr AV} {df : List ADef} {objs : Tr AObj} {nx fl : Nat} {wr : List Nat} (hP : ProgOK P) (hR : RecOK P R) (hc : cx.round = none) (hn : countA ops.toList = n) (hs : (drawStatic ops && noneA ⟨objs, nx, fl, wr⟩ n nx) = true)
    (h : DrawW P R cx ops ops.toList 0 nx { es := [], fs := [] } ⟨tm, df, .none, ⟨objs, nx + n, fl, wr⟩⟩ fun k st => bookOK (ancs ops.toList []) k = true ∧ K .normal st) : PR P cx (one (.region id ops true)) ⟨tm, df, .none, ⟨objs, nx, fl, wr⟩⟩ K :=
  PR.eval hP hR hc rfl (CodeW.draw hn hs h)
theorem PR.skip (hP : ProgOK P) (hc : cx.round = none) (hm : st.cm = .none) (h : K .normal st) : PR P cx (one .skip) st K := PR.eval hP rec_zero hc hm (CodeW.skip h)
theorem PR.exit (hP : ProgOK P) (hc : cx.round = none) (hm : st.cm = .none) (h : K (.exit id) st) : PR P cx (one (.exit id)) st K := PR.eval hP rec_zero hc hm (CodeW.exit h)
theorem PR.ret (hP : ProgOK P) (hc : cx.round = none) (hm : st.cm = .none) (h : K .ret st) : PR P cx (one .ret) st K := PR.eval hP rec_zero hc hm (CodeW.ret h)
theorem DrawW.fin {i aid : Nat} {k : Book} {K' : ASt → Prop} {bs : List Nat} (hb : bookOK bs k = true) (h : K' st) : DrawW P R cx ops [] i aid k st fun k st => bookOK bs k = true ∧ K' st := ⟨k, st, rfl, hb, h⟩
end
end Go.AI
end

/-
  Strings: the list of a byte array.
-/
section
namespace Go.AI

theorem bytes_loop (bs : ByteArray) : ∀ (d i : Nat) (r : List UInt8), bs.size - i = d → i ≤ bs.size → ByteArray.toList.loop bs i r = r.reverse ++ bs.data.toList.drop i
  | 0, i, r, h, hi => by
    rw [ByteArray.toList.loop]
    rw [if_neg (by omega)]
    have : i = bs.data.toList.length := by
      have : bs.data.toList.length = bs.size := by simp
      omega
    rw [this]; simp
  | d + 1, i, r, h, hi => by
    rw [ByteArray.toList.loop]
    have hlt : i < bs.size := by omega
    rw [if_pos hlt, bytes_loop bs d (i + 1) _ (by omega) (by omega)]
    have hlt' : i < bs.data.toList.length := by simpa using hlt
    rw [List.drop_eq_getElem_cons hlt']
    have : bs.get! i = bs.data.toList[i] := by
      have hs : i < bs.data.size := hlt
      simp only [ByteArray.get!, Array.getElem_toList]
      exact getElem!_pos bs.data i hs
    rw [this]; simp

theorem bytes_toList (bs : ByteArray) : bs.toList = bs.data.toList := by
  rw [ByteArray.toList, bytes_loop bs bs.size 0 [] (by omega) (by omega)]; simp

theorem bytes_ext {a b : ByteArray} (h : a.toList = b.toList) : a = b := by
  rw [bytes_toList, bytes_toList] at h
  cases a; cases b
  simp only [ByteArray.mk.injEq]
  exact Array.ext' h

theorem bytes_iff {a b : ByteArray} : a.toList = b.toList ↔ a = b := ⟨bytes_ext, fun h => by rw [h]⟩
end Go.AI
end

/-
  Objects under other numbers: what a function made itself may be counted anew.
-/
section
namespace Go.AI

def look : List (Nat × Nat × Nat) → Nat → Option (Nat × Nat)
  | [], _ => none
  | (a, b, v) :: r, o => match Nat.beq o a with
    | true => some (b, v)
    | false => look r o

mutual
def renA (ρ : List (Nat × Nat × Nat)) : AV → Option AV
  | .sc v => some (.sc v)
  | .unk => some .unk
  | .esl => some .esl
  | .isl r s => some (.isl r s)
  | .ref o ver n off => match ver, look ρ o with
    | 0, some (o', v) => some (.ref o' v n off)
    | _, _ => none
  | .sl o ver n off sz len cap => match ver, look ρ o with
    | 0, some (o', v) => some (.sl o' v n off sz len cap)
    | _, _ => none
  | .agg cs => match renAs ρ cs with
    | some l => some (.agg l)
    | none => none
  | .tuple cs => match renAs ρ cs with
    | some l => some (.tuple l)
    | none => none
  | .pref _ | .psl _ _ _ _ | .map _ | .func _ _ _ | .yld _ | .iface _ _ => none
def renAs (ρ : List (Nat × Nat × Nat)) : List AV → Option (List AV)
  | [] => some []
  | x :: xs => match renA ρ x, renAs ρ xs with
    | some y, some ys => some (y :: ys)
    | _, _ => none
end

def Gh.ren (g : Gh) (ρ : List (Nat × Nat × Nat)) : Gh := ⟨fun o v => match v with
  | 0 => match look ρ o with
    | some (o', v') => g.B o' v'
    | none => none
  | _ + 1 => none, g.M⟩

theorem Gh.ren_at {g : Gh} {ρ : List (Nat × Nat × Nat)} {o o' v' : Nat} {x : Nat × Nat × Nat} (hl : look ρ o = some (o', v')) (h : g.B o' v' = some x) : (g.ren ρ).B o 0 = some x := by
  simp only [Gh.ren, hl]; exact h

theorem Gh.ren_of {g : Gh} {ρ : List (Nat × Nat × Nat)} {o v : Nat} {x : Nat × Nat × Nat} (h : (g.ren ρ).B o v = some x) : v = 0 ∧ ∃ o' v', look ρ o = some (o', v') ∧ g.B o' v' = some x := by
  cases v with
  | zero =>
    refine ⟨rfl, ?_⟩
    simp only [Gh.ren] at h
    cases hl : look ρ o with
    | none => rw [hl] at h; cases h
    | some p => obtain ⟨o', v'⟩ := p; rw [hl] at h; exact ⟨o', v', rfl, h⟩
  | succ n => simp [Gh.ren] at h

mutual
theorem VR.ren {g : Gh} {ρ : List (Nat × Nat × Nat)} : ∀ (x : AV) {y : AV} {v : Value}, renA ρ x = some y → VR g y v → VR (g.ren ρ) x v
  | .sc _, y, v, e, h => by simp only [renA, Option.some.injEq] at e; subst e; cases h; exact .sc _
  | .unk, y, v, e, h => .unk _
  | .esl, y, v, e, h => by simp only [renA, Option.some.injEq] at e; subst e; cases h; exact .esl _ _
  | .isl _ _, y, v, e, h => by simp only [renA, Option.some.injEq] at e; subst e; exact VR.free (g := g) (g' := g.ren ρ) (fun _ _ _ e => e) h rfl
  | .ref o ver n off, y, v, e, h => by
    simp only [renA] at e
    split at e
    · rename_i o' v' hl
      simp only [Option.some.injEq] at e; subst e
      cases h with
      | ref hB => exact .ref (Gh.ren_at hl hB)
    · cases e
  | .sl o ver n off sz len cap, y, v, e, h => by
    simp only [renA] at e
    split at e
    · rename_i o' v' hl
      simp only [Option.some.injEq] at e; subst e
      cases h with
      | sl hB a b c => exact .sl (Gh.ren_at hl hB) a b c
    · cases e
  | .agg cs, y, v, e, h => by
    simp only [renA] at e
    split at e
    · rename_i l hl
      simp only [Option.some.injEq] at e; subst e
      obtain ⟨a, rfl, ha⟩ := VR.agg_iff.1 h
      exact VR.agg_iff.2 ⟨a, rfl, VRs.ren cs hl ha⟩
    · cases e
  | .tuple cs, y, v, e, h => by
    simp only [renA] at e
    split at e
    · rename_i l hl
      simp only [Option.some.injEq] at e; subst e
      obtain ⟨a, rfl, ha⟩ := VR.tuple_iff.1 h
      exact VR.tuple_iff.2 ⟨a, rfl, VRs.ren cs hl ha⟩
    · cases e
  | .pref _, y, v, e, h => by simp [renA] at e
  | .psl _ _ _ _, y, v, e, h => by simp [renA] at e
  | .map _, y, v, e, h => by simp [renA] at e
  | .func _ _ _, y, v, e, h => by simp [renA] at e
  | .yld _, y, v, e, h => by simp [renA] at e
  | .iface _ _, y, v, e, h => by simp [renA] at e
theorem VRs.ren {g : Gh} {ρ : List (Nat × Nat × Nat)} : ∀ (xs : List AV) {ys : List AV} {vs : List Value}, renAs ρ xs = some ys → VRs g ys vs → VRs (g.ren ρ) xs vs
  | [], ys, vs, e, h => by
    simp only [renAs, Option.some.injEq] at e; subst e
    cases vs with
    | nil => trivial
    | cons _ _ => exact h.elim
  | x :: xs, ys, vs, e, h => by
    simp only [renAs] at e
    split at e
    · rename_i y ys' h1 h2
      simp only [Option.some.injEq] at e; subst e
      cases vs with
      | nil => exact h.elim
      | cons v vs => exact ⟨VR.ren x h1 h.1, VRs.ren xs h2 h.2⟩
    · cases e
end

theorem renAs_length {ρ : List (Nat × Nat × Nat)} : ∀ {xs ys : List AV}, renAs ρ xs = some ys → ys.length = xs.length
  | [], ys, e => by simp only [renAs, Option.some.injEq] at e; subst e; rfl
  | x :: xs, ys, e => by
    simp only [renAs] at e
    split at e
    · rename_i y ys' h1 h2
      simp only [Option.some.injEq] at e; subst e
      simp [renAs_length h2]
    · cases e

/-- the temporaries, the objects: each as it stood under its elder number -/
def RenT (ρ : List (Nat × Nat × Nat)) (tm : Tr AV) : List (Nat × AV) → Prop
  | [] => True
  | (t, x) :: r => tm.get t = renA ρ x ∧ (renA ρ x).isSome = true ∧ RenT ρ tm r

/-- number, content, frozen, element type, exact, shared; the elder number and version, the elder lowest version, the elder content -/
structure RObj where
  o : Nat
  c : List AV
  fz : Nat
  el : TypeId
  ex : Bool
  sh : Bool
  o' : Nat
  v' : Nat
  mv : Nat
  c' : List AV

def RObj.new (r : RObj) : Nat × AObj := (r.o, .cells 0 0 r.c r.fz r.el r.ex r.sh)

def RenH (ρ : List (Nat × Nat × Nat)) (h : AHeap) (n : Nat) : List RObj → Prop
  | [] => True
  | r :: rs => (look ρ r.o = some (r.o', r.v') ∧ Nat.blt r.o n = true ∧ h.get r.o' = some (.cells r.v' r.mv r.c' r.fz r.el r.ex r.sh) ∧ Nat.ble r.mv r.v' = true ∧ renAs ρ r.c = some r.c') ∧ RenH ρ h n rs

def distinct : List (Nat × Nat × Nat) → Bool
  | [] => true
  | (a, b, _) :: r => r.all (fun x => !Nat.beq x.1 a && !Nat.beq x.2.1 b) && distinct r
def below (n : Nat) (ρ : List (Nat × Nat × Nat)) : Bool := ρ.all fun x => Nat.blt x.1 n

theorem look_mem : ∀ {ρ : List (Nat × Nat × Nat)} {o o' v : Nat}, look ρ o = some (o', v) → (o, o', v) ∈ ρ
  | [], _, _, _, h => by cases h
  | (a, b, u) :: r, o, o', v, h => by
    simp only [look] at h
    split at h
    · rename_i e
      simp only [Option.some.injEq, Prod.mk.injEq] at h
      obtain ⟨rfl, rfl⟩ := h
      rw [Nat.eq_of_beq_eq_true e]; exact List.mem_cons_self ..
    · exact List.mem_cons_of_mem _ (look_mem h)

theorem distinct_inj : ∀ {ρ : List (Nat × Nat × Nat)}, distinct ρ = true → ∀ {a b a' v v' : Nat}, (a, b, v) ∈ ρ → (a', b, v') ∈ ρ → a = a'
  | [], _, _, _, _, _, _, h, _ => by cases h
  | (x, y, u) :: r, hd, a, b, a', v, v', h, h' => by
    simp only [distinct, Bool.and_eq_true, List.all_eq_true] at hd
    rcases List.mem_cons.1 h with e | h
    · cases e
      rcases List.mem_cons.1 h' with e' | h'
      · cases e'; rfl
      · have := hd.1 _ h'
        simp at this
    · rcases List.mem_cons.1 h' with e' | h'
      · cases e'
        have := hd.1 _ h
        simp at this
      · exact distinct_inj hd.2 h h'

theorem RenT.mem {ρ : List (Nat × Nat × Nat)} {tm : Tr AV} : ∀ {l : List (Nat × AV)}, RenT ρ tm l → ∀ t x, (t, x) ∈ l → ∃ y, renA ρ x = some y ∧ tm.get t = some y
  | [], _, t, x, h => by cases h
  | (s, z) :: r, ha, t, x, h => by
    rcases List.mem_cons.1 h with e | h
    · cases e
      obtain ⟨y, hy⟩ := Option.isSome_iff_exists.1 ha.2.1
      exact ⟨y, hy, by rw [ha.1, hy]⟩
    · exact RenT.mem ha.2.2 t x h
theorem RenH.mem {ρ : List (Nat × Nat × Nat)} {hp : AHeap} {n : Nat} : ∀ {l : List RObj}, RenH ρ hp n l → ∀ o x, (o, x) ∈ l.map RObj.new → ∃ r : RObj, x = .cells 0 0 r.c r.fz r.el r.ex r.sh ∧ look ρ o = some (r.o', r.v') ∧ hp.get r.o' = some (.cells r.v' r.mv r.c' r.fz r.el r.ex r.sh) ∧ r.mv ≤ r.v' ∧ renAs ρ r.c = some r.c'
  | [], _, o, x, h => by cases h
  | r :: rs, ha, o, x, h => by
    rcases List.mem_cons.1 h with e | h
    · simp only [RObj.new, Prod.mk.injEq] at e
      obtain ⟨rfl, rfl⟩ := e
      exact ⟨r, rfl, ha.1.1, ha.1.2.2.1, Nat.le_of_ble_eq_true ha.1.2.2.2.1, ha.1.2.2.2.2⟩
    · exact RenH.mem ha.2 o x h

theorem PR.ren {P : Program} {cx : Ctx} {todo : List Item → List Item} {st : ASt} {K : AEx → ASt → Prop} (ρ : List (Nat × Nat × Nat)) (l : List (Nat × AV)) (hs : List RObj) (n : Nat) (hd : st.df = []) (hρ : (distinct ρ && below n ρ) = true)
    (h1 : RenT ρ st.tm l) (h2 : RenH ρ st.h n hs) (h : PR P cx todo (mkS l (hs.map RObj.new) n) K) : PR P cx todo st K := by
  simp only [Bool.and_eq_true] at hρ
  refine ⟨?_⟩
  intro M0 w0 g w b a k cs p1 p2 p3 p4 p5
  have hinj : ∀ {o p o' v v' : Nat}, look ρ o = some (o', v) → look ρ p = some (o', v') → o = p := fun e e' => distinct_inj hρ.1 (look_mem e) (look_mem e')
  refine h.run M0 w0 (g.ren ρ) w b a k cs ?_ ?_ ?_ p4 ?_
  · refine ⟨p1.m, p1.nm, fun o v b s n e => ?_, p1.size, p1.old, p1.tape, p1.os, p1.out⟩
    obtain ⟨_, o', v', _, e⟩ := Gh.ren_of e
    exact p1.nb o' v' b s n e
  · refine ⟨fun o x hx => ?_, fun o v b s n e => ?_, fun o v p v' b s n s' n' e e' => ?_, p2.ro, fun b i u hm o v s n e => ?_⟩
    · obtain ⟨r, rfl, hl, hg, hmv, hc⟩ := h2.mem o x (mkT_get _ o x hx)
      have hor := p2.obj _ _ hg
      refine ⟨fun v hv => ?_, fun v q1 q2 b s n e => ?_⟩
      · cases v with
        | zero => omega
        | succ v => rfl
      · obtain rfl : v = 0 := by omega
        obtain ⟨_, o', v', hl', e⟩ := Gh.ren_of e
        rw [hl] at hl'
        simp only [Option.some.injEq, Prod.mk.injEq] at hl'
        obtain ⟨rfl, rfl⟩ := hl'
        obtain ⟨hn, ca, f, hk⟩ := hor.2 _ hmv (Nat.le_refl _) b s n e
        have hlen := renAs_length hc
        refine ⟨fun _ => by rw [hn rfl, hlen], ca, f, ⟨hk.here, hk.size, by have := hk.le; omega, hk.les, fun hx => by rw [hk.exact hx, hlen], hk.free, hk.plain, fun i x hi hx => ?_⟩⟩
        have hi' : i < r.c'.length := by have := hk.le; omega
        obtain ⟨v, a1, a2⟩ := hk.cell i r.c'[i] hi (List.getElem?_eq_getElem hi')
        refine ⟨v, a1, ?_⟩
        exact ren_get hc hx (List.getElem?_eq_getElem hi') a2
    · obtain ⟨_, o', v', _, e⟩ := Gh.ren_of e
      exact p2.bnd o' v' b s n e
    · obtain ⟨_, o1, v1, l1, e⟩ := Gh.ren_of e
      obtain ⟨_, o2, v2, l2, e'⟩ := Gh.ren_of e'
      have := p2.inj o1 v1 o2 v2 b s n s' n' e e'
      subst this
      exact hinj l1 l2
    · obtain ⟨_, o', v', _, e⟩ := Gh.ren_of e
      exact p2.dis b i u hm o' v' s n e
  · intro o ho v
    cases hv : (g.ren ρ).B o v with
    | none => rfl
    | some x =>
      obtain ⟨_, o', v', hl, _⟩ := Gh.ren_of hv
      have := hρ.2
      simp only [below, List.all_eq_true] at this
      have := this _ (look_mem hl)
      simp [Nat.blt_eq] at this
      have ho' : n ≤ o := ho
      omega
  · refine ⟨fun t x hx => ?_, p5.size, ?_⟩
    · obtain ⟨y, e1, e2⟩ := h1.mem t x (mkT_get _ t x hx)
      obtain ⟨v, a1, a2⟩ := p5.tm t y e2
      exact ⟨v, a1, VR.ren x e1 a2⟩
    · have := p5.df
      rw [hd] at this
      cases hdd : a.defers with
      | nil => trivial
      | cons d ds => rw [hdd] at this; exact this.elim
where
  ren_get {ρ : List (Nat × Nat × Nat)} {g : Gh} : ∀ {xs ys : List AV}, renAs ρ xs = some ys → ∀ {i : Nat} {x y : AV} {v : Value}, xs[i]? = some x → ys[i]? = some y → VR g y v → VR (g.ren ρ) x v
  | [], ys, e, i, x, y, v, h1, _, _ => by simp at h1
  | z :: xs, ys, e, i, x, y, v, h1, h2, h3 => by
    simp only [renAs] at e
    split at e
    · rename_i y' ys' r1 r2
      simp only [Option.some.injEq] at e; subst e
      cases i with
      | zero =>
        simp only [List.getElem?_cons_zero, Option.some.injEq] at h1 h2
        subst h1; subst h2
        exact VR.ren _ r1 h3
      | succ i =>
        simp only [List.getElem?_cons_succ] at h1 h2
        exact ren_get r2 h1 h2 h3
    · cases e
end Go.AI
end

/-
  append of one element to a slice of the function's own.
-/
section
namespace Go.AI

structure AppT (P : Program) (st xt e : TypeId) (s by_ : Nat) : Prop where
  hu : P.underlying st = some (.slice e)
  hx : P.underlying xt = some (.slice e)
  hs : sizeT P e = some s
  hb : bytesT P e = some by_
  hz : ∃ z, zeroT P e = some z ∧ (cellsA z).length = s
  hs0 : s ≠ 0
  hb0 : 0 < by_

section
variable {P : Program} {st xt e : TypeId} {s by_ : Nat}

theorem rd_one {h : AHeap} {o2 : Nat} {new : List AV} {fz : Nat} {ex sh : Bool} (hn : h.get o2 = some (.cells 0 0 new fz e ex sh)) (hl : new.length = s) : firstA h s 1 (.sl o2 0 s 0 s 1 (some 1)) = some new := by
  unfold firstA rdCells
  simp only [hn, Nat.le_refl, and_self, if_true, Nat.one_mul, List.drop_zero]
  rw [if_pos (by simp)]
  rw [List.take_of_length_le (by omega)]

theorem append_nil (ht : AppT P st xt e s by_) {h : AHeap} {o2 : Nat} {new : List AV} {fz : Nat} {ex sh : Bool} (hn : h.get o2 = some (.cells 0 0 new fz e ex sh)) (hl : new.length = s) (hok : new.all cellOK = true) (hb : by_ ≤ 140737488355328) :
    aappend P h st xt (.sc (.slice none 0 0)) (.sl o2 0 s 0 s 1 (some 1)) = some (.sl h.next 0 s 0 s 1 none, h.alloc (.cells 0 0 new 0 e false false)) := by
  obtain ⟨z, hz, hzl⟩ := ht.hz
  unfold aappend
  simp only [ht.hu, ht.hx, lenA, isInt, Bool.false_eq_true, if_false, ht.hs, ht.hb, hz, rd_one hn hl, hok]
  rw [if_neg (by simp [hzl, ht.hs0])]
  simp only [Bool.not_true, Bool.false_eq_true, if_false]
  rw [if_neg (by omega), if_pos ⟨ht.hb0, by omega⟩, Nat.one_mul]

theorem append_sl (ht : AppT P st xt e s by_) {h : AHeap} {o o2 len : Nat} {c new : List AV} {fz : Nat} {ex sh ex' sh' : Bool} (ho : h.get o = some (.cells 0 0 c 0 e ex' sh')) (hc : c.length = len * s) (hn : h.get o2 = some (.cells 0 0 new fz e ex sh)) (hl : new.length = s) (hok : new.all cellOK = true) (hb : (len + 1) * by_ ≤ 140737488355328) :
    aappend P h st xt (.sl o 0 (len * s) 0 s len none) (.sl o2 0 s 0 s 1 (some 1)) = some (.sl o 1 ((len + 1) * s) 0 s (len + 1) none, h.upd o (.cells 1 0 (c ++ new) 0 e false sh')) := by
  obtain ⟨z, hz, hzl⟩ := ht.hz
  unfold aappend
  simp only [ht.hu, ht.hx, lenA, isInt, Bool.false_eq_true, if_false, ht.hs, ht.hb, hz, rd_one hn hl, hok]
  rw [if_neg (by simp [hzl, ht.hs0])]
  simp only [Bool.not_true, Bool.false_eq_true, if_false, ne_eq, not_true_eq_false]
  rw [if_neg (by omega)]
  simp only [ho]
  rw [if_pos ⟨trivial, Nat.le_refl _, trivial, Nat.le_refl _, Nat.zero_le _, trivial, ht.hb0, hb⟩]
  rw [if_pos hc.symm, List.take_of_length_le (by omega)]

variable {R : Rec} {cx : Ctx} {ops : Array Oper}

theorem OpsW.appNil {d : Tmp} {ty : TypeId} {x y : Operand} {pos : String} {af : Array Edge} {rest : List Oper} {tm : Tr AV} {df : List ADef} {cm : AMode} {objs : Tr AObj} {nx fl : Nat} {wr : List Nat} {o2 fz : Nat} {new : List AV} {ex sh : Bool} {K : ASt → Prop}
    (ht : AppT P st xt e s by_) (hb : by_ ≤ 140737488355328) (hx : ev tm x = .sc (.slice none 0 0)) (hy : ev tm y = .sl o2 0 s 0 s 1 (some 1)) (hn : objs.get o2 = some (.cells 0 0 new fz e ex sh)) (hl : new.length = s) (hok : new.all cellOK = true) (hd : Nat.blt d cx.tn = true)
    (hk : OpsW P R cx ops rest ⟨tm.put d (.sl nx 0 s 0 s 1 none), df, cm, ⟨objs.put nx (.cells 0 0 new 0 e false false), nx + 1, fl, wr⟩⟩ K) :
    OpsW P R cx ops (⟨some d, .call ⟨.builtin .append, #[x, y], #[st, xt]⟩, ty, pos, af, none⟩ :: rest) ⟨tm, df, cm, ⟨objs, nx, fl, wr⟩⟩ K := by
  refine OpsW.val (h' := AHeap.alloc ⟨objs, nx, fl, wr⟩ (.cells 0 0 new 0 e false false)) ?_ hd hk
  have := append_nil ht (h := ⟨objs, nx, fl, wr⟩) hn hl hok hb
  simp only [aop, acall, abuiltin, List.map, hx, hy]
  simp [this]

theorem OpsW.app {d : Tmp} {ty : TypeId} {x y : Operand} {pos : String} {af : Array Edge} {rest : List Oper} {tm : Tr AV} {df : List ADef} {cm : AMode} {objs : Tr AObj} {nx fl : Nat} {wr : List Nat} {o o2 fz len : Nat} {c new : List AV} {ex sh ex' sh' : Bool} {K : ASt → Prop}
    (ht : AppT P st xt e s by_) (hx : ev tm x = .sl o 0 (len * s) 0 s len none) (hy : ev tm y = .sl o2 0 s 0 s 1 (some 1)) (ho : objs.get o = some (.cells 0 0 c 0 e ex' sh')) (hc : c.length = len * s) (hn : objs.get o2 = some (.cells 0 0 new fz e ex sh)) (hl : new.length = s) (hok : new.all cellOK = true) (hb : (len + 1) * by_ ≤ 140737488355328) (hd : Nat.blt d cx.tn = true)
    (hk : OpsW P R cx ops rest ⟨tm.put d (.sl o 1 ((len + 1) * s) 0 s (len + 1) none), df, cm, ⟨objs.put o (.cells 1 0 (c ++ new) 0 e false sh'), nx, fl, addWr wr fl o⟩⟩ K) :
    OpsW P R cx ops (⟨some d, .call ⟨.builtin .append, #[x, y], #[st, xt]⟩, ty, pos, af, none⟩ :: rest) ⟨tm, df, cm, ⟨objs, nx, fl, wr⟩⟩ K := by
  refine OpsW.val (h' := AHeap.upd ⟨objs, nx, fl, wr⟩ o (.cells 1 0 (c ++ new) 0 e false sh')) ?_ hd hk
  have := append_sl ht (h := ⟨objs, nx, fl, wr⟩) ho hc hn hl hok hb
  simp only [aop, acall, abuiltin, List.map, hx, hy]
  simp [this]

theorem DrawW.appNil {d : Tmp} {ty : TypeId} {x y : Operand} {pos : String} {af : Array Edge} {rest : List Oper} {i aid : Nat} {es fs : List (Nat × List Nat)} {tm : Tr AV} {df : List ADef} {cm : AMode} {objs : Tr AObj} {nx fl : Nat} {wr : List Nat} {o2 fz : Nat} {new : List AV} {ex sh : Bool} {K : Book → ASt → Prop}
    (ht : AppT P st xt e s by_) (hb : by_ ≤ 140737488355328) (hx : ev tm x = .sc (.slice none 0 0)) (hy : ev tm y = .sl o2 0 s 0 s 1 (some 1)) (hn : objs.get o2 = some (.cells 0 0 new fz e ex sh)) (hl : new.length = s) (hok : new.all cellOK = true) (hd : Nat.blt d cx.tn = true)
    (hk : DrawW P R cx ops rest (i + 1) aid ⟨(i, []) :: es, fs⟩ ⟨tm.put d (.sl nx 0 s 0 s 1 none), df, cm, ⟨objs.put nx (.cells 0 0 new 0 e false false), nx + 1, fl, wr⟩⟩ K) :
    DrawW P R cx ops (⟨some d, .call ⟨.builtin .append, #[x, y], #[st, xt]⟩, ty, pos, af, none⟩ :: rest) i aid ⟨es, fs⟩ ⟨tm, df, cm, ⟨objs, nx, fl, wr⟩⟩ K := by
  refine DrawW.actv (h' := AHeap.alloc ⟨objs, nx, nx, []⟩ (.cells 0 0 new 0 e false false)) rfl rfl ?_ hd hk
  have := append_nil ht (h := ⟨objs, nx, nx, []⟩) hn hl hok hb
  simp only [aop, acall, abuiltin, List.map]
  rw [evo_of _ tm x (by simp [Op.operands, Call.operands]), evo_of _ tm y (by simp [Op.operands, Call.operands]), hx, hy]
  simp [this, AHeap.inner]

theorem DrawW.app {d : Tmp} {ty : TypeId} {x y : Operand} {pos : String} {af : Array Edge} {rest : List Oper} {i aid : Nat} {es fs : List (Nat × List Nat)} {tm : Tr AV} {df : List ADef} {cm : AMode} {objs : Tr AObj} {nx fl : Nat} {wr : List Nat} {o o2 fz len : Nat} {c new : List AV} {ex sh ex' sh' : Bool} {K : Book → ASt → Prop}
    (ht : AppT P st xt e s by_) (hx : ev tm x = .sl o 0 (len * s) 0 s len none) (hy : ev tm y = .sl o2 0 s 0 s 1 (some 1)) (ho : objs.get o = some (.cells 0 0 c 0 e ex' sh')) (hc : c.length = len * s) (hn : objs.get o2 = some (.cells 0 0 new fz e ex sh)) (hl : new.length = s) (hok : new.all cellOK = true) (hb : (len + 1) * by_ ≤ 140737488355328) (hd : Nat.blt d cx.tn = true)
    (hk : DrawW P R cx ops rest (i + 1) aid ⟨(i, addWr [] nx o) :: es, fs⟩ ⟨tm.put d (.sl o 1 ((len + 1) * s) 0 s (len + 1) none), df, cm, ⟨objs.put o (.cells 1 0 (c ++ new) 0 e false sh'), nx, fl, addWrs wr fl (addWr [] nx o)⟩⟩ K) :
    DrawW P R cx ops (⟨some d, .call ⟨.builtin .append, #[x, y], #[st, xt]⟩, ty, pos, af, none⟩ :: rest) i aid ⟨es, fs⟩ ⟨tm, df, cm, ⟨objs, nx, fl, wr⟩⟩ K := by
  refine DrawW.actv (h' := AHeap.upd ⟨objs, nx, nx, []⟩ o (.cells 1 0 (c ++ new) 0 e false sh')) rfl rfl ?_ hd hk
  have := append_sl ht (h := ⟨objs, nx, nx, []⟩) ho hc hn hl hok hb
  simp only [aop, acall, abuiltin, List.map]
  rw [evo_of _ tm x (by simp [Op.operands, Call.operands]), evo_of _ tm y (by simp [Op.operands, Call.operands]), hx, hy]
  simp [this, AHeap.inner]
end
end Go.AI
end

/-
  A result under a coarser name: nil as an empty slice.
-/
section
namespace Go.AI

mutual
def wkA : AV → AV → Prop
  | .agg xs, y => match y with
    | .agg ys => wkAs xs ys
    | _ => False
  | .tuple xs, y => match y with
    | .tuple ys => wkAs xs ys
    | _ => False
  | .sc v, y => match y with
    | .isl r _ => v = .slice none 0 0 ∧ r = []
    | y => .sc v = y
  | x, y => x = y
def wkAs : List AV → List AV → Prop
  | [], ys => ys = []
  | x :: xs, ys => match ys with
    | y :: ys => wkA x y ∧ wkAs xs ys
    | [] => False
end

mutual
theorem wkA_ok {g : Gh} : ∀ (x : AV) {y : AV} {v : Value}, wkA x y → VR g x v → VR g y v
  | .agg xs, y, v, h, hv => by
    cases y with
    | agg ys =>
      obtain ⟨a, rfl, ha⟩ := VR.agg_iff.1 hv
      exact VR.agg_iff.2 ⟨a, rfl, wkAs_ok xs h ha⟩
    | _ => exact h.elim
  | .tuple xs, y, v, h, hv => by
    cases y with
    | tuple ys =>
      obtain ⟨a, rfl, ha⟩ := VR.tuple_iff.1 hv
      exact VR.tuple_iff.2 ⟨a, rfl, wkAs_ok xs h ha⟩
    | _ => exact h.elim
  | .sc u, y, v, h, hv => by
    cases y with
    | isl r s =>
      simp only [wkA] at h
      obtain ⟨rfl, rfl⟩ := h
      cases hv
      exact .islNil
    | _ => simp only [wkA] at h; rw [← h]; exact hv
  | .unk, y, v, h, hv => by simp only [wkA] at h; rw [← h]; exact hv
  | .ref _ _ _ _, y, v, h, hv => by simp only [wkA] at h; rw [← h]; exact hv
  | .sl _ _ _ _ _ _ _, y, v, h, hv => by simp only [wkA] at h; rw [← h]; exact hv
  | .esl, y, v, h, hv => by simp only [wkA] at h; rw [← h]; exact hv
  | .pref _, y, v, h, hv => by simp only [wkA] at h; rw [← h]; exact hv
  | .psl _ _ _ _, y, v, h, hv => by simp only [wkA] at h; rw [← h]; exact hv
  | .isl _ _, y, v, h, hv => by simp only [wkA] at h; rw [← h]; exact hv
  | .map _, y, v, h, hv => by simp only [wkA] at h; rw [← h]; exact hv
  | .func _ _ _, y, v, h, hv => by simp only [wkA] at h; rw [← h]; exact hv
  | .yld _, y, v, h, hv => by simp only [wkA] at h; rw [← h]; exact hv
  | .iface _ _, y, v, h, hv => by simp only [wkA] at h; rw [← h]; exact hv
theorem wkAs_ok {g : Gh} : ∀ (xs : List AV) {ys : List AV} {vs : List Value}, wkAs xs ys → VRs g xs vs → VRs g ys vs
  | [], ys, vs, h, hv => by simp only [wkAs] at h; subst h; exact hv
  | x :: xs, ys, vs, h, hv => by
    cases ys with
    | nil => exact h.elim
    | cons y ys =>
      cases vs with
      | nil => exact hv.elim
      | cons v vs => exact ⟨wkA_ok x h.1 hv.1, wkAs_ok xs h.2 hv.2⟩
end

section
variable {P : Program} {cx : Ctx} {R : Rec}
theorem PR.callW (hP : ProgOK P) {f : FuncId} {fn : Func} {code : Code} {args : List AV} (hf : P.funcs[f]? = some fn) (hb : fn.body = some code) (ha : heapFrees args = true) {v : AV}
    (h : PR P { fn := f, tn := Nat.max fn.ntmps args.length, kind := .normal, round := none } (one code) { tm := putArgs args 0 .leaf, df := [], cm := .none, h := { objs := .leaf, next := 0, floor := 0, wr := [] } }
      fun ex st => (ex = .ret ∨ ex = .normal) ∧ st.df = [] ∧ ∃ u n v0, retA P fn st.tm st.h = some u ∧ snap st.h n u = some v0 ∧ wkA v0 v) (hh : AHeap) : CallOK P f args hh (.ret v) hh := by
  intro g w vs hw hfr hv cs
  have henter : Frame.enter P f vs.toArray .normal = frm { (default : Frame) with fn := f, kind := .normal } { tmps := vs.toArray ++ Array.replicate (fn.ntmps - vs.toArray.size) undef, defers := [] } [.code code] := by
    simp [Frame.enter, frm, hf, hb]
    rfl
  have hlen : vs.length = args.length := hv.length.symm
  let g1 : Gh := ⟨fun _ _ => none, g.M⟩
  have hv1 : VRs g1 args vs := VRs.free (g := g) (g2 := g1) (fun _ _ _ e => e) ha hv
  have hact : ActR g1 (Nat.max fn.ntmps args.length) { tm := putArgs args 0 .leaf, df := [], cm := .none, h := { objs := .leaf, next := 0, floor := 0, wr := [] } } { tmps := vs.toArray ++ Array.replicate (fn.ntmps - vs.toArray.size) undef, defers := [] } :=
    ⟨args_TR hv1, by show _ = max fn.ntmps args.length; simp; omega, trivial⟩
  have hw1 : W { objs := .leaf, next := 0, floor := 0, wr := [] } g1 w := ⟨fun o x e => (by simp [AHeap.get, Tr.get] at e), fun _ _ _ _ _ e => (by cases e), fun _ _ _ _ _ _ _ _ _ e => (by cases e), hw.ro, fun _ _ _ _ _ _ _ _ e => (by cases e)⟩
  obtain ⟨ex, st, g', w', a', ⟨hx, hd, u, n, v0, hu, hs, hwk⟩, q1, q2, q3, q4, q5⟩ := h.run g.M w g1 w { (default : Frame) with fn := f, kind := .normal } _ [] cs
    ⟨fun _ _ _ e => e, fun _ _ _ e => .inl e, fun _ _ _ _ _ e => (by cases e), Nat.le_refl _, fun _ _ => rfl, rfl, rfl, rfl⟩ hw1 (fun _ _ _ => rfl) ⟨rfl, rfl, rfl⟩ hact
  rw [← henter] at q5
  have hl : leaveA P Rec.zero fn st.tm [] .ret st.h = some (.ret u, st.h) := by simp [leaveA, hu]
  have fin : ∀ fr0 : Frame, Steps P (lone (Frame.enter P f vs.toArray .normal) cs w) (lone fr0 cs w') → fr0.mode = .returning → fr0.fn = f → fr0.kind = .normal → fr0.defers = a'.defers → fr0.tmps = a'.tmps →
      ∃ e w2 fr, (∃ g2, Step hh g w hh g2 w2 ∧ W hh g2 w2 ∧ OutR g2 (.ret v) e) ∧ Steps P (lone (Frame.enter P f vs.toArray .normal) cs w) (lone fr cs w2) ∧ fr.fn = f ∧ fr.mode = .returning ∧ fr.defers = [] ∧ fr.kind = .normal ∧ ∃ x, e = .returned x ∧ (results fn fr.tmps).run P w2 = .ok x w2 := by
    intro fr0 hst e0 e1 e2 e3 e4
    obtain ⟨g2, w2, fr2, r1, r2, r3, r4, _, r5, r6⟩ := leaveA_ok hP rec_zero [] .ret st.h (.ret u) st.h hl g' w' fr0 cs q2 q3 (by rw [e1]; exact hf) e0 (by rw [e3]; have := q4.df; rw [hd] at this; exact this) (by rw [e4]; exact q4.tm)
    obtain ⟨x1, x2, x, x3, x4⟩ := r6
    have ho := q1.step r1
    let gf : Gh := ⟨g.B, fun b i => if w.heap.size ≤ b then w2.cell? ⟨b, i, none⟩ else g.M b i⟩
    have hmle : ∀ b i v, g.M b i = some v → gf.M b i = some v := by
      intro b i v hm
      have := (hw.ro b i v hm).2
      show (if w.heap.size ≤ b then _ else _) = _
      rw [if_neg (by omega)]; exact hm
    have hle : g.Le gf := ⟨fun _ _ _ e => e, hmle⟩
    have hws := hw.same ho.size ho.old
    refine ⟨.returned x, w2, fr2, ⟨gf, ?_, ?_, ?_⟩, Steps.trans hst r5, by rw [r4, e1], x1, x2, by rw [r3, e2], x, rfl, x3⟩
    · refine ⟨hle, Nat.le_refl _, rfl, fun _ h => h, fun _ _ _ _ => rfl, fun _ _ _ => rfl, fun _ _ h => h, fun _ _ _ h => .inl h, ho.size, fun o v b s n e _ => ⟨v, s, n, e⟩, fun b hb _ => ho.old b hb, ho.tape, ho.os, ho.out, ?_⟩
      intro b i v hm
      by_cases hb : w.heap.size ≤ b
      · exact .inr hb
      · have hm' : (if w.heap.size ≤ b then w2.cell? ⟨b, i, none⟩ else g.M b i) = some v := hm
        rw [if_neg hb] at hm'; exact .inl hm'
    · refine ⟨fun o x hx => (hws.obj o x hx).move hle (fun _ _ e => e) (fun _ _ _ _ _ => rfl), hws.bnd, hws.inj, ?_, ?_⟩
      · intro b i v hm
        have hm' : (if w.heap.size ≤ b then w2.cell? ⟨b, i, none⟩ else g.M b i) = some v := hm
        by_cases hb : w.heap.size ≤ b
        · rw [if_pos hb] at hm'
          refine ⟨hm', ?_⟩
          rcases Nat.lt_or_ge b w2.heap.size with a | a
          · exact a
          · exfalso
            have hn : w2.heap[b]? = none := Array.getElem?_eq_none a
            unfold World.cell? at hm'
            simp [hn] at hm'
        · rw [if_neg hb] at hm'
          exact hws.ro b i v hm'
      · intro b i u hm o v s n e
        have hm' : (if w.heap.size ≤ b then w2.cell? ⟨b, i, none⟩ else g.M b i) = some u := hm
        have hb := hw.bnd o v b s n e
        rw [if_neg (by omega)] at hm'
        exact hw.dis b i u hm' o v s n e
    · refine wkA_ok v0 hwk (snap_ok (g := g2) (g2 := gf) r2 ?_ ?_ hs x4)
      · intro b i v hm
        rcases ho.nm b i v hm with h1 | h1
        · exact hmle b i v h1
        · show (if w.heap.size ≤ b then _ else _) = _
          rw [if_pos h1]; exact (r2.ro b i v hm).1
      · intro o v b s n i u hB hcell
        have hb := ho.nb o v b s n hB
        show (if w.heap.size ≤ b then _ else _) = _
        rw [if_pos hb]; exact hcell
  have fin2 : ∀ fr0 : Frame, Steps P (lone (Frame.enter P f vs.toArray .normal) cs w) (lone fr0 cs w') → fr0.mode = .returning → fr0.fn = f → fr0.kind = .normal → fr0.defers = a'.defers → fr0.tmps = a'.tmps → _ := fun fr0 a1 a2 a3 a4 a5 a6 => fin fr0 a1 a2 a3 a4 a5 a6
  rcases hx with rfl | rfl
  · obtain ⟨k2, q5⟩ := q5
    obtain ⟨e, w2, fr, z1, z2, z3, z4, z5, z6, x, rfl, z7⟩ := fin2 _ (Steps.trans q5 (.one (fstep_ret rfl))) rfl rfl rfl rfl rfl
    exact ⟨.returned x, w2, fr, z1, z2, z3, z4, z5, z6, fn, by rw [z3]; exact hf, z7⟩
  · obtain ⟨e, w2, fr, z1, z2, z3, z4, z5, z6, x, rfl, z7⟩ := fin2 _ (Steps.trans q5 (.one (fstep_end rfl))) rfl rfl rfl rfl rfl
    exact ⟨.returned x, w2, fr, z1, z2, z3, z4, z5, z6, fn, by rw [z3]; exact hf, z7⟩
end
end Go.AI
end

/-
  Rows of data, laid flat.
-/
section
namespace Go.AI

/-- plain data in one cell -/
def isDat : AV → Bool
  | .sc _ | .isl _ _ => true
  | _ => false

theorem ren_dat {ρ : List (Nat × Nat × Nat)} {x : AV} (h : isDat x = true) : renA ρ x = some x := by cases x <;> first | rfl | simp [isDat] at h
theorem rens_dat {ρ : List (Nat × Nat × Nat)} : ∀ {c : List AV}, c.all isDat = true → renAs ρ c = some c
  | [], _ => rfl
  | x :: xs, h => by
    simp only [List.all_cons, Bool.and_eq_true] at h
    simp only [renAs, ren_dat h.1, rens_dat h.2]

theorem snap_dat {h : AHeap} {n : Nat} {x : AV} (hx : isDat x = true) : snap h (n + 1) x = some x := by cases x <;> first | rfl | simp [isDat] at hx
theorem snaps_dat {h : AHeap} : ∀ {c : List AV} {n : Nat}, c.all isDat = true → c.length < n → snaps h n c = some c
  | [], n, _, _ => by cases n <;> rfl
  | x :: xs, 0, _, hn => by simp at hn
  | x :: xs, 1, _, hn => by simp at hn
  | x :: xs, n + 2, hc, hn => by
    simp only [List.all_cons, Bool.and_eq_true] at hc
    rw [snaps, snap_dat hc.1, snaps_dat hc.2 (by simp at hn; omega)]

theorem chunks_rows {sz : Nat} : ∀ {rows : List (List AV)}, (∀ r, r ∈ rows → r.length = sz) → chunks sz rows.length rows.flatten = rows
  | [], _ => rfl
  | r :: rows, h => by
    have h1 := h r (by simp)
    simp only [List.length_cons, chunks, List.flatten_cons]
    rw [← h1, List.take_left', List.drop_left', h1, chunks_rows fun q hq => h q (by simp [hq])]
    · rfl
    · rfl

/-- a slice of the function's own, as data -/
theorem snap_sl {h : AHeap} {o sz fz : Nat} {el : TypeId} {ex sh : Bool} {cap : Option Nat} {rows : List (List AV)} {n m : Nat} (hg : h.get o = some (.cells 0 0 rows.flatten fz el ex sh)) (hz : sz ≠ 0) (hr : ∀ r, r ∈ rows → r.length = sz) (hd : rows.flatten.all isDat = true)
    (hm : rows.length = m) (hn : m * sz < n) : snap h (n + 1) (.sl o 0 (m * sz) 0 sz m cap) = some (.isl rows sz) := by
  subst hm
  have hl := flat_len hr
  simp only [snap]
  rw [if_neg hz]
  have : rdCells h o 0 (rows.length * sz) 0 (rows.length * sz) = some rows.flatten := by
    unfold rdCells
    simp only [hg, List.drop_zero]
    rw [if_pos (by simp), List.take_of_length_le (by omega)]
  simp only [this, snaps_dat hd (by omega : rows.flatten.length < n), chunks_rows hr]

theorem all_flatten {rows : List (List AV)} (h : ∀ r, r ∈ rows → r.all isDat = true) : rows.flatten.all isDat = true := by
  rw [List.all_eq_true]
  intro x hx
  obtain ⟨r, hr, hx⟩ := List.mem_flatten.1 hx
  exact List.all_eq_true.1 (h r hr) x hx

theorem all_cellOK {c : List AV} (h : c.all isDat = true) (hs : ∀ x, x ∈ c → cellOK x = true) : c.all cellOK = true := List.all_eq_true.2 hs

theorem snaps_snoc {h : AHeap} {x y : AV} {n0 : Nat} (hx : ∀ m, n0 ≤ m → snap h m x = some y) : ∀ {pre : List AV} {n : Nat}, pre.all isDat = true → pre.length + n0 + 1 < n → snaps h n (pre ++ [x]) = some (pre ++ [y])
  | [], n, _, hn => by
    obtain ⟨n, rfl⟩ : ∃ k, n = k + 1 := ⟨n - 1, by omega⟩
    rw [List.nil_append, snaps, hx n (by simp at hn; omega)]
    cases n <;> rfl
  | a :: pre, n, hp, hn => by
    simp only [List.all_cons, Bool.and_eq_true] at hp
    obtain ⟨n, rfl⟩ : ∃ k, n = k + 2 := ⟨n - 2, by simp at hn; omega⟩
    rw [List.cons_append, snaps, snap_dat hp.1, snaps_snoc hx hp.2 (by simp at hn; omega)]
    rfl

/-- an aggregate whose last part is a slice of the function's own -/
theorem snap_last {h : AHeap} {pre : List AV} {o sz fz : Nat} {el : TypeId} {ex sh : Bool} {cap : Option Nat} {rows : List (List AV)} {m : Nat} (hp : pre.all isDat = true) (hg : h.get o = some (.cells 0 0 rows.flatten fz el ex sh)) (hz : sz ≠ 0)
    (hr : ∀ r, r ∈ rows → r.length = sz) (hd : rows.flatten.all isDat = true) (hm : rows.length = m) : snap h (pre.length + m * sz + 9) (.agg (pre ++ [.sl o 0 (m * sz) 0 sz m cap])) = some (.agg (pre ++ [.isl rows sz])) := by
  have := snaps_snoc (h := h) (x := .sl o 0 (m * sz) 0 sz m cap) (y := .isl rows sz) (n0 := m * sz + 2) (fun k hk => by
    obtain ⟨k, rfl⟩ : ∃ j, k = j + 1 := ⟨k - 1, by omega⟩
    exact snap_sl hg hz hr hd hm (by omega)) (pre := pre) (n := pre.length + m * sz + 8) hp (by omega)
  rw [snap, this]
end Go.AI
end

/-
  append of a whole slice of data to an empty one.
-/
section
namespace Go.AI
section
variable {P : Program} {st xt e : TypeId} {s by_ : Nat}

theorem append_all (ht : AppT P st xt e s by_) {h : AHeap} {o : Nat} {rows : List (List AV)} {sh : Bool} (ho : h.get o = some (.cells 0 0 [] 0 e true sh)) (hne : rows ≠ []) (hok : rows.flatten.all cellOK = true) (hb : rows.length * by_ ≤ 140737488355328) :
    aappend P h st xt (.sl o 0 0 0 s 0 (some 0)) (.isl rows s) = some (.sl h.next 0 (rows.length * s) 0 s rows.length none, h.alloc (.cells 0 0 rows.flatten 0 e false false)) := by
  obtain ⟨z, hz, hzl⟩ := ht.hz
  have hlen : 0 < rows.length := List.length_pos_iff.2 hne
  have hfa : firstA h s rows.length (.isl rows s) = some rows.flatten := by
    unfold firstA
    simp only [Nat.le_refl, and_self, if_true, List.take_length]
  have hrd : rdCells h o 0 0 0 0 = some [] := by
    unfold rdCells
    simp [ho]
  unfold aappend
  simp only [ht.hu, ht.hx, lenA, isInt, Bool.false_eq_true, if_false, ht.hs, ht.hb, hz, hfa, hok]
  rw [if_neg (by simp [hzl, ht.hs0])]
  simp only [Bool.not_true, Bool.false_eq_true, if_false, ne_eq, not_true_eq_false, Nat.zero_add, Nat.zero_mul]
  rw [if_neg (by omega), if_pos ⟨ht.hb0, hb⟩]
  simp only [hrd, List.nil_append]

variable {R : Rec} {cx : Ctx} {ops : Array Oper}
theorem DrawW.appAll {d : Tmp} {ty : TypeId} {x y : Operand} {pos : String} {af : Array Edge} {rest : List Oper} {i aid : Nat} {es fs : List (Nat × List Nat)} {tm : Tr AV} {df : List ADef} {cm : AMode} {objs : Tr AObj} {nx fl : Nat} {wr : List Nat} {o : Nat} {rows : List (List AV)} {sh : Bool} {K : Book → ASt → Prop}
    (ht : AppT P st xt e s by_) (hx : ev tm x = .sl o 0 0 0 s 0 (some 0)) (hy : ev tm y = .isl rows s) (ho : objs.get o = some (.cells 0 0 [] 0 e true sh)) (hne : rows ≠ []) (hok : rows.flatten.all cellOK = true) (hb : rows.length * by_ ≤ 140737488355328) (hd : Nat.blt d cx.tn = true)
    (hk : DrawW P R cx ops rest (i + 1) aid ⟨(i, []) :: es, fs⟩ ⟨tm.put d (.sl nx 0 (rows.length * s) 0 s rows.length none), df, cm, ⟨objs.put nx (.cells 0 0 rows.flatten 0 e false false), nx + 1, fl, wr⟩⟩ K) :
    DrawW P R cx ops (⟨some d, .call ⟨.builtin .append, #[x, y], #[st, xt]⟩, ty, pos, af, none⟩ :: rest) i aid ⟨es, fs⟩ ⟨tm, df, cm, ⟨objs, nx, fl, wr⟩⟩ K := by
  refine DrawW.actv (h' := AHeap.alloc ⟨objs, nx, nx, []⟩ (.cells 0 0 rows.flatten 0 e false false)) rfl rfl ?_ hd hk
  have := append_all ht (h := ⟨objs, nx, nx, []⟩) ho hne hok hb
  simp only [aop, acall, abuiltin, List.map]
  rw [evo_of _ tm x (by simp [Op.operands, Call.operands]), evo_of _ tm y (by simp [Op.operands, Call.operands]), hx, hy]
  simp [this, AHeap.inner]

theorem snaps_of {h : AHeap} {n0 : Nat} : ∀ (ps : List (AV × AV)) {n : Nat}, (∀ p, p ∈ ps → ∀ m, n0 ≤ m → snap h m p.1 = some p.2) → ps.length + n0 < n → snaps h n (ps.map (·.1)) = some (ps.map (·.2))
  | [], n, _, _ => by cases n <;> rfl
  | (x, y) :: ps, n, hp, hn => by
    obtain ⟨n, rfl⟩ : ∃ k, n = k + 1 := ⟨n - 1, by omega⟩
    simp only [List.map_cons, snaps]
    rw [hp (x, y) (by simp) n (by simp at hn; omega), snaps_of ps (fun p hq => hp p (by simp [hq])) (by simp at hn; omega)]

theorem snap_pairs {h : AHeap} {n0 : Nat} (ps : List (AV × AV)) (hp : ∀ p, p ∈ ps → ∀ m, n0 ≤ m → snap h m p.1 = some p.2) : snap h (ps.length + n0 + 2) (.agg (ps.map (·.1))) = some (.agg (ps.map (·.2))) := by
  rw [snap, snaps_of ps hp (by omega)]

theorem snap_datm {h : AHeap} {x : AV} (hx : isDat x = true) (m : Nat) (hm : 1 ≤ m) : snap h m x = some x := by
  obtain ⟨m, rfl⟩ : ∃ k, m = k + 1 := ⟨m - 1, by omega⟩
  exact snap_dat hx
theorem snap_slm {h : AHeap} {o sz fz : Nat} {el : TypeId} {ex sh : Bool} {cap : Option Nat} {rows : List (List AV)} {k : Nat} (hg : h.get o = some (.cells 0 0 rows.flatten fz el ex sh)) (hz : sz ≠ 0) (hr : ∀ r, r ∈ rows → r.length = sz) (hd : rows.flatten.all isDat = true)
    (hk : rows.length = k) (m : Nat) (hm : k * sz + 2 ≤ m) : snap h m (.sl o 0 (k * sz) 0 sz k cap) = some (.isl rows sz) := by
  obtain ⟨m, rfl⟩ : ∃ j, m = j + 1 := ⟨m - 1, by omega⟩
  exact snap_sl hg hz hr hd hk (by omega)
end
end Go.AI
end

/-
  A call that hands back data, its last part a slice that may still be written.
-/
section
namespace Go.AI

theorem free_of_dat {x : AV} (h : isDat x = true) : heapFree x = true := by cases x <;> first | rfl | simp [isDat] at h
theorem frees_of_dat {c : List AV} (h : c.all isDat = true) : heapFrees c = true := heapFrees_mem.2 fun x hx => free_of_dat (List.all_eq_true.1 h x hx)

theorem VRs.snoc {g : Gh} : ∀ {pre : List AV} {x : AV} {vs : List Value}, VRs g (pre ++ [x]) vs → ∃ vp v, vs = vp ++ [v] ∧ VRs g pre vp ∧ VR g x v
  | [], x, vs, h => by
    cases vs with
    | nil => exact h.elim
    | cons v vs =>
      cases vs with
      | nil => exact ⟨[], v, rfl, trivial, h.1⟩
      | cons _ _ => exact h.2.elim
  | a :: pre, x, vs, h => by
    cases vs with
    | nil => exact h.elim
    | cons v vs =>
      obtain ⟨vp, u, rfl, h1, h2⟩ := VRs.snoc h.2
      exact ⟨v :: vp, u, rfl, ⟨h.1, h1⟩, h2⟩

section
variable {P : Program} {cx : Ctx} {R : Rec}
theorem PR.callT (hP : ProgOK P) {f : FuncId} {fn : Func} {code : Code} {args : List AV} (hf : P.funcs[f]? = some fn) (hb : fn.body = some code) (ha : heapFrees args = true) {pre : List AV} {rows : List (List AV)} {sz m : Nat} {el : TypeId}
    (hpre : pre.all isDat = true) (hrd : rows.flatten.all isDat = true)
    (h : PR P { fn := f, tn := Nat.max fn.ntmps args.length, kind := .normal, round := none } (one code) { tm := putArgs args 0 .leaf, df := [], cm := .none, h := { objs := .leaf, next := 0, floor := 0, wr := [] } }
      fun ex st => (ex = .ret ∨ ex = .normal) ∧ st.df = [] ∧ ∃ o, retA P fn st.tm st.h = some (.agg (pre ++ [.sl o 0 (m * sz) 0 sz m none])) ∧ st.h.get o = some (.cells 0 0 rows.flatten 0 el false false)) (hh : AHeap) :
    CallOK P f args hh (.ret (.agg (pre ++ [.sl hh.next 0 (m * sz) 0 sz m none]))) (hh.alloc (.cells 0 0 rows.flatten 0 el false false)) := by
  intro g w vs hw hfr hv cs
  have henter : Frame.enter P f vs.toArray .normal = frm { (default : Frame) with fn := f, kind := .normal } { tmps := vs.toArray ++ Array.replicate (fn.ntmps - vs.toArray.size) undef, defers := [] } [.code code] := by
    simp [Frame.enter, frm, hf, hb]
    rfl
  have hlen : vs.length = args.length := hv.length.symm
  let g1 : Gh := ⟨fun _ _ => none, g.M⟩
  have hv1 : VRs g1 args vs := VRs.free (g := g) (g2 := g1) (fun _ _ _ e => e) ha hv
  have hact : ActR g1 (Nat.max fn.ntmps args.length) { tm := putArgs args 0 .leaf, df := [], cm := .none, h := { objs := .leaf, next := 0, floor := 0, wr := [] } } { tmps := vs.toArray ++ Array.replicate (fn.ntmps - vs.toArray.size) undef, defers := [] } :=
    ⟨args_TR hv1, by show _ = max fn.ntmps args.length; simp; omega, trivial⟩
  have hw1 : W { objs := .leaf, next := 0, floor := 0, wr := [] } g1 w := ⟨fun o x e => (by simp [AHeap.get, Tr.get] at e), fun _ _ _ _ _ e => (by cases e), fun _ _ _ _ _ _ _ _ _ e => (by cases e), hw.ro, fun _ _ _ _ _ _ _ _ e => (by cases e)⟩
  obtain ⟨ex, st, g', w', a', ⟨hx, hd, o, hu, hgo⟩, q1, q2, q3, q4, q5⟩ := h.run g.M w g1 w { (default : Frame) with fn := f, kind := .normal } _ [] cs
    ⟨fun _ _ _ e => e, fun _ _ _ e => .inl e, fun _ _ _ _ _ e => (by cases e), Nat.le_refl _, fun _ _ => rfl, rfl, rfl, rfl⟩ hw1 (fun _ _ _ => rfl) ⟨rfl, rfl, rfl⟩ hact
  rw [← henter] at q5
  have hl : leaveA P Rec.zero fn st.tm [] .ret st.h = some (.ret (.agg (pre ++ [.sl o 0 (m * sz) 0 sz m none])), st.h) := by simp [leaveA, hu]
  have fin : ∀ fr0 : Frame, Steps P (lone (Frame.enter P f vs.toArray .normal) cs w) (lone fr0 cs w') → fr0.mode = .returning → fr0.fn = f → fr0.kind = .normal → fr0.defers = a'.defers → fr0.tmps = a'.tmps →
      ∃ e w2 fr, (∃ g2, Step hh g w (hh.alloc (.cells 0 0 rows.flatten 0 el false false)) g2 w2 ∧ W (hh.alloc (.cells 0 0 rows.flatten 0 el false false)) g2 w2 ∧ OutR g2 (.ret (.agg (pre ++ [.sl hh.next 0 (m * sz) 0 sz m none]))) e) ∧ Steps P (lone (Frame.enter P f vs.toArray .normal) cs w) (lone fr cs w2) ∧ fr.fn = f ∧ fr.mode = .returning ∧ fr.defers = [] ∧ fr.kind = .normal ∧ ∃ x, e = .returned x ∧ (results fn fr.tmps).run P w2 = .ok x w2 := by
    intro fr0 hst e0 e1 e2 e3 e4
    obtain ⟨g2, w2, fr2, r1, r2, r3, r4, _, r5, r6⟩ := leaveA_ok hP rec_zero [] .ret st.h (.ret (.agg (pre ++ [.sl o 0 (m * sz) 0 sz m none]))) st.h hl g' w' fr0 cs q2 q3 (by rw [e1]; exact hf) e0 (by rw [e3]; have := q4.df; rw [hd] at this; exact this) (by rw [e4]; exact q4.tm)
    obtain ⟨x1, x2, x, x3, x4⟩ := r6
    have ho := q1.step r1
    obtain ⟨xa, rfl, hxa⟩ := VR.agg_iff.1 x4
    obtain ⟨vp, vl, hvs, hvp, hvl⟩ := VRs.snoc hxa
    cases hvl with
    | sl hB0 k1 k2 k3 =>
    rename_i bb ss cc
    have hbb : w.heap.size ≤ bb := ho.nb o 0 bb ss (m * sz) hB0
    have hbw : bb < w2.heap.size := r2.bnd o 0 bb ss (m * sz) hB0
    let gf : Gh := ⟨(g.setB hh.next 0 (bb, ss, m * sz)).B, fun b' i => if w.heap.size ≤ b' then (if b' = bb then none else w2.cell? ⟨b', i, none⟩) else g.M b' i⟩
    have hmle : ∀ b i v, g.M b i = some v → gf.M b i = some v := by
      intro b i v hm
      have := (hw.ro b i v hm).2
      show (if w.heap.size ≤ b then _ else _) = _
      rw [if_neg (by omega)]; exact hm
    have hmof : ∀ b i v, gf.M b i = some v → (w.heap.size ≤ b ∧ b ≠ bb ∧ w2.cell? ⟨b, i, none⟩ = some v) ∨ (b < w.heap.size ∧ g.M b i = some v) := by
      intro b i v hm
      have hm' : (if w.heap.size ≤ b then (if b = bb then none else w2.cell? ⟨b, i, none⟩) else g.M b i) = some v := hm
      by_cases h1 : w.heap.size ≤ b
      · rw [if_pos h1] at hm'
        by_cases h2 : b = bb
        · rw [if_pos h2] at hm'; cases hm'
        · rw [if_neg h2] at hm'; exact .inl ⟨h1, h2, hm'⟩
      · rw [if_neg h1] at hm'; exact .inr ⟨by omega, hm'⟩
    have hg2 : ∀ b i v, g2.M b i = some v → gf.M b i = some v := by
      intro b i v hm
      rcases ho.nm b i v hm with h1 | h1
      · exact hmle b i v h1
      · show (if w.heap.size ≤ b then (if b = bb then none else w2.cell? ⟨b, i, none⟩) else g.M b i) = _
        rw [if_pos h1, if_neg (fun e => r2.dis b i v hm o 0 ss (m * sz) (by rw [e]; exact hB0))]
        exact (r2.ro b i v hm).1
    have hle : g.Le gf := ⟨(Gh.setB_le (x := (bb, ss, m * sz)) (hfr hh.next (Nat.le_refl _) 0)).b, hmle⟩
    have hws := hw.same ho.size ho.old
    have hnew : ∀ o' v' y, gf.B o' v' = some y → (o' = hh.next ∧ v' = 0 ∧ y = (bb, ss, m * sz)) ∨ g.B o' v' = some y := fun o' v' y e => Gh.setB_cases e
    have hor := r2.obj o _ hgo
    obtain ⟨hn0, ca, ff, hck⟩ := hor.2 0 (Nat.le_refl _) (Nat.le_refl _) bb ss (m * sz) hB0
    refine ⟨.returned (.agg xa), w2, fr2, ⟨gf, ?_, ?_, ?_⟩, Steps.trans hst r5, by rw [r4, e1], x1, x2, by rw [r3, e2], .agg xa, rfl, x3⟩
    · refine ⟨hle, Nat.le_succ _, rfl, fun _ h => h, fun p _ h2 _ => ?_, fun p h1 _ => ?_, fun p h1 h2 => ?_, fun p v y e => ?_, ho.size, fun p v b s n e hlt => ?_, fun b hb _ => ho.old b hb, ho.tape, ho.os, ho.out, ?_⟩
      · rw [AHeap.get_alloc, if_neg (by omega)]
      · rw [AHeap.get_alloc, if_neg (by omega)]
      · rw [AHeap.get_alloc, if_neg (by omega)]; exact h2
      · rcases hnew p v y e with ⟨rfl, _, _⟩ | e
        · exact .inr (.inl ⟨Nat.le_refl _, Nat.lt_succ_self _⟩)
        · exact .inl e
      · rcases hnew p v _ e with ⟨_, _, e⟩ | e
        · simp only [Prod.mk.injEq] at e; omega
        · exact ⟨v, s, n, e⟩
      · intro b i v hm
        rcases hmof b i v hm with ⟨h1, _⟩ | ⟨_, h1⟩
        · exact .inr h1
        · exact .inl h1
    · refine ⟨fun p x hx => ?_, fun p v b s n e => ?_, fun p v p' v' b s n s' n' e e' => ?_, fun b i v hm => ?_, fun b i u hm p v s n e => ?_⟩
      · rw [AHeap.get_alloc] at hx
        split at hx
        · rename_i hp; subst hp
          simp only [Option.some.injEq] at hx; subst hx
          refine ⟨fun v hv => ?_, fun v q1 q2 b s n e => ?_⟩
          · cases e : gf.B hh.next v with
            | none => rfl
            | some y =>
              rcases hnew _ _ _ e with ⟨_, h1, _⟩ | e
              · omega
              · rw [hfr hh.next (Nat.le_refl _) v] at e; cases e
          · obtain rfl : v = 0 := by omega
            rcases hnew _ _ _ e with ⟨_, _, e⟩ | e
            · simp only [Prod.mk.injEq] at e
              obtain ⟨rfl, rfl, rfl⟩ := e
              refine ⟨hn0, ca, ff, ⟨hck.here, hck.size, hck.le, hck.les, hck.exact, hck.free, hck.plain, fun i x hi hx => ?_⟩⟩
              obtain ⟨v, a1, a2⟩ := hck.cell i x hi hx
              exact ⟨v, a1, VR.free hg2 a2 (free_of_dat (List.all_eq_true.1 hrd x (List.mem_of_getElem? hx)))⟩
            · rw [hfr hh.next (Nat.le_refl _) 0] at e; cases e
        · rename_i hp
          refine (hws.obj p x hx).move hle (fun v y e => ?_) (fun _ _ _ _ _ => rfl)
          rcases hnew p v y e with ⟨e', _⟩ | e
          · exact absurd e' hp
          · exact e
      · rcases hnew p v _ e with ⟨_, _, e⟩ | e
        · simp only [Prod.mk.injEq] at e; omega
        · exact hws.bnd p v b s n e
      · rcases hnew p v _ e with ⟨h1, _, h2⟩ | e <;> rcases hnew p' v' _ e' with ⟨h3, _, h4⟩ | e'
        · rw [h1, h3]
        · simp only [Prod.mk.injEq] at h2; have := hw.bnd p' v' b s' n' e'; omega
        · simp only [Prod.mk.injEq] at h4; have := hw.bnd p v b s n e; omega
        · exact hws.inj p v p' v' b s n s' n' e e'
      · rcases hmof b i v hm with ⟨h1, _, h3⟩ | ⟨_, h1⟩
        · refine ⟨h3, ?_⟩
          rcases Nat.lt_or_ge b w2.heap.size with a | a
          · exact a
          · exfalso
            have hn : w2.heap[b]? = none := Array.getElem?_eq_none a
            unfold World.cell? at h3
            simp [hn] at h3
        · exact hws.ro b i v h1
      · rcases hnew p v _ e with ⟨_, _, e⟩ | e
        · simp only [Prod.mk.injEq] at e
          rcases hmof b i u hm with ⟨_, h2, _⟩ | ⟨h1, _⟩
          · exact h2 e.1
          · omega
        · rcases hmof b i u hm with ⟨h1, _, _⟩ | ⟨_, h1⟩
          · have := hw.bnd p v b s n e; omega
          · exact hw.dis b i u h1 p v s n e
    · refine VR.agg_iff.2 ⟨xa, rfl, ?_⟩
      rw [hvs]
      refine VRs.append (VRs.free hg2 (frees_of_dat hpre) hvp) ⟨.sl (Gh.setB_same g hh.next 0 (bb, ss, m * sz)) k1 k2 k3, trivial⟩
  have fin2 : ∀ fr0 : Frame, Steps P (lone (Frame.enter P f vs.toArray .normal) cs w) (lone fr0 cs w') → fr0.mode = .returning → fr0.fn = f → fr0.kind = .normal → fr0.defers = a'.defers → fr0.tmps = a'.tmps → _ := fun fr0 a1 a2 a3 a4 a5 a6 => fin fr0 a1 a2 a3 a4 a5 a6
  rcases hx with rfl | rfl
  · obtain ⟨k2, q5⟩ := q5
    obtain ⟨e, w2, fr, z1, z2, z3, z4, z5, z6, x, rfl, z7⟩ := fin2 _ (Steps.trans q5 (.one (fstep_ret rfl))) rfl rfl rfl rfl rfl
    exact ⟨.returned x, w2, fr, z1, z2, z3, z4, z5, z6, fn, by rw [z3]; exact hf, z7⟩
  · obtain ⟨e, w2, fr, z1, z2, z3, z4, z5, z6, x, rfl, z7⟩ := fin2 _ (Steps.trans q5 (.one (fstep_end rfl))) rfl rfl rfl rfl rfl
    exact ⟨.returned x, w2, fr, z1, z2, z3, z4, z5, z6, fn, by rw [z3]; exact hf, z7⟩
end
end Go.AI
namespace Go.AI
theorem rec_ofH {P : Program} (C : FuncId → List AV → AHeap → AV → AHeap → Prop) (hfun : ∀ f x h v h1 v' h1', C f x h v h1 → C f x h v' h1' → v = v' ∧ h1 = h1') (hok : ∀ f x h v h', C f x h v h' → CallOK P f x h (.ret v) h') :
    ∃ R, RecOK P R ∧ ∀ f x h v h', C f x h v h' → R.call .normal f x .none h = some (.ret v, .none, h') := by
  have hex : ∀ q : FuncId × List AV × AHeap, ∃ o : Option (AV × AHeap), ∀ v h', o = some (v, h') ↔ C q.1 q.2.1 q.2.2 v h' := by
    rintro ⟨f, x, h⟩
    rcases Classical.em (∃ v h', C f x h v h') with ⟨v, h', hv⟩ | hn
    · exact ⟨some (v, h'), fun u k => ⟨fun e => (by cases e; exact hv), fun hu => (by obtain ⟨rfl, rfl⟩ := hfun f x h v h' u k hv hu; rfl)⟩⟩
    · exact ⟨none, fun u k => ⟨fun e => (by cases e), fun hu => absurd ⟨u, k, hu⟩ hn⟩⟩
  obtain ⟨F, hF⟩ := Classical.axiomOfChoice hex
  refine ⟨{ call := fun kind f x cm h => match kind, cm with
    | .normal, .none => (F (f, x, h)).map fun v => (.ret v.1, .none, v.2)
    | _, _ => none, loop := fun _ _ _ => none, round := fun _ _ _ => none }, ⟨?_, ?_, ?_, ?_⟩, ?_⟩
  · intro f args h out cm' h' e
    dsimp only at e
    cases hv : F (f, args, h) with
    | none => rw [hv] at e; cases e
    | some v =>
      rw [hv] at e
      simp only [Option.map_some, Option.some.injEq, Prod.mk.injEq] at e
      obtain ⟨rfl, _, rfl⟩ := e
      exact hok f args h v.1 v.2 ((hF (f, args, h) v.1 v.2).1 hv)
  · intro f args cm h out cm' h' _ e; cases e
  · intro body cx st ex st' e; cases e
  · intro l args h out h' e; cases e
  · intro f x h v h' hc
    dsimp only
    rw [(hF (f, x, h) v h').2 hc]
    rfl
end Go.AI
end

/-
  Slices cut at the front; elements of a slice of the function's own.
-/
section
namespace Go.AI
section
variable {P : Program} {R : Rec} {cx : Ctx} {ops : Array Oper}

theorem DrawW.cutFrom {d : Tmp} {t ty e : TypeId} {x lo : Operand} {pos : String} {af : Array Edge} {rest : List Oper} {i aid : Nat} {es fs : List (Nat × List Nat)} {tm : Tr AV} {df : List ADef} {cm : AMode} {h : AHeap} {rows : List (List AV)} {sz k : Nat} {kk : IntKind} {K : Book → ASt → Prop}
    (hx : ev tm x = .isl rows sz) (hlo : ev tm lo = .sc (.int kk (k : Int))) (hu : P.underlying t = some (.slice e)) (hs : sizeT P e = some sz) (hk1 : k ≤ rows.length) (hd : Nat.blt d cx.tn = true)
    (hk : DrawW P R cx ops rest (i + 1) aid ⟨es, (i, []) :: fs⟩ ⟨tm.put d (.isl (rows.drop k) sz), df, cm, h⟩ K) : DrawW P R cx ops (⟨some d, .slice t x (some lo) none none, ty, pos, af, none⟩ :: rest) i aid ⟨es, fs⟩ ⟨tm, df, cm, h⟩ K := by
  refine DrawW.val (ids := []) (h' := { objs := .leaf, next := h.next, floor := h.floor, wr := h.wr }) rfl rfl rfl ?_ (by simp) hd hk
  simp only [aop, Option.map_some, Option.map_none]
  rw [evo_of _ tm x (by simp [Op.operands]), evo_of _ tm lo (by simp [Op.operands]), hx, hlo]
  simp only [aslice, hu, hs, optNat, natOfA, Int.natCast_nonneg, if_true, Int.toNat_natCast, hk1, Nat.le_refl, and_self]
  rw [List.take_of_length_le (by simp)]
  simp [AI.val, onlyA]

theorem DrawW.indexSl {d : Tmp} {t ty e : TypeId} {x j : Operand} {pos : String} {af : Array Edge} {rest : List Oper} {i aid : Nat} {es fs : List (Nat × List Nat)} {tm : Tr AV} {df : List ADef} {cm : AMode} {h : AHeap} {o ver n off sz len k : Nat} {cap : Option Nat} {kk : IntKind} {K : Book → ASt → Prop}
    (hx : ev tm x = .sl o ver n off sz len cap) (hi : ev tm j = .sc (.int kk (k : Int))) (hu : P.underlying t = some (.slice e)) (hs : sizeT P e = some sz) (hlt : k < len) (hd : Nat.blt d cx.tn = true)
    (hk : DrawW P R cx ops rest (i + 1) aid ⟨es, (i, []) :: fs⟩ ⟨tm.put d (.ref o ver n (off + k * sz)), df, cm, h⟩ K) : DrawW P R cx ops (⟨some d, .indexAddr t x j, ty, pos, af, none⟩ :: rest) i aid ⟨es, fs⟩ ⟨tm, df, cm, h⟩ K := by
  refine DrawW.val (ids := []) (h' := { objs := .leaf, next := h.next, floor := h.floor, wr := h.wr }) rfl rfl rfl ?_ (by simp) hd hk
  simp only [aop]
  rw [evo_of _ tm x (by simp [Op.operands]), evo_of _ tm j (by simp [Op.operands]), hx, hi]
  simp only [aindexAddr, hu, natOfA, Int.natCast_nonneg, if_true, hs, Int.toNat_natCast, hlt, and_self]
  simp [AI.val, onlyA]

theorem splice_rows {sz : Nat} : ∀ {rows : List (List AV)} {k : Nat} {r : List AV}, (∀ q, q ∈ rows → q.length = sz) → r.length = sz → k < rows.length → splice rows.flatten (k * sz) r = (rows.set k r).flatten
  | [], k, r, _, _, hk => by simp at hk
  | q :: rows, 0, r, hr, hl, _ => by
    have hq := hr q (by simp)
    simp only [splice, Nat.zero_mul, List.take_zero, List.nil_append, List.set_cons_zero, List.flatten_cons, Nat.zero_add, hl]
    rw [← hq, List.drop_left']
    rfl
  | q :: rows, k + 1, r, hr, hl, hk => by
    have hq := hr q (by simp)
    have ih := splice_rows (rows := rows) (k := k) (r := r) (fun p hp => hr p (by simp [hp])) hl (by simpa using hk)
    simp only [splice, List.set_cons_succ, List.flatten_cons] at ih ⊢
    have e : (k + 1) * sz = q.length + k * sz := by rw [hq, Nat.add_mul]; omega
    rw [e, List.take_append, List.drop_append]
    have e1 : q.take (q.length + k * sz) = q := List.take_of_length_le (by omega)
    have e2 : q.drop (q.length + k * sz + r.length) = [] := List.drop_eq_nil_of_le (by omega)
    rw [e1, e2, ← ih]
    simp only [Nat.add_sub_cancel_left, List.nil_append, List.append_assoc, List.append_cancel_left_eq]
    congr 2
    omega
end
end Go.AI
end

/-
  Answers that are known: a call whose arguments read as given data, and which hands back a plain value.
-/
section
namespace Go.AI

/-- a call on data, asked in any heap whose objects read as that data -/
theorem peek_call {P : Program} {f : FuncId} {args args' : List AV} {v : Value} {h1 : AHeap} {n : Nat} (hc : CallOK P f args' h0 (.ret (.sc v)) h1) (h : AHeap) (hs : snaps h n args = some args') : CallOK P f args h (.ret (.sc v)) h := by
  intro g w vs hw hf hv
  let g1 : Gh := ⟨fun _ _ => none, fun b i => w.cell? ⟨b, i, none⟩⟩
  have hcell : ∀ b i u, w.cell? ⟨b, i, none⟩ = some u → b < w.heap.size := by
    intro b i u hm
    rcases Nat.lt_or_ge b w.heap.size with a | a
    · exact a
    · exfalso
      have hn : w.heap[b]? = none := Array.getElem?_eq_none a
      unfold World.cell? at hm
      simp [hn] at hm
  have hw1 : W h0 g1 w := ⟨fun o x e => (by simp [h0, AHeap.get, Tr.get] at e), fun _ _ _ _ _ e => (by cases e), fun _ _ _ _ _ _ _ _ _ e => (by cases e), fun b i u hm => ⟨hm, hcell b i u hm⟩, fun _ _ _ _ _ _ _ _ e => (by cases e)⟩
  have hv1 : VRs g1 args' vs := snaps_ok (g2 := g1) hw (fun b i u hm => (hw.ro b i u hm).1) (fun _ _ _ _ _ _ _ _ hm => hm) hs hv
  refine (hc g1 w vs hw1 (fun _ _ _ => rfl) hv1).mono ?_
  rintro e w' ⟨g', st, hw', ho⟩
  have hold : ∀ b, b < w.heap.size → w'.heap[b]? = w.heap[b]? := fun b hb => st.fr b hb fun o v s n e => by cases e
  refine ⟨g, ⟨.refl g, Nat.le_refl _, rfl, fun _ h => h, fun _ _ _ _ => rfl, fun _ _ _ => rfl, fun _ _ h => h, fun _ _ _ h => .inl h, st.size, fun o v b s n e _ => ⟨v, s, n, e⟩, fun b hb _ => hold b hb, st.tape, st.os, st.out, fun _ _ _ h => .inl h⟩, hw.same st.size hold, ?_⟩
  cases e with
  | returned x => cases ho; exact .sc _
  | panicked _ => exact ho.elim
  | outgrown => exact ho.elim

def u8sEq : List UInt8 → List UInt8 → Bool
  | [], [] => true
  | a :: as, b :: bs => match Nat.beq a.toNat b.toNat with
    | true => u8sEq as bs
    | false => false
  | _, _ => false

theorem u8sEq_ok : ∀ {a b : List UInt8}, u8sEq a b = true → a = b
  | [], [], _ => rfl
  | [], _ :: _, h => by simp [u8sEq] at h
  | _ :: _, [], h => by simp [u8sEq] at h
  | a :: as, b :: bs, h => by
    unfold u8sEq at h
    split at h
    · rename_i e
      rw [UInt8.toNat_inj.1 (Nat.eq_of_beq_eq_true e), u8sEq_ok h]
    · cases h

def scEq : Value → Value → Bool
  | .int .i64 n, .int .i64 m => match n, m with
    | .ofNat a, .ofNat b => Nat.beq a b
    | _, _ => false
  | .string a, .string b => u8sEq a.data.toList b.data.toList
  | .slice none 0 0, .slice none 0 0 => true
  | .bool a, .bool b => match a, b with
    | true, true => true
    | false, false => true
    | _, _ => false
  | _, _ => false

theorem scEq_ok {a b : Value} (h : scEq a b = true) : a = b := by
  unfold scEq at h
  split at h
  · split at h
    · rw [Nat.eq_of_beq_eq_true h]
    · cases h
  · rename_i a b
    have := u8sEq_ok h
    obtain ⟨⟨a⟩⟩ := a
    obtain ⟨⟨b⟩⟩ := b
    simp at this
    rw [this]
  · rfl
  · split at h
    · rfl
    · rfl
    · cases h
  · cases h

mutual
def avEq : AV → AV → Bool
  | .sc a, .sc b => scEq a b
  | .agg a, .agg b => avsEq a b
  | .isl r s, .isl r' s' => match Nat.beq s s' with
    | true => avssEq r r'
    | false => false
  | _, _ => false
def avsEq : List AV → List AV → Bool
  | [], [] => true
  | a :: as, b :: bs => match avEq a b with
    | true => avsEq as bs
    | false => false
  | _, _ => false
def avssEq : List (List AV) → List (List AV) → Bool
  | [], [] => true
  | a :: as, b :: bs => match avsEq a b with
    | true => avssEq as bs
    | false => false
  | _, _ => false
end

mutual
theorem avEq_ok : ∀ (a b : AV), avEq a b = true → a = b
  | .sc a, b, h => by
    cases b <;> simp only [avEq] at h <;> try (cases h; done)
    rw [scEq_ok h]
  | .agg a, b, h => by
    cases b <;> simp only [avEq] at h <;> try (cases h; done)
    rw [avsEq_ok _ _ h]
  | .isl r s, b, h => by
    cases b <;> simp only [avEq] at h <;> try (cases h; done)
    split at h
    · rename_i e
      rw [avssEq_ok _ _ h, Nat.eq_of_beq_eq_true e]
    · cases h
  | .unk, b, h => by simp [avEq] at h
  | .ref _ _ _ _, b, h => by simp [avEq] at h
  | .sl _ _ _ _ _ _ _, b, h => by simp [avEq] at h
  | .esl, b, h => by simp [avEq] at h
  | .pref _, b, h => by simp [avEq] at h
  | .psl _ _ _ _, b, h => by simp [avEq] at h
  | .map _, b, h => by simp [avEq] at h
  | .func _ _ _, b, h => by simp [avEq] at h
  | .yld _, b, h => by simp [avEq] at h
  | .iface _ _, b, h => by simp [avEq] at h
  | .tuple _, b, h => by simp [avEq] at h
theorem avsEq_ok : ∀ (a b : List AV), avsEq a b = true → a = b
  | [], [], _ => rfl
  | [], _ :: _, h => by simp [avsEq] at h
  | _ :: _, [], h => by simp [avsEq] at h
  | a :: as, b :: bs, h => by
    simp only [avsEq] at h
    split at h
    · rename_i e
      rw [avEq_ok _ _ e, avsEq_ok _ _ h]
    · cases h
theorem avssEq_ok : ∀ (a b : List (List AV)), avssEq a b = true → a = b
  | [], [], _ => rfl
  | [], _ :: _, h => by simp [avssEq] at h
  | _ :: _, [], h => by simp [avssEq] at h
  | a :: as, b :: bs, h => by
    simp only [avssEq] at h
    split at h
    · rename_i e
      rw [avsEq_ok _ _ e, avssEq_ok _ _ h]
    · cases h
end

/-- one known answer: the function, its arguments, the plain value -/
structure Known where
  f : FuncId
  args : List AV
  v : Value

def lookK (f : FuncId) (args : List AV) (h : AHeap) : List Known → Option Value
  | [] => none
  | k :: ks => match Nat.beq k.f f with
    | true => (match snaps h 1000 args with
      | some a => (match avsEq a k.args with
        | true => some k.v
        | false => lookK f args h ks)
      | none => lookK f args h ks)
    | false => lookK f args h ks

def Rec.memo (tbl : List Known) (R : Rec) : Rec :=
  { R with call := fun kind f args cm h => match kind, cm with
    | .normal, .none => (match lookK f args h tbl with
      | some v => some (.ret (.sc v), .none, h)
      | none => R.call .normal f args .none h)
    | k, c => R.call k f args c h }

def KnownOK (P : Program) (tbl : List Known) : Prop := ∀ k, k ∈ tbl → ∃ h1, CallOK P k.f k.args h0 (.ret (.sc k.v)) h1

theorem lookK_ok {P : Program} {f : FuncId} {args : List AV} {h : AHeap} {v : Value} : ∀ {tbl : List Known}, KnownOK P tbl → lookK f args h tbl = some v → CallOK P f args h (.ret (.sc v)) h
  | [], _, e => by cases e
  | k :: ks, hk, e => by
    have ih := fun e => lookK_ok (P := P) (f := f) (args := args) (h := h) (v := v) (tbl := ks) (fun x hx => hk x (List.mem_cons_of_mem _ hx)) e
    unfold lookK at e
    split at e
    · rename_i hf
      split at e
      · rename_i a ha
        split at e
        · rename_i hq
          simp only [Option.some.injEq] at e
          obtain ⟨h1, hc⟩ := hk k (List.mem_cons_self ..)
          rw [← avsEq_ok _ _ hq, Nat.eq_of_beq_eq_true hf, e] at hc
          exact peek_call hc h ha
        · exact ih e
      · exact ih e
    · exact ih e

theorem memo_ok {P : Program} {tbl : List Known} {R : Rec} (hk : KnownOK P tbl) (hR : RecOK P R) : RecOK P (R.memo tbl) where
  call := fun f args h out cm' h' e => by
    simp only [Rec.memo] at e
    split at e
    · rename_i v hv
      simp only [Option.some.injEq, Prod.mk.injEq] at e
      obtain ⟨rfl, _, rfl⟩ := e
      exact lookK_ok hk hv
    · exact hR.call _ _ _ _ _ _ e
  calld := fun f args cm h out cm' h' hn e => hR.calld f args cm h out cm' h' hn (by
    simp only [Rec.memo] at e
    exact e)
  loop := hR.loop
  round := hR.round

def recM (P : Program) (tbl : List Known) : Nat → Rec
  | 0 => Rec.zero
  | n + 1 => (Rec.succ P (recM P tbl n)).memo tbl

theorem recM_ok {P : Program} {tbl : List Known} (hP : ProgOK P) (hk : KnownOK P tbl) : ∀ n, RecOK P (recM P tbl n)
  | 0 => rec_zero
  | n + 1 => memo_ok hk (rec_succ hP (recM_ok hP hk n))

/-- a closed call hands back a plain value: as a test -/
def givesT (R : Rec) (f : FuncId) (args : List AV) (v : Value) : Bool :=
  match R.call .normal f args .none h0 with
  | some (.ret (.sc u), _, _) => scEq u v
  | _ => false

theorem givesT_ok {P : Program} {R : Rec} (hR : RecOK P R) {f : FuncId} {args : List AV} {v : Value} (h : givesT R f args v = true) : ∃ h1, CallOK P f args h0 (.ret (.sc v)) h1 := by
  unfold givesT at h
  split at h
  · rename_i u cm h1 e
    have := scEq_ok h
    subst this
    exact ⟨h1, hR.call _ _ _ _ _ _ e⟩
  · cases h
end Go.AI
end
