/-
  Steps of the machine in a frame of whatever kind.
-/
import Derived.Defers
import Derived.Test.YtbdcnekkebhhhaaGreatDoorAc
set_option linter.all false

section
namespace Go.AI
def frm (b : Frame) (a : Act) (todo : List Item) : Frame := { b with tmps := a.tmps, todo := todo, defers := a.defers, mode := .run }
theorem frm_eval (b : Frame) (a : Act) (todo : List Item) : (frm b a todo).eval = a.eval := by
  funext x; cases x <;> rfl
section moves
variable {P : Program} {b : Frame} {a : Act} {k : List Item} {cs : List Frame} {w : World}
theorem fstep_skip : step P (lone (frm b a (.code .skip :: k)) cs w) = .next (lone (frm b a k) cs w) :=
  step_lone_go (by simp [stepG, stepG.exec, frm])
theorem fstep_label {l : Nat} : step P (lone (frm b a (.code (.label l) :: k)) cs w) = .next (lone (frm b a k) cs w) :=
  step_lone_go (by simp [stepG, stepG.exec, frm])
theorem fstep_inBlock {id : Nat} : step P (lone (frm b a (.inBlock id :: k)) cs w) = .next (lone (frm b a k) cs w) :=
  step_lone_go (by simp [stepG, stepG.exec, frm])
theorem fstep_inScope {c : Code} : step P (lone (frm b a (.inScope c :: k)) cs w) = .next (lone (frm b a k) cs w) :=
  step_lone_go (by simp [stepG, stepG.exec, frm])
theorem fstep_seq {x y : Code} : step P (lone (frm b a (.code (.seq x y) :: k)) cs w) = .next (lone (frm b a (.code x :: .code y :: k)) cs w) :=
  step_lone_go (by simp [stepG, stepG.exec, frm])
theorem fstep_cond {c : Operand} {x y : Code} {t : Bool} (h : a.eval c = .bool t) :
    step P (lone (frm b a (.code (.cond c x y) :: k)) cs w) = .next (lone (frm b a (.code (if t then x else y) :: k)) cs w) := by
  have he : (frm b a (.code (.cond c x y) :: k)).eval c = .bool t := by rw [frm_eval]; exact h
  refine step_lone_go ?_
  simp only [frm] at he
  simp [stepG, stepG.exec, frm, he]
theorem fstep_block {id : Nat} {c : Code} : step P (lone (frm b a (.code (.block id c) :: k)) cs w) = .next (lone (frm b a (.code c :: .inBlock id :: k)) cs w) :=
  step_lone_go (by simp [stepG, stepG.exec, frm])
theorem fstep_scope {c : Code} : step P (lone (frm b a (.code (.scope c) :: k)) cs w) = .next (lone (frm b a (.code c :: .inScope c :: k)) cs w) :=
  step_lone_go (by simp [stepG, stepG.exec, frm])
theorem fstep_loop {c : Code} : step P (lone (frm b a (.code (.loop c) :: k)) cs w) = .next (lone (frm b a (.code c :: .inLoop c :: k)) cs w) :=
  step_lone_go (by simp [stepG, stepG.exec, frm])
theorem fstep_inLoop {c : Code} : step P (lone (frm b a (.inLoop c :: k)) cs w) = .next (lone (frm b a (.code c :: .inLoop c :: k)) cs w) :=
  step_lone_go (by simp [stepG, stepG.exec, frm])
theorem fstep_exit {id : Nat} {k' : List Item} (h : exitTo id k = some k') : step P (lone (frm b a (.code (.exit id) :: k)) cs w) = .next (lone (frm b a k') cs w) :=
  step_lone_go (by simp [stepG, stepG.exec, frm, h])
theorem fstep_region {id : Nat} {ops : Array Oper} :
    step P (lone (frm b a (.code (.region id ops false) :: k)) cs w) = .next (lone (frm b a (.inRegion ops (List.range ops.size) :: k)) cs w) :=
  step_lone_go (by simp [stepG, stepG.exec, frm])
theorem fstep_region_draw {id : Nat} {ops : Array Oper} :
    step P (lone (frm b a (.code (.region id ops true) :: k)) cs w) =
      .next (lone (frm b a (.inRegion ops (Region.schedule (P.follows .mixedOrders) ops (w.tape w.drawn (.order b.fn id))) :: k)) cs { w with drawn := w.drawn + 1 }) :=
  step_lone_go (by simp [stepG, stepG.exec, frm, choose, Sem.run, Question.forced, Question.cut])
theorem fstep_region_end {ops : Array Oper} : step P (lone (frm b a (.inRegion ops [] :: k)) cs w) = .next (lone (frm b a k) cs w) :=
  step_lone_go (by simp [stepG, stepG.exec, frm])
theorem frm_finish (ops : Array Oper) (i : Nat) (rest : List Nat) (v : Value) :
    (frm b a (.inRegion ops (i :: rest) :: k)).finish v = frm b (a.put ((ops[i]?).bind (·.dst)) v) (.inRegion ops rest :: k) := by
  cases h : (ops[i]?).bind (·.dst) <;> simp [Frame.finish, frm, Act.put, h]
theorem fstep_op_skip {ops : Array Oper} {i : Nat} {rest : List Nat} (h : ((ops[i]?).map (Region.wanted · (yielded ops a.tmps))).getD false = false) :
    step P (lone (frm b a (.inRegion ops (i :: rest) :: k)) cs w) = .next (lone (frm b (a.put ((ops[i]?).bind (·.dst)) undef) (.inRegion ops rest :: k)) cs w) := by
  rw [← frm_finish]
  exact step_lone_go (by
    have h' := h
    simp only [frm] at *
    simp [stepG, stepG.exec, h'])
def noDefer (b : Frame) (o : Oper) : Prop := b.roundOf = none ∨ ∀ c, o.op ≠ .defer c
theorem fstepG_op {ops : Array Oper} {i : Nat} {rest : List Nat} {o : Oper} (ho : ops[i]? = some o) (hw : Region.wanted o (yielded ops a.tmps) = true) (hd : noDefer b o) :
    stepG P true { frame := frm b a (.inRegion ops (i :: rest) :: k), callers := cs, status := .running, dying := none } w =
      stepG.apply P true (frm b a (.inRegion ops (i :: rest) :: k)) cs none (execOp a.eval o) w := by
  have he := frm_eval b a (.inRegion ops (i :: rest) :: k)
  simp only [frm] at he
  have : stepG.oper P true (frm b a (.inRegion ops (i :: rest) :: k)) cs none w = stepG.apply P true (frm b a (.inRegion ops (i :: rest) :: k)) cs none (execOp a.eval o) w := by
    unfold stepG.oper
    simp only [Frame.oper?, frm, ho, he]
    rcases hd with hr | hd
    · rw [hr]
    · cases hb : b.roundOf with
      | none => rfl
      | some l =>
        cases hop : o.op <;> first | rfl | exact absurd hop (hd _)
  rw [← this]
  simp [stepG, stepG.exec, frm, ho, hw]
theorem fstep_value {ops : Array Oper} {i : Nat} {rest : List Nat} {o : Oper} {x : Value} {w' : World} (ho : ops[i]? = some o) (hw : Region.wanted o (yielded ops a.tmps) = true) (hd : noDefer b o)
    (hr : (execOp a.eval o).run P w = .ok (.value x) w') :
    step P (lone (frm b a (.inRegion ops (i :: rest) :: k)) cs w) = .next (lone (frm b (a.put o.dst x) (.inRegion ops rest :: k)) cs w') := by
  have hfin := frm_finish (b := b) (a := a) (k := k) ops i rest x
  rw [ho] at hfin
  refine step_lone_go ?_
  rw [fstepG_op ho hw hd, ← show (frm b a (.inRegion ops (i :: rest) :: k)).finish x = frm b (a.put o.dst x) (.inRegion ops rest :: k) from hfin]
  simp [stepG.apply, hr]
theorem fstep_skipv {ops : Array Oper} {i : Nat} {rest : List Nat} {o : Oper} {w' : World} (ho : ops[i]? = some o) (hw : Region.wanted o (yielded ops a.tmps) = true) (hd : noDefer b o)
    (hr : (execOp a.eval o).run P w = .ok .skip w') :
    step P (lone (frm b a (.inRegion ops (i :: rest) :: k)) cs w) = .next (lone (frm b (a.put o.dst undef) (.inRegion ops rest :: k)) cs w') := by
  have hfin := frm_finish (b := b) (a := a) (k := k) ops i rest undef
  rw [ho] at hfin
  refine step_lone_go ?_
  rw [fstepG_op ho hw hd, ← show (frm b a (.inRegion ops (i :: rest) :: k)).finish undef = frm b (a.put o.dst undef) (.inRegion ops rest :: k) from hfin]
  simp [stepG.apply, hr]
theorem fstep_defer {ops : Array Oper} {i : Nat} {rest : List Nat} {o : Oper} {d : Deferred} {w' : World} (ho : ops[i]? = some o) (hw : Region.wanted o (yielded ops a.tmps) = true) (hd : noDefer b o)
    (hr : (execOp a.eval o).run P w = .ok (.defer d) w') :
    step P (lone (frm b a (.inRegion ops (i :: rest) :: k)) cs w) = .next (lone (frm b ({ a with defers := d :: a.defers }.put o.dst undef) (.inRegion ops rest :: k)) cs w') := by
  have hfin := frm_finish (b := b) (a := { a with defers := d :: a.defers }) (k := k) ops i rest undef
  rw [ho] at hfin
  refine step_lone_go ?_
  rw [fstepG_op ho hw hd]
  have e : ({ frm b a (.inRegion ops (i :: rest) :: k) with defers := d :: a.defers } : Frame).finish undef = frm b ({ a with defers := d :: a.defers }.put o.dst undef) (.inRegion ops rest :: k) := hfin
  simp only [stepG.apply, Sem.runT_eq, hr, GStep.bare_after]
  exact congrArg (fun fr => GStep.go { frame := fr, callers := cs, status := .running, dying := none } w') e
theorem fstep_enter {ops : Array Oper} {i : Nat} {rest : List Nat} {o : Oper} {f : FuncId} {args : Array Value} {w' : World} (ho : ops[i]? = some o) (hw : Region.wanted o (yielded ops a.tmps) = true) (hd : noDefer b o)
    (hr : (execOp a.eval o).run P w = .ok (.enter f args) w') :
    step P (lone (frm b a (.inRegion ops (i :: rest) :: k)) cs w) = .next (lone (Frame.enter P f args .normal) (frm b a (.inRegion ops (i :: rest) :: k) :: cs) w') := by
  refine step_lone_go ?_
  rw [fstepG_op ho hw hd]
  simp [stepG.apply, hr, frm]
theorem fstep_round {ops : Array Oper} {i : Nat} {rest : List Nat} {o : Oper} {l : Nat} {f : FuncId} {tmps : Array Value} {assign body : Code} {w' : World} (ho : ops[i]? = some o) (hw : Region.wanted o (yielded ops a.tmps) = true) (hd : noDefer b o)
    (hr : (execOp a.eval o).run P w = .ok (.round l f tmps assign body) w') :
    step P (lone (frm b a (.inRegion ops (i :: rest) :: k)) cs w) = .next (lone (Frame.round l f tmps assign body .normal) (frm b a (.inRegion ops (i :: rest) :: k) :: cs) w') := by
  refine step_lone_go ?_
  rw [fstepG_op ho hw hd]
  simp [stepG.apply, hr]
theorem fstep_panic {ops : Array Oper} {i : Nat} {rest : List Nat} {o : Oper} {x : Value} {w' : World} (ho : ops[i]? = some o) (hw : Region.wanted o (yielded ops a.tmps) = true) (hd : noDefer b o)
    (hr : (execOp a.eval o).run P w = .halt (.panic x) w') :
    step P (lone (frm b a (.inRegion ops (i :: rest) :: k)) cs w) = .next (lone { frm b a (.inRegion ops (i :: rest) :: k) with mode := .panicking [{ v := x, recovered := false }] } cs w') := by
  refine step_lone_go ?_
  rw [fstepG_op ho hw hd]
  simp [stepG.apply, hr, frm, Frame.raise]
theorem fstep_recover {ops : Array Oper} {i : Nat} {rest : List Nat} {o : Oper} {w' : World} (ho : ops[i]? = some o) (hw : Region.wanted o (yielded ops a.tmps) = true) (hd : noDefer b o) (hn : b.roundOf = none)
    (hr : (execOp a.eval o).run P w = .ok .recover w') :
    step P (lone (frm b a (.inRegion ops (i :: rest) :: k)) cs w) = .next (match tryRecover (frm b a (.inRegion ops (i :: rest) :: k)) cs with
      | some (v, cs') => lone (frm b (a.put o.dst v) (.inRegion ops rest :: k)) cs' w'
      | none => lone (frm b (a.put o.dst .nilIface) (.inRegion ops rest :: k)) cs w') := by
  have hfin := fun x => frm_finish (b := b) (a := a) (k := k) ops i rest x
  rw [ho] at hfin
  cases ht : tryRecover (frm b a (.inRegion ops (i :: rest) :: k)) cs with
  | none =>
    simp only
    refine step_lone_go ?_
    rw [fstepG_op ho hw hd, ← show (frm b a (.inRegion ops (i :: rest) :: k)).finish .nilIface = frm b (a.put o.dst .nilIface) (.inRegion ops rest :: k) from hfin _]
    have hn' : (frm b a (.inRegion ops (i :: rest) :: k)).roundOf = none := hn
    simp [stepG.apply, hr, hn', ht]
  | some p =>
    obtain ⟨v, cs'⟩ := p
    simp only
    refine step_lone_go ?_
    rw [fstepG_op ho hw hd, ← show (frm b a (.inRegion ops (i :: rest) :: k)).finish v = frm b (a.put o.dst v) (.inRegion ops rest :: k) from hfin _]
    have hn' : (frm b a (.inRegion ops (i :: rest) :: k)).roundOf = none := hn
    simp [stepG.apply, hr, hn', ht]
end moves
end Go.AI
end

/-
  An operation in a frame, with the calls that it makes.
-/
section
namespace Go.AI
def DefsR (g : Gh) : List ADef → List Deferred → Prop
  | [], [] => True
  | d :: ds, e :: es => DefR g d e ∧ DefsR g ds es
  | _, _ => False
theorem DefsR.mono {g g' : Gh} (hl : g.Le g') : ∀ {ds : List ADef} {es : List Deferred}, DefsR g ds es → DefsR g' ds es
  | [], [], _ => trivial
  | _ :: _, _ :: _, h => ⟨h.1.mono hl, DefsR.mono hl h.2⟩
  | [], _ :: _, h => h.elim
  | _ :: _, [], h => h.elim
structure ActR (g : Gh) (tn : Nat) (st : ASt) (a : Act) : Prop where
  tm : TR g st.tm a.tmps
  size : a.tmps.size = tn
  df : DefsR g st.df a.defers
theorem ActR.mono {g g' : Gh} {tn : Nat} {st : ASt} {a : Act} (hl : g.Le g') (h : ActR g tn st a) : ActR g' tn st a := ⟨h.tm.mono hl, h.size, h.df.mono hl⟩
def RoundR (g : Gh) : Option Nat → Option Nat → Prop
  | none, r => r = none
  | some l, r => ∃ b s n, g.B l 0 = some (b, s, n) ∧ r = some b
structure CtxR (g : Gh) (cx : Ctx) (b : Frame) : Prop where
  fn : b.fn = cx.fn
  kind : b.kind = cx.kind
  round : RoundR g cx.round b.roundOf
theorem CtxR.mono {g g' : Gh} {cx : Ctx} {b : Frame} (hl : g.Le g') (h : CtxR g cx b) : CtxR g' cx b := by
  refine ⟨h.fn, h.kind, ?_⟩
  have hr := h.round
  cases hc : cx.round with
  | none => rw [hc] at hr; exact hr
  | some l => rw [hc] at hr; obtain ⟨b', s, n, h1, h2⟩ := hr; exact ⟨b', s, n, hl.b _ _ _ h1, h2⟩
def ModeV (g : Gh) : AMode → FrameMode → Prop
  | .none, _ => False
  | .ret, m => m = .returning
  | .pan v r, m => ∃ x, m = .panicking [{ v := x, recovered := r }] ∧ VR g v x
theorem ModeV.mono {g g' : Gh} (hl : g.Le g') {cm : AMode} {m : FrameMode} (h : ModeV g cm m) : ModeV g' cm m := by
  cases cm with
  | none => exact h
  | ret => exact h
  | pan v r => obtain ⟨x, h1, h2⟩ := h; exact ⟨x, h1, h2.mono hl⟩
def ModeR (g : Gh) (cm : AMode) (cs : List Frame) : Prop :=
  match cm with
  | .none => True
  | cm => ∃ c r, cs = c :: r ∧ ModeV g cm c.mode
theorem ModeR.mono {g g' : Gh} (hl : g.Le g') {cm : AMode} {cs : List Frame} (h : ModeR g cm cs) : ModeR g' cm cs := by
  cases cm with
  | none => trivial
  | ret => obtain ⟨c, r, e, h1⟩ := h; exact ⟨c, r, e, h1.mono hl⟩
  | pan v b => obtain ⟨c, r, e, h1⟩ := h; exact ⟨c, r, e, h1.mono hl⟩
def CsOK (cm : AMode) (cs cs' : List Frame) : Prop :=
  (cm = .none → cs' = cs) ∧ (cs' = cs ∨ ∃ c r m, cs = c :: r ∧ cs' = { c with mode := m } :: r)
theorem CsOK.refl (cm : AMode) (cs : List Frame) : CsOK cm cs cs := ⟨fun _ => rfl, .inl rfl⟩
theorem CsOK.trans {cm cm' : AMode} {a b c : List Frame} (hn : cm = .none → cm' = .none) (h : CsOK cm a b) (h' : CsOK cm' b c) : CsOK cm a c := by
  refine ⟨fun e => (h'.1 (hn e)).trans (h.1 e), ?_⟩
  rcases h'.2 with e | ⟨x, r, m, e1, e2⟩
  · rw [e]; exact h.2
  · rcases h.2 with e3 | ⟨y, r', m', e3, e4⟩
    · rw [← e3]; exact .inr ⟨x, r, m, e1, e2⟩
    · rw [e4] at e1
      simp only [List.cons.injEq] at e1
      obtain ⟨rfl, rfl⟩ := e1
      exact .inr ⟨y, r', m, e3, e2⟩
def OutR (g : Gh) : AOut → Ending → Prop
  | .ret v, .returned x => VR g v x
  | .pan v, .panicked ch => ∃ x, ch = [{ v := x, recovered := false }] ∧ VR g v x
  | _, _ => False
def CallOK (P : Program) (f : FuncId) (args : List AV) (h : AHeap) (out : AOut) (h' : AHeap) : Prop :=
  ∀ (g : Gh) (w : World) (vs : List Value), W h g w → Fresh h g → VRs g args vs →
    Calls P f vs.toArray w fun e w' => ∃ g', Step h g w h' g' w' ∧ W h' g' w' ∧ OutR g' out e
def CallDOK (P : Program) (f : FuncId) (args : List AV) (cm : AMode) (h : AHeap) (out : AOut) (cm' : AMode) (h' : AHeap) : Prop :=
  ∀ (g : Gh) (w : World) (vs : List Value) (u : FrameMode), W h g w → Fresh h g → VRs g args vs → ModeV g cm u →
    CallsD P f vs.toArray u w fun e u' w' => ∃ g', Step h g w h' g' w' ∧ W h' g' w' ∧ (cm' ≠ .none → ModeV g' cm' u') ∧ OutR g' out e
def RoundOK (P : Program) (l : Nat) (args : List AV) (h : AHeap) (out : AOut) (h' : AHeap) : Prop :=
  ∀ (g : Gh) (w : World) (vs : List Value) (rb s n : Nat), W h g w → Fresh h g → VRs g args vs → g.B l 0 = some (rb, s, n) →
    ∃ f tmps assign body, (Instr.yield rb vs.toArray).run P w = .ok (.round rb f tmps assign body) w ∧ ∀ (c : Frame) (cs : List Frame), ∃ g' w', Step h g w h' g' w' ∧ W h' g' w' ∧
      (match out with
       | .ret v => ∃ x, VR g' v x ∧ Steps P (lone (Frame.round rb f tmps assign body .normal) (c :: cs) w) (lone (c.finish x) cs w')
       | .pan v => ∃ x, VR g' v x ∧ Steps P (lone (Frame.round rb f tmps assign body .normal) (c :: cs) w) (lone (c.raise [{ v := x, recovered := false }]) cs w'))
def Arr (P : Program) (m : Machine) (b : Frame) (k : List Item) (cs : List Frame) (g : Gh) : AEx → Act → World → Prop
  | .normal, a, w => Steps P m (lone (frm b a k) cs w)
  | .exit id, a, w => (∀ k', exitTo id k = some k' → Steps P m (lone (frm b a k') cs w)) ∧
      (exitTo id k = none → ∃ k2, exitTo id k2 = none ∧ Steps P m (lone (frm b a (.code (.exit id) :: k2)) cs w))
  | .ret, a, w => ∃ k2, Steps P m (lone (frm b a (.code .ret :: k2)) cs w)
  | .panic v, a, w => ∃ todo x, VR g v x ∧ Steps P m (lone { frm b a todo with mode := .panicking [{ v := x, recovered := false }] } cs w)
theorem Arr.of_steps {P : Program} {m m' : Machine} {b : Frame} {k : List Item} {cs : List Frame} {g : Gh} {ex : AEx} {a : Act} {w : World} (h : Steps P m m') (h' : Arr P m' b k cs g ex a w) : Arr P m b k cs g ex a w := by
  cases ex with
  | normal => exact h.trans h'
  | exit id => exact ⟨fun k' e => h.trans (h'.1 k' e), fun e => let ⟨k2, e2, s⟩ := h'.2 e; ⟨k2, e2, h.trans s⟩⟩
  | ret => obtain ⟨k2, s⟩ := h'; exact ⟨k2, h.trans s⟩
  | panic v => obtain ⟨t, x, hx, s⟩ := h'; exact ⟨t, x, hx, h.trans s⟩
def Runs (P : Program) (cx : Ctx) (st : ASt) (ex : AEx) (st' : ASt) (todo : List Item → List Item) : Prop :=
  ∀ (g : Gh) (w : World) (b : Frame) (a : Act) (k : List Item) (cs : List Frame), W st.h g w → Fresh st.h g → CtxR g cx b → ActR g cx.tn st a → ModeR g st.cm cs →
    ∃ g' w' a' cs', Step st.h g w st'.h g' w' ∧ W st'.h g' w' ∧ ActR g' cx.tn st' a' ∧ CsOK st.cm cs cs' ∧ ModeR g' st'.cm cs' ∧ (st.cm = .none → st'.cm = .none) ∧
      Arr P (lone (frm b a (todo k)) cs w) b k cs' g' ex a' w'
structure RecOK (P : Program) (R : Rec) : Prop where
  call : ∀ f args h out cm' h', R.call .normal f args .none h = some (out, cm', h') → CallOK P f args h out h'
  calld : ∀ f args cm h out cm' h', cm ≠ .none → R.call .deferred f args cm h = some (out, cm', h') → CallDOK P f args cm h out cm' h'
  loop : ∀ body cx st ex st', R.loop body cx st = some (ex, st') → Runs P cx st ex st' (fun k => .code body :: .inLoop body :: k)
  round : ∀ l args h out h', R.round l args h = some (out, h') → RoundOK P l args h out h'
section
variable {P : Program} {R : Rec} {g : Gh} {w : World} {cx : Ctx} {st st' : ASt} {a : Act}
theorem ActR.ev {tn : Nat} (h : ActR g tn st a) (x : Operand) : VR g (ev st.tm x) (a.eval x) := by
  cases x with
  | tmp t =>
    show VR g (match st.tm.get t with | some v => v | none => .unk) (a.tmps.getD t undef)
    cases ht : st.tm.get t with
    | none => exact .unk _
    | some v =>
      obtain ⟨u, h1, h2⟩ := h.tm t v ht
      rw [Array.getD_eq_getD_getElem?, h1]
      exact h2
  | const v => exact VR.ofVal v
  | global n => exact .sc _
  | func f => exact .sc _
theorem ActR.put {tn : Nat} {dst : Option Tmp} {v : AV} {x : Value} (h : ActR g tn st a) (hp : st.put tn dst v = some st') (hv : VR g v x) : ActR g tn st' (a.put dst x) := by
  unfold ASt.put at hp
  cases dst with
  | none => simp only [Option.some.injEq] at hp; subst hp; exact h
  | some d =>
    simp only at hp
    split at hp
    · rename_i hd
      simp only [Option.some.injEq] at hp; subst hp
      refine ⟨?_, by simp [Act.put, h.size], h.df⟩
      intro t y hy
      simp only at hy
      rw [Tr.get_put] at hy
      simp only [Act.put]
      by_cases e : t = d
      · subst e
        rw [if_pos rfl] at hy
        simp only [Option.some.injEq] at hy; subst hy
        exact ⟨x, by simp [h.size, hd], hv⟩
      · rw [if_neg e] at hy
        obtain ⟨u, h1, h2⟩ := h.tm t y hy
        exact ⟨u, by rw [Array.getElem?_setIfInBounds_ne (Ne.symm e)]; exact h1, h2⟩
    · cases hp
theorem put_h {tn : Nat} {dst : Option Tmp} {v : AV} (hp : st.put tn dst v = some st') : st'.h = st.h ∧ st'.cm = st.cm ∧ st'.df = st.df := by
  unfold ASt.put at hp
  cases dst with
  | none => simp only [Option.some.injEq] at hp; subst hp; exact ⟨rfl, rfl, rfl⟩
  | some d =>
    simp only at hp
    split at hp
    · simp only [Option.some.injEq] at hp; subst hp; exact ⟨rfl, rfl, rfl⟩
    · cases hp
theorem wanted_ok {tn : Nat} {ops : Array Oper} {o : Oper} {b : Bool} (h : ActR g tn st a) (hr : wantedA ops o st.tm = some b) : Region.wanted o (yielded ops a.tmps) = b := by
  unfold wantedA at hr
  unfold Region.wanted
  cases hg : o.guard with
  | none => rw [hg] at hr; simpa using hr
  | some p =>
    obtain ⟨j, want⟩ := p
    rw [hg] at hr
    simp only at hr ⊢
    unfold yielded
    cases hd : (ops[j]?).bind (·.dst) with
    | none => rw [hd] at hr; cases hr
    | some d =>
      rw [hd] at hr
      simp only at hr
      cases ht : st.tm.get d with
      | none => rw [ht] at hr; cases hr
      | some v =>
        rw [ht] at hr
        obtain ⟨u, h1, h2⟩ := h.tm d v ht
        simp only [Option.bind_some, h1]
        split at hr
        · rename_i q hq
          simp only [Option.some.injEq] at hq; subst hq
          cases h2
          simp at hr ⊢
          rw [← hr]
          try (cases q <;> cases want <;> rfl)
        · rename_i q hq
          simp only [Option.some.injEq] at hq; subst hq
          obtain ⟨cs, rfl, _⟩ := VR.tuple_iff.1 h2
          simp at hr
          subst hr
          rfl
        · cases hr
theorem noDefer_of {o : Oper} {b : Frame} {ρ : Operand → AV} {cm : AMode} {h : AHeap} {r : ORes} (hc : CtxR g cx b) (hr : opRun P R cx ρ o cm h = some r) : noDefer b o := by
  cases hround : cx.round with
  | none => exact .inl (by have := hc.round; rw [hround] at this; exact this)
  | some l =>
    right
    intro c e
    unfold opRun at hr
    cases hop : aop P ρ o h with
    | none => rw [hop] at hr; cases hr
    | some p =>
      obtain ⟨r', h2⟩ := p
      rw [hop] at hr
      unfold aop at hop
      rw [e] at hop
      simp only [adefer] at hop
      split at hop
      · split at hop
        · simp only [Option.some.injEq, Prod.mk.injEq] at hop
          obtain ⟨rfl, rfl⟩ := hop
          simp [hround] at hr
        · cases hop
      · cases hop
def OResOK (P : Program) (g : Gh) (w : World) (h : AHeap) (cm : AMode) (b : Frame) (a : Act) (cs : List Frame) (ops : Array Oper) (i : Nat) (rest : List Nat) (k : List Item) (dst : Option Tmp) : ORes → Prop
  | .val v cm' h' => ∃ g' w' x cs', Step h g w h' g' w' ∧ W h' g' w' ∧ VR g' v x ∧ CsOK cm cs cs' ∧ ModeR g' cm' cs' ∧ (cm = .none → cm' = .none) ∧
      Steps P (lone (frm b a (.inRegion ops (i :: rest) :: k)) cs w) (lone (frm b (a.put dst x) (.inRegion ops rest :: k)) cs' w')
  | .dfr d h' => h' = h ∧ ∃ d', DefR g d d' ∧
      Steps P (lone (frm b a (.inRegion ops (i :: rest) :: k)) cs w) (lone (frm b ({ a with defers := d' :: a.defers }.put dst undef) (.inRegion ops rest :: k)) cs w)
  | .pan v h' => ∃ g' w' x todo, Step h g w h' g' w' ∧ W h' g' w' ∧ VR g' v x ∧
      Steps P (lone (frm b a (.inRegion ops (i :: rest) :: k)) cs w) (lone { frm b a todo with mode := .panicking [{ v := x, recovered := false }] } cs w')
theorem VR.undef : VR g undefA undef := VR.tuple_iff.2 ⟨#[], rfl, trivial⟩
theorem opRun_ok {ops : Array Oper} {o : Oper} {i : Nat} {rest : List Nat} {k : List Item} {b : Frame} {cs : List Frame} {ρ : Operand → AV} {cm : AMode} {h : AHeap} {r : ORes}
    (hP : ProgOK P) (hR : RecOK P R) (hr : opRun P R cx ρ o cm h = some r) (hw : W h g w) (hf : Fresh h g) (hc : CtxR g cx b) (hρ : ∀ x, VR g (ρ x) (a.eval x)) (hm : ModeR g cm cs)
    (ho : ops[i]? = some o) (hwant : Region.wanted o (yielded ops a.tmps) = true) : OResOK P g w h cm b a cs ops i rest k o.dst r := by
  have hnd := noDefer_of hc hr
  unfold opRun at hr
  split at hr
  · rename_i v h2 hop
    simp only [Option.some.injEq] at hr; subst hr
    obtain ⟨g', w', x, h1, h3, h4, h5⟩ := aop_ok hP hw (hf h.next (Nat.le_refl _)) hρ hop
    exact ⟨g', w', x, cs, h5, h4, h3, .refl _ _, hm.mono h5.le, id, .one (fstep_value ho hwant hnd h1)⟩
  · rename_i h2 hop
    simp only [Option.some.injEq] at hr; subst hr
    obtain ⟨g', w', h1, h4, h5⟩ := aop_ok hP hw (hf h.next (Nat.le_refl _)) hρ hop
    exact ⟨g', w', undef, cs, h5, h4, VR.undef, .refl _ _, hm.mono h5.le, id, .one (fstep_skipv ho hwant hnd h1)⟩
  · rename_i d h2 hop
    split at hr
    · cases hr
    · simp only [Option.some.injEq] at hr; subst hr
      obtain ⟨rfl, d', h1, h3⟩ := aop_ok hP hw (hf h.next (Nat.le_refl _)) hρ hop
      exact ⟨rfl, d', h3, .one (fstep_defer ho hwant hnd h1)⟩
  · rename_i f args h2 hop
    obtain ⟨rfl, vs, h1, h3⟩ := aop_ok hP hw (hf h.next (Nat.le_refl _)) hρ hop
    split at hr
    · rename_i v cm' h4 hcall
      simp only [Option.some.injEq] at hr; subst hr
      obtain ⟨e, w', fr, ⟨g', q1, q2, q3⟩, hcomes, hfn, hleave⟩ := hR.call _ _ _ _ _ _ hcall g w vs hw hf h3 (frm b a (.inRegion ops (i :: rest) :: k) :: cs)
      cases e with
      | returned x =>
        refine ⟨g', w', x, cs, q1, q2, q3, .refl _ _, hm.mono q1.le, id, ?_⟩
        have hfin := frm_finish (b := b) (a := a) (k := k) ops i rest x
        rw [ho] at hfin
        refine Steps.head (fstep_enter ho hwant hnd h1) (Steps.trans hcomes ?_)
        rw [← show (frm b a (.inRegion ops (i :: rest) :: k)).finish x = frm b (a.put o.dst x) (.inRegion ops rest :: k) from hfin]
        exact .one (step_leave_returned hleave)
      | panicked _ => exact q3.elim
      | outgrown => exact q3.elim
    · rename_i v cm' h4 hcall
      simp only [Option.some.injEq] at hr; subst hr
      obtain ⟨e, w', fr, ⟨g', q1, q2, q3⟩, hcomes, hfn, hleave⟩ := hR.call _ _ _ _ _ _ hcall g w vs hw hf h3 (frm b a (.inRegion ops (i :: rest) :: k) :: cs)
      cases e with
      | returned _ => exact q3.elim
      | panicked ch =>
        obtain ⟨x, rfl, q4⟩ := q3
        refine ⟨g', w', x, .inRegion ops (i :: rest) :: k, q1, q2, q4, ?_⟩
        refine Steps.head (fstep_enter ho hwant hnd h1) (Steps.trans hcomes ?_)
        exact .one (step_leave_panicked hleave)
      | outgrown => exact q3.elim
    · cases hr
  · rename_i l args h2 hop
    obtain ⟨rfl, rb, s, n, vs, hB, h3, h1⟩ := aop_ok hP hw (hf h.next (Nat.le_refl _)) hρ hop
    split at hr
    · rename_i v h4 hround
      simp only [Option.some.injEq] at hr; subst hr
      obtain ⟨f, tmps, assign, body, hy, hrun⟩ := hR.round _ _ _ _ _ hround g w vs rb s n hw hf h3 hB
      obtain ⟨g', w', q1, q2, x, q3, q4⟩ := hrun (frm b a (.inRegion ops (i :: rest) :: k)) cs
      refine ⟨g', w', x, cs, q1, q2, q3, .refl _ _, hm.mono q1.le, id, ?_⟩
      have hfin := frm_finish (b := b) (a := a) (k := k) ops i rest x
      rw [ho] at hfin
      refine Steps.head (fstep_round ho hwant hnd (h1.trans hy)) ?_
      rw [← show (frm b a (.inRegion ops (i :: rest) :: k)).finish x = frm b (a.put o.dst x) (.inRegion ops rest :: k) from hfin]
      exact q4
    · rename_i v h4 hround
      simp only [Option.some.injEq] at hr; subst hr
      obtain ⟨f, tmps, assign, body, hy, hrun⟩ := hR.round _ _ _ _ _ hround g w vs rb s n hw hf h3 hB
      obtain ⟨g', w', q1, q2, x, q3, q4⟩ := hrun (frm b a (.inRegion ops (i :: rest) :: k)) cs
      exact ⟨g', w', x, .inRegion ops (i :: rest) :: k, q1, q2, q3, Steps.head (fstep_round ho hwant hnd (h1.trans hy)) q4⟩
    · cases hr
  · rename_i v h2 hop
    simp only [Option.some.injEq] at hr; subst hr
    obtain ⟨rfl, x, h1, h3⟩ := aop_ok hP hw (hf h.next (Nat.le_refl _)) hρ hop
    exact ⟨g, w, x, .inRegion ops (i :: rest) :: k, .refl _ _ _, hw, h3, .one (fstep_panic ho hwant hnd h1)⟩
  · rename_i h2 hop
    obtain ⟨rfl, h1⟩ := aop_ok hP hw (hf h.next (Nat.le_refl _)) hρ hop
    split at hr
    · rename_i v hk hrd
      simp only [Option.some.injEq] at hr; subst hr
      have hrn : b.roundOf = none := by have := hc.round; rw [hrd] at this; exact this
      have hkb : b.kind = .deferred := hc.kind.trans hk
      obtain ⟨c, r', rfl, x, hx, hv⟩ := hm
      have hstep := fstep_recover (k := k) (cs := c :: r') (rest := rest) ho hwant hnd hrn h1
      have ht : tryRecover (frm b a (.inRegion ops (i :: rest) :: k)) (c :: r') = some (x, { c with mode := .panicking [{ v := x, recovered := true }] } :: r') := by
        unfold tryRecover
        have e1 : (frm b a (.inRegion ops (i :: rest) :: k)).kind = .deferred := hkb
        rw [e1]
        simp only [hx]
      rw [ht] at hstep
      refine ⟨g, w, x, { c with mode := .panicking [{ v := x, recovered := true }] } :: r', .refl _ _ _, hw, hv, ⟨(fun e => by cases e), .inr ⟨c, r', _, rfl, rfl⟩⟩, ⟨_, r', rfl, x, rfl, hv⟩, (fun e => by cases e), .one hstep⟩
    · rename_i hk hrd
      simp only [Option.some.injEq] at hr; subst hr
      have hrn : b.roundOf = none := by have := hc.round; rw [hrd] at this; exact this
      have hkb : b.kind = .deferred := hc.kind.trans hk
      obtain ⟨c, r', rfl, hx⟩ := hm
      have hstep := fstep_recover (k := k) (cs := c :: r') (rest := rest) ho hwant hnd hrn h1
      have ht : tryRecover (frm b a (.inRegion ops (i :: rest) :: k)) (c :: r') = none := by
        unfold tryRecover
        have e1 : (frm b a (.inRegion ops (i :: rest) :: k)).kind = .deferred := hkb
        have e2 : c.mode = .returning := hx
        rw [e1]
        simp only [e2]
      rw [ht] at hstep
      exact ⟨g, w, .nilIface, c :: r', .refl _ _ _, hw, .sc _, .refl _ _, ⟨c, r', rfl, hx⟩, (fun e => by cases e), .one hstep⟩
    · cases hr
  · cases hr
end
end Go.AI
end

/-
  Regions in order, and code.
-/
section
namespace Go.AI
section
variable {P : Program} {R : Rec} {cx : Ctx}
theorem stepOp_ok {ops : Array Oper} {o : Oper} {i : Nat} {rest : List Nat} {st st' : ASt} {ex : AEx} (hP : ProgOK P) (hR : RecOK P R) (ho : ops[i]? = some o) (hs : stepOp P R cx ops o st = some (ex, st'))
    {g : Gh} {w : World} {b : Frame} {a : Act} {k : List Item} {cs : List Frame} (hw : W st.h g w) (hf : Fresh st.h g) (hc : CtxR g cx b) (ha : ActR g cx.tn st a) (hm : ModeR g st.cm cs) :
    ∃ g' w' a' cs', Step st.h g w st'.h g' w' ∧ W st'.h g' w' ∧ ActR g' cx.tn st' a' ∧ CsOK st.cm cs cs' ∧ ModeR g' st'.cm cs' ∧ (st.cm = .none → st'.cm = .none) ∧
      (match ex with
       | .normal => Steps P (lone (frm b a (.inRegion ops (i :: rest) :: k)) cs w) (lone (frm b a' (.inRegion ops rest :: k)) cs' w')
       | .panic v => ∃ todo x, VR g' v x ∧ Steps P (lone (frm b a (.inRegion ops (i :: rest) :: k)) cs w) (lone { frm b a' todo with mode := .panicking [{ v := x, recovered := false }] } cs' w')
       | _ => False) := by
  unfold stepOp at hs
  split at hs
  · rename_i hwa
    have hwant := wanted_ok ha hwa
    cases hop : opRun P R cx (ev st.tm) o st.cm st.h with
    | none => rw [hop] at hs; cases hs
    | some r =>
      rw [hop] at hs
      have hk := opRun_ok (rest := rest) (k := k) hP hR hop hw hf hc ha.ev hm ho hwant
      cases r with
      | val v cm' h' =>
        simp only at hs
        cases hp : ASt.put { st with cm := cm', h := h' } cx.tn o.dst v with
        | none => rw [hp] at hs; cases hs
        | some s2 =>
          rw [hp] at hs
          simp only [Option.map_some, Option.some.injEq, Prod.mk.injEq] at hs
          obtain ⟨rfl, rfl⟩ := hs
          obtain ⟨g', w', x, cs', q1, q2, q3, q4, q5, q6, q7⟩ := hk
          obtain ⟨e1, e2, e3⟩ := put_h hp
          simp only at e1 e2 e3
          refine ⟨g', w', a.put o.dst x, cs', by rw [e1]; exact q1, by rw [e1]; exact q2, ?_, q4, by rw [e2]; exact q5, by rw [e2]; exact q6, q7⟩
          have ha' : ActR g' cx.tn { st with cm := cm', h := h' } a := ⟨(ha.mono q1.le).tm, ha.size, (ha.mono q1.le).df⟩
          exact ha'.put hp q3
      | dfr d h' =>
        simp only at hs
        cases hp : ASt.put { st with h := h', df := d :: st.df } cx.tn o.dst undefA with
        | none => rw [hp] at hs; cases hs
        | some s2 =>
          rw [hp] at hs
          simp only [Option.map_some, Option.some.injEq, Prod.mk.injEq] at hs
          obtain ⟨rfl, rfl⟩ := hs
          obtain ⟨rfl, d', q1, q2⟩ := hk
          obtain ⟨e1, e2, e3⟩ := put_h hp
          simp only at e1 e2 e3
          refine ⟨g, w, Act.put { a with defers := d' :: a.defers } o.dst undef, cs, by rw [e1]; exact .refl _ _ _, by rw [e1]; exact hw, ?_, .refl _ _, by rw [e2]; exact hm, by rw [e2]; exact id, q2⟩
          have ha' : ActR g cx.tn { st with h := st.h, df := d :: st.df } { a with defers := d' :: a.defers } := ⟨ha.tm, ha.size, q1, ha.df⟩
          exact ha'.put hp VR.undef
      | pan v h' =>
        simp only [Option.some.injEq, Prod.mk.injEq] at hs
        obtain ⟨rfl, rfl⟩ := hs
        obtain ⟨g', w', x, todo, q1, q2, q3, q4⟩ := hk
        exact ⟨g', w', a, cs, q1, q2, ⟨(ha.mono q1.le).tm, ha.size, (ha.mono q1.le).df⟩, .refl _ _, hm.mono q1.le, id, todo, x, q3, q4⟩
  · rename_i hwa
    have hwant := wanted_ok ha hwa
    cases hp : st.put cx.tn o.dst undefA with
    | none => rw [hp] at hs; cases hs
    | some s2 =>
      rw [hp] at hs
      simp only [Option.map_some, Option.some.injEq, Prod.mk.injEq] at hs
      obtain ⟨rfl, rfl⟩ := hs
      obtain ⟨e1, e2, e3⟩ := put_h hp
      refine ⟨g, w, a.put o.dst undef, cs, by rw [e1]; exact .refl _ _ _, by rw [e1]; exact hw, ha.put hp VR.undef, .refl _ _, by rw [e2]; exact hm, by rw [e2]; exact id, ?_⟩
      have := fstep_op_skip (P := P) (b := b) (a := a) (k := k) (cs := cs) (w := w) (ops := ops) (i := i) (rest := rest) (by simp [ho, hwant])
      rw [ho] at this
      exact .one this
  · cases hs
theorem runOps_ok {ops : Array Oper} (hP : ProgOK P) (hR : RecOK P R) : ∀ (n i : Nat) (st : ASt) (ex : AEx) (st' : ASt), i + n = ops.size → runOps P R cx ops (ops.toList.drop i) st = some (ex, st') →
    Runs P cx st ex st' (fun k => .inRegion ops (List.range' i n) :: k) := by
  intro n
  induction n with
  | zero =>
    intro i st ex st' hn hr g w b a k cs hw hf hc ha hm
    have : ops.toList.drop i = [] := List.drop_eq_nil_of_le (by simp; omega)
    rw [this] at hr
    simp only [runOps, Option.some.injEq, Prod.mk.injEq] at hr
    obtain ⟨rfl, rfl⟩ := hr
    exact ⟨g, w, a, cs, .refl _ _ _, hw, ha, .refl _ _, hm, id, .one fstep_region_end⟩
  | succ n ih =>
    intro i st ex st' hn hr g w b a k cs hw hf hc ha hm
    have hi : i < ops.size := by omega
    have ho : ops[i]? = some ops[i] := by simp [hi]
    have hd : ops.toList.drop i = ops[i] :: ops.toList.drop (i + 1) := by
      rw [List.drop_eq_getElem_cons (by simpa using hi)]; simp
    rw [hd] at hr
    simp only [runOps] at hr
    cases hs : stepOp P R cx ops ops[i] st with
    | none => rw [hs] at hr; cases hr
    | some p =>
      obtain ⟨ex1, st1⟩ := p
      rw [hs] at hr
      obtain ⟨g1, w1, a1, cs1, q1, q2, q3, q4, q5, q6, q7⟩ := stepOp_ok (rest := List.range' (i + 1) n) (k := k) hP hR ho hs hw hf hc ha hm
      cases ex1 with
      | normal =>
        simp only at hr q7
        obtain ⟨g2, w2, a2, cs2, r1, r2, r3, r4, r5, r6, r7⟩ := ih (i + 1) st1 ex st' (by omega) hr g1 w1 b a1 k cs1 q2 (hf.step q1) (hc.mono q1.le) q3 q5
        refine ⟨g2, w2, a2, cs2, q1.trans hf r1, r2, r3, q4.trans q6 r4, r5, fun e => r6 (q6 e), ?_⟩
        exact Arr.of_steps q7 r7
      | panic v =>
        simp only [Option.some.injEq, Prod.mk.injEq] at hr
        obtain ⟨rfl, rfl⟩ := hr
        obtain ⟨todo, x, h1, h2⟩ := q7
        exact ⟨g1, w1, a1, cs1, q1, q2, q3, q4, q5, q6, todo, x, h1, h2⟩
      | exit id => exact q7.elim
      | ret => exact q7.elim
theorem Arr.pass {m : Machine} {b : Frame} {k k0 : List Item} {cs : List Frame} {g : Gh} {ex : AEx} {a : Act} {w : World} (he : ex ≠ .normal) (hx : ∀ id, exitTo id k0 = exitTo id k) (h : Arr P m b k0 cs g ex a w) : Arr P m b k cs g ex a w := by
  cases ex with
  | normal => exact absurd rfl he
  | exit id => exact ⟨fun k' e => h.1 k' (by rw [hx]; exact e), fun e => h.2 (by rw [hx]; exact e)⟩
  | ret => exact h
  | panic v => exact h
def DrawOK (P : Program) (R : Rec) : Prop := ∀ (cx : Ctx) (id : Nat) (ops : Array Oper) (st : ASt) (ex : AEx) (st' : ASt), evalDraw P R cx ops st = some (ex, st') → Runs P cx st ex st' (fun k => .code (.region id ops true) :: k)
def RangeOK (P : Program) (R : Rec) : Prop := ∀ (cx : Ctx) (f : Operand) (params : Array Tmp) (assign body : Code) (st : ASt) (ex : AEx) (st' : ASt), evalCode P R cx (.rangeFunc f params assign body) st = some (ex, st') →
  Runs P cx st ex st' (fun k => .code (.rangeFunc f params assign body) :: k)
theorem evalCode_ok (hP : ProgOK P) (hR : RecOK P R) (hD : DrawOK P R) (hF : RangeOK P R) : ∀ (c : Code) (st : ASt) (ex : AEx) (st' : ASt), evalCode P R cx c st = some (ex, st') → Runs P cx st ex st' (fun k => .code c :: k) := by
  intro c
  induction c with
  | skip =>
    intro st ex st' hr g w b a k cs hw hf hc ha hm
    simp only [evalCode, Option.some.injEq, Prod.mk.injEq] at hr
    obtain ⟨rfl, rfl⟩ := hr
    exact ⟨g, w, a, cs, .refl _ _ _, hw, ha, .refl _ _, hm, id, .one fstep_skip⟩
  | label l =>
    intro st ex st' hr g w b a k cs hw hf hc ha hm
    simp only [evalCode, Option.some.injEq, Prod.mk.injEq] at hr
    obtain ⟨rfl, rfl⟩ := hr
    exact ⟨g, w, a, cs, .refl _ _ _, hw, ha, .refl _ _, hm, id, .one fstep_label⟩
  | region id ops draw =>
    intro st ex st' hr
    cases draw with
    | true => simp only [evalCode, if_true] at hr; exact hD cx id ops st ex st' hr
    | false =>
      simp only [evalCode, Bool.false_eq_true, if_false] at hr
      intro g w b a k cs hw hf hc ha hm
      obtain ⟨g', w', a', cs', q1, q2, q3, q4, q5, q6, q7⟩ := runOps_ok (ops := ops) hP hR ops.size 0 st ex st' (by simp) (by simpa using hr) g w b a k cs hw hf hc ha hm
      refine ⟨g', w', a', cs', q1, q2, q3, q4, q5, q6, Arr.of_steps (.one fstep_region) ?_⟩
      rw [List.range_eq_range']; exact q7
  | seq x y ihx ihy =>
    intro st ex st' hr g w b a k cs hw hf hc ha hm
    simp only [evalCode] at hr
    cases hx : evalCode P R cx x st with
    | none => rw [hx] at hr; cases hr
    | some p =>
      obtain ⟨ex1, st1⟩ := p
      rw [hx] at hr
      obtain ⟨g1, w1, a1, cs1, q1, q2, q3, q4, q5, q6, q7⟩ := ihx st ex1 st1 hx g w b a (.code y :: k) cs hw hf hc ha hm
      cases ex1 with
      | normal =>
        simp only at hr
        obtain ⟨g2, w2, a2, cs2, r1, r2, r3, r4, r5, r6, r7⟩ := ihy st1 ex st' hr g1 w1 b a1 k cs1 q2 (hf.step q1) (hc.mono q1.le) q3 q5
        exact ⟨g2, w2, a2, cs2, q1.trans hf r1, r2, r3, q4.trans q6 r4, r5, fun e => r6 (q6 e), Arr.of_steps (.head fstep_seq q7) r7⟩
      | exit id =>
        simp only [Option.some.injEq, Prod.mk.injEq] at hr
        obtain ⟨rfl, rfl⟩ := hr
        exact ⟨g1, w1, a1, cs1, q1, q2, q3, q4, q5, q6, Arr.of_steps (.one fstep_seq) (Arr.pass (by simp) (fun _ => rfl) q7)⟩
      | ret =>
        simp only [Option.some.injEq, Prod.mk.injEq] at hr
        obtain ⟨rfl, rfl⟩ := hr
        exact ⟨g1, w1, a1, cs1, q1, q2, q3, q4, q5, q6, Arr.of_steps (.one fstep_seq) (Arr.pass (by simp) (fun _ => rfl) q7)⟩
      | panic v =>
        simp only [Option.some.injEq, Prod.mk.injEq] at hr
        obtain ⟨rfl, rfl⟩ := hr
        exact ⟨g1, w1, a1, cs1, q1, q2, q3, q4, q5, q6, Arr.of_steps (.one fstep_seq) (Arr.pass (by simp) (fun _ => rfl) q7)⟩
  | cond c x y ihx ihy =>
    intro st ex st' hr g w b a k cs hw hf hc ha hm
    simp only [evalCode] at hr
    have hev := ha.ev c
    split at hr
    · rename_i e
      rw [e] at hev
      have hv := VR.sc_inv hev
      obtain ⟨g', w', a', cs', q1, q2, q3, q4, q5, q6, q7⟩ := ihx st ex st' hr g w b a k cs hw hf hc ha hm
      exact ⟨g', w', a', cs', q1, q2, q3, q4, q5, q6, Arr.of_steps (.one (fstep_cond hv)) q7⟩
    · rename_i e
      rw [e] at hev
      have hv := VR.sc_inv hev
      obtain ⟨g', w', a', cs', q1, q2, q3, q4, q5, q6, q7⟩ := ihy st ex st' hr g w b a k cs hw hf hc ha hm
      exact ⟨g', w', a', cs', q1, q2, q3, q4, q5, q6, Arr.of_steps (.one (fstep_cond hv)) q7⟩
    · cases hr
  | block id body ih =>
    intro st ex st' hr g w b a k cs hw hf hc ha hm
    simp only [evalCode] at hr
    cases hx : evalCode P R cx body st with
    | none => rw [hx] at hr; cases hr
    | some p =>
      obtain ⟨ex1, st1⟩ := p
      rw [hx] at hr
      obtain ⟨g1, w1, a1, cs1, q1, q2, q3, q4, q5, q6, q7⟩ := ih st ex1 st1 hx g w b a (.inBlock id :: k) cs hw hf hc ha hm
      cases ex1 with
      | normal =>
        simp only [Option.some.injEq, Prod.mk.injEq] at hr
        obtain ⟨rfl, rfl⟩ := hr
        exact ⟨g1, w1, a1, cs1, q1, q2, q3, q4, q5, q6, .head fstep_block (Steps.trans q7 (.one fstep_inBlock))⟩
      | exit id' =>
        simp only at hr
        split at hr
        · rename_i e
          simp only [Option.some.injEq, Prod.mk.injEq] at hr
          obtain ⟨rfl, rfl⟩ := hr
          exact ⟨g1, w1, a1, cs1, q1, q2, q3, q4, q5, q6, .head fstep_block (q7.1 k (by simp [exitTo, e]))⟩
        · rename_i e
          simp only [Option.some.injEq, Prod.mk.injEq] at hr
          obtain ⟨rfl, rfl⟩ := hr
          have hne : (id == id') = false := by simp; exact fun h => e h.symm
          have hex : exitTo id' (.inBlock id :: k) = exitTo id' k := by simp [exitTo, hne]
          refine ⟨g1, w1, a1, cs1, q1, q2, q3, q4, q5, q6, Arr.of_steps (.one fstep_block) ?_⟩
          exact ⟨fun k' e' => q7.1 k' (by rw [hex]; exact e'), fun e' => q7.2 (by rw [hex]; exact e')⟩
      | ret =>
        simp only [Option.some.injEq, Prod.mk.injEq] at hr
        obtain ⟨rfl, rfl⟩ := hr
        exact ⟨g1, w1, a1, cs1, q1, q2, q3, q4, q5, q6, Arr.of_steps (k := k) (.one fstep_block) q7⟩
      | panic v =>
        simp only [Option.some.injEq, Prod.mk.injEq] at hr
        obtain ⟨rfl, rfl⟩ := hr
        exact ⟨g1, w1, a1, cs1, q1, q2, q3, q4, q5, q6, Arr.of_steps (k := k) (ex := .panic v) (.one fstep_block) q7⟩
  | loop body ih =>
    intro st ex st' hr g w b a k cs hw hf hc ha hm
    simp only [evalCode] at hr
    obtain ⟨g', w', a', cs', q1, q2, q3, q4, q5, q6, q7⟩ := hR.loop body cx st ex st' hr g w b a k cs hw hf hc ha hm
    exact ⟨g', w', a', cs', q1, q2, q3, q4, q5, q6, Arr.of_steps (.one fstep_loop) q7⟩
  | exit id =>
    intro st ex st' hr g w b a k cs hw hf hc ha hm
    simp only [evalCode, Option.some.injEq, Prod.mk.injEq] at hr
    obtain ⟨rfl, rfl⟩ := hr
    exact ⟨g, w, a, cs, .refl _ _ _, hw, ha, .refl _ _, hm, fun e => e, fun k' e => .one (fstep_exit e), fun e => ⟨k, e, .refl _ _⟩⟩
  | scope body ih =>
    intro st ex st' hr g w b a k cs hw hf hc ha hm
    simp only [evalCode] at hr
    obtain ⟨g1, w1, a1, cs1, q1, q2, q3, q4, q5, q6, q7⟩ := ih st ex st' hr g w b a (.inScope body :: k) cs hw hf hc ha hm
    refine ⟨g1, w1, a1, cs1, q1, q2, q3, q4, q5, q6, ?_⟩
    cases ex with
    | normal => exact .head fstep_scope (Steps.trans q7 (.one fstep_inScope))
    | exit id => exact Arr.of_steps (.one fstep_scope) (Arr.pass (by simp) (fun _ => rfl) q7)
    | ret => exact Arr.of_steps (k := k) (.one fstep_scope) (Arr.pass (by simp) (fun _ => rfl) q7)
    | panic v => exact Arr.of_steps (k := k) (.one fstep_scope) (Arr.pass (by simp) (fun _ => rfl) q7)
  | goto l => intro st ex st' hr; simp [evalCode] at hr
  | ret =>
    intro st ex st' hr g w b a k cs hw hf hc ha hm
    simp only [evalCode, Option.some.injEq, Prod.mk.injEq] at hr
    obtain ⟨rfl, rfl⟩ := hr
    exact ⟨g, w, a, cs, .refl _ _ _, hw, ha, .refl _ _, hm, id, k, .refl _ _⟩
  | refuse why => intro st ex st' hr; simp [evalCode] at hr
  | rangeFunc f params assign body iha ihb =>
    intro st ex st' hr
    exact hF cx f params assign body st ex st' hr
end
end Go.AI
end

/-
  A frame that leaves: its deferred calls, its results.
-/
section
namespace Go.AI
section
variable {P : Program} {R : Rec} {g : Gh} {w : World} {h : AHeap}
theorem aload_addr {t : TypeId} {x y : AV} {v : Value} (hw : W h g w) (hr : aload P h t x = some y) (hx : VR g x v) :
    ∃ a u, v = .pointer (some a) ∧ (loadVar t a).run P w = .ok u w ∧ VR g y u := by
  have hv : ∃ a, v = .pointer (some a) := by
    unfold aload at hr
    split at hr
    · rename_i s _ _
      cases hrd : rdAt h s x with
      | none => rw [hrd] at hr; cases hr
      | some cs => obtain ⟨a, e, _⟩ := rdAt_ok hw hrd hx; exact ⟨a, e⟩
    · split at hr
      · rename_i hrd; obtain ⟨a, e, _⟩ := rdAt_ok hw hrd hx; exact ⟨a, e⟩
      · cases hr
    · cases hr
  obtain ⟨a, rfl⟩ := hv
  obtain ⟨u, h1, h2⟩ := aload_ok hw hr hx
  refine ⟨a, u, rfl, ?_, h2⟩
  simpa [Instr.loadAt, Instr.sureAddr] using h1
theorem TR.ev {tm : Tr AV} {tmps : Array Value} (ht : TR g tm tmps) (t : Tmp) : VR g (ev tm (.tmp t)) (tmps.getD t undef) := by
  show VR g (match tm.get t with | some v => v | none => .unk) (tmps.getD t undef)
  cases hg : tm.get t with
  | none => exact .unk _
  | some v =>
    obtain ⟨u, h1, h2⟩ := ht t v hg
    rw [Array.getD_eq_getD_getElem?, h1]
    exact h2
theorem resultsA_ok {fn : Func} {tm : Tr AV} {tmps : Array Value} {f : ResultVar → Sem Value} (f1 : ∀ t, f (.tmp t) = pure (tmps.getD t undef)) (f2 : ∀ a t, f (.cell a t) = (do loadVar t (← asAddr (tmps.getD a undef))))
    (hw : W h g w) (ht : TR g tm tmps) : ∀ {rs : List ResultVar} {xs : List AV}, resultsA P fn tm h rs = some xs → ∃ vs : List Value, (rs.mapM f).run P w = .ok vs w ∧ VRs g xs vs
  | [], xs, hr => by
    simp [resultsA] at hr; subst hr
    exact ⟨[], by simp, trivial⟩
  | .tmp t :: rs, xs, hr => by
    simp only [resultsA] at hr
    cases hq : resultsA P fn tm h rs with
    | none => rw [hq] at hr; cases hr
    | some ys =>
      rw [hq] at hr
      simp only [Option.some.injEq] at hr; subst hr
      obtain ⟨vs, h1, h2⟩ := resultsA_ok f1 f2 hw ht hq
      exact ⟨_ :: vs, by simp only [List.mapM_cons, f1, Sem.run_bind, Sem.run_pure, Result.andThen_ok, h1], ht.ev t, h2⟩
  | .cell a t :: rs, xs, hr => by
    simp only [resultsA] at hr
    split at hr
    · rename_i y ys hl hq
      simp only [Option.some.injEq] at hr; subst hr
      obtain ⟨vs, h1, h2⟩ := resultsA_ok f1 f2 hw ht hq
      obtain ⟨ad, u, e, h3, h4⟩ := aload_addr (P := P) hw hl (ht.ev a)
      refine ⟨u :: vs, ?_, h4, h2⟩
      simp only [List.mapM_cons, f2, Sem.run_bind, e, show asAddr (.pointer (some ad)) = pure ad from rfl, Sem.run_pure, Result.andThen_ok, h3, h1]
    · cases hr
theorem retA_ok {fn : Func} {tm : Tr AV} {tmps : Array Value} {v : AV} (hw : W h g w) (ht : TR g tm tmps) (hr : retA P fn tm h = some v) : ∃ x, (results fn tmps).run P w = .ok x w ∧ VR g v x := by
  unfold retA at hr
  have key : ∀ xs, resultsA P fn tm h fn.results.toList = some xs → ∃ vs : List Value, (results fn tmps).run P w = .ok (if h : vs.toArray.size = 1 then vs.toArray[0] else .tuple vs.toArray) w ∧ VRs g xs vs := by
    intro xs hx
    have hgen : ∀ f : ResultVar → Sem Value, (∀ t, f (.tmp t) = pure (tmps.getD t undef)) → (∀ a t, f (.cell a t) = (do loadVar t (← asAddr (tmps.getD a undef)))) →
        ∃ vs : List Value, (do let vs ← fn.results.mapM f; pure (if h : vs.size = 1 then vs[0] else .tuple vs) : Sem Value).run P w = .ok (if h : vs.toArray.size = 1 then vs.toArray[0] else .tuple vs.toArray) w ∧ VRs g xs vs := by
      intro f f1 f2
      obtain ⟨vs, h1, h2⟩ := resultsA_ok f1 f2 hw ht hx
      refine ⟨vs, ?_, h2⟩
      simp only [Array.mapM_eq_mapM_toList, bind_map_left, Sem.run_bind, h1, Result.andThen_ok, Sem.run_pure]
    exact hgen _ (fun _ => rfl) (fun _ _ => rfl)
  split at hr
  · rename_i x hx
    simp only [Option.some.injEq] at hr; subst hr
    obtain ⟨vs, h1, h2⟩ := key _ hx
    match vs, h2 with
    | [u], h2 => exact ⟨u, by simpa using h1, h2.1⟩
  · rename_i xs hne hx
    simp only [Option.some.injEq] at hr; subst hr
    obtain ⟨vs, h1, h2⟩ := key _ hx
    refine ⟨.tuple vs.toArray, ?_, VR.tuple_iff.2 ⟨_, rfl, by simpa using h2⟩⟩
    rw [h1, dif_neg]
    intro e
    have hl := h2.length
    match xs, hl with
    | [x], _ => exact hne x rfl
    | [], hl => simp at e hl; rw [e] at hl; cases hl
    | _ :: _ :: _, hl => simp at e hl; omega
  · cases hr
def Left (P : Program) (fn : Func) (g : Gh) (w : World) (fr : Frame) : AOut → Prop
  | .ret v => fr.mode = .returning ∧ fr.defers = [] ∧ ∃ x, (results fn fr.tmps).run P w = .ok x w ∧ VR g v x
  | .pan v => fr.defers = [] ∧ ∃ x, fr.mode = .panicking [{ v := x, recovered := false }] ∧ VR g v x
theorem step_coll {fr : Frame} {cs : List Frame} {blk : Nat} {ds : List Deferred} (hm : fr.mode ≠ .run) (hd : fr.defers = { target := .collected blk, args := #[] } :: ds) (hb : w.heap[blk]? = some (.deferred (some []))) :
    step P (lone fr cs w) = .next (lone { fr with defers := ds } cs (setW w blk (.deferred none))) := by
  have ht : (Instr.takeDeferred blk).run P w = .ok [] (setW w blk (.deferred none)) := by
    unfold Instr.takeDeferred
    simp only [Sem.run_bind, run_getObj hb rfl, Result.andThen_ok, run_setObj hb rfl, Sem.run_pure]
  refine step_lone_go ?_
  cases hmode : fr.mode with
  | run => exact absurd hmode hm
  | returning => simp [stepG, unwind, hmode, hd, ht]
  | panicking chain => simp [stepG, unwind, hmode, hd, ht]
theorem leaveA_ok {fn : Func} {tm : Tr AV} (hP : ProgOK P) (hR : RecOK P R) : ∀ (df : List ADef) (m : AMode) (h : AHeap) (out : AOut) (h' : AHeap), leaveA P R fn tm df m h = some (out, h') →
    ∀ (g : Gh) (w : World) (fr : Frame) (cs : List Frame), W h g w → Fresh h g → P.funcs[fr.fn]? = some fn → ModeV g m fr.mode → DefsR g df fr.defers → TR g tm fr.tmps →
    ∃ g' w' fr', Step h g w h' g' w' ∧ W h' g' w' ∧ fr'.kind = fr.kind ∧ fr'.fn = fr.fn ∧ fr'.roundOf = fr.roundOf ∧ Steps P (lone fr cs w) (lone fr' cs w') ∧ Left P fn g' w' fr' out := by
  intro df
  induction df with
  | nil =>
    intro m h out h' hr g w fr cs hw hf hfn hm hd ht
    have hd0 : fr.defers = [] := by
      cases hx : fr.defers with
      | nil => rfl
      | cons _ _ => rw [hx] at hd; exact hd.elim
    cases m with
    | none => exact hm.elim
    | ret =>
      simp only [leaveA] at hr
      cases hv : retA P fn tm h with
      | none => rw [hv] at hr; cases hr
      | some v =>
        rw [hv] at hr
        simp only [Option.map_some, Option.some.injEq, Prod.mk.injEq] at hr
        obtain ⟨rfl, rfl⟩ := hr
        exact ⟨g, w, fr, .refl _ _ _, hw, rfl, rfl, rfl, .refl _ _, hm, hd0, retA_ok hw ht hv⟩
    | pan v r =>
      cases r with
      | true => simp [leaveA] at hr
      | false =>
        simp only [leaveA, Option.some.injEq, Prod.mk.injEq] at hr
        obtain ⟨rfl, rfl⟩ := hr
        obtain ⟨x, h1, h2⟩ := hm
        exact ⟨g, w, fr, .refl _ _ _, hw, rfl, rfl, rfl, .refl _ _, hd0, x, h1, h2⟩
  | cons d ds ih =>
    intro m h out h' hr g w fr cs hw hf hfn hm hd ht
    have hmr : fr.mode ≠ .run := by
      cases m with
      | none => exact hm.elim
      | ret => have : fr.mode = .returning := hm; rw [this]; simp
      | pan v r => obtain ⟨x, e, _⟩ := hm; rw [e]; simp
    cases hfd : fr.defers with
    | nil => rw [hfd] at hd; exact hd.elim
    | cons d' ds' =>
      rw [hfd] at hd
      obtain ⟨hd1, hd2⟩ := hd
      cases d with
      | coll o =>
        obtain ⟨blk, s, n, hB, rfl⟩ := hd1
        simp only [leaveA] at hr
        split at hr
        · rename_i hg
          have hblk := hw.obj o _ hg blk s n hB
          have hkey := upd_ok (x' := .dfr none) hw hg hB (w' := setW w blk (.deferred none)) rfl (by
            intro b' s' n' hb'
            rw [hB] at hb'
            simp only [Option.some.injEq, Prod.mk.injEq] at hb'
            obtain ⟨rfl, rfl, rfl⟩ := hb'
            exact setW_same (lt_of_heap hblk))
          obtain ⟨g', w', fr', q1, q2, q3, q4, q5, q6, q7⟩ := ih m _ out h' hr g _ { fr with defers := ds' } cs hkey.1 (hf.step hkey.2) hfn hm hd2 ht
          exact ⟨g', w', fr', hkey.2.trans hf q1, q2, q3, q4, q5, .head (step_coll hmr hfd hblk) q6, q7⟩
        · cases hr
      | fn f captured args =>
        obtain ⟨cap', args', rfl, h1, h2⟩ := hd1
        cases f with
        | func f =>
          simp only [leaveA] at hr
          split at hr
          · rename_i f' argsA h2' hcf
            have hcf' := op_callFunc (vs := args' ++ cap') hP hw (hf h.next (Nat.le_refl _)) (h2.append h1) hcf
            obtain ⟨rfl, vs, hrun, hvs⟩ := hcf'
            have hinv : (invoke (.fn (.func f) cap'.toArray) args'.toArray).run P w = .ok (.enter f' vs.toArray) w := by
              rw [← hrun]
              simp [invoke]
            have hstep := step_defer (P := P) (cs := cs) hmr hfd rfl hinv
            have hmn : m ≠ .none := by rintro rfl; exact hm.elim
            have key : ∀ (v : AV) (cm' m' : AMode) (h3 : AHeap), R.call .deferred f' argsA m h2' = some (.ret v, cm', h3) → leaveA P R fn tm ds m' h3 = some (out, h') →
                cm' ≠ .none → (∀ g u, ModeV g cm' u → ModeV g m' (settle u)) →
                ∃ g' w' fr', Step h2' g w h' g' w' ∧ W h' g' w' ∧ fr'.kind = fr.kind ∧ fr'.fn = fr.fn ∧ fr'.roundOf = fr.roundOf ∧ Steps P (lone fr cs w) (lone fr' cs w') ∧ Left P fn g' w' fr' out := by
              intro v cm' m' h3 hcall hrest hne hset
              obtain ⟨e, u', w1, frX, ⟨g1, q1, q2, q3, q4⟩, hcomes, hkX, hgo⟩ := hR.calld _ _ _ _ _ _ _ hmn hcall g w vs fr.mode hw hf hvs hm { fr with defers := ds' } cs rfl
              cases e with
              | returned x =>
                have hret := step_going_returned (P := P) (c := { { fr with defers := ds' } with mode := u' }) (cs := cs) hkX hgo
                obtain ⟨g2, w2, fr2, r1, r2, r3, r4, r5, r6, r7⟩ := ih m' h3 out h' hrest g1 w1 { { { fr with defers := ds' } with mode := u' } with mode := settle u' } cs q2 (hf.step q1) hfn (hset _ _ (q3 hne)) (hd2.mono q1.le) (ht.mono q1.le)
                exact ⟨g2, w2, fr2, q1.trans hf r1, r2, r3, r4, r5, .head hstep (Steps.trans hcomes (.head hret r6)), r7⟩
              | panicked _ => exact q4.elim
              | outgrown => exact q4.elim
            split at hr
            · rename_i v v2 h3 hcall
              refine key v (.pan v2 true) .ret h3 hcall hr (by simp) fun g u hu => ?_
              obtain ⟨x, rfl, _⟩ := hu
              simp [settle, ModeV]
            · rename_i v v2 h3 hcall
              refine key v (.pan v2 false) (.pan v2 false) h3 hcall hr (by simp) fun g u hu => ?_
              obtain ⟨x, rfl, hx⟩ := hu
              exact ⟨x, by simp [settle], hx⟩
            · rename_i v h3 hcall
              refine key v .ret .ret h3 hcall hr (by simp) fun g u hu => ?_
              have : u = .returning := hu
              subst this
              simp [settle, ModeV]
            · cases hr
          · cases hr
        | _ => simp [leaveA] at hr
end
end Go.AI
end

/-
  Calls, loops, rounds: one more depth.
-/
section
namespace Go.AI
section
variable {P : Program} {R : Rec} {g : Gh} {w : World} {h : AHeap}
theorem heapFrees_get : ∀ {xs : List AV}, heapFrees xs = true → ∀ (i : Nat) (x : AV), xs[i]? = some x → heapFree x = true
  | [], _, i, x, hx => by simp at hx
  | y :: ys, hh, 0, x, hx => by simp [heapFrees] at hh hx; subst hx; exact hh.1
  | y :: ys, hh, i + 1, x, hx => by simp [heapFrees] at hh hx; exact heapFrees_get hh.2 i x hx
theorem VR.free {g g' : Gh} (hm : ∀ b i v, g.M b i = some v → g'.M b i = some v) {x : AV} {v : Value} (hr : VR g x v) : heapFree x = true → VR g' x v := by
  induction hr with
  | unk v => intro _; exact .unk v
  | sc v => intro _; exact .sc v
  | ref _ => intro e; simp [heapFree] at e
  | sl _ _ _ _ => intro e; simp [heapFree] at e
  | esl a c => intro _; exact .esl a c
  | pref f h1 _ ih => intro e; simp [heapFree] at e; exact .pref f (fun i x hx => hm _ _ _ (h1 i x hx)) (fun i x hx => ih i x hx (heapFrees_get e i x hx))
  | psl f h1 _ a b c ih => intro e; simp [heapFree] at e; exact .psl f (fun i x hx => hm _ _ _ (h1 i x hx)) (fun i x hx => ih i x hx (heapFrees_get e i x hx)) a b c
  | islNil => intro _; exact .islNil
  | islE a => intro _; exact .islE a
  | isl hl hpf _ ih => intro _; exact .isl hl hpf (ih (by simp only [heapFree]; exact hpf))
  | map _ => intro e; simp [heapFree] at e
  | func h1 _ h2 _ ih1 ih2 =>
    intro e; simp [heapFree] at e
    exact .func h1 (fun i x v a b => ih1 i x v a b (heapFrees_get e.1 i x a)) h2 (fun i x v a b => ih2 i x v a b (heapFrees_get e.2 i x a))
  | yld _ => intro e; simp [heapFree] at e
  | iface _ ih => intro e; simp [heapFree] at e; exact .iface (ih e)
  | agg h1 _ ih => intro e; simp [heapFree] at e; exact .agg h1 (fun i x v a b => ih i x v a b (heapFrees_get e i x a))
  | tuple h1 _ ih => intro e; simp [heapFree] at e; exact .tuple h1 (fun i x v a b => ih i x v a b (heapFrees_get e i x a))
theorem mem_addWrs_left {floor o : Nat} (os : List Nat) : ∀ {l : List Nat}, o ∈ l → o ∈ addWrs l floor os := by
  induction os with
  | nil => intro l h; exact h
  | cons p os ih => intro l h; exact ih (mem_addWr h)
theorem mem_addWrs_right {floor o : Nat} (os : List Nat) : ∀ {l : List Nat}, o ∈ os → o < floor → o ∈ addWrs l floor os := by
  induction os with
  | nil => intro l h; cases h
  | cons p os ih =>
    intro l h hf
    rcases List.mem_cons.1 h with rfl | h
    · exact mem_addWrs_left os (mem_addWr_self hf)
    · exact ih h hf
theorem W.congr {h' : AHeap} (hw : W h g w) (he : ∀ o, h'.get o = h.get o) : W h' g w :=
  ⟨fun o x hx => hw.obj o x (by rw [← he]; exact hx), hw.bnd, hw.inj, hw.ro, hw.dis, hw.gl⟩
theorem W.inner (hw : W h g w) : W h.inner g w := hw.congr fun _ => rfl
theorem Fresh.inner (hf : Fresh h g) : Fresh h.inner g := hf
theorem outer_ok {h' : AHeap} {g' : Gh} {w' : World} (hf : Fresh h g) (hs : Step h.inner g w h' g' w') (hw : W h' g' w') : Step h g w (h.outer h') g' w' ∧ W (h.outer h') g' w' := by
  refine ⟨⟨hs.le, hs.nxt, rfl, fun o ho => mem_addWrs_left _ ho, ?_, hs.ph, hs.gone, hs.newB, hs.size, hs.old, ?_, hs.tape, hs.os, hs.out, hs.newM⟩, hw.congr fun _ => rfl⟩
  · intro o h1 h2 h3
    exact hs.keep o h2 h2 fun h4 => h3 (mem_addWrs_right _ h4 h1)
  · intro b hb h1
    refine hs.fr b hb fun o v s n e => ?_
    rcases h1 o v s n e with ⟨h2, h3⟩ | h2
    · refine .inl ⟨?_, fun h4 => h3 (mem_addWrs_right _ h4 h2)⟩
      rcases Nat.lt_or_ge o h.next with h4 | h4
      · exact h4
      · rw [hf o h4 v] at e; cases e
    · exact .inr h2
theorem restore_ok {h' : AHeap} {g' : Gh} {w' : World} (hf : Fresh h g) (hw0 : W h g w) (hs : Step h.inner g w h' g' w') (hw : W h' g' w') (he : h'.wr = []) :
    Step h g w h ⟨g.B, g'.M⟩ w' ∧ W h ⟨g.B, g'.M⟩ w' := by
  have hle : g.Le ⟨g.B, g'.M⟩ := ⟨fun _ _ _ e => e, hs.le.m⟩
  have hall : ∀ b, b < w.heap.size → w'.heap[b]? = w.heap[b]? := by
    intro b hb
    refine hs.fr b hb fun o v s n e => .inl ⟨?_, by simp [he]⟩
    rcases Nat.lt_or_ge o h.next with h4 | h4
    · exact h4
    · rw [hf o h4 v] at e; cases e
  have hw1 := hw0.same hs.size hall
  refine ⟨⟨hle, Nat.le_refl _, rfl, fun _ h => h, fun _ _ _ _ => rfl, fun _ _ _ => rfl, fun _ _ h => h, fun _ _ _ h => .inl h, hs.size, fun o v b s n e _ => ⟨v, s, n, e⟩, fun b hb _ => hall b hb, hs.tape, hs.os, hs.out, hs.newM⟩, ?_⟩
  refine ⟨fun o x hx => (hw1.obj o x hx).move hle (fun _ _ e => e) (fun _ _ _ _ _ => rfl), hw1.bnd, hw1.inj, hw.ro, ?_, hw.gl⟩
  intro b i u hm o v s n e
  exact hw.dis b i u hm o v s n (hs.le.b _ _ _ e)
theorem endCall_ok {kind : CallKind} {cm cm' : AMode} {r : Option (AOut × AHeap)} {out : AOut} {h2 : AHeap} (hr : endCall kind h cm r = some (out, cm', h2)) (hw0 : W h g w) (hf : Fresh h g) :
    cm' = cm ∧ ∃ h', r = some (out, h') ∧ ∀ (g' : Gh) (w' : World), Step h.inner g w h' g' w' → W h' g' w' →
      ∃ g2, Step h g w h2 g2 w' ∧ W h2 g2 w' ∧ (kind ≠ .normal → g2 = g') ∧ (∀ v x, (out = .ret v ∨ out = .pan v) → VR g' v x → VR g2 v x) := by
  unfold endCall at hr
  split at hr
  · rename_i o h'
    split at hr
    · rename_i hc
      simp only [Option.some.injEq, Prod.mk.injEq] at hr
      obtain ⟨rfl, rfl, rfl⟩ := hr
      obtain ⟨hk, hc1, hc2⟩ := hc
      refine ⟨rfl, h', rfl, fun g' w' hs hw => ?_⟩
      obtain ⟨q1, q2⟩ := restore_ok hf hw0 hs hw (by simpa using hc1)
      refine ⟨_, q1, q2, fun hn => absurd hk hn, ?_⟩
      intro v x ho hx
      refine VR.free (g := g') (g' := ⟨g.B, g'.M⟩) (fun _ _ _ e => e) hx ?_
      rcases ho with rfl | rfl
      · exact hc2
      · exact hc2
    · simp only [Option.some.injEq, Prod.mk.injEq] at hr
      obtain ⟨rfl, rfl, rfl⟩ := hr
      refine ⟨rfl, h', rfl, fun g' w' hs hw => ?_⟩
      obtain ⟨q1, q2⟩ := outer_ok hf hs hw
      exact ⟨g', q1, q2, fun _ => rfl, fun v x _ hx => hx⟩
  · cases hr
theorem putArgs_get : ∀ (xs : List AV) (i : Nat) (t : Tr AV) (k : Nat), (putArgs xs i t).get k = if i ≤ k ∧ k < i + xs.length then xs[k - i]? else t.get k
  | [], i, t, k => by simp [putArgs]; intro h1 h2; omega
  | x :: xs, i, t, k => by
    simp only [putArgs]
    rw [putArgs_get xs (i + 1) (t.put i x) k]
    by_cases h1 : k = i
    · subst h1
      rw [if_neg (by omega), if_pos (by simp), Tr.get_put_same]
      simp
    · rw [Tr.get_put_other _ _ h1]
      by_cases h2 : i + 1 ≤ k ∧ k < i + 1 + xs.length
      · rw [if_pos h2, if_pos (by simp; omega), show k - i = (k - (i + 1)) + 1 by omega]
        simp
      · rw [if_neg h2, if_neg (by simp; omega)]
theorem args_TR {args : List AV} {vs : List Value} {n : Nat} (hv : VRs g args vs) : TR g (putArgs args 0 .leaf) (vs.toArray ++ Array.replicate (n - vs.toArray.size) undef) := by
  intro t x hx
  rw [putArgs_get] at hx
  split at hx
  · rename_i hc
    simp only [Nat.sub_zero] at hx
    have hlt : t < vs.length := by rw [← hv.length]; omega
    refine ⟨vs[t], ?_, hv.get t x vs[t] hx (by simp [hlt])⟩
    rw [Array.getElem?_append_left (by simpa using hlt)]
    simp [hlt]
  · simp [Tr.get] at hx
theorem fstep_end {b : Frame} {a : Act} {cs : List Frame} (hn : b.roundOf = none) : step P (lone (frm b a []) cs w) = .next (lone { frm b a [] with mode := .returning } cs w) :=
  step_lone_go (by simp [stepG, stepG.exec, frm, hn])
theorem fstep_ret {b : Frame} {a : Act} {k : List Item} {cs : List Frame} (hn : b.roundOf = none) : step P (lone (frm b a (.code .ret :: k)) cs w) = .next (lone { frm b a (.code .ret :: k) with mode := .returning } cs w) :=
  step_lone_go (by simp [stepG, stepG.exec, frm, hn])
def EvalOK (P : Program) (R : Rec) : Prop := ∀ (cx : Ctx) (c : Code) (st : ASt) (ex : AEx) (st' : ASt), evalCode P R cx c st = some (ex, st') → Runs P cx st ex st' (fun k => .code c :: k)
theorem body_ok {kind : CallKind} {f : FuncId} {fn : Func} {code : Code} {args : List AV} {cm : AMode} {out : AOut} {cm' : AMode} {h2 : AHeap} (hP : ProgOK P) (hR : RecOK P R) (hE : EvalOK P R)
    (hfn : P.funcs[f]? = some fn) (hbody : fn.body = some code) (hr : stepCall P R kind f args cm h = some (out, cm', h2)) {vs : List Value} (hw : W h g w) (hf : Fresh h g) (hv : VRs g args vs) {cs : List Frame} (hm : ModeR g cm cs) :
    ∃ g2 w' fr cs', Step h g w h2 g2 w' ∧ W h2 g2 w' ∧ CsOK cm cs cs' ∧ (cm = .none → cm' = .none) ∧ (kind ≠ .normal → ModeR g2 cm' cs') ∧
      Steps P (lone (Frame.enter P f vs.toArray kind) cs w) (lone fr cs' w') ∧ fr.fn = f ∧ fr.kind = kind ∧ Left P fn g2 w' fr out := by
  have henter : Frame.enter P f vs.toArray kind = frm { (default : Frame) with fn := f, kind := kind } { tmps := vs.toArray ++ Array.replicate (fn.ntmps - vs.toArray.size) undef, defers := [] } [.code code] := by
    simp [Frame.enter, frm, hfn, hbody]
    rfl
  unfold stepCall at hr
  simp only [hfn, hbody] at hr
  have hlen : vs.length = args.length := hv.length.symm
  have hact : ActR g (max fn.ntmps args.length) { tm := putArgs args 0 .leaf, df := [], cm, h := h.inner } { tmps := vs.toArray ++ Array.replicate (fn.ntmps - vs.toArray.size) undef, defers := [] } :=
    ⟨args_TR hv, by simp; omega, trivial⟩
  cases he : evalCode P R { fn := f, tn := max fn.ntmps args.length, kind, round := none } code { tm := putArgs args 0 .leaf, df := [], cm, h := h.inner } with
  | none => rw [he] at hr; cases hr
  | some p =>
    obtain ⟨ex, st⟩ := p
    rw [he] at hr
    obtain ⟨g1, w1, a1, cs1, q1, q2, q3, q4, q5, q6, q7⟩ := hE _ _ _ _ _ he g w { (default : Frame) with fn := f, kind := kind } _ [] cs hw.inner hf.inner ⟨rfl, rfl, rfl⟩ hact hm
    rw [← henter] at q7
    have fin : ∀ (m : AMode) (fr0 : Frame), endCall kind h st.cm (leaveA P R fn st.tm st.df m st.h) = some (out, cm', h2) → Steps P (lone (Frame.enter P f vs.toArray kind) cs w) (lone fr0 cs1 w1) → ModeV g1 m fr0.mode →
        fr0.fn = f → fr0.kind = kind → fr0.defers = a1.defers → fr0.tmps = a1.tmps →
        ∃ g2 w' fr cs', Step h g w h2 g2 w' ∧ W h2 g2 w' ∧ CsOK cm cs cs' ∧ (cm = .none → cm' = .none) ∧ (kind ≠ .normal → ModeR g2 cm' cs') ∧
          Steps P (lone (Frame.enter P f vs.toArray kind) cs w) (lone fr cs' w') ∧ fr.fn = f ∧ fr.kind = kind ∧ Left P fn g2 w' fr out := by
      intro m fr0 hend hsteps hmode e1 e2 e3 e4
      obtain ⟨rfl, h3, hl, hk⟩ := endCall_ok hend hw hf
      obtain ⟨g2, w2, fr2, r1, r2, r3, r4, _, r5, r6⟩ := leaveA_ok hP hR _ _ _ _ _ hl g1 w1 fr0 cs1 q2 (hf.inner.step q1) (by rw [e1]; exact hfn) hmode (by rw [e3]; exact q3.df) (by rw [e4]; exact q3.tm)
      obtain ⟨g3, s1, s2, s3, s4⟩ := hk g2 w2 (q1.trans hf.inner r1) r2
      refine ⟨g3, w2, fr2, cs1, s1, s2, q4, q6, fun hn => by rw [s3 hn]; exact q5.mono r1.le, Steps.trans hsteps r5, by rw [r4, e1], by rw [r3, e2], ?_⟩
      cases out with
      | ret v => obtain ⟨x1, x2, x, x3, x4⟩ := r6; exact ⟨x1, x2, x, x3, s4 v x (.inl rfl) x4⟩
      | pan v => obtain ⟨x1, x, x2, x3⟩ := r6; exact ⟨x1, x, x2, s4 v x (.inr rfl) x3⟩
    cases ex with
    | normal => exact fin .ret _ hr (Steps.trans q7 (.one (fstep_end rfl))) rfl rfl rfl rfl rfl
    | ret =>
      obtain ⟨k2, q7⟩ := q7
      exact fin .ret _ hr (Steps.trans q7 (.one (fstep_ret rfl))) rfl rfl rfl rfl rfl
    | panic v =>
      obtain ⟨todo, x, hx, q7⟩ := q7
      exact fin (.pan v false) _ hr q7 ⟨x, rfl, hx⟩ rfl rfl rfl rfl
    | exit id => cases hr
theorem stepCall_fn {kind : CallKind} {f : FuncId} {args : List AV} {cm : AMode} {r : AOut × AMode × AHeap} (hr : stepCall P R kind f args cm h = some r) : ∃ fn code, P.funcs[f]? = some fn ∧ fn.body = some code := by
  unfold stepCall at hr
  split at hr
  · rename_i fn hfn
    split at hr
    · rename_i code hb; exact ⟨fn, code, hfn, hb⟩
    · cases hr
  · cases hr
theorem call_ok {f : FuncId} {args : List AV} {out : AOut} {cm' : AMode} {h2 : AHeap} (hP : ProgOK P) (hR : RecOK P R) (hE : EvalOK P R) (hr : stepCall P R .normal f args .none h = some (out, cm', h2)) : CallOK P f args h out h2 := by
  intro g w vs hw hf hv cs
  obtain ⟨fn, code, hfn, hb⟩ := stepCall_fn hr
  obtain ⟨g2, w', fr, cs', q1, q2, q3, q4, q5, q6, q7, q8, q9⟩ := body_ok hP hR hE hfn hb hr hw hf hv (cs := cs) trivial
  obtain rfl : cs' = cs := q3.1 rfl
  cases out with
  | ret v =>
    obtain ⟨x1, x2, x, x3, x4⟩ := q9
    exact ⟨.returned x, w', fr, ⟨g2, q1, q2, x4⟩, q6, q7, x1, x2, q8, fn, by rw [q7]; exact hfn, x3⟩
  | pan v =>
    obtain ⟨x1, x, x2, x3⟩ := q9
    exact ⟨.panicked _, w', fr, ⟨g2, q1, q2, x, rfl, x3⟩, q6, q7, x2, x1, fn, by rw [q7]; exact hfn⟩
theorem calld_ok {f : FuncId} {args : List AV} {cm : AMode} {out : AOut} {cm' : AMode} {h2 : AHeap} (hP : ProgOK P) (hR : RecOK P R) (hE : EvalOK P R) (hn : cm ≠ .none) (hr : stepCall P R .deferred f args cm h = some (out, cm', h2)) :
    CallDOK P f args cm h out cm' h2 := by
  intro g w vs u hw hf hv hm c cs hu
  obtain ⟨fn, code, hfn, hb⟩ := stepCall_fn hr
  have hmr : ModeR g cm (c :: cs) := by
    cases cm with
    | none => exact absurd rfl hn
    | ret => exact ⟨c, cs, rfl, by rw [hu]; exact hm⟩
    | pan v b => exact ⟨c, cs, rfl, by rw [hu]; exact hm⟩
  obtain ⟨g2, w', fr, cs', q1, q2, q3, q4, q5, q6, q7, q8, q9⟩ := body_ok hP hR hE hfn hb hr hw hf hv (cs := c :: cs) hmr
  have hmode := q5 (by simp)
  have hcs : ∃ m, cs' = { c with mode := m } :: cs := by
    rcases q3.2 with e | ⟨c', r, m, e1, e2⟩
    · exact ⟨c.mode, by rw [e]⟩
    · simp only [List.cons.injEq] at e1
      obtain ⟨rfl, rfl⟩ := e1
      exact ⟨m, e2⟩
  obtain ⟨m, rfl⟩ := hcs
  have hmv : cm' ≠ .none → ModeV g2 cm' m := by
    intro hne
    cases cm' with
    | none => exact absurd rfl hne
    | ret => obtain ⟨c', r, e, hh⟩ := hmode; simp only [List.cons.injEq] at e; obtain ⟨rfl, rfl⟩ := e; exact hh
    | pan v b => obtain ⟨c', r, e, hh⟩ := hmode; simp only [List.cons.injEq] at e; obtain ⟨rfl, rfl⟩ := e; exact hh
  cases out with
  | ret v =>
    obtain ⟨x1, x2, x, x3, x4⟩ := q9
    exact ⟨.returned x, m, w', fr, ⟨g2, q1, q2, hmv, x4⟩, q6, q8, x1, x2, fn, by rw [q7]; exact hfn, x3⟩
  | pan v =>
    obtain ⟨x1, x, x2, x3⟩ := q9
    exact ⟨.panicked _, m, w', fr, ⟨g2, q1, q2, hmv, x, rfl, x3⟩, q6, q8, x2, x1, fn, by rw [q7]; exact hfn⟩
theorem loop_ok {body : Code} {cx : Ctx} {st st' : ASt} {ex : AEx} (hR : RecOK P R) (hE : EvalOK P R) (hr : stepLoop P R body cx st = some (ex, st')) : Runs P cx st ex st' (fun k => .code body :: .inLoop body :: k) := by
  intro g w b a k cs hw hf hc ha hm
  unfold stepLoop at hr
  cases hx : evalCode P R cx body st with
  | none => rw [hx] at hr; cases hr
  | some p =>
    obtain ⟨ex1, st1⟩ := p
    rw [hx] at hr
    obtain ⟨g1, w1, a1, cs1, q1, q2, q3, q4, q5, q6, q7⟩ := hE _ _ _ _ _ hx g w b a (.inLoop body :: k) cs hw hf hc ha hm
    cases ex1 with
    | normal =>
      simp only at hr
      obtain ⟨g2, w2, a2, cs2, r1, r2, r3, r4, r5, r6, r7⟩ := hR.loop body cx st1 ex st' hr g1 w1 b a1 k cs1 q2 (hf.step q1) (hc.mono q1.le) q3 q5
      exact ⟨g2, w2, a2, cs2, q1.trans hf r1, r2, r3, q4.trans q6 r4, r5, fun e => r6 (q6 e), Arr.of_steps (Steps.trans q7 (.one fstep_inLoop)) r7⟩
    | exit id =>
      simp only [Option.some.injEq, Prod.mk.injEq] at hr
      obtain ⟨rfl, rfl⟩ := hr
      exact ⟨g1, w1, a1, cs1, q1, q2, q3, q4, q5, q6, Arr.pass (by simp) (fun _ => rfl) q7⟩
    | ret =>
      simp only [Option.some.injEq, Prod.mk.injEq] at hr
      obtain ⟨rfl, rfl⟩ := hr
      exact ⟨g1, w1, a1, cs1, q1, q2, q3, q4, q5, q6, Arr.pass (by simp) (fun _ => rfl) q7⟩
    | panic v =>
      simp only [Option.some.injEq, Prod.mk.injEq] at hr
      obtain ⟨rfl, rfl⟩ := hr
      exact ⟨g1, w1, a1, cs1, q1, q2, q3, q4, q5, q6, Arr.pass (by simp) (fun _ => rfl) q7⟩
end
end Go.AI
end

/-
  One round of a range over a function.
-/
section
namespace Go.AI
section
variable {P : Program} {R : Rec} {g : Gh} {w : World} {h : AHeap}
theorem putParams_ok {tn : Nat} : ∀ {ps : List Tmp} {args : List AV} {vs : List Value} {tm tm' : Tr AV} {tmps : Array Value}, putParams tn ps args tm = some tm' → VRs g args vs → tmps.size = tn → TR g tm tmps →
    ps.length = vs.length ∧ ((ps.zip vs).foldl (fun (tmps : Array Value) (p : Tmp × Value) => tmps.setIfInBounds p.1 p.2) tmps).size = tn ∧
      TR g tm' ((ps.zip vs).foldl (fun (tmps : Array Value) (p : Tmp × Value) => tmps.setIfInBounds p.1 p.2) tmps)
  | [], [], [], tm, tm', tmps, hr, _, hs, ht => by
    simp only [putParams, Option.some.injEq] at hr; subst hr
    exact ⟨rfl, by simpa using hs, by simpa using ht⟩
  | p :: ps, x :: xs, v :: vs, tm, tm', tmps, hr, hv, hs, ht => by
    simp only [putParams] at hr
    split at hr
    · rename_i hp
      have ht' : TR g (tm.put p x) (tmps.setIfInBounds p v) := by
        intro t y hy
        rw [Tr.get_put] at hy
        by_cases e : t = p
        · subst e
          rw [if_pos rfl] at hy
          simp only [Option.some.injEq] at hy; subst hy
          exact ⟨v, by simp [hs, hp], hv.1⟩
        · rw [if_neg e] at hy
          obtain ⟨u, h1, h2⟩ := ht t y hy
          exact ⟨u, by rw [Array.getElem?_setIfInBounds_ne (Ne.symm e)]; exact h1, h2⟩
      obtain ⟨q1, q2, q3⟩ := putParams_ok hr hv.2 (by simp [hs]) ht'
      exact ⟨by simp [q1], by simpa using q2, by simpa using q3⟩
    · cases hr
  | [], x :: xs, _, _, _, _, hr, _, _, _ => by simp [putParams] at hr
  | p :: ps, [], _, _, _, _, hr, _, _, _ => by simp [putParams] at hr
  | [], [], v :: vs, _, _, _, _, hv, _, _ => hv.elim
  | p :: ps, x :: xs, [], _, _, _, _, hv, _, _ => hv.elim
theorem fstep_beginRound {b : Frame} {a : Act} {k : List Item} {cs : List Frame} {l : Nat} {w' : World} (hb : b.roundOf = some l) (hr : (Instr.beginRound l).run P w = .ok () w') :
    step P (lone (frm b a (.beginRound :: k)) cs w) = .next (lone (frm b a k) cs w') :=
  step_lone_go (by simp [stepG, stepG.exec, stepG.apply, frm, hb, Sem.runT_eq, hr, Result.andThen, Frame.finish])
variable {c : Frame}
theorem fstep_round_end {b : Frame} {a : Act} {cs : List Frame} {l : Nat} {v : Value} {w' : World} (hb : b.roundOf = some l) (hk : b.kind = .normal) (hr : (Instr.endRound l none).run P w = .ok v w') :
    step P (lone (frm b a []) (c :: cs) w) = .next (lone (c.finish v) cs w') :=
  step_lone_go (by simp [stepG, stepG.exec, frm, hb, hk, Sem.runT_eq, hr, doReturn])
theorem fstep_round_ret {b : Frame} {a : Act} {k : List Item} {cs : List Frame} {l : Nat} {v : Value} {w' : World} (hb : b.roundOf = some l) (hk : b.kind = .normal) (hr : (Instr.endRound l (some .ret)).run P w = .ok v w') :
    step P (lone (frm b a (.code .ret :: k)) (c :: cs) w) = .next (lone (c.finish v) cs w') :=
  step_lone_go (by simp [stepG, stepG.exec, frm, hb, hk, Sem.runT_eq, hr, doReturn])
theorem fstep_round_exit {b : Frame} {a : Act} {k : List Item} {cs : List Frame} {l id : Nat} {v : Value} {w' : World} (hb : b.roundOf = some l) (hk : b.kind = .normal) (hx : exitTo id k = none) (hr : (Instr.endRound l (some (.exit id))).run P w = .ok v w') :
    step P (lone (frm b a (.code (.exit id) :: k)) (c :: cs) w) = .next (lone (c.finish v) cs w') :=
  step_lone_go (by simp [stepG, stepG.exec, frm, hb, hk, hx, Sem.runT_eq, hr, doReturn])
theorem fstep_unwind {fr : Frame} {cs : List Frame} {ch : List PanicEntry} {fn : Func} (hm : fr.mode = .panicking ch) (hd : fr.defers = []) (hf : P.funcs[fr.fn]? = some fn) :
    step P (lone fr (c :: cs) w) = .next (lone (c.raise ch) cs w) :=
  step_lone_go (by simp [stepG, unwind, hm, hd, Frame.catches, hf])
theorem endRoundA_ok {l : Nat} {jump : Option Code} {out : AOut} {h' : AHeap} (hw : W h g w) (hr : endRoundA l jump h = some (out, h')) {rb s n : Nat} (hB : g.B l 0 = some (rb, s, n)) :
    out = .ret (.sc (.bool jump.isNone)) ∧ ∃ w', (Instr.endRound rb jump).run P w = .ok (.bool jump.isNone) w' ∧ W h' g w' ∧ Step h g w h' g w' := by
  unfold endRoundA at hr
  split at hr
  · rename_i st pend fn tn tm ps assign body dd hg
    simp only [Option.some.injEq, Prod.mk.injEq] at hr
    obtain ⟨rfl, rfl⟩ := hr
    obtain ⟨tmps, db, s', n', h1, h2, h3, h4⟩ := hw.obj l _ hg rb s n hB
    refine ⟨rfl, setW w rb (.loop { state := if jump.isNone then .ready else .done, pending := jump, fn, tmps, params := ps.toArray, assign, body, defers := db }), ?_, ?_⟩
    · unfold Instr.endRound Instr.getLoop
      simp only [Sem.run_bind, run_getObj h1 rfl, Result.andThen_ok, run_setObj h1 rfl, Sem.run_pure]
    · exact upd_ok hw hg hB rfl (by
        intro b' s1 n1 hb'
        rw [hB] at hb'
        simp only [Option.some.injEq, Prod.mk.injEq] at hb'
        obtain ⟨rfl, rfl, rfl⟩ := hb'
        exact ⟨tmps, db, s', n', setW_same (lt_of_heap h1), h2, h3, h4⟩)
  · cases hr
theorem round_ok {l : Nat} {args : List AV} {out : AOut} {h' : AHeap} (hE : EvalOK P R) (hr : stepRound P R l args h = some (out, h')) : RoundOK P l args h out h' := by
  intro g w vs rb s n hw hf hv hB
  unfold stepRound at hr
  split at hr
  · rename_i lst pend fn tn tm ps assign body dd hg
    obtain ⟨tmps, db, s', n', h1, h2, h3, h4⟩ := hw.obj l _ hg rb s n hB
    split at hr
    · cases hr
    · rename_i tm' hpp
      obtain ⟨p1, p2, p3⟩ := putParams_ok hpp hv h2 h3
      refine ⟨fn, (ps.zip vs).foldl (fun (tmps : Array Value) (p : Tmp × Value) => tmps.setIfInBounds p.1 p.2) tmps, assign, body, ?_, ?_⟩
      · unfold Instr.yield Instr.getLoop
        simp only [Sem.run_bind, run_getObj h1 rfl, Result.andThen_ok, Sem.run_pure]
        rw [if_neg (by simp [p1])]
        simp
      · intro c cs
        have hround : Frame.round rb fn ((ps.zip vs).foldl (fun (tmps : Array Value) (p : Tmp × Value) => tmps.setIfInBounds p.1 p.2) tmps) assign body .normal =
            frm { (default : Frame) with fn := fn, kind := .normal, roundOf := some rb } { tmps := (ps.zip vs).foldl (fun (tmps : Array Value) (p : Tmp × Value) => tmps.setIfInBounds p.1 p.2) tmps, defers := [] } [.code assign, .beginRound, .code body] := rfl
        generalize (ps.zip vs).foldl (fun (tmps : Array Value) (p : Tmp × Value) => tmps.setIfInBounds p.1 p.2) tmps = tmps' at p2 p3 hround ⊢
        simp only at hr
        split at hr
        · rename_i st he
          obtain ⟨g1, w1, a1, cs1, q1, q2, q3, q4, q5, q6, q7⟩ := hE _ _ _ _ _ he g w { (default : Frame) with fn := fn, kind := .normal, roundOf := some rb } { tmps := tmps', defers := [] } [.beginRound, .code body] (c :: cs) hw hf
            ⟨rfl, rfl, rb, s, n, hB, rfl⟩ ⟨p3, p2, trivial⟩ trivial
          obtain rfl : cs1 = c :: cs := q4.1 rfl
          rw [← hround] at q7
          split at hr
          · rename_i p fn1 tn1 tm1 ps1 assign1 body1 dd1 hg1
            have hB1 := q1.le.b _ _ _ hB
            obtain ⟨tmps1, db1, s1, n1, r1, r2, r3, r4⟩ := q2.obj l _ hg1 rb s n hB1
            have hbr : (Instr.beginRound rb).run P w1 = .ok () (setW w1 rb (.loop { state := .busy, pending := p, fn := fn1, tmps := tmps1, params := ps1.toArray, assign := assign1, body := body1, defers := db1 })) := by
              unfold Instr.beginRound Instr.getLoop
              simp only [Sem.run_bind, run_getObj r1 rfl, Result.andThen_ok, run_setObj r1 rfl, Sem.run_pure]
            have hup := upd_ok (x' := .loop .busy p fn1 tn1 tm1 ps1 assign1 body1 dd1) q2 hg1 hB1 (w' := setW w1 rb (.loop { state := .busy, pending := p, fn := fn1, tmps := tmps1, params := ps1.toArray, assign := assign1, body := body1, defers := db1 })) rfl (by
              intro b' s2 n2 hb'
              rw [hB1] at hb'
              simp only [Option.some.injEq, Prod.mk.injEq] at hb'
              obtain ⟨rfl, rfl, rfl⟩ := hb'
              exact ⟨tmps1, db1, s1, n1, setW_same (lt_of_heap r1), r2, r3, r4⟩)
            have hst1 := q1.trans hf hup.2
            have hrun1 := Steps.trans q7 (.one (fstep_beginRound (P := P) rfl hbr))
            cases hx : evalCode P R { fn := fn, tn := tn, kind := .normal, round := some l } body { st with h := st.h.upd l (.loop .busy p fn1 tn1 tm1 ps1 assign1 body1 dd1) } with
            | none => rw [hx] at hr; cases hr
            | some pr =>
              obtain ⟨ex, st2⟩ := pr
              rw [hx] at hr
              obtain ⟨g2, w2, a2, cs2, t1, t2, t3, t4, t5, t6, t7⟩ := hE _ _ _ _ _ hx g1 _ { (default : Frame) with fn := fn, kind := .normal, roundOf := some rb } a1 [] (c :: cs) hup.1 (hf.step hst1)
                ⟨rfl, rfl, rb, s, n, hB1, rfl⟩ ⟨q3.tm, q3.size, q3.df⟩ q5
              obtain rfl : cs2 = c :: cs := t4.1 (q6 rfl)
              have hB2 := t1.le.b _ _ _ hB1
              have hst2 := hst1.trans hf t1
              cases ex with
              | normal =>
                obtain ⟨rfl, w3, u1, u2, u3⟩ := endRoundA_ok (P := P) t2 hr hB2
                exact ⟨g2, w3, hst2.trans hf u3, u2, _, .sc _, Steps.trans hrun1 (Steps.trans t7 (.one (fstep_round_end rfl rfl u1)))⟩
              | ret =>
                obtain ⟨rfl, w3, u1, u2, u3⟩ := endRoundA_ok (P := P) t2 hr hB2
                obtain ⟨k2, t7⟩ := t7
                exact ⟨g2, w3, hst2.trans hf u3, u2, _, .sc _, Steps.trans hrun1 (Steps.trans t7 (.one (fstep_round_ret rfl rfl u1)))⟩
              | exit id =>
                obtain ⟨rfl, w3, u1, u2, u3⟩ := endRoundA_ok (P := P) t2 hr hB2
                obtain ⟨k2, hk2, t7⟩ := t7.2 rfl
                exact ⟨g2, w3, hst2.trans hf u3, u2, _, .sc _, Steps.trans hrun1 (Steps.trans t7 (.one (fstep_round_exit rfl rfl hk2 u1)))⟩
              | panic v =>
                obtain ⟨todo, x, hxv, t7⟩ := t7
                simp only at hr
                split at hr
                · rename_i fn' hdf hfn
                  simp only [Option.some.injEq, Prod.mk.injEq] at hr
                  obtain ⟨rfl, rfl⟩ := hr
                  have hd2 := t3.df
                  rw [hdf] at hd2
                  have hd0 : a2.defers = [] := by
                    cases hx2 : a2.defers with
                    | nil => rfl
                    | cons _ _ => rw [hx2] at hd2; exact hd2.elim
                  exact ⟨g2, w2, hst2, t2, x, hxv, Steps.trans hrun1 (Steps.trans t7 (.one (fstep_unwind rfl hd0 hfn)))⟩
                · cases hr
          · cases hr
        · cases hr
  · cases hr
end
end Go.AI
end

/-
  A range over a function, out of every round.
-/
section
namespace Go.AI
section
variable {P : Program} {R : Rec}
theorem run_enterLoop_out {w : World} (fn : FuncId) (tmps : Array Value) (ps : Array Tmp) (assign body : Code) :
    (Instr.enterLoop fn tmps ps assign body none).run P w =
      .ok (w.heap.size + 1, [{ target := .collected w.heap.size, args := #[] }])
        (pushW (pushW w (.deferred (some []))) (.loop { state := .ready, pending := none, fn, tmps, params := ps, assign, body, defers := w.heap.size })) := by
  unfold Instr.enterLoop
  have hn : ∀ (w : World) (o : Obj), (newObj o).run P w = .ok w.heap.size (pushW w o) := fun w o => by simp [newObj, pushW, Sem.run]
  simp only [Sem.run_bind, hn, Result.andThen_ok, Sem.run_pure, pushW_size]
theorem fstep_rangeFunc {b : Frame} {a : Act} {k : List Item} {cs : List Frame} {f : Operand} {ps : Array Tmp} {assign body : Code} {l : Nat} {mark : List Deferred} {w w₁ w₂ : World} {fid fid' : FuncId} {first captured args : Array Value}
    (he : (Instr.enterLoop b.fn a.tmps ps assign body b.roundOf).run P w = .ok (l, mark) w₁) (hv : a.eval f = .func (.func fid) first captured)
    (hinv : (callFunc fid (first ++ #[.func (.yield l) #[] #[]] ++ captured)).run P w₁ = .ok (.enter fid' args) w₂) :
    step P (lone (frm b a (.code (.rangeFunc f ps assign body) :: k)) cs w) =
      .next (lone (Frame.enter P fid' args .normal) (frm b { a with defers := mark ++ a.defers } (.inRangeFunc l :: k) :: cs) w₂) := by
  refine step_lone_go ?_
  have hev := frm_eval b { a with defers := mark ++ a.defers } (.inRangeFunc l :: k)
  simp only [frm] at hev
  have hv' : ({ tmps := a.tmps, defers := mark ++ a.defers } : Act).eval f = .func (.func fid) first captured := by
    rw [← hv]; cases f <;> rfl
  have hgo : Sem.run P (do let d ← resolve ({ tmps := a.tmps, defers := mark ++ a.defers } : Act).eval { callee := .value f, args := #[.const (.func (.yield l) #[] #[])], argTypes := #[] } 0; invoke d.target d.args) w₁ = .ok (.enter fid' args) w₂ := by
    simp only [resolve, hv', Deferred.ofValue, Sem.run_bind, Sem.run_pure, Result.andThen_ok, invoke]
    rw [← hinv]
    simp [Act.eval]
  simp only [stepG, stepG.exec, frm, Sem.runT_eq, he, GStep.bare_after, stepG.apply, hev, hgo]
  rfl
theorem fstep_endRange {b : Frame} {a : Act} {k : List Item} {cs : List Frame} {l : Nat} {jump : Option Code} {w w' : World} (hr : (Instr.endLoop l).run P w = .ok jump w') :
    step P (lone (frm b a (.endRangeFunc l :: k)) cs w) = .next (lone (frm b a ((jump.map Item.code).toList ++ k)) cs w') :=
  step_lone_go (by simp [stepG, stepG.exec, frm, Sem.runT_eq, hr, GStep.bare_after])
theorem range_ok (hP : ProgOK P) (hR : RecOK P R) : RangeOK P R := by
  intro cx f params assign body st ex st' hr g w b a k cs hw hf hc ha hm
  simp only [evalCode] at hr
  split at hr
  · cases hr
  · rename_i hround
    have hrn : b.roundOf = none := by have := hc.round; rw [hround] at this; exact this
    have h1 := alloc_ok (x := .dfr (some [])) (s := 0) (n := 0) hw (hf st.h.next (Nat.le_refl _)) (w' := pushW w (.deferred (some []))) rfl (by
      intro b' s' n' hb'
      rw [Gh.setB_same] at hb'
      simp only [Option.some.injEq, Prod.mk.injEq] at hb'
      obtain ⟨rfl, rfl, rfl⟩ := hb'
      exact pushW_new _ _)
    have hf1 := hf.step h1.2
    have hB1 : (g.setB st.h.next 0 (w.heap.size, 0, 0)).B st.h.next 0 = some (w.heap.size, 0, 0) := Gh.setB_same _ _ _ _
    generalize hg1 : g.setB st.h.next 0 (w.heap.size, 0, 0) = g1 at h1 hf1 hB1
    have h2 := alloc_ok (x := .loop .ready none cx.fn cx.tn st.tm params.toList assign body st.h.next) (s := 0) (n := 0) h1.1 (hf1 _ (Nat.le_refl _))
      (w' := pushW (pushW w (.deferred (some []))) (.loop { state := .ready, pending := none, fn := cx.fn, tmps := a.tmps, params, assign, body, defers := w.heap.size })) rfl (by
      intro b' s' n' hb'
      rw [Gh.setB_same] at hb'
      simp only [Option.some.injEq, Prod.mk.injEq] at hb'
      obtain ⟨rfl, rfl, rfl⟩ := hb'
      refine ⟨a.tmps, w.heap.size, 0, 0, ?_, ha.size, (ha.tm.mono h1.2.le).mono (Gh.setB_le (hf1 _ (Nat.le_refl _) 0)), (Gh.setB_le (hf1 _ (Nat.le_refl _) 0)).b _ _ _ hB1⟩
      rw [pushW_new])
    have hB2 : (g1.setB (st.h.alloc (.dfr (some []))).next 0 ((pushW w (.deferred (some []))).heap.size, 0, 0)).B (st.h.next + 1) 0 = some (w.heap.size + 1, 0, 0) := by
      rw [show (st.h.alloc (.dfr (some []))).next = st.h.next + 1 from rfl, pushW_size, Gh.setB_same]
    have hBd := h2.2.le.b _ _ _ hB1
    generalize g1.setB (st.h.alloc (.dfr (some []))).next 0 ((pushW w (.deferred (some []))).heap.size, 0, 0) = g2 at h2 hB2 hBd
    have hs2 := h1.2.trans hf h2.2
    have hf2 := hf.step hs2
    generalize hw2e : pushW (pushW w (.deferred (some []))) (.loop { state := .ready, pending := none, fn := cx.fn, tmps := a.tmps, params, assign, body, defers := w.heap.size }) = w2 at h2 hs2
    generalize ((st.h.alloc (.dfr (some []))).alloc (.loop .ready none cx.fn cx.tn st.tm params.toList assign body st.h.next)) = hA at h2 hs2 hf2 hr
    have hent : (Instr.enterLoop b.fn a.tmps params assign body b.roundOf).run P w = .ok (w.heap.size + 1, [{ target := .collected w.heap.size, args := #[] }]) w2 := by
      rw [hrn, hc.fn, run_enterLoop_out, hw2e]
    split at hr
    · rename_i fid first captured hfn
      obtain ⟨first', captured', hv, hv1, hv2⟩ := fnOf_ok (ha.ev f) hfn
      split at hr
      · rename_i fid' args hA' hcf
        have hyld : VR g2 (.yld (st.h.next + 1)) (.func (.yield (w.heap.size + 1)) #[] #[]) := .yld hB2
        have hvs : VRs g2 (first ++ [.yld (st.h.next + 1)] ++ captured) (first'.toList ++ [.func (.yield (w.heap.size + 1)) #[] #[]] ++ captured'.toList) :=
          ((hv1.mono hs2.le).append (show VRs g2 [.yld (st.h.next + 1)] [.func (.yield (w.heap.size + 1)) #[] #[]] from ⟨hyld, trivial⟩)).append (hv2.mono hs2.le)
        have hcf' := op_callFunc hP h2.1 (hf2 _ (Nat.le_refl _)) hvs hcf
        obtain ⟨rfl, vs, hrun, hvs'⟩ := hcf'
        have hrun' : (callFunc fid (first' ++ #[.func (.yield (w.heap.size + 1)) #[] #[]] ++ captured')).run P w2 = .ok (.enter fid' vs.toArray) w2 := by
          rw [← hrun]
          exact congrArg (fun v => Sem.run P (callFunc fid v) w2) (by apply Array.ext'; simp)
        have hstep := fstep_rangeFunc (b := b) (a := a) (k := k) (cs := cs) hent hv hrun'
        split at hr
        · rename_i rv cm' h3 hcall
          obtain ⟨e, w3, fr, ⟨g3, q1, q2, q3⟩, hcomes, hfnx, hleave⟩ := hR.call _ _ _ _ _ _ hcall g2 w2 vs h2.1 hf2 hvs' (frm b { a with defers := [{ target := .collected w.heap.size, args := #[] }] ++ a.defers } (.inRangeFunc (w.heap.size + 1) :: k) :: cs)
          cases e with
          | panicked _ => exact q3.elim
          | outgrown => exact q3.elim
          | returned x =>
            split at hr
            · rename_i ls pend fn1 tn1 tm1 ps1 a1 b1 dd1 hgl
              split at hr
              · cases hr
              · rename_i hbusy
                have hB3 := q1.le.b _ _ _ hB2
                have hBd3 := q1.le.b _ _ _ hBd
                obtain ⟨tmps1, db1, s1, n1, r1, r2, r3, r4⟩ := q2.obj _ _ hgl _ _ _ hB3
                have hend : (Instr.endLoop (w.heap.size + 1)).run P w3 = .ok pend (setW w3 (w.heap.size + 1) (.loop { state := .exhausted, pending := pend, fn := fn1, tmps := tmps1, params := ps1.toArray, assign := a1, body := b1, defers := db1 })) := by
                  unfold Instr.endLoop Instr.getLoop
                  simp only [Sem.run_bind, run_getObj r1 rfl, Result.andThen_ok, Sem.run_pure]
                  rw [if_neg hbusy]
                  simp only [Sem.run_bind, run_setObj r1 rfl, Result.andThen_ok, Sem.run_pure]
                have hup := upd_ok (x' := .loop .exhausted pend fn1 tn1 tm1 ps1 a1 b1 dd1) q2 hgl hB3 (w' := setW w3 (w.heap.size + 1) (.loop { state := .exhausted, pending := pend, fn := fn1, tmps := tmps1, params := ps1.toArray, assign := a1, body := b1, defers := db1 })) rfl (by
                  intro b' s2 n2 hb'
                  rw [hB3] at hb'
                  simp only [Option.some.injEq, Prod.mk.injEq] at hb'
                  obtain ⟨rfl, rfl, rfl⟩ := hb'
                  exact ⟨tmps1, db1, s1, n1, setW_same (lt_of_heap r1), r2, r3, r4⟩)
                have hs3 := hs2.trans hf q1
                have hs4 := hs3.trans hf hup.2
                have hsteps := Steps.head hstep (Steps.trans hcomes (.head (step_leave_returned hleave) (.one (fstep_endRange (b := b) (a := { a with defers := [{ target := .collected w.heap.size, args := #[] }] ++ a.defers }) (k := k) (cs := cs) hend))))
                have hact : ActR g3 cx.tn { st with h := h3.upd (st.h.next + 1) (.loop .exhausted pend fn1 tn1 tm1 ps1 a1 b1 dd1), df := .coll st.h.next :: st.df } { a with defers := [{ target := .collected w.heap.size, args := #[] }] ++ a.defers } :=
                  ⟨ha.tm.mono hs3.le, ha.size, ⟨w.heap.size, 0, 0, hBd3, rfl⟩, ha.df.mono hs3.le⟩
                cases pend with
                | none =>
                  simp only [Option.some.injEq, Prod.mk.injEq] at hr
                  obtain ⟨rfl, rfl⟩ := hr
                  exact ⟨g3, _, _, cs, hs4, hup.1, hact, .refl _ _, hm.mono hs3.le, id, hsteps⟩
                | some c =>
                  cases c with
                  | exit id =>
                    simp only [Option.some.injEq, Prod.mk.injEq] at hr
                    obtain ⟨rfl, rfl⟩ := hr
                    exact ⟨g3, _, _, cs, hs4, hup.1, hact, .refl _ _, hm.mono hs3.le, fun e => e, fun k' e => Steps.trans hsteps (.one (fstep_exit e)), fun e => ⟨k, e, hsteps⟩⟩
                  | ret =>
                    simp only [Option.some.injEq, Prod.mk.injEq] at hr
                    obtain ⟨rfl, rfl⟩ := hr
                    exact ⟨g3, _, _, cs, hs4, hup.1, hact, .refl _ _, hm.mono hs3.le, fun e => e, k, hsteps⟩
                  | _ => simp at hr
            · cases hr
        · rename_i v cm' h3 hcall
          simp only [Option.some.injEq, Prod.mk.injEq] at hr
          obtain ⟨rfl, rfl⟩ := hr
          obtain ⟨e, w3, fr, ⟨g3, q1, q2, q3⟩, hcomes, hfnx, hleave⟩ := hR.call _ _ _ _ _ _ hcall g2 w2 vs h2.1 hf2 hvs' (frm b { a with defers := [{ target := .collected w.heap.size, args := #[] }] ++ a.defers } (.inRangeFunc (w.heap.size + 1) :: k) :: cs)
          cases e with
          | returned _ => exact q3.elim
          | outgrown => exact q3.elim
          | panicked ch =>
            obtain ⟨x, rfl, q4⟩ := q3
            have hs3 := hs2.trans hf q1
            refine ⟨g3, w3, { a with defers := [{ target := .collected w.heap.size, args := #[] }] ++ a.defers }, cs, hs3, q2, ⟨ha.tm.mono hs3.le, ha.size, ⟨w.heap.size, 0, 0, q1.le.b _ _ _ hBd, rfl⟩, ha.df.mono hs3.le⟩, .refl _ _, hm.mono hs3.le, fun e => e, .inRangeFunc (w.heap.size + 1) :: k, x, q4, ?_⟩
            exact Steps.head hstep (Steps.trans hcomes (.one (step_leave_panicked hleave)))
        · cases hr
      · cases hr
    · cases hr
end
end Go.AI
end

/-
  Operations that change nothing: the world is the same behind them.
-/
section
namespace Go.AI
section
variable {P : Program} {h h' : AHeap} {g : Gh} {w : World}
def PureOK (P : Program) (h : AHeap) (g : Gh) (w : World) (s : Sem Next) (r : ANext) (h' : AHeap) : Prop :=
  h'.next = h.next → match r with
  | .val v => ∃ x, s.run P w = .ok (.value x) w ∧ VR g v x
  | _ => True
theorem PureOK.same {s : Sem Next} {v : AV} {x : Value} (_ : W h g w) (hr : s.run P w = .ok (.value x) w) (hv : VR g v x) : PureOK P h g w s (.val v) h :=
  fun _ => ⟨x, hr, hv⟩
theorem val_pure {s : Sem Value} {v? : Option AV} {r : ANext} (hw : W h g w) (e : val h v? = some (r, h'))
    (hs : ∀ v, v? = some v → ∃ x, s.run P w = .ok x w ∧ VR g v x) : PureOK P h g w (do pure (.value (← s))) r h' := by
  unfold val at e
  cases v? with
  | none => cases e
  | some v =>
    simp only [Option.map_some, Option.some.injEq, Prod.mk.injEq] at e
    obtain ⟨rfl, rfl⟩ := e
    obtain ⟨x, h1, h2⟩ := hs v rfl
    exact PureOK.same hw (by simp [h1]) h2
theorem hv_pure {s : Sem Next} {q : Option (AV × AHeap)} {r : ANext} (hr : (q.map fun (x : AV × AHeap) => (ANext.val x.1, x.2)) = some (r, h')) (hk : ∀ v h2, q = some (v, h2) → PureOK P h g w s (.val v) h2) : PureOK P h g w s r h' := by
  cases q with
  | none => cases hr
  | some x =>
    obtain ⟨v, h2⟩ := x
    simp only [Option.map_some, Option.some.injEq, Prod.mk.injEq] at hr
    obtain ⟨rfl, rfl⟩ := hr
    exact hk v h2 rfl
def isFB : Builtin → Bool
  | .len | .cap | .min | .max | .unsafeSliceData => true
  | _ => false
theorem convert_pure {src dst : TypeId} {x r : AV} {v : Value} (hw : W h g w) (hx : VR g x v) (hr : aconvert P h src dst x = some (r, h')) :
    PureOK P h g w (do pure (.value (← convert src dst v))) (.val r) h' := by
  unfold aconvert at hr
  split at hr
  · -- bytes to a string
    rename_i e hs hd
    split at hr
    · rename_i n he hn hsl
      split at hr
      · rename_i l hfa
        cases hbs : bytesOfA l with
        | none => rw [hbs] at hr; cases hr
        | some bs =>
          rw [hbs] at hr
          simp only [Option.map_some, Option.some.injEq, Prod.mk.injEq] at hr
          obtain ⟨rfl, rfl⟩ := hr
          obtain ⟨vs, q1, q2, q3⟩ := firstA_ok (P := P) hw hx hfa
          obtain ⟨ns, e1, e2⟩ := bytesOfA_ok hbs q1
          have q3 := q3 w.drawn
          have hsl' : ∃ a c, v = .slice a n c := by
            unfold lenA at hn
            split at hn
            · cases hx; simp at hn; subst hn; exact ⟨_, _, rfl⟩
            · cases hx; simp at hn; subst hn; exact ⟨_, _, rfl⟩
            · cases hx with
              | islNil => simp at hn; subst hn; exact ⟨_, _, rfl⟩
              | islE _ => simp at hn; subst hn; exact ⟨_, _, rfl⟩
              | isl _ _ _ => simp at hn; subst hn; exact ⟨_, _, rfl⟩
            · cases hx; simp at hn; subst hn; exact ⟨_, _, rfl⟩
            · cases hx; simp at hn; subst hn; exact ⟨_, _, rfl⟩
            · simp [isSl] at hsl
            · cases hn
          obtain ⟨a, c, rfl⟩ := hsl'
          refine PureOK.same hw (x := .string ⟨bs.toArray⟩) ?_ (.sc _)
          simp only [Sem.run_bind]
          rw [run_convert_bytes_string w src dst e a n c hs he hd]
          cases a with
          | none =>
            simp only [Builtin.firstCells, Sem.run_pure, Result.ok.injEq, and_true] at q3
            have : vs = [] := by simpa using q3.symm
            rw [this] at e1
            have : ns = [] := by simpa using e1.symm
            subst this
            subst e2
            simp [Conv.bytesToString]
            rfl
          | some a =>
            have hl : (loadCells a n).run P w = .ok (ns.map (Value.int .u8)).toArray w := by
              rw [← e1]
              have : (Builtin.firstCells 1 n (.slice (some a) n c)).run P w = (loadCells a (n * 1)).run P w := rfl
              rw [Nat.mul_one] at this
              rw [← this]; exact q3
            rw [run_bytesToString w a n c ns hl, foldl_push_bytes, e2, show ByteArray.empty.data = #[] from rfl, Array.empty_append]
            rfl
      · cases hr
    · cases hr
  · -- a string to bytes
    rename_i e hs hd
    split at hr
    · rename_i s he
      split at hr
      · simp only [Option.some.injEq, Prod.mk.injEq] at hr
        obtain ⟨rfl, rfl⟩ := hr
        intro hn; simp [AHeap.alloc] at hn
      · cases hr
    · cases hr
  · -- a pointer to unsafe.Pointer
    rename_i t hs hd
    split at hr
    · rename_i o ver n off k hsz
      split at hr
      · rename_i cs hrd
        simp only [Option.some.injEq, Prod.mk.injEq] at hr
        obtain ⟨rfl, rfl⟩ := hr
        have hx0 := hx
        cases hx with
        | ref hB =>
          rename_i b sb
          obtain ⟨v', m', c', fz, el, ex, sh, _, ca, f, hk, hle⟩ := rd_block hw hrd hB
          refine PureOK.same hw (x := .pointer (some ⟨b, off, none⟩)) ?_ hx0
          have h1 : ¬ ca.size ≤ off := by have := hk.les; have := hk.size; omega
          simp [convert, run_underlying hs, run_underlying hd, Conv.unsafePointer, run_seenAt hk.here, cellsIn, shape_of hk.here, run_sizeOf hsz, h1]
      · cases hr
    · simp only [Option.some.injEq, Prod.mk.injEq] at hr
      obtain ⟨rfl, rfl⟩ := hr
      cases hx
      refine PureOK.same hw (x := .pointer none) ?_ (.sc _)
      simp [convert, run_underlying hs, run_underlying hd, Conv.unsafePointer]
    · cases hr
  · -- unsafe.Pointer to itself
    rename_i hs hd
    split at hr
    · simp only [Option.some.injEq, Prod.mk.injEq] at hr
      obtain ⟨rfl, rfl⟩ := hr
      have hx0 := hx
      cases hx with
      | ref hB =>
        refine PureOK.same hw ?_ hx0
        simp [convert, run_underlying hs, run_underlying hd, Conv.unsafePointer]
    · simp only [Option.some.injEq, Prod.mk.injEq] at hr
      obtain ⟨rfl, rfl⟩ := hr
      cases hx
      refine PureOK.same hw (x := .pointer none) ?_ (.sc _)
      simp [convert, run_underlying hs, run_underlying hd, Conv.unsafePointer]
    · cases hr
  · -- unsafe.Pointer to a pointer
    rename_i u hs hd
    split at hr
    · rename_i o ver n off k hsz
      split at hr
      · rename_i cs v2 m2 c2 fz2 el2 sh2 hrd hget
        split at hr
        · rename_i hlies
          simp only [Option.some.injEq, Prod.mk.injEq] at hr
          obtain ⟨rfl, rfl⟩ := hr
          have hx0 := hx
          cases hx with
          | ref hB =>
            rename_i b sb
            obtain ⟨v', m', c', fz, el, ex, sh, hg', ca, f, hk, hle⟩ := rd_block hw hrd hB
            rw [hget] at hg'
            simp only [Option.some.injEq, AObj.cells.injEq] at hg'
            obtain ⟨rfl, rfl, rfl, rfl, rfl, rfl, rfl⟩ := hg'
            refine PureOK.same hw (x := .pointer (some ⟨b, off, none⟩)) ?_ hx0
            have hcs : ca.size = c2.length := by rw [hk.size, hk.exact rfl]
            simp [convert, run_underlying hs, run_underlying hd, Conv.unsafePointer, run_seenAt hk.here, variablesAt, shape_of hk.here, run_sizeOf hsz, hcs, hlies]
        · cases hr
      · cases hr
    · simp only [Option.some.injEq, Prod.mk.injEq] at hr
      obtain ⟨rfl, rfl⟩ := hr
      cases hx
      refine PureOK.same hw (x := .pointer none) ?_ (.sc _)
      simp [convert, run_underlying hs, run_underlying hd, Conv.unsafePointer]
    · cases hr
  · -- plain values
    split at hr
    · rename_i v' hv
      cases hp : peel P (convert src dst v') with
      | none => rw [hp] at hr; cases hr
      | some u =>
        rw [hp] at hr
        simp only [Option.map_some, Option.some.injEq, Prod.mk.injEq] at hr
        obtain ⟨rfl, rfl⟩ := hr
        rw [toVal_eq hv hx]
        exact PureOK.same hw (by simp [peel_run hp w]) (VR.ofVal u)
    · cases hr
  · cases hr
theorem builtin_pure {b : Builtin} {ats : Array TypeId} {ty : TypeId} {cs : Array Bool} {xs : List AV} {vs : List Value} {r : ANext} (hw : W h g w) (hv : VRs g xs vs)
    (hb : isFB b = true) (hr : abuiltin P h b ats ty xs = some (r, h')) : PureOK P h g w (builtin b ats ty cs vs.toArray) r h' := by
  unfold abuiltin at hr
  split at hr
  · simp [isFB] at hb
  · simp [isFB] at hb
  · rename_i x
    obtain ⟨u, rfl, hu⟩ := one_arg rfl hv
    split at hr
    · rename_i t h0
      refine val_pure (s := Builtin.len_ ats ty #[u]) hw hr fun v e => ?_
      cases hl : alen P h t x with
      | none => rw [hl] at e; cases e
      | some n => rw [hl] at e; simp at e; subst e; exact ⟨_, op_len hw h0 hu hl, .sc _⟩
    · cases hr
  · rename_i x
    obtain ⟨u, rfl, hu⟩ := one_arg rfl hv
    split at hr
    · rename_i t h0
      refine val_pure (s := Builtin.cap_ ats ty #[u]) hw hr fun v e => ?_
      cases hl : acap P t x with
      | none => rw [hl] at e; cases e
      | some n => rw [hl] at e; simp at e; subst e; exact ⟨_, op_cap h0 hu hl, .sc _⟩
    · cases hr
  · simp [isFB] at hb
  · simp [isFB] at hb
  · simp [isFB] at hb
  · simp [isFB] at hb
  · split at hr
    · rename_i us hus
      split at hr
      · rename_i u hp
        simp only [Option.some.injEq, Prod.mk.injEq] at hr
        obtain ⟨rfl, rfl⟩ := hr
        rw [extArgs_eq hus hv]
        exact PureOK.same hw (peel_run hp w) (VR.ofVal u)
      · cases hr
    · cases hr
  · split at hr
    · rename_i us hus
      split at hr
      · rename_i u hp
        simp only [Option.some.injEq, Prod.mk.injEq] at hr
        obtain ⟨rfl, rfl⟩ := hr
        rw [extArgs_eq hus hv]
        exact PureOK.same hw (peel_run hp w) (VR.ofVal u)
      · cases hr
    · cases hr
  · obtain ⟨u, rfl, hu⟩ := one_arg rfl hv
    have hdef : builtin .unsafeSliceData ats ty cs [u].toArray = (do pure (.value (← Builtin.unsafeSliceData_ ats ty #[u]))) := rfl
    rw [hdef]
    split at hr
    · simp only [Option.some.injEq, Prod.mk.injEq] at hr
      obtain ⟨rfl, rfl⟩ := hr
      cases hu
      exact PureOK.same hw (x := .pointer none) rfl (.sc _)
    · split at hr
      · rename_i hc
        simp only [Option.some.injEq, Prod.mk.injEq] at hr
        obtain ⟨rfl, rfl⟩ := hr
        cases hu with
        | sl hB p1 p2 p3 =>
          rename_i o ver n off sz len cap b s c
          have hc0 : c ≠ 0 := by
            rcases hc with hc | hc
            · omega
            · cases cap with
              | none => simp [capOf] at hc
              | some k => have := p3 k rfl; simp [capOf] at hc; omega
          refine PureOK.same hw (x := .pointer (some ⟨b, off, none⟩)) ?_ (.ref hB)
          have hd2 : Builtin.unsafeSliceData_ ats ty #[.slice (some ⟨b, off, none⟩) len c] = (do
              if c ≠ 0 then pure (.pointer (some ⟨b, off, none⟩))
              else if (← viewAt b).isSome then pure (.pointer (some ⟨b, off, none⟩))
              else pure (.pointer (some ⟨← newObj (.view ⟨b, off, none⟩ (← elemOf ty)), 0, none⟩))) := rfl
          rw [hd2]
          simp [hc0]
      · cases hr
    · cases hr
  · simp [isFB] at hb
  · cases hr
theorem aop_pure {ρ : Operand → AV} {ρ' : Operand → Value} {o : Oper} {r : ANext} (hF : isF o.op = true) (hw : W h g w) (hρ : ∀ x, VR g (ρ x) (ρ' x))
    (hr : aop P ρ o h = some (r, h')) : PureOK P h g w (execOp ρ' o) r h' := by
  obtain ⟨dst, op, type, pos, after, guard⟩ := o
  cases op <;> first | (simp [isF] at hF; done) | skip
  all_goals (try simp only [aop] at hr)
  all_goals (try simp only [execOp])
  case move x =>
    simp only [Option.some.injEq, Prod.mk.injEq] at hr
    obtain ⟨rfl, rfl⟩ := hr
    exact PureOK.same hw rfl (hρ x)
  case assign x =>
    simp only [Option.some.injEq, Prod.mk.injEq] at hr
    obtain ⟨rfl, rfl⟩ := hr
    exact PureOK.same hw rfl (hρ x)
  case pick c a b =>
    have hc := hρ c
    split at hr
    · rename_i t ht
      simp only [Option.some.injEq, Prod.mk.injEq] at hr
      obtain ⟨rfl, rfl⟩ := hr
      rw [ht] at hc
      have hv : ρ' c = .bool t := VR.sc_inv hc
      rw [hv]
      cases t with
      | true => exact PureOK.same hw rfl (hρ a)
      | false => exact PureOK.same hw rfl (hρ b)
    · cases hr
  case build t parts => exact val_pure hw hr fun v e => op_build e (by rw [Array.toList_map]; exact PartsR.map hρ _)
  case load t a => exact val_pure hw hr fun v e => aload_ok hw e (hρ a)
  case nilCheck x =>
    have hx := hρ x
    split at hr
    · rename_i hx'
      simp only [Option.some.injEq, Prod.mk.injEq] at hr
      obtain ⟨rfl, rfl⟩ := hr
      have hx0 := hx
      rw [hx'] at hx
      cases hv : ρ' x with
      | pointer p => rw [hv] at hx hx0; cases hx; exact PureOK.same hw rfl hx0
      | _ => rw [hv] at hx; cases hx
    · rename_i hx'
      simp only [Option.some.injEq, Prod.mk.injEq] at hr
      obtain ⟨rfl, rfl⟩ := hr
      have hx0 := hx
      rw [hx'] at hx
      cases hv : ρ' x with
      | pointer p => rw [hv] at hx hx0; cases hx; exact PureOK.same hw rfl hx0
      | _ => rw [hv] at hx; cases hx
    · rename_i f a c hx'
      simp only [Option.some.injEq, Prod.mk.injEq] at hr
      obtain ⟨rfl, rfl⟩ := hr
      rw [hx'] at hx
      obtain ⟨a', c', hv, h1, h2⟩ := VR.func_iff.1 hx
      rw [hv]
      exact PureOK.same hw rfl (by rw [← hv]; exact hx)
    · rename_i l hx'
      simp only [Option.some.injEq, Prod.mk.injEq] at hr
      obtain ⟨rfl, rfl⟩ := hr
      rw [hx'] at hx
      cases hv : ρ' x with
      | func fn a cc => rw [hv] at hx; have hx0 := hx; cases hx; exact PureOK.same hw rfl hx0
      | _ => rw [hv] at hx; cases hx
    · rename_i f a c hx'
      simp only [Option.some.injEq, Prod.mk.injEq] at hr
      obtain ⟨rfl, rfl⟩ := hr
      rw [hx'] at hx
      have hv : ρ' x = .func (.func f) a c := VR.sc_inv hx
      rw [hv]
      exact PureOK.same hw rfl (.sc _)
    · rename_i t v hx'
      simp only [Option.some.injEq, Prod.mk.injEq] at hr
      obtain ⟨rfl, rfl⟩ := hr
      rw [hx'] at hx
      cases hv : ρ' x with
      | iface t' u => rw [hv] at hx; have hx0 := hx; cases hx; exact PureOK.same hw rfl hx0
      | _ => rw [hv] at hx; cases hx
    · cases hr
  case binOp op xt x y yt => exact val_pure hw hr fun v e => op_bin (hρ x) (hρ y) e
  case unOp op xt x =>
    split at hr
    · rename_i v hv
      rw [toVal_eq hv (hρ x)]
      exact val_pure hw hr fun v e => pure_ok e
    · cases hr
  case convert s d x => exact hv_pure hr fun v h2 e => convert_pure hw (hρ x) e
  case makeInterface t x =>
    split at hr
    · cases hr
    · rename_i d hd hu
      simp only [Option.some.injEq, Prod.mk.injEq] at hr
      obtain ⟨rfl, rfl⟩ := hr
      refine PureOK.same hw ?_ (.iface (hρ x))
      have : (Instr.makeInterface t (ρ' x)).run P w = .ok (.iface t (ρ' x)) w := by
        unfold Instr.makeInterface
        simp only [Sem.run_bind, run_underlying hu, Result.andThen_ok]
        cases d <;> first | (exact absurd rfl (hd _)) | rfl
      simp [this]
    · cases hr
  case makeFunc fn first captured =>
    simp only [Option.some.injEq, Prod.mk.injEq] at hr
    obtain ⟨rfl, rfl⟩ := hr
    exact PureOK.same hw rfl (VR.func_iff.2 ⟨_, _, rfl, VRs.ops hρ _, VRs.ops hρ _⟩)
  case slice t x lo hi mx => exact val_pure hw hr fun v e => op_slice (hρ x) (OptR.map hρ lo) (OptR.map hρ hi) (OptR.map hρ mx) e
  case fieldAddr s x f => exact val_pure hw hr fun v e => op_fieldAddr (hρ x) e
  case field t x f => exact val_pure hw hr fun v e => op_field (hρ x) e
  case indexAddr t x i => exact val_pure hw hr fun v e => op_indexAddr (hρ x) (hρ i) e
  case index t x i => exact val_pure hw hr fun v e => op_index (hρ x) (hρ i) e
  case lookup t x i ok => exact val_pure hw hr fun v e => op_lookup hw (hρ x) (hρ i) e
  case typeAssert x xt a ok => exact val_pure hw hr fun v e => op_assert (hρ x) e
  case extract t i =>
    have hx := hρ t
    split at hr
    · rename_i vs hx'
      rw [hx'] at hx
      obtain ⟨us, hv, h1⟩ := VR.tuple_iff.1 hx
      rw [hv]
      refine val_pure hw hr fun v e => ?_
      have hi : i < us.size := by
        have := h1.length
        have h2 : i < vs.length := by
          rcases Nat.lt_or_ge i vs.length with h' | h'
          · exact h'
          · rw [List.getElem?_eq_none h'] at e; cases e
        simp at this; omega
      refine ⟨us[i], by simp [Instr.extract, hi], h1.get i v us[i] e (by simp [hi])⟩
    · cases hr
  case call c =>
    obtain ⟨callee, args, ats⟩ := c
    cases callee with
    | builtin b =>
      have hb : isFB b = true := by cases b <;> first | rfl | simp [isF] at hF
      have hargs := VRs.ops hρ args
      have := builtin_pure (cs := args.map fun | .const _ => true | _ => false) hw hargs hb hr
      rwa [Array.toArray_toList] at this
    | invoke _ _ => simp [isF] at hF
    | value _ => simp [isF] at hF
end
end Go.AI
end
