/-
  Answers that are known: a call whose arguments read as given data, and which hands back a plain value.
-/
import Derived.Test.YtbdcnekkebhhhaaGreatDoorAe
set_option linter.all false

section
namespace Go.AI
theorem peek_call {P : Program} {f : FuncId} {args args' : List AV} {v : Value} {h1 : AHeap} {n : Nat} (hc : CallOK P f args' h0 (.ret (.sc v)) h1) (h : AHeap) (hs : snaps h n args = some args') : CallOK P f args h (.ret (.sc v)) h := by
  intro g w vs hw hf hv
  let g1 : Gh := ⟨fun _ _ => none, fun b i => w.cell? ⟨b, i, none⟩⟩
  have hcell : ∀ b i u, w.cell? ⟨b, i, none⟩ = some u → b < w.heap.size := by
    intro b i u hm
    rcases Nat.lt_or_ge b w.heap.size with a | a
    · exact a
    · exfalso
      have hn : w.heap[b]? = none := Array.getElem?_eq_none a
      unfold World.cell? at hm
      simp [hn] at hm
  have hw1 : W h0 g1 w := ⟨fun o x e => (by simp [h0, AHeap.get, Tr.get] at e), fun _ _ _ _ _ e => (by cases e), fun _ _ _ _ _ _ _ _ _ e => (by cases e), fun b i u hm => ⟨hm, hcell b i u hm⟩, fun _ _ _ _ _ _ _ _ e => (by cases e), hw.glMove (fun _ _ _ => rfl) (fun b i v e => (hw.ro b i v e).1)⟩
  have hv1 : VRs g1 args' vs := snaps_ok (g2 := g1) hw (fun b i u hm => (hw.ro b i u hm).1) (fun _ _ _ _ _ _ _ _ hm => hm) hs hv
  refine (hc g1 w vs hw1 (fun _ _ _ => rfl) hv1).mono ?_
  rintro e w' ⟨g', st, hw', ho⟩
  have hold : ∀ b, b < w.heap.size → w'.heap[b]? = w.heap[b]? := fun b hb => st.fr b hb fun o v s n e => by cases e
  refine ⟨g, ⟨.refl g, Nat.le_refl _, rfl, fun _ h => h, fun _ _ _ _ => rfl, fun _ _ _ => rfl, fun _ _ h => h, fun _ _ _ h => .inl h, st.size, fun o v b s n e _ => ⟨v, s, n, e⟩, fun b hb _ => hold b hb, st.tape, st.os, st.out, fun _ _ _ h => .inl h⟩, hw.same st.size hold, ?_⟩
  cases e with
  | returned x => cases ho; exact .sc _
  | panicked _ => exact ho.elim
  | outgrown => exact ho.elim
def u8sEq : List UInt8 → List UInt8 → Bool
  | [], [] => true
  | a :: as, b :: bs => match Nat.beq a.toNat b.toNat with
    | true => u8sEq as bs
    | false => false
  | _, _ => false
theorem u8sEq_ok : ∀ {a b : List UInt8}, u8sEq a b = true → a = b
  | [], [], _ => rfl
  | [], _ :: _, h => by simp [u8sEq] at h
  | _ :: _, [], h => by simp [u8sEq] at h
  | a :: as, b :: bs, h => by
    unfold u8sEq at h
    split at h
    · rename_i e
      rw [UInt8.toNat_inj.1 (Nat.eq_of_beq_eq_true e), u8sEq_ok h]
    · cases h
def scEq : Value → Value → Bool
  | .int .i64 n, .int .i64 m => match n, m with
    | .ofNat a, .ofNat b => Nat.beq a b
    | _, _ => false
  | .string a, .string b => u8sEq a.data.toList b.data.toList
  | .slice none 0 0, .slice none 0 0 => true
  | .bool a, .bool b => match a, b with
    | true, true => true
    | false, false => true
    | _, _ => false
  | _, _ => false
theorem scEq_ok {a b : Value} (h : scEq a b = true) : a = b := by
  unfold scEq at h
  split at h
  · split at h
    · rw [Nat.eq_of_beq_eq_true h]
    · cases h
  · rename_i a b
    have := u8sEq_ok h
    obtain ⟨⟨a⟩⟩ := a
    obtain ⟨⟨b⟩⟩ := b
    simp at this
    rw [this]
  · rfl
  · split at h
    · rfl
    · rfl
    · cases h
  · cases h
mutual
def avEq : AV → AV → Bool
  | .sc a, .sc b => scEq a b
  | .agg a, .agg b => avsEq a b
  | .isl r s, .isl r' s' => match Nat.beq s s' with
    | true => avssEq r r'
    | false => false
  | _, _ => false
def avsEq : List AV → List AV → Bool
  | [], [] => true
  | a :: as, b :: bs => match avEq a b with
    | true => avsEq as bs
    | false => false
  | _, _ => false
def avssEq : List (List AV) → List (List AV) → Bool
  | [], [] => true
  | a :: as, b :: bs => match avsEq a b with
    | true => avssEq as bs
    | false => false
  | _, _ => false
end
mutual
theorem avEq_ok : ∀ (a b : AV), avEq a b = true → a = b
  | .sc a, b, h => by
    cases b <;> simp only [avEq] at h <;> try (cases h; done)
    rw [scEq_ok h]
  | .agg a, b, h => by
    cases b <;> simp only [avEq] at h <;> try (cases h; done)
    rw [avsEq_ok _ _ h]
  | .isl r s, b, h => by
    cases b <;> simp only [avEq] at h <;> try (cases h; done)
    split at h
    · rename_i e
      rw [avssEq_ok _ _ h, Nat.eq_of_beq_eq_true e]
    · cases h
  | .unk, b, h => by simp [avEq] at h
  | .ref _ _ _ _, b, h => by simp [avEq] at h
  | .sl _ _ _ _ _ _ _, b, h => by simp [avEq] at h
  | .esl, b, h => by simp [avEq] at h
  | .pref _, b, h => by simp [avEq] at h
  | .psl _ _ _ _, b, h => by simp [avEq] at h
  | .map _, b, h => by simp [avEq] at h
  | .func _ _ _, b, h => by simp [avEq] at h
  | .yld _, b, h => by simp [avEq] at h
  | .iface _ _, b, h => by simp [avEq] at h
  | .tuple _, b, h => by simp [avEq] at h
theorem avsEq_ok : ∀ (a b : List AV), avsEq a b = true → a = b
  | [], [], _ => rfl
  | [], _ :: _, h => by simp [avsEq] at h
  | _ :: _, [], h => by simp [avsEq] at h
  | a :: as, b :: bs, h => by
    simp only [avsEq] at h
    split at h
    · rename_i e
      rw [avEq_ok _ _ e, avsEq_ok _ _ h]
    · cases h
theorem avssEq_ok : ∀ (a b : List (List AV)), avssEq a b = true → a = b
  | [], [], _ => rfl
  | [], _ :: _, h => by simp [avssEq] at h
  | _ :: _, [], h => by simp [avssEq] at h
  | a :: as, b :: bs, h => by
    simp only [avssEq] at h
    split at h
    · rename_i e
      rw [avsEq_ok _ _ e, avssEq_ok _ _ h]
    · cases h
end
structure Known where
  f : FuncId
  args : List AV
  v : Value
def lookK (f : FuncId) (args : List AV) (h : AHeap) : List Known → Option Value
  | [] => none
  | k :: ks => match Nat.beq k.f f with
    | true => (match snaps h 1000 args with
      | some a => (match avsEq a k.args with
        | true => some k.v
        | false => lookK f args h ks)
      | none => lookK f args h ks)
    | false => lookK f args h ks
def Rec.memo (tbl : List Known) (R : Rec) : Rec :=
  { R with call := fun kind f args cm h => match kind, cm with
    | .normal, .none => (match lookK f args h tbl with
      | some v => some (.ret (.sc v), .none, h)
      | none => R.call .normal f args .none h)
    | k, c => R.call k f args c h }
def KnownOK (P : Program) (tbl : List Known) : Prop := ∀ k, k ∈ tbl → ∃ h1, CallOK P k.f k.args h0 (.ret (.sc k.v)) h1
theorem lookK_ok {P : Program} {f : FuncId} {args : List AV} {h : AHeap} {v : Value} : ∀ {tbl : List Known}, KnownOK P tbl → lookK f args h tbl = some v → CallOK P f args h (.ret (.sc v)) h
  | [], _, e => by cases e
  | k :: ks, hk, e => by
    have ih := fun e => lookK_ok (P := P) (f := f) (args := args) (h := h) (v := v) (tbl := ks) (fun x hx => hk x (List.mem_cons_of_mem _ hx)) e
    unfold lookK at e
    split at e
    · rename_i hf
      split at e
      · rename_i a ha
        split at e
        · rename_i hq
          simp only [Option.some.injEq] at e
          obtain ⟨h1, hc⟩ := hk k (List.mem_cons_self ..)
          rw [← avsEq_ok _ _ hq, Nat.eq_of_beq_eq_true hf, e] at hc
          exact peek_call hc h ha
        · exact ih e
      · exact ih e
    · exact ih e
theorem memo_ok {P : Program} {tbl : List Known} {R : Rec} (hk : KnownOK P tbl) (hR : RecOK P R) : RecOK P (R.memo tbl) where
  call := fun f args h out cm' h' e => by
    simp only [Rec.memo] at e
    split at e
    · rename_i v hv
      simp only [Option.some.injEq, Prod.mk.injEq] at e
      obtain ⟨rfl, _, rfl⟩ := e
      exact lookK_ok hk hv
    · exact hR.call _ _ _ _ _ _ e
  calld := fun f args cm h out cm' h' hn e => hR.calld f args cm h out cm' h' hn (by
    simp only [Rec.memo] at e
    exact e)
  loop := hR.loop
  round := hR.round
def recM (P : Program) (tbl : List Known) : Nat → Rec
  | 0 => Rec.zero
  | n + 1 => (Rec.succ P (recM P tbl n)).memo tbl
theorem recM_ok {P : Program} {tbl : List Known} (hP : ProgOK P) (hk : KnownOK P tbl) : ∀ n, RecOK P (recM P tbl n)
  | 0 => rec_zero
  | n + 1 => memo_ok hk (rec_succ hP (recM_ok hP hk n))
def givesT (R : Rec) (f : FuncId) (args : List AV) (v : Value) : Bool :=
  match R.call .normal f args .none h0 with
  | some (.ret (.sc u), _, _) => scEq u v
  | _ => false
theorem givesT_ok {P : Program} {R : Rec} (hR : RecOK P R) {f : FuncId} {args : List AV} {v : Value} (h : givesT R f args v = true) : ∃ h1, CallOK P f args h0 (.ret (.sc v)) h1 := by
  unfold givesT at h
  split at h
  · rename_i u cm h1 e
    have := scEq_ok h
    subst this
    exact ⟨h1, hR.call _ _ _ _ _ _ e⟩
  · cases h
end Go.AI
end

/-
  Answers that are known: plain values of calls whose arguments read as given data, and data of calls on data.
-/
section
namespace Go.AI
mutual
def flatA : AV → Bool
  | .sc _ => true
  | .agg cs => flatAs cs
  | .tuple cs => flatAs cs
  | _ => false
def flatAs : List AV → Bool
  | [] => true
  | x :: xs => match flatA x with
    | true => flatAs xs
    | false => false
end
mutual
theorem flatA_ok {g g' : Gh} : ∀ (x : AV) {v : Value}, flatA x = true → VR g x v → VR g' x v
  | .sc u, v, _, hv => by cases hv; exact .sc _
  | .agg cs, v, h, hv => by
    obtain ⟨a, rfl, ha⟩ := VR.agg_iff.1 hv
    exact VR.agg_iff.2 ⟨a, rfl, flatAs_ok cs h ha⟩
  | .tuple cs, v, h, hv => by
    obtain ⟨a, rfl, ha⟩ := VR.tuple_iff.1 hv
    exact VR.tuple_iff.2 ⟨a, rfl, flatAs_ok cs h ha⟩
  | .unk, v, h, hv => by simp [flatA] at h
  | .ref _ _ _ _, v, h, hv => by simp [flatA] at h
  | .sl _ _ _ _ _ _ _, v, h, hv => by simp [flatA] at h
  | .esl, v, h, hv => by simp [flatA] at h
  | .pref _, v, h, hv => by simp [flatA] at h
  | .psl _ _ _ _, v, h, hv => by simp [flatA] at h
  | .isl _ _, v, h, hv => by simp [flatA] at h
  | .map _, v, h, hv => by simp [flatA] at h
  | .func _ _ _, v, h, hv => by simp [flatA] at h
  | .yld _, v, h, hv => by simp [flatA] at h
  | .iface _ _, v, h, hv => by simp [flatA] at h
theorem flatAs_ok {g g' : Gh} : ∀ (xs : List AV) {vs : List Value}, flatAs xs = true → VRs g xs vs → VRs g' xs vs
  | [], vs, _, hv => by
    cases vs with
    | nil => trivial
    | cons v vs => exact hv.elim
  | x :: xs, vs, h, hv => by
    cases vs with
    | nil => exact hv.elim
    | cons v vs =>
      unfold flatAs at h
      split at h
      · rename_i h1
        exact ⟨flatA_ok x h1 hv.1, flatAs_ok xs h hv.2⟩
      · cases h
end
mutual
def snapP (h : AHeap) : Nat → AV → Option AV
  | 0, _ => none
  | n + 1, v => match v with
    | .sl o ver m off sz len cap =>
      if sz = 0 then none else
      match rdCells h o ver m off (len * sz) with
      | some cs => match snapsP h n cs with
        | some l => some (.psl l sz len cap)
        | none => none
      | none => none
    | .agg cs => match snapsP h n cs with
      | some l => some (.agg l)
      | none => none
    | .tuple cs => match snapsP h n cs with
      | some l => some (.tuple l)
      | none => none
    | .sc v => some (.sc v)
    | .isl r s => some (.isl r s)
    | .psl c s l k => if heapFrees c = true then some (.psl c s l k) else none
    | .esl => some .esl
    | .unk => some .unk
    | _ => none
def snapsP (h : AHeap) : Nat → List AV → Option (List AV)
  | _, [] => some []
  | 0, _ :: _ => none
  | n + 1, x :: xs => match snapP h n x, snapsP h n xs with
    | some y, some ys => some (y :: ys)
    | _, _ => none
end
theorem snapsP_length {h : AHeap} : ∀ {n : Nat} {xs ys : List AV}, snapsP h n xs = some ys → ys.length = xs.length
  | _, [], ys, e => by simp [snapsP] at e; subst e; rfl
  | 0, x :: xs, ys, e => by simp [snapsP] at e
  | n + 1, x :: xs, ys, e => by
    rw [snapsP] at e
    split at e
    · rename_i h1 h2
      simp only [Option.some.injEq] at e; subst e
      simp [snapsP_length h2]
    · cases e
section
variable {h : AHeap} {g g2 : Gh} {w : World}
mutual
theorem snapP_ok (hw : W h g w) (hm : ∀ b i v, g.M b i = some v → g2.M b i = some v) (hb : ∀ o v b s n i u, g.B o v = some (b, s, n) → w.cell? ⟨b, i, none⟩ = some u → g2.M b i = some u) :
    ∀ {n : Nat} {x y : AV} {v : Value}, snapP h n x = some y → VR g x v → VR g2 y v
  | 0, _, _, _, e, _ => by simp [snapP] at e
  | n + 1, x, y, v, e, hr => by
    cases x <;> simp only [snapP] at e <;> try (cases e; done)
    case unk => simp only [Option.some.injEq] at e; subst e; exact .unk _
    case sc => simp only [Option.some.injEq] at e; subst e; cases hr; exact .sc _
    case esl => simp only [Option.some.injEq] at e; subst e; cases hr; exact .esl _ _
    case isl => simp only [Option.some.injEq] at e; subst e; exact VR.free hm hr rfl
    case psl c _ _ _ =>
      split at e
      · rename_i hf
        simp only [Option.some.injEq] at e; subst e
        exact VR.free hm hr (by simpa [heapFree] using hf)
      · cases e
    case agg cs =>
      split at e
      · rename_i l hl
        simp only [Option.some.injEq] at e; subst e
        obtain ⟨a, rfl, ha⟩ := VR.agg_iff.1 hr
        exact VR.agg_iff.2 ⟨a, rfl, snapsP_ok hw hm hb hl ha⟩
      · cases e
    case tuple cs =>
      split at e
      · rename_i l hl
        simp only [Option.some.injEq] at e; subst e
        obtain ⟨a, rfl, ha⟩ := VR.tuple_iff.1 hr
        exact VR.tuple_iff.2 ⟨a, rfl, snapsP_ok hw hm hb hl ha⟩
      · cases e
    case sl o ver m off sz len cap =>
      split at e
      · cases e
      · rename_i hz
        split at e
        · rename_i cs hcs
          split at e
          · rename_i l hl
            simp only [Option.some.injEq] at e; subst e
            cases hr with
            | sl hB p1 p2 p3 =>
              rename_i b s c
              obtain ⟨vs, q1, q2, q3, _⟩ := rdCells_ok hw hcs hB
              have hlen : l.length = len * sz := by rw [snapsP_length hl, q1.length, q2]
              have hvs := snapsP_ok hw hm hb hl q1
              have key : VR g2 (.psl l sz len cap) (.slice (some ⟨b, off, none⟩) len c) := by
                refine .psl (fun i => vs.getD i .nilIface) ?_ ?_ hlen p2 p3
                · intro i x hx
                  have hi : i < vs.length := by
                    have := hvs.length
                    rcases Nat.lt_or_ge i vs.length with a | a
                    · exact a
                    · rw [List.getElem?_eq_none (by omega)] at hx; cases hx
                  have := q3 i vs[i] (by rw [List.getElem?_eq_getElem hi])
                  rw [show vs.getD i .nilIface = vs[i] by simp [List.getD, List.getElem?_eq_getElem hi]]
                  exact hb _ _ _ _ _ _ _ hB this
                · intro i x hx
                  have hi : i < vs.length := by
                    have := hvs.length
                    rcases Nat.lt_or_ge i vs.length with a | a
                    · exact a
                    · rw [List.getElem?_eq_none (by omega)] at hx; cases hx
                  rw [show vs.getD i .nilIface = vs[i] by simp [List.getD, List.getElem?_eq_getElem hi]]
                  exact hvs.get i x vs[i] hx (List.getElem?_eq_getElem hi)
              exact key
          · cases e
        · cases e
theorem snapsP_ok (hw : W h g w) (hm : ∀ b i v, g.M b i = some v → g2.M b i = some v) (hb : ∀ o v b s n i u, g.B o v = some (b, s, n) → w.cell? ⟨b, i, none⟩ = some u → g2.M b i = some u) :
    ∀ {n : Nat} {xs ys : List AV} {vs : List Value}, snapsP h n xs = some ys → VRs g xs vs → VRs g2 ys vs
  | _, [], ys, vs, e, hr => by
    simp [snapsP] at e; subst e
    cases vs with
    | nil => trivial
    | cons _ _ => exact hr.elim
  | 0, x :: xs, ys, _, e, _ => by simp [snapsP] at e
  | n + 1, x :: xs, ys, vs, e, hr => by
    cases vs with
    | nil => exact hr.elim
    | cons v vs =>
      rw [snapsP] at e
      split at e
      · rename_i h1 h2
        simp only [Option.some.injEq] at e; subst e
        exact ⟨snapP_ok hw hm hb h1 hr.1, snapsP_ok hw hm hb h2 hr.2⟩
      · cases e
end
end
theorem pure_callP {P : Program} {f : FuncId} {args : List AV} {v v' : AV} {h1 : AHeap} {n : Nat} (hc : CallOK P f args h0 (.ret v) h1) (ha : heapFrees args = true) (hs : snapP h1 n v = some v') (h : AHeap) : CallOK P f args h (.ret v') h := by
  intro g w vs hw hf hv
  let g1 : Gh := ⟨fun _ _ => none, g.M⟩
  have hw1 : W h0 g1 w := ⟨fun o x e => (by simp [h0, AHeap.get, Tr.get] at e), fun _ _ _ _ _ e => (by cases e), fun _ _ _ _ _ _ _ _ _ e => (by cases e), hw.ro, fun _ _ _ _ _ _ _ _ e => (by cases e), hw.gl⟩
  refine (hc g1 w vs hw1 (fun _ _ _ => rfl) (VRs.free (g := g) (g2 := g1) (fun _ _ _ e => e) ha hv)).mono ?_
  rintro e w' ⟨g', st, hw', ho⟩
  have hold : ∀ b, b < w.heap.size → w'.heap[b]? = w.heap[b]? := fun b hb => st.fr b hb fun o v s n e => by cases e
  let g2 : Gh := ⟨g.B, fun b i => if w.heap.size ≤ b then w'.cell? ⟨b, i, none⟩ else g.M b i⟩
  have hmle : ∀ b i v, g.M b i = some v → g2.M b i = some v := by
    intro b i v hm
    have := (hw.ro b i v hm).2
    show (if w.heap.size ≤ b then _ else _) = _
    rw [if_neg (by omega)]; exact hm
  have hle : g.Le g2 := ⟨fun _ _ _ e => e, hmle⟩
  have hsz := st.size
  have hws := hw.same hsz hold
  refine ⟨g2, ⟨hle, Nat.le_refl _, rfl, fun _ h => h, fun _ _ _ _ => rfl, fun _ _ _ => rfl, fun _ _ h => h, fun _ _ _ h => .inl h, hsz, fun o v b s n e _ => ⟨v, s, n, e⟩, fun b hb _ => hold b hb, st.tape, st.os, st.out, ?_⟩, ?_, ?_⟩
  · intro b i v hm
    by_cases hb : w.heap.size ≤ b
    · exact .inr hb
    · have hm' : (if w.heap.size ≤ b then w'.cell? ⟨b, i, none⟩ else g.M b i) = some v := hm
      rw [if_neg hb] at hm'; exact .inl hm'
  · refine ⟨fun o x hx => (hws.obj o x hx).move hle (fun _ _ e => e) (fun _ _ _ _ _ => rfl), hws.bnd, hws.inj, ?_, ?_, hws.glMove (fun _ _ _ => rfl) hmle⟩
    · intro b i v hm
      have hm' : (if w.heap.size ≤ b then w'.cell? ⟨b, i, none⟩ else g.M b i) = some v := hm
      by_cases hb : w.heap.size ≤ b
      · rw [if_pos hb] at hm'
        refine ⟨hm', ?_⟩
        rcases Nat.lt_or_ge b w'.heap.size with a | a
        · exact a
        · exfalso
          have hn : w'.heap[b]? = none := Array.getElem?_eq_none a
          unfold World.cell? at hm'
          simp [hn] at hm'
      · rw [if_neg hb] at hm'
        exact hws.ro b i v hm'
    · intro b i u hm o v s n e
      have hm' : (if w.heap.size ≤ b then w'.cell? ⟨b, i, none⟩ else g.M b i) = some u := hm
      have hb := hw.bnd o v b s n e
      rw [if_neg (by omega)] at hm'
      exact hw.dis b i u hm' o v s n e
  · cases e with
    | returned x =>
      refine snapP_ok (g := g') (g2 := g2) hw' ?_ ?_ hs ho
      · intro b i v hm
        rcases st.newM b i v hm with h1 | h1
        · exact hmle b i v h1
        · show (if w.heap.size ≤ b then _ else _) = _
          rw [if_pos h1]; exact (hw'.ro b i v hm).1
      · intro o v b s n i u hB hcell
        have hb : w.heap.size ≤ b := by
          rcases Nat.lt_or_ge b w.heap.size with a | a
          · obtain ⟨_, _, _, e⟩ := st.old o v b s n hB a; cases e
          · exact a
        show (if w.heap.size ≤ b then _ else _) = _
        rw [if_pos hb]; exact hcell
    | panicked _ => exact ho.elim
    | outgrown => exact ho.elim
theorem peek_flatP {P : Program} {f : FuncId} {args args' : List AV} {v : AV} {h1 : AHeap} {n : Nat} (hp : flatA v = true) (hc : CallOK P f args' h0 (.ret v) h1) (h : AHeap) (hs : snapsP h n args = some args') : CallOK P f args h (.ret v) h := by
  intro g w vs hw hf hv
  let g1 : Gh := ⟨fun _ _ => none, fun b i => w.cell? ⟨b, i, none⟩⟩
  have hcell : ∀ b i u, w.cell? ⟨b, i, none⟩ = some u → b < w.heap.size := by
    intro b i u hm
    rcases Nat.lt_or_ge b w.heap.size with a | a
    · exact a
    · exfalso
      have hn : w.heap[b]? = none := Array.getElem?_eq_none a
      unfold World.cell? at hm
      simp [hn] at hm
  have hw1 : W h0 g1 w := ⟨fun o x e => (by simp [h0, AHeap.get, Tr.get] at e), fun _ _ _ _ _ e => (by cases e), fun _ _ _ _ _ _ _ _ _ e => (by cases e), fun b i u hm => ⟨hm, hcell b i u hm⟩, fun _ _ _ _ _ _ _ _ e => (by cases e), hw.glMove (fun _ _ _ => rfl) (fun b i v e => (hw.ro b i v e).1)⟩
  have hv1 : VRs g1 args' vs := snapsP_ok (g2 := g1) hw (fun b i u hm => (hw.ro b i u hm).1) (fun _ _ _ _ _ _ _ _ hm => hm) hs hv
  refine (hc g1 w vs hw1 (fun _ _ _ => rfl) hv1).mono ?_
  rintro e w' ⟨g', st, hw', ho⟩
  have hold : ∀ b, b < w.heap.size → w'.heap[b]? = w.heap[b]? := fun b hb => st.fr b hb fun o v s n e => by cases e
  refine ⟨g, ⟨.refl g, Nat.le_refl _, rfl, fun _ h => h, fun _ _ _ _ => rfl, fun _ _ _ => rfl, fun _ _ h => h, fun _ _ _ h => .inl h, st.size, fun o v b s n e _ => ⟨v, s, n, e⟩, fun b hb _ => hold b hb, st.tape, st.os, st.out, fun _ _ _ h => .inl h⟩, hw.same st.size hold, ?_⟩
  cases e with
  | returned x => exact flatA_ok v hp ho
  | panicked _ => exact ho.elim
  | outgrown => exact ho.elim
def intEq : Int → Int → Bool
  | .ofNat a, .ofNat b => Nat.beq a b
  | .negSucc a, .negSucc b => Nat.beq a b
  | _, _ => false
theorem intEq_ok : ∀ {a b : Int}, intEq a b = true → a = b
  | .ofNat a, .ofNat b, h => by rw [Nat.eq_of_beq_eq_true h]
  | .negSucc a, .negSucc b, h => by rw [Nat.eq_of_beq_eq_true h]
  | .ofNat _, .negSucc _, h => by cases h
  | .negSucc _, .ofNat _, h => by cases h
def sc2 : Value → Value → Bool
  | .int k n, .int k' m => match decEq k k' with
    | isTrue _ => intEq n m
    | isFalse _ => false
  | .func (.func f) a c, .func (.func f') a' c' => match a.toList, c.toList, a'.toList, c'.toList with
    | [], [], [], [] => Nat.beq f f'
    | _, _, _, _ => false
  | a, b => scEq a b
theorem sc2_ok {a b : Value} (h : sc2 a b = true) : a = b := by
  unfold sc2 at h
  split at h
  · split at h
    · rename_i e _
      rw [e, intEq_ok h]
    · cases h
  · split at h
    · rename_i e1 e2 e3 e4
      have z : ∀ {x : Array Value}, x.toList = [] → x = #[] := fun {x} hx => by cases x; simp at hx; rw [hx]
      rw [z e1, z e2, z e3, z e4, Nat.eq_of_beq_eq_true h]
    · cases h
  · exact scEq_ok h
def optEq : Option Nat → Option Nat → Bool
  | none, none => true
  | some a, some b => Nat.beq a b
  | _, _ => false
theorem optEq_ok : ∀ {a b : Option Nat}, optEq a b = true → a = b
  | none, none, _ => rfl
  | some a, some b, h => by rw [Nat.eq_of_beq_eq_true h]
  | none, some _, h => by cases h
  | some _, none, h => by cases h
mutual
def av2 : AV → AV → Bool
  | .sc a, b => match b with
    | .sc b => sc2 a b
    | _ => false
  | .agg a, b => match b with
    | .agg b => av2s a b
    | _ => false
  | .tuple a, b => match b with
    | .tuple b => av2s a b
    | _ => false
  | .isl r s, b => match b with
    | .isl r' s' => (match Nat.beq s s' with
      | true => av2ss r r'
      | false => false)
    | _ => false
  | .psl c s l k, b => match b with
    | .psl c' s' l' k' => (match Nat.beq s s', Nat.beq l l', optEq k k' with
      | true, true, true => av2s c c'
      | _, _, _ => false)
    | _ => false
  | .esl, b => match b with
    | .esl => true
    | _ => false
  | _, _ => false
def av2s : List AV → List AV → Bool
  | [], b => match b with
    | [] => true
    | _ => false
  | a :: as, b => match b with
    | b :: bs => (match av2 a b with
      | true => av2s as bs
      | false => false)
    | _ => false
def av2ss : List (List AV) → List (List AV) → Bool
  | [], b => match b with
    | [] => true
    | _ => false
  | a :: as, b => match b with
    | b :: bs => (match av2s a b with
      | true => av2ss as bs
      | false => false)
    | _ => false
end
mutual
theorem av2_ok : ∀ (a b : AV), av2 a b = true → a = b
  | .sc a, b, h => by
    cases b <;> simp only [av2] at h <;> try (cases h; done)
    rw [sc2_ok h]
  | .agg a, b, h => by
    cases b <;> simp only [av2] at h <;> try (cases h; done)
    rw [av2s_ok _ _ h]
  | .tuple a, b, h => by
    cases b <;> simp only [av2] at h <;> try (cases h; done)
    rw [av2s_ok _ _ h]
  | .isl r s, b, h => by
    cases b <;> simp only [av2] at h <;> try (cases h; done)
    split at h
    · rename_i e
      rw [av2ss_ok _ _ h, Nat.eq_of_beq_eq_true e]
    · cases h
  | .unk, b, h => by simp [av2] at h
  | .ref _ _ _ _, b, h => by simp [av2] at h
  | .sl _ _ _ _ _ _ _, b, h => by simp [av2] at h
  | .esl, b, h => by
    cases b <;> simp only [av2] at h <;> first | rfl | (cases h; done)
  | .pref _, b, h => by simp [av2] at h
  | .psl c s l k, b, h => by
    cases b <;> simp only [av2] at h <;> try (cases h; done)
    split at h
    · rename_i e1 e2 e3
      rw [av2s_ok _ _ h, Nat.eq_of_beq_eq_true e1, Nat.eq_of_beq_eq_true e2, optEq_ok e3]
    · cases h
  | .map _, b, h => by simp [av2] at h
  | .func _ _ _, b, h => by simp [av2] at h
  | .yld _, b, h => by simp [av2] at h
  | .iface _ _, b, h => by simp [av2] at h
theorem av2s_ok : ∀ (a b : List AV), av2s a b = true → a = b
  | [], b, h => by cases b <;> simp [av2s] at h; rfl
  | a :: as, b, h => by
    cases b with
    | nil => simp [av2s] at h
    | cons b bs =>
      simp only [av2s] at h
      split at h
      · rename_i e
        rw [av2_ok _ _ e, av2s_ok _ _ h]
      · cases h
theorem av2ss_ok : ∀ (a b : List (List AV)), av2ss a b = true → a = b
  | [], b, h => by cases b <;> simp [av2ss] at h; rfl
  | a :: as, b, h => by
    cases b with
    | nil => simp [av2ss] at h
    | cons b bs =>
      simp only [av2ss] at h
      split at h
      · rename_i e
        rw [av2s_ok _ _ e, av2ss_ok _ _ h]
      · cases h
end
structure Known2 where
  f : FuncId
  args : List AV
  v : AV
def lookK2 (f : FuncId) (args : List AV) (h : AHeap) : List Known2 → Option AV
  | [] => none
  | k :: ks => match Nat.beq k.f f with
    | true => (match flatA k.v with
      | true => (match snapsP h 1000 args with
        | some a => (match av2s a k.args with
          | true => some k.v
          | false => lookK2 f args h ks)
        | none => lookK2 f args h ks)
      | false => (match heapFrees args with
        | true => (match av2s args k.args with
          | true => some k.v
          | false => lookK2 f args h ks)
        | false => lookK2 f args h ks))
    | false => lookK2 f args h ks
def Tr.vals {α : Type} : Tr α → List α
  | .leaf => []
  | .node l v r => l.vals ++ (v.toList ++ r.vals)
theorem Tr.get_vals {α : Type} : ∀ {t : Tr α} {n : Nat} {x : α}, t.get n = some x → x ∈ t.vals
  | .leaf, n, x, e => by simp [Tr.get] at e
  | .node l v r, n, x, e => by
    simp only [Tr.vals, List.mem_append]
    cases n with
    | zero =>
      simp only [Tr.get] at e
      exact .inr (.inl (by simp [e]))
    | succ n =>
      simp only [Tr.get] at e
      split at e
      · exact .inl (Tr.get_vals e)
      · exact .inr (.inr (Tr.get_vals e))
def lookT (f : FuncId) (args : List AV) (h : AHeap) (t : Tr (List Known2)) : Option AV :=
  match t.get f with
  | some l => lookK2 f args h l
  | none => none
def Rec.memo2 (tbl : Tr (List Known2)) (R : Rec) : Rec :=
  { R with call := fun kind f args cm h => match kind, cm with
    | .normal, .none => (match lookT f args h tbl with
      | some v => some (.ret v, .none, h)
      | none => R.call .normal f args .none h)
    | k, c => R.call k f args c h }
def Known2OK (P : Program) (tbl : List Known2) : Prop := ∀ k, k ∈ tbl → ∃ h1 u n, CallOK P k.f k.args h0 (.ret u) h1 ∧ snapP h1 n u = some k.v
theorem snap_flat {h : AHeap} : (∀ (n : Nat) (x y : AV), snapP h n x = some y → flatA y = true → x = y) ∧ (∀ (n : Nat) (xs ys : List AV), snapsP h n xs = some ys → flatAs ys = true → xs = ys) := by
  have key : ∀ n : Nat, (∀ (x y : AV), snapP h n x = some y → flatA y = true → x = y) ∧ (∀ (xs ys : List AV), snapsP h n xs = some ys → flatAs ys = true → xs = ys) := by
    intro n
    induction n with
    | zero =>
      refine ⟨fun x y e _ => by simp [snapP] at e, fun xs ys e _ => ?_⟩
      cases xs with
      | nil => simp [snapsP] at e; exact e.symm
      | cons _ _ => simp [snapsP] at e
    | succ n ih =>
      refine ⟨fun x y e hp => ?_, fun xs ys e hp => ?_⟩
      · cases x <;> simp only [snapP] at e <;> try (cases e; done)
        case sl =>
          split at e
          · cases e
          · split at e
            · split at e
              · simp only [Option.some.injEq] at e; subst e; simp [flatA] at hp
              · cases e
            · cases e
        case agg cs =>
          split at e
          · rename_i l hl
            simp only [Option.some.injEq] at e; subst e
            rw [ih.2 _ _ hl (by simpa [flatA] using hp)]
          · cases e
        case tuple cs =>
          split at e
          · rename_i l hl
            simp only [Option.some.injEq] at e; subst e
            rw [ih.2 _ _ hl (by simpa [flatA] using hp)]
          · cases e
        case psl =>
          split at e
          · simp only [Option.some.injEq] at e; exact e
          · cases e
        all_goals simp only [Option.some.injEq] at e; exact e
      · cases xs with
        | nil => simp [snapsP] at e; exact e.symm
        | cons x xs =>
          simp only [snapsP] at e
          split at e
          · rename_i y ys' h1 h2
            simp only [Option.some.injEq] at e; subst e
            unfold flatAs at hp
            split at hp
            · rename_i h3
              rw [ih.1 _ _ h1 h3, ih.2 _ _ h2 hp]
            · cases hp
          · cases e
  exact ⟨fun n => (key n).1, fun n => (key n).2⟩
theorem lookK2_ok {P : Program} {f : FuncId} {args : List AV} {h : AHeap} {v : AV} : ∀ {tbl : List Known2}, Known2OK P tbl → lookK2 f args h tbl = some v → CallOK P f args h (.ret v) h
  | [], _, e => by cases e
  | k :: ks, hk, e => by
    have ih := fun e => lookK2_ok (P := P) (f := f) (args := args) (h := h) (v := v) (tbl := ks) (fun x hx => hk x (List.mem_cons_of_mem _ hx)) e
    unfold lookK2 at e
    split at e
    · rename_i hf
      obtain ⟨h1, u, n, hc, hsn⟩ := hk k (List.mem_cons_self ..)
      split at e
      · rename_i hp
        split at e
        · rename_i a ha
          split at e
          · rename_i hq
            simp only [Option.some.injEq] at e
            obtain rfl := snap_flat.1 n u k.v hsn hp
            rw [← av2s_ok _ _ hq, Nat.eq_of_beq_eq_true hf, e] at hc
            rw [e] at hp
            exact peek_flatP hp hc h ha
          · exact ih e
        · exact ih e
      · split at e
        · rename_i hfr
          split at e
          · rename_i hq
            simp only [Option.some.injEq] at e
            rw [← av2s_ok _ _ hq, Nat.eq_of_beq_eq_true hf] at hc
            rw [e] at hsn
            exact pure_callP hc hfr hsn h
          · exact ih e
        · exact ih e
    · exact ih e
theorem lookT_ok {P : Program} {f : FuncId} {args : List AV} {h : AHeap} {v : AV} {t : Tr (List Known2)} (hk : Known2OK P t.vals.flatten) (e : lookT f args h t = some v) : CallOK P f args h (.ret v) h := by
  unfold lookT at e
  split at e
  · rename_i l hl
    exact lookK2_ok (fun k hm => hk k (List.mem_flatten.2 ⟨l, Tr.get_vals hl, hm⟩)) e
  · cases e
theorem memo2_ok {P : Program} {tbl : Tr (List Known2)} {R : Rec} (hk : Known2OK P tbl.vals.flatten) (hR : RecOK P R) : RecOK P (R.memo2 tbl) where
  call := fun f args h out cm' h' e => by
    simp only [Rec.memo2] at e
    split at e
    · rename_i v hv
      simp only [Option.some.injEq, Prod.mk.injEq] at e
      obtain ⟨rfl, _, rfl⟩ := e
      exact lookT_ok hk hv
    · exact hR.call _ _ _ _ _ _ e
  calld := fun f args cm h out cm' h' hn e => hR.calld f args cm h out cm' h' hn (by
    simp only [Rec.memo2] at e
    exact e)
  loop := hR.loop
  round := hR.round
def recK (P : Program) (tbl : Tr (List Known2)) : Nat → Rec
  | 0 => Rec.zero
  | n + 1 => (Rec.succ P (recK P tbl n)).memo2 tbl
theorem recK_ok {P : Program} {tbl : Tr (List Known2)} (hP : ProgOK P) (hk : Known2OK P tbl.vals.flatten) : ∀ n, RecOK P (recK P tbl n)
  | 0 => rec_zero
  | n + 1 => memo2_ok hk (rec_succ hP (recK_ok hP hk n))
def givesK (R : Rec) (k : Known2) : Bool :=
  match R.call .normal k.f k.args .none h0 with
  | some (.ret u, _, h1) => (match snapP h1 1000 u with
    | some v => av2 v k.v
    | none => false)
  | _ => false
theorem givesK_ok {P : Program} {R : Rec} (hR : RecOK P R) {k : Known2} (h : givesK R k = true) : ∃ h1 u n, CallOK P k.f k.args h0 (.ret u) h1 ∧ snapP h1 n u = some k.v := by
  unfold givesK at h
  split at h
  · rename_i u cm h1 e
    split at h
    · rename_i v hv
      have := av2_ok _ _ h
      subst this
      exact ⟨h1, u, 1000, hR.call _ _ _ _ _ _ e, hv⟩
    · cases h
  · cases h
theorem known2_nil {P : Program} : Known2OK P [] := fun k hk => by cases hk
theorem known2_cons {P : Program} {k : Known2} {tbl : List Known2} {R : Rec} (hR : RecOK P R) (h : givesK R k = true) (ht : Known2OK P tbl) : Known2OK P (k :: tbl) := by
  intro q hq
  rcases List.mem_cons.1 hq with rfl | hq
  · exact givesK_ok hR h
  · exact ht q hq
end Go.AI
end
