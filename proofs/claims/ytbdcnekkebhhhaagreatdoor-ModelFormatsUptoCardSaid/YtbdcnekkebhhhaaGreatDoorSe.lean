/-
  Operations whose order is not said.
-/
import Derived.Test.YtbdcnekkebhhhaaGreatDoorSd
import Derived.Test.YtbdcnekkebhhhaaGreatDoorAe
set_option linter.all false

section
namespace Go.AI
variable [Kn]
section
variable {P : Program} {w w' : Wd} {ob ob' : Tr SOb} {nx : Nat} {h h' : AHeap} {st : SSt} {a : ASt} {ρ : Type} {A : Ann} {R : SRec}
theorem onlyA_all (h : AHeap) (o : Nat) : ∀ (ids : List Nat), o ∈ ids → (∀ p, h.next ≤ p → h.get p = none) → (onlyA h ids).get o = h.get o
  | [], hm, _ => by cases hm
  | p :: ids, hm, hn => by
    have rest : o ∉ ids → o = p := fun e => (List.mem_cons.1 hm).resolve_right e
    unfold onlyA
    split
    · split
      · rename_i x hx
        by_cases e : o = p
        · subst e; rw [Tr.get_put_same, hx]
        · rw [Tr.get_put_other _ _ e]
          exact onlyA_all h o ids ((List.mem_cons.1 hm).resolve_left e) hn
      · rename_i hx
        by_cases e : o ∈ ids
        · exact onlyA_all h o ids e hn
        · have := rest e; subst this
          rw [hx]
          cases hg : (onlyA h ids).get o with
          | none => rfl
          | some y => exact absurd (onlyA_get h ids o y hg).1 e
    · rename_i hlt
      by_cases e : o ∈ ids
      · exact onlyA_all h o ids e hn
      · have := rest e; subst this
        rw [hn o (by omega)]
        cases hg : (onlyA h ids).get o with
        | none => rfl
        | some y => exact absurd (onlyA_get h ids o y hg).1 e
theorem evo_ok {o : Oper} {x : Operand} (hx : x ∈ o.op.operands.toList) : evo (tmpsOf o) a.tm x = ev a.tm x := by
  cases x with
  | tmp t =>
    have : (tmpsOf o).contains t = true := by
      simp only [List.contains_iff_mem, tmpsOf, List.mem_filterMap]
      exact ⟨.tmp t, hx, rfl⟩
    simp only [evo, this, if_true]
  | _ => rfl
theorem idsA_ofVal (v : Value) : idsA (ofVal v) = [] := by cases v <;> rfl
theorem agree_ok {o : Oper} {tm : Tr AV} (hs : SimH P w ob nx h) (hl : looksA o.op = true) {x : Operand} (hx : x ∈ o.op.operands.toList) : Agree h { h with objs := onlyA h (lookIds o tm) } (evo (tmpsOf o) tm x) := by
  intro p hp
  show (onlyA h (lookIds o tm)).get p = h.get p
  refine onlyA_all h p _ ?_ hs.new
  cases x with
  | tmp t =>
    have ht : t ∈ tmpsOf o := by
      simp only [tmpsOf, List.mem_filterMap]
      exact ⟨.tmp t, hx, rfl⟩
    have : (tmpsOf o).contains t = true := by simpa using ht
    simp only [evo, this, if_true] at hp
    unfold lookIds
    rw [if_pos hl]
    exact List.mem_flatMap.2 ⟨t, ht, hp⟩
  | const v => simp only [evo, ev, idsA_ofVal] at hp; cases hp
  | global g => cases hp
  | func f => cases hp
theorem Frm.outer (hf : Frm w ob h.inner w' ob' h') : Frm w ob h w' ob' (h.outer h') :=
  ⟨hf.le, hf.s, hf.next, rfl, hf.keep, hf.own, hf.F, fun o e => by
    rcases mem_addWrs e with e | e
    · exact .inl e
    · rcases hf.wr o e with e | e
      · cases e
      · exact .inr e, fun e => lt_addWrs e, hf.bx⟩
def FreeA (h : AHeap) (a n : Nat) : Prop := n ≤ h.next ∧ ∀ o, a ≤ o → o < n → h.get o = none
theorem FreeA.frm {a n : Nat} (hf : FreeA h a n) (hs : SimH P w ob nx h) (hr : Frm w ob h w' ob' h') : FreeA h' a n := by
  refine ⟨Nat.le_trans hf.1 hr.next, fun o h1 h2 => ?_⟩
  rw [hr.keep o (Nat.lt_of_lt_of_le h2 hf.1) fun ⟨j, k, e1, e2, e3⟩ => hs.there e1 e2 e3 (hf.2 o h1 h2)]
  exact hf.2 o h1 h2
def BookR (k : Book) (es fs : List Nat) : Prop := (∀ i ids, (i, ids) ∈ k.fs → ids = [] ∨ i ∈ fs) ∧ (∀ j wr, (j, wr) ∈ k.es → wr = [] ∨ j ∈ es)
theorem book_ok {b : List Nat} {k : Book} {es fs : List Nat} (hb : BookR k es fs) (hs : bookS b fs es = true) : bookOK b k = true := by
  unfold bookOK
  rw [List.all_eq_true]
  rintro ⟨i, ids⟩ hi
  rw [List.all_eq_true]
  rintro ⟨j, wr⟩ hj
  simp only
  rcases hb.1 i ids hi with rfl | h1
  · simp
  · rcases hb.2 j wr hj with rfl | h2
    · simp
    · unfold bookS at hs
      rw [List.all_eq_true] at hs
      have := hs i h1
      rw [List.all_eq_true] at this
      have := this j h2
      simp only [Bool.or_eq_true] at this ⊢
      exact .inl this
theorem runDraw_yes {cx : Ctx} {ops : Array Oper} {o : Oper} {rest : List Oper} {i aid : Nat} {bk : Book} {Rr : Rec} (hw : wantedA ops o a.tm = some true) {bk' : Book} {aid' : Nat} {a' : ASt}
    (h : (isA o.op = true ∧ aid' = aid + 1 ∧ bk' = bk ∧ ∃ v x, aop P (evo (tmpsOf o) a.tm) o { objs := .leaf, next := aid, floor := 0, wr := [] } = some (.val v, { objs := Tr.leaf.put aid x, next := aid + 1, floor := 0, wr := [] }) ∧ ({ a with h := { a.h with objs := a.h.objs.put aid x } } : ASt).put cx.tn o.dst v = some a') ∨
      (isA o.op = false ∧ isF o.op = true ∧ aid' = aid ∧ bk' = { bk with fs := (i, lookIds o a.tm) :: bk.fs } ∧ ∃ v, aop P (evo (tmpsOf o) a.tm) o { a.h with objs := onlyA a.h (lookIds o a.tm) } = some (.val v, { a.h with objs := onlyA a.h (lookIds o a.tm) }) ∧ a.put cx.tn o.dst v = some a') ∨
      (isA o.op = false ∧ isF o.op = false ∧ aid' = aid ∧ ∃ v cm h', bk' = { bk with es := (i, h'.wr) :: bk.es } ∧ opRun P Rr cx (evo (tmpsOf o) a.tm) o .none a.h.inner = some (.val v cm h') ∧ ({ a with h := a.h.outer h' } : ASt).put cx.tn o.dst v = some a')) :
    runDraw P Rr cx ops (o :: rest) i aid bk a = runDraw P Rr cx ops rest (i + 1) aid' bk' a' := by
  rw [runDraw]
  simp only [hw]
  rcases h with ⟨h1, rfl, rfl, v, x, h2, h3⟩ | ⟨h1, h2, rfl, rfl, v, h3, h4⟩ | ⟨h1, h2, rfl, v, cm, h', rfl, h3, h4⟩
  · simp only [h1, if_true, h2]
    have : ({ objs := Tr.leaf.put aid x, next := aid + 1, floor := 0, wr := [] } : AHeap).get aid = some x := Tr.get_put_same ..
    simp only [this, if_true, h3]
  · simp only [h1, h2, if_true, h3, h4]
    simp
  · simp only [h1, h2, h3, h4]
    simp
theorem opD_ok (hR : CallSOK P A R) {cx : Ctx} {ops : Array Oper} {w0 : Wd} {ob0 : Tr SOb} {h0 : AHeap} {n1 i aid : Nat} {es fs : List Nat} {bk : Book} {o : Oper} (hs : StR P w st a) (hd : dstOK cx.tn o.dst) (hfr : Frm w0 ob0 h0 w st.ob a.h) (ha0 : h0.next ≤ aid)
    (hfree : FreeA a.h aid n1) (han : isA o.op = true → aid < n1) (hb : BookR bk es fs) {k : SSt → Option ρ} {r : ρ} (hr : opS P A R o st k = some r) (hw : wantedA ops o a.tm = some true) :
    ∃ m w' st' a' bk', (∀ m', m ≤ m' → ∀ rest, runDraw P (rec2 P m') cx ops (o :: rest) i aid bk a = runDraw P (rec2 P m') cx ops rest (i + 1) (if isA o.op then aid + 1 else aid) bk' a') ∧ StR P w' st' a' ∧ Frm w0 ob0 h0 w' st'.ob a'.h ∧
      FreeA a'.h (if isA o.op then aid + 1 else aid) n1 ∧ BookR bk' (match isA o.op || isF o.op || pureCall st o with | true => es | false => i :: es) (match isF o.op && looksA o.op with | true => i :: fs | false => fs) ∧ k st' = some r := by
  have hρ : ∀ x, x ∈ o.op.operands.toList → RV P w (evS st.tm x) (evo (tmpsOf o) a.tm x) := fun x hx => by rw [evo_ok hx]; exact evS_ok hs.tm x
  have bkF : isF o.op = true → BookR { bk with fs := (i, lookIds o a.tm) :: bk.fs } es (match isF o.op && looksA o.op with | true => i :: fs | false => fs) := by
    intro hF
    refine ⟨fun j ids e => ?_, hb.2⟩
    rw [hF, Bool.true_and]
    rcases List.mem_cons.1 e with e | e
    · cases e
      cases hl : looksA o.op with
      | true => exact .inr (List.mem_cons_self ..)
      | false => left; unfold lookIds; rw [hl]; rfl
    · rcases hb.1 j ids e with e | e
      · exact .inl e
      · right
        cases looksA o.op with
        | true => exact List.mem_cons_of_mem _ e
        | false => exact e
  have mv : ∀ (x : Operand) (st1 : SSt), x ∈ o.op.operands.toList → isF o.op = true → isA o.op = false → StR P w st1 a → (∀ h : AHeap, aop P (evo (tmpsOf o) a.tm) o h = some (.val (ev a.tm x), h)) → st1.ob = st.ob → k (moveS st1 o.dst x) = some r →
      ∃ m w' st' a' bk', (∀ m', m ≤ m' → ∀ rest, runDraw P (rec2 P m') cx ops (o :: rest) i aid bk a = runDraw P (rec2 P m') cx ops rest (i + 1) (if isA o.op then aid + 1 else aid) bk' a') ∧ StR P w' st' a' ∧ Frm w0 ob0 h0 w' st'.ob a'.h ∧
        FreeA a'.h (if isA o.op then aid + 1 else aid) n1 ∧ BookR bk' (match isA o.op || isF o.op || pureCall st o with | true => es | false => i :: es) (match isF o.op && looksA o.op with | true => i :: fs | false => fs) ∧ k st' = some r := by
    intro x st1 hx hF hA hs1 he hob hk
    obtain ⟨a', q1, q2, q3⟩ := moveS_ok (n := cx.tn) (x := x) hs1 hd
    have hob2 : (moveS st1 o.dst x).ob = st1.ob := by
      unfold moveS putS
      simp only
      split
      · split
        · cases o.dst <;> rfl
        · cases o.dst <;> rfl
      · cases o.dst <;> rfl
    refine ⟨0, w, _, a', { bk with fs := (i, lookIds o a.tm) :: bk.fs }, fun m' _ rest => ?_, q2, by rw [q3, hob2, hob]; exact hfr, by rw [q3, hA]; exact hfree, ?_, hk⟩
    · exact runDraw_yes hw (.inr (.inl ⟨hA, hF, by rw [hA]; rfl, rfl, _, he _, q1⟩))
    · have := bkF hF
      simp only [hA, hF, Bool.false_or, Bool.true_or] at this ⊢
      exact this
  unfold opS at hr
  split at hr
  · rename_i x hop
    have hx : x ∈ o.op.operands.toList := by rw [hop]; simp [Op.operands]
    exact mv x st hx (by rw [hop]; rfl) (by rw [hop]; rfl) hs (fun h => by simp only [aop, hop, evo_ok hx]) rfl hr
  · rename_i x hop
    have hx : x ∈ o.op.operands.toList := by rw [hop]; simp [Op.operands]
    exact mv x st hx (by rw [hop]; rfl) (by rw [hop]; rfl) hs (fun h => by simp only [aop, hop, evo_ok hx]) rfl hr
  · rename_i c x y hop
    have hF : isF o.op = true := by rw [hop]; rfl
    have hA : isA o.op = false := by rw [hop]; rfl
    have hc : c ∈ o.op.operands.toList := by rw [hop]; simp [Op.operands]
    have hx : x ∈ o.op.operands.toList := by rw [hop]; simp [Op.operands]
    have hy : y ∈ o.op.operands.toList := by rw [hop]; simp [Op.operands]
    split at hr
    · rename_i d
      split at hr
      · rename_i t ht
        have ht' := get_bool hs ht
        have hev : evo (tmpsOf o) a.tm (.tmp d) = .sc (.bool t) := by rw [evo_ok hc]; simp only [ev, ht']
        rcases sIte_both hr with ⟨rfl, hr⟩ | ⟨rfl, hr⟩
        · exact mv x _ hx hF hA (known_ok hs ht') (fun h => by simp only [aop, hop]; rw [hev, evo_ok hx]; rfl) rfl hr
        · exact mv y _ hy hF hA (known_ok hs ht') (fun h => by simp only [aop, hop]; rw [hev, evo_ok hy]; rfl) rfl hr
      · cases hr
    · rename_i t
      have hev : evo (tmpsOf o) a.tm (.const (.bool t)) = .sc (.bool t) := rfl
      cases t
      · exact mv y st hy hF hA hs (fun h => by simp only [aop, hop]; rw [hev, evo_ok hy]; rfl) rfl hr
      · exact mv x st hx hF hA hs (fun h => by simp only [aop, hop]; rw [hev, evo_ok hx]; rfl) rfl hr
    · cases hr
  · split at hr
    · cases hr
    · have hput : ∀ (S' : SSt) (v : SV), (putS S' o.dst v).ob = S'.ob := fun S' v => by cases o.dst <;> rfl
      cases hA : isA o.op with
      | true =>
        obtain ⟨F, ob1, obj, y, v, x, lk, q1, q2, q3, q4, q5, q6, q7, q8⟩ := (newS_ok hs.h hρ hA hr).ok
        have haid := han hA
        obtain ⟨w', c1, c2, c3, c4, c5⟩ := new_fin (h' := { a.h with objs := a.h.objs.put aid obj }) (a := aid) q1 q2 q3 q6 q7 q8 (hfree.2 aid (Nat.le_refl _) haid) (Nat.lt_of_lt_of_le haid hfree.1) (Tr.get_put_same ..) (fun o e => Tr.get_put_other _ _ e) (Nat.le_refl _)
          (fun o ho => by
            have ho' : a.h.next ≤ o := ho
            have : o ≠ aid := by have := hfree.1; omega
            show (a.h.objs.put aid obj).get o = none
            rw [Tr.get_put_other _ _ this]; exact hs.h.new o ho') rfl rfl hfr ha0
        have hst : StR P w' { st with ob := ob1.put st.nx x, nx := st.nx + 1 } { a with h := { a.h with objs := a.h.objs.put aid obj } } := ⟨c1, hs.tm.mono c3 c4, hs.al, hs.df, hs.cm⟩
        obtain ⟨a', p1, p2, p3⟩ := putS_ok (n := cx.tn) hst c5 hd
        refine ⟨0, w', _, a', bk, fun m' _ rest => ?_, p2, by rw [p3, hput]; exact c2, ?_, ?_, q5⟩
        · exact runDraw_yes hw (.inl ⟨hA, by simp, rfl, _, _, q4 _, p1⟩)
        · rw [p3]
          refine ⟨hfree.1, fun p h1 h2 => ?_⟩
          have h1 : aid + 1 ≤ p := h1
          show (a.h.objs.put aid obj).get p = none
          rw [Tr.get_put_other _ _ (by omega)]; exact hfree.2 p (by omega) h2
        · have hnF : isF o.op = false := by
            cases hop : o.op <;> rw [hop] at hA <;> simp_all [isA, isF]
          simp only [hnF, Bool.true_or, Bool.false_and]; exact hb
      | false =>
        cases hF : isF o.op with
        | true =>
          obtain ⟨F, ob1, q1, q2, q3, v, y, q4, q5, q6⟩ := pureS_ok (h1 := { a.h with objs := onlyA a.h (lookIds o a.tm) }) hs.h hρ (fun hl x hx => agree_ok hs.h hl hx) hF hr
          obtain ⟨a', p1, p2, p3⟩ := putS_ok (n := cx.tn) (hs.step (st' := { st with ob := ob1 }) q1 (.lend q2 q3) rfl rfl) q6 hd
          refine ⟨0, _, _, a', { bk with fs := (i, lookIds o a.tm) :: bk.fs }, fun m' _ rest => ?_, p2, by rw [p3, hput]; exact hfr.trans (.lend q2 q3), by rw [p3]; exact hfree, ?_, q4⟩
          · exact runDraw_yes hw (.inr (.inl ⟨hA, hF, rfl, rfl, _, q5, p1⟩))
          · have := bkF hF
            simp only [hF, Bool.false_or, Bool.true_or] at this ⊢
            exact this
        | false =>
          have hsi : SimH P w st.ob st.nx a.h.inner := hs.h.heap_eq (fun _ => rfl) rfl
          obtain ⟨m, w', S', h', v, y, q1, q2, q3, q4, q5, q6, q7, q8⟩ := op1_ok hR hsi hρ hr cx .none
          have hso : SimH P w' S'.ob S'.nx (a.h.outer h') := q1.heap_eq (fun _ => rfl) rfl
          obtain ⟨a', p1, p2, p3⟩ := putS_ok (n := cx.tn) (hs.step hso q2.outer q3 q4) q7 hd
          refine ⟨m, w', _, a', { bk with es := (i, h'.wr) :: bk.es }, fun m' hm rest => ?_, p2, by rw [p3, hput]; exact hfr.trans q2.outer, by rw [p3]; exact hfree.frm hs.h q2.outer, ?_, q5⟩
          · exact runDraw_yes hw (.inr (.inr ⟨hA, hF, rfl, _, _, _, rfl, opRun_le (rec2_le P hm) q6, p1⟩))
          · simp only [Bool.false_or, Bool.false_and]
            refine ⟨hb.1, fun j wr e => ?_⟩
            rcases List.mem_cons.1 e with e | e
            · cases e
              cases hp : pureCall st o with
              | true =>
                left
                have h1 := q8 hp
                have h2 := q2.wrlt (fun _ e => by cases e)
                cases hwr : h'.wr with
                | nil => rfl
                | cons p l =>
                  have hm : p ∈ h'.wr := by rw [hwr]; exact List.mem_cons_self ..
                  have e2 := h2 p hm
                  rw [q2.floor] at e2
                  have e2 : p < a.h.next := e2
                  rcases h1 p hm with e | e
                  · cases e
                  · have e : a.h.next ≤ p := e
                    omega
              | false => exact .inr (List.mem_cons_self ..)
            · rcases hb.2 j wr e with e | e
              · exact .inl e
              · right
                cases pureCall st o with
                | true => exact e
                | false => exact List.mem_cons_of_mem _ e
end
end Go.AI
end

/-
  Regions.
-/
section
namespace Go.AI
variable [Kn]
section
variable {P : Program} {w w' : Wd} {st : SSt} {a : ASt} {ρ : Type} {A : Ann} {R : SRec}
theorem runDraw_no {cx : Ctx} {ops : Array Oper} {o : Oper} {rest : List Oper} {i aid : Nat} {bk : Book} {Rr : Rec} (hw : wantedA ops o a.tm = some false) {a' : ASt} (h : a.put cx.tn o.dst undefA = some a') :
    runDraw P Rr cx ops (o :: rest) i aid bk a = runDraw P Rr cx ops rest (i + 1) (if isA o.op then aid + 1 else aid) bk a' := by
  rw [runDraw]
  simp only [hw, h]
theorem drawS_ok (hR : CallSOK P A R) {cx : Ctx} {ops : Array Oper} {k : List Nat → List Nat → SSt → Option ρ} {r : ρ} {w0 : Wd} {ob0 : Tr SOb} {h0 : AHeap} {n1 : Nat} : ∀ {l : List Oper} {i aid : Nat} {es fs : List Nat} {w : Wd} {st : SSt} {a : ASt} {bk : Book}, StR P w st a → (∀ o, o ∈ l → dstOK cx.tn o.dst) →
    Frm w0 ob0 h0 w st.ob a.h → h0.next ≤ aid → aid + countA l ≤ n1 → FreeA a.h aid n1 → BookR bk es fs → opsD P A R ops l i es fs st k = some r →
    ∃ m w' st' a' bk' es' fs', runDraw P (rec2 P m) cx ops l i aid bk a = some (bk', a') ∧ StR P w' st' a' ∧ Frm w0 ob0 h0 w' st'.ob a'.h ∧ BookR bk' es' fs' ∧ k es' fs' st' = some r
  | [], i, aid, es, fs, w, st, a, bk, hs, _, hfr, _, _, _, hb, hr => ⟨0, w, { st with al := [] }, a, bk, es, fs, rfl, ⟨hs.h, hs.tm, fun _ _ e => (by cases e), hs.df, hs.cm⟩, hfr, hb, hr⟩
  | o :: rest, i, aid, es, fs, w, st, a, bk, hs, hd, hfr, ha0, hcnt, hfree, hb, hr => by
    have hd1 := hd o (List.mem_cons_self ..)
    have hd2 : ∀ o, o ∈ rest → dstOK cx.tn o.dst := fun o e => hd o (List.mem_cons_of_mem _ e)
    have hcnt2 : (if isA o.op then aid + 1 else aid) + countA rest ≤ n1 := by
      simp only [countA] at hcnt
      cases e : isA o.op with
      | true => rw [e] at hcnt; simp at hcnt ⊢; omega
      | false => rw [e] at hcnt; simp at hcnt ⊢; omega
    have hcnt3 : isA o.op = true → aid < n1 := by
      intro e
      simp only [countA, e, if_true] at hcnt
      omega
    have ha1 : h0.next ≤ (if isA o.op then aid + 1 else aid) := by split <;> omega
    have run : ∀ (st1 : SSt), st1.ob = st.ob → StR P w st1 a → wantedA ops o a.tm = some true → opS P A R o st1 (fun st' => opsD P A R ops rest (i + 1) (match isA o.op || isF o.op || pureCall st1 o with
        | true => es
        | false => i :: es) (match isF o.op && looksA o.op with
        | true => i :: fs
        | false => fs) st' k) = some r →
        ∃ m w' st' a' bk' es' fs', runDraw P (rec2 P m) cx ops (o :: rest) i aid bk a = some (bk', a') ∧ StR P w' st' a' ∧ Frm w0 ob0 h0 w' st'.ob a'.h ∧ BookR bk' es' fs' ∧ k es' fs' st' = some r := by
      intro st1 hob hs1 hw hr1
      obtain ⟨m, w1, st2, a2, bk2, q1, q2, q3, q4, q5, q6⟩ := opD_ok (i := i) (bk := bk) (n1 := n1) (cx := cx) hR hs1 hd1 (by rw [hob]; exact hfr) ha0 hfree hcnt3 hb hr1 hw
      obtain ⟨m', w2, st3, a3, bk3, es3, fs3, r1, r2, r3, r4, r5⟩ := drawS_ok hR q2 hd2 q3 ha1 hcnt2 q4 q5 q6
      refine ⟨max m m', w2, st3, a3, bk3, es3, fs3, ?_, r2, r3, r4, r5⟩
      rw [q1 _ (Nat.le_max_left ..)]
      exact runDraw_le (rec2_le P (Nat.le_max_right ..)) r1
    have skip : ∀ (st1 : SSt), st1.ob = st.ob → StR P w st1 a → wantedA ops o a.tm = some false → opsD P A R ops rest (i + 1) es fs (putS st1 o.dst (.tup [])) k = some r →
        ∃ m w' st' a' bk' es' fs', runDraw P (rec2 P m) cx ops (o :: rest) i aid bk a = some (bk', a') ∧ StR P w' st' a' ∧ Frm w0 ob0 h0 w' st'.ob a'.h ∧ BookR bk' es' fs' ∧ k es' fs' st' = some r := by
      intro st1 hob hs1 hw hr1
      obtain ⟨a2, p1, p2, p3⟩ := putS_ok (n := cx.tn) (v := .tup []) (x := undefA) hs1 (.tup .nil) hd1
      have hob2 : (putS st1 o.dst (.tup [])).ob = st.ob := by rw [← hob]; cases o.dst <;> rfl
      have hfree2 : FreeA a2.h (if isA o.op then aid + 1 else aid) n1 := by
        rw [p3]
        refine ⟨hfree.1, fun p h1 h2 => hfree.2 p ?_ h2⟩
        split at h1 <;> omega
      obtain ⟨m', w2, st3, a3, bk3, es3, fs3, r1, r2, r3, r4, r5⟩ := drawS_ok hR p2 hd2 (by rw [hob2, p3]; exact hfr) ha1 hcnt2 hfree2 hb hr1
      exact ⟨m', w2, st3, a3, bk3, es3, fs3, by rw [runDraw_no hw p1]; exact r1, r2, r3, r4, r5⟩
    unfold opsD at hr
    unfold guardS at hr
    split at hr
    · rename_i hg
      exact run st rfl hs (by simp only [wantedA, hg]) hr
    · rename_i j want hg
      split at hr
      · rename_i d hdd
        split at hr
        · rename_i b hb'
          have hb' := get_bool hs hb'
          split at hr
          · rcases sIte_both hr with ⟨rfl, hr⟩ | ⟨rfl, hr⟩
            · exact run (known st d true) rfl (known_ok hs hb') (by simp [wantedA, hg, hdd, hb']) hr
            · exact skip (known st d false) rfl (known_ok hs hb') (by simp [wantedA, hg, hdd, hb']) hr
          · rcases sIte_both hr with ⟨rfl, hr⟩ | ⟨rfl, hr⟩
            · exact skip (known st d true) rfl (known_ok hs hb') (by simp [wantedA, hg, hdd, hb']) hr
            · exact run (known st d false) rfl (known_ok hs hb') (by simp [wantedA, hg, hdd, hb']) hr
        · rename_i hb'
          have hb' := get_undef hs hb'
          exact skip st rfl hs (by simp only [wantedA, hg, hdd, hb']) hr
        · cases hr
      · cases hr
theorem noneA_of {h : AHeap} : ∀ (n o : Nat), (∀ p, o ≤ p → h.get p = none) → noneA h n o = true
  | 0, _, _ => rfl
  | n + 1, o, hn => by
    simp only [noneA, Bool.and_eq_true]
    exact ⟨by rw [hn o (Nat.le_refl _)]; rfl, noneA_of n (o + 1) fun p hp => hn p (by omega)⟩
theorem regS_ok (hR : CallSOK P A R) {cx : Ctx} {ops : Array Oper} {draw : Bool} {id : Nat} {k : SSt → Option ρ} {r : ρ} (hs : StR P w st a) (hd : ∀ o, o ∈ ops.toList → dstOK cx.tn o.dst) (hr : regS P A R ops draw st k = some r) :
    ∃ m w' st' a', evalCode P (rec2 P m) cx (.region id ops draw) a = some (.normal, a') ∧ StR P w' st' a' ∧ Frm w st.ob a.h w' st'.ob a'.h ∧ k st' = some r := by
  unfold regS at hr
  split at hr
  · obtain ⟨m, w', st', a', q1, q2, q3, q4⟩ := seqS_ok (ops := ops) hR hs hd hr
    exact ⟨m, w', st', a', by rw [evalCode]; simpa using q1, q2, q3, q4⟩
  · have hb : SimH P w st.ob st.nx { a.h with next := a.h.next + countA ops.toList } :=
      ⟨hs.h.g, hs.h.box, hs.h.arr, hs.h.byt, hs.h.inj, fun i k o h1 h2 => Nat.lt_of_lt_of_le (hs.h.lt i k o h1 h2) (Nat.le_add_right ..), hs.h.nx, fun o f => ⟨Nat.lt_of_lt_of_le (hs.h.frz o f).1 (Nat.le_add_right ..), (hs.h.frz o f).2⟩, fun o ho => hs.h.new o (by
        have ho' : a.h.next + countA ops.toList ≤ o := ho
        omega)⟩
    have hfb : Frm w st.ob a.h w st.ob { a.h with next := a.h.next + countA ops.toList } := ⟨.refl w, fun _ _ e => e, Nat.le_add_right .., rfl, fun _ _ _ => rfl, fun _ e => .inr e, fun _ e => .inl e, fun _ e => .inl e, fun e => e, fun _ _ cs e => ⟨cs, e⟩⟩
    obtain ⟨m, w', st', a', bk', es', fs', q1, q2, q3, q4, q5⟩ := drawS_ok (a := { a with h := { a.h with next := a.h.next + countA ops.toList } }) (bk := { es := [], fs := [] }) (n1 := a.h.next + countA ops.toList) (cx := cx) hR ⟨hb, hs.tm, hs.al, hs.df, hs.cm⟩ hd hfb (Nat.le_refl _) (Nat.le_refl _)
      ⟨Nat.le_refl _, fun o h1 _ => hs.h.new o h1⟩ ⟨fun _ _ e => (by cases e), fun _ _ e => (by cases e)⟩ hr
    split at q5
    · rename_i hc
      simp only [Bool.and_eq_true] at hc
      refine ⟨m, w', st', a', ?_, q2, q3, q5⟩
      rw [evalCode]
      simp only [if_true, evalDraw]
      rw [hc.1, noneA_of _ _ hs.h.new]
      simp only [Bool.and_self, if_true, q1]
      have : bookOK (ancs ops.toList []) bk' = true := by
        refine book_ok q4 ?_
        have h2 := hc.2
        split at h2
        · unfold bookS; simp
        · exact h2
      rw [this]; rfl
    · cases q5
end
end Go.AI
end

/-
  Cuts: a state as the code behind a cut sees it.
-/
section
namespace Go.AI
variable [Kn]
section
variable {P : Program} {w w' : Wd} {h h' : AHeap} {tm : Tr SV} {tm' : Tr AV} {A : Ann} {R : SRec}
inductive CutR (P : Program) (w : Wd) (tm' : Tr AV) : List (Tmp × Nat × TypeId) → List SV → Prop
  | nil : CutR P w tm' [] []
  | unk {t : Tmp × Nat × TypeId} {ts : List (Tmp × Nat × TypeId)} {vs : List SV} : CutR P w tm' ts vs → CutR P w tm' (t :: ts) (.unk :: vs)
  | cons {t : Tmp} {m : Nat} {e : TypeId} {x : AV} {v : SV} {ts : List (Tmp × Nat × TypeId)} {vs : List SV} : tm'.get t = some x → RV P w v x → CutR P w tm' ts vs → CutR P w tm' ((t, m, e) :: ts) (v :: vs)
theorem CutR.mono (hl : Fle w w') (hs : ∀ i k, w.s i = some k → w'.s i = some k) {ts : List (Tmp × Nat × TypeId)} {vs : List SV} (hc : CutR P w tm' ts vs) : CutR P w' tm' ts vs := by
  induction hc with
  | nil => exact .nil
  | unk _ ih => exact .unk ih
  | cons a b _ ih => exact .cons a (b.mono hl hs) ih
theorem CutR.ren (L : List Nat) {ts : List (Tmp × Nat × TypeId)} {vs : List SV} (hc : CutR P w tm' ts vs) : CutR P (w.sub L) tm' ts (renVs L vs) := by
  induction hc with
  | nil => exact .nil
  | unk _ ih => exact .unk ih
  | cons a b _ ih => exact .cons a (b.ren L) ih
theorem CutR.simT {ts : List (Tmp × Nat × TypeId)} {vs : List SV} (hc : CutR P w tm' ts vs) : SimT P w (putTms ts vs) tm' := by
  induction hc with
  | nil => exact ⟨fun t v e => by cases e⟩
  | unk _ ih => exact ih
  | @cons t m e x v ts vs a b _ ih =>
    cases v with
    | unk => exact ih
    | _ => exact ih.know a b
theorem cut1_ok {st : SSt} (hs : SimH P w st.ob st.nx h) {m : Nat} {e : TypeId} {v : SV} {x : AV} (hx : RV P w v x) : ∃ w', Ready P w h st (cut1 P m e v st).2 w' ∧ RV P w' (cut1 P m e v st).1 x := by
  unfold cut1
  split
  · cases hx; exact newOwn_ok hs _
  · cases hx; exact ⟨w, .refl hs, .dl (.nil _)⟩
  · obtain ⟨F, q1, q2⟩ := lend_ready hs [SV.own _]
    exact ⟨_, q1, frz_ok q2 (by simp) hx⟩
  · exact ⟨w, .refl hs, hx⟩
theorem cut1_unk {st : SSt} {m : Nat} {e : TypeId} : cut1 P m e .unk st = (.unk, st) := by
  unfold cut1
  split
  · rename_i h; cases h
  · rename_i h; cases h
  · rename_i h; cases h
  · rfl
theorem cutIn_ok : ∀ (ts : List (Tmp × Nat × TypeId)) {st : SSt} {w : Wd}, SimH P w st.ob st.nx h → SimT P w tm tm' → ∃ w', Ready P w h st (cutIn P tm ts st).2 w' ∧ CutR P w' tm' ts (cutIn P tm ts st).1
  | [], st, w, hs, _ => ⟨w, .refl hs, .nil⟩
  | (t, m, e) :: ts, st, w, hs, ht => by
    simp only [cutIn]
    cases hg : tm.get t with
    | none =>
      have he : evS tm (.tmp t) = .unk := by simp only [evS, hg]
      rw [he, cut1_unk]
      obtain ⟨w1, q1, q2⟩ := cutIn_ok ts hs ht
      exact ⟨w1, q1, .unk q2⟩
    | some v =>
      have he : evS tm (.tmp t) = v := by simp only [evS, hg]
      rw [he]
      obtain ⟨x, hx1, hx2⟩ := ht.tm t v hg
      obtain ⟨w1, q1, q2⟩ := cut1_ok (m := m) (e := e) hs hx2
      obtain ⟨w2, r1, r2⟩ := cutIn_ok ts q1.1 (ht.mono q1.2.1.le q1.2.1.s)
      exact ⟨w2, q1.trans r1, .cons hx1 (q2.mono r1.2.1.le r1.2.1.s) r2⟩
inductive Fr where
  | code (c : Code)
  | blk (id : Nat)
def EvA (P : Program) (cx : Ctx) (c : Code) (a : ASt) (ex : AEx) (a' : ASt) : Prop := ∃ m, evalCode P (rec2 P m) cx c a = some (ex, a')
def FinF (P : Program) (cx : Ctx) : List Fr → AEx → ASt → AEx → ASt → Prop
  | [], ex, a, exF, aF => exF = ex ∧ aF = a
  | .code c :: fs, .normal, a, exF, aF => ∃ ex1 a1, EvA P cx c a ex1 a1 ∧ FinF P cx fs ex1 a1 exF aF
  | .code _ :: fs, ex, a, exF, aF => FinF P cx fs ex a exF aF
  | .blk id :: fs, .exit id', a, exF, aF => if id' = id then FinF P cx fs .normal a exF aF else FinF P cx fs (.exit id') a exF aF
  | .blk _ :: fs, ex, a, exF, aF => FinF P cx fs ex a exF aF
def RunsF (P : Program) (cx : Ctx) (c : Code) (fs : List Fr) (a : ASt) (exF : AEx) (aF : ASt) : Prop := ∃ ex1 a1, EvA P cx c a ex1 a1 ∧ FinF P cx fs ex1 a1 exF aF
inductive Site (key : Nat) : Code → List Fr → Code → List Fr → Prop
  | seqL {a b c' : Code} {fs fs' : List Fr} : Site key a (.code b :: fs) c' fs' → Site key (.seq a b) fs c' fs'
  | seqR {a b c' : Code} {fs fs' : List Fr} : Site key b fs c' fs' → Site key (.seq a b) fs c' fs'
  | condL {c : Operand} {a b c' : Code} {fs fs' : List Fr} : Site key a fs c' fs' → Site key (.cond c a b) fs c' fs'
  | condR {c : Operand} {a b c' : Code} {fs fs' : List Fr} : Site key b fs c' fs' → Site key (.cond c a b) fs c' fs'
  | blk {id : Nat} {b c' : Code} {fs fs' : List Fr} : Site key b (.blk id :: fs) c' fs' → Site key (.block id b) fs c' fs'
  | here {id : Nat} {b : Code} {fs : List Fr} : key = 2 * id → Site key (.block id (.loop b)) fs (.loop b) (.blk id :: fs)
  | behind {id : Nat} {b : Code} {fs : List Fr} : key = 2 * id + 1 → Site key (.block id b) fs .skip fs
  | loop {b c' : Code} {fs fs' : List Fr} : Site key b (.code (.loop b) :: fs) c' fs' → Site key (.loop b) fs c' fs'
  | scope {b c' : Code} {fs fs' : List Fr} : Site key b fs c' fs' → Site key (.scope b) fs c' fs'
  | region {id : Nat} {ops : Array Oper} {draw : Bool} {fs : List Fr} : key = 1000000 + id → Site key (.region id ops draw) fs (.region id ops draw) fs
theorem Site.cnt {key : Nat} {c c' : Code} {fs fs' : List Fr} (hs : Site key c fs c' fs') : 0 < cntKey key c := by
  induction hs with
  | seqL _ ih => simp only [cntKey]; omega
  | seqR _ ih => simp only [cntKey]; omega
  | condL _ ih => simp only [cntKey]; omega
  | condR _ ih => simp only [cntKey]; omega
  | blk _ ih => simp only [cntKey]; omega
  | @here id b fs e =>
    have : Nat.beq (key / 2) id = true := by rw [e]; simp
    simp only [cntKey, this]; omega
  | @behind id b fs e =>
    have : Nat.beq (key / 2) id = true := by
      have : key / 2 = id := by omega
      rw [this]; simp
    simp only [cntKey, this]; omega
  | loop _ ih => simpa only [cntKey] using ih
  | scope _ ih => simpa only [cntKey] using ih
  | @region id ops draw fs e =>
    have : Nat.beq key (1000000 + id) = true := by rw [e]; simp
    simp only [cntKey, this]; omega
theorem keyIn_iff (key : Nat) : ∀ (c : Code), keyIn key c = true ↔ 0 < cntKey key c
  | .seq a b => by simp only [keyIn, cntKey, Bool.or_eq_true, keyIn_iff key a, keyIn_iff key b]; omega
  | .cond _ a b => by simp only [keyIn, cntKey, Bool.or_eq_true, keyIn_iff key a, keyIn_iff key b]; omega
  | .block id b => by
    simp only [keyIn, cntKey, Bool.or_eq_true, keyIn_iff key b]
    cases Nat.beq (key / 2) id <;> simp <;> omega
  | .loop b => by simp only [keyIn, cntKey, keyIn_iff key b]
  | .scope b => by simp only [keyIn, cntKey, keyIn_iff key b]
  | .region id _ _ => by
    simp only [keyIn, cntKey]
    cases Nat.beq key (1000000 + id) <;> simp
  | .skip => by simp [keyIn, cntKey]
  | .label _ => by simp [keyIn, cntKey]
  | .exit _ => by simp [keyIn, cntKey]
  | .goto _ => by simp [keyIn, cntKey]
  | .ret => by simp [keyIn, cntKey]
  | .refuse _ => by simp [keyIn, cntKey]
  | .rangeFunc .. => by simp [keyIn, cntKey]
def Ends (P : Program) (fn : Func) (shs : List Sh) (nb : Nat) (w : Wd) (ob : Tr SOb) (h : AHeap) (r : RT (ltsOf shs)) (run : AEx → ASt → Prop) : Prop :=
  ∃ exF aF w' ob' nx' vs ys, run exF aF ∧ (exF = .normal ∨ exF = .ret) ∧ aF.df = [] ∧ aF.cm = .none ∧ SimH P w' ob' nx' aF.h ∧ FrmP nb w ob h w' ob' aF.h ∧ resultsA P fn aF.tm aF.h fn.results.toList = some ys ∧ RVs P w' vs ys ∧
    nodup ((resLeafs P fn.resultTypes.toList vs ++ boxCells ob' (upto nb)).flatMap ownsV) = true ∧ okRes P fn.resultTypes.toList vs = true ∧ encs P ob' shs (resLeafs P fn.resultTypes.toList vs ++ boxCells ob' (upto nb)) = some r
theorem Ends.imp {fn : Func} {shs : List Sh} {nb : Nat} {ob : Tr SOb} {r : RT (ltsOf shs)} {run run' : AEx → ASt → Prop} (he : Ends P fn shs nb w ob h r run) (hi : ∀ ex a, run ex a → run' ex a) : Ends P fn shs nb w ob h r run' := by
  obtain ⟨exF, aF, w', ob', nx', vs, ys, q1, q2⟩ := he
  exact ⟨exF, aF, w', ob', nx', vs, ys, hi _ _ q1, q2⟩
theorem Ends.frm {fn : Func} {shs : List Sh} {nb : Nat} {ob ob1 : Tr SOb} {r : RT (ltsOf shs)} {run : AEx → ASt → Prop} (hf : Frm w ob h w' ob1 h') (he : Ends P fn shs nb w' ob1 h' r run) : Ends P fn shs nb w ob h r run := by
  obtain ⟨exF, aF, w1, ob', nx', vs, ys, q1, q2, q3, q4, q5, q6, q7⟩ := he
  exact ⟨exF, aF, w1, ob', nx', vs, ys, q1, q2, q3, q4, q5, FrmP.trans hf q6, q7⟩
def JumpSOK (P : Program) (A : Ann) (R : SRec) : Prop := ∀ f key shs nb tms obs r, R.jump f key shs nb tms obs = some r → ∃ fn code ts, P.funcs[f]? = some fn ∧ fn.body = some code ∧ A.cut f key = some ts ∧
  ∀ c fs, Site key code [] c fs → ∀ (w : Wd) (a : ASt) (cx : Ctx), SimH P w (putList obs 0 .leaf) obs.length a.h → SimT P w (putTms ts tms) a.tm → a.df = [] → a.cm = .none → fn.ntmps ≤ cx.tn →
    Ends P fn shs nb w (putList obs 0 .leaf) a.h r (RunsF P cx c fs a)
theorem isPre_get : ∀ {xs ys : List Nat}, isPre xs ys = true → ∀ (p : Nat) (x : Nat), xs[p]? = some x → ys[p]? = some x
  | [], _, _, p, x, e => by simp at e
  | _ :: _, [], h, _, _, _ => by cases h
  | x :: xs, y :: ys, h, p, z, e => by
    simp only [isPre, Bool.and_eq_true] at h
    have := Nat.eq_of_beq_eq_true h.1
    subst this
    cases p with
    | zero => exact e
    | succ p => simpa using isPre_get h.2 p z (by simpa using e)
theorem sub_box {ob : Tr SOb} {L : List Nat} {i j : Nat} {t : TypeId} {cs : List SV} (hL : L[j]? = some i) (e : ob.get i = some (.box t cs)) : (putList (obsOf ob L L) 0 .leaf).get j = some (.box t (renVs L cs)) := by
  rw [putList0, obsOf_get, hL]
  simp only [Option.map_some, obOf, e]
theorem jumpS_ok (hJ : JumpSOK P A R) {st : SSt} {a : ASt} (hs : StR P w st a) {f key nb : Nat} {shs : List Sh} {r : RT (ltsOf shs)} (hr : jumpS P A R f key shs nb st = some r) {fn : Func} {code : Code} (hfn : P.funcs[f]? = some fn) (hb : fn.body = some code)
    {c : Code} {fs : List Fr} (hsite : Site key code [] c fs) {cx : Ctx} (htn : fn.ntmps ≤ cx.tn) : Ends P fn shs nb w st.ob a.h r (RunsF P cx c fs a) := by
  unfold jumpS at hr
  split at hr
  · cases hr
  rename_i ts hcut
  simp only at hr
  split at hr
  · cases hr
  rename_i vals obs L st2 hc
  split at hr
  case h_2 => cases hr
  rename_i hpre
  obtain ⟨fn', code', ts', e1, e2, e3, hj⟩ := hJ _ _ _ _ _ _ _ hr
  rw [hfn] at e1; cases e1
  rw [hb] at e2; cases e2
  rw [hcut] at e3; cases e3
  obtain ⟨w1, q1, q2⟩ := cutIn_ok ts hs.h hs.tm
  unfold canonS at hc
  simp only at hc
  split at hc
  case h_2 => cases hc
  rename_i hok
  simp only [Bool.and_eq_true] at hok
  simp only [Option.some.injEq, Prod.mk.injEq] at hc
  obtain ⟨rfl, rfl, rfl, rfl⟩ := hc
  obtain ⟨w2, r1, r2, r3, r4⟩ := boxesIn_ok (A := A) (gather (cutIn P st.tm ts st).2.ob 200 (upto nb ++ idsVs (cutIn P st.tm ts st).1) []) q1.1
  have hsub := r1.sub hok.1 hok.2
  have hE := hj c fs hsite (w2.sub _) a cx (by rw [obsOf_len]; exact hsub) ((q2.mono r2.le r2.s).ren _).simT hs.df hs.cm htn
  refine Ends.frm (q1.2.1.trans r2) ?_
  obtain ⟨exF, aF, w', ob', nx', vs, ys, p1, p2, p3, p4, p5, p6, p7⟩ := hE
  refine ⟨exF, aF, w', ob', nx', vs, ys, p1, p2, p3, p4, p5, ?_, p7⟩
  refine ⟨(Fle.sub w2 _).trans p6.le, fun i k hi e => p6.s i k hi ?_, p6.next, p6.floor, fun o h1 h2 => p6.keep o h1 fun e => h2 e.of_sub, fun o e => (p6.own o e).imp (fun e => e) Ow.of_sub, fun o e => ?_, fun o e => ?_, p6.wrlt, fun i t cs hi e => ?_⟩
  · have := isPre_get hpre i i (upto_get hi)
    simp only [Wd.sub, this, Option.bind_some]; exact e
  · rcases p6.F o e with e | e | e
    · exact .inl e
    · exact .inr (.inl e)
    · exact .inr (.inr e.of_sub)
  · rcases p6.wr o e with e | e | e
    · exact .inl e
    · exact .inr (.inl e)
    · exact .inr (.inr e.of_sub)
  · have hL := isPre_get hpre i i (upto_get hi)
    exact p6.bx i t _ hi (sub_box hL e)
end
end Go.AI
end

/-
  Code.
-/
section
namespace Go.AI
variable [Kn]
def exA : SEx → AEx
  | .normal => .normal
  | .exit id => .exit id
  | .ret => .ret
section
variable {P : Program} {cx : Ctx} {fs : List Fr} {a aF : ASt} {exF : AEx}
theorem EvA.le {c : Code} {ex : AEx} {a' : ASt} (h : EvA P cx c a ex a') : ∃ m0, ∀ m, m0 ≤ m → evalCode P (rec2 P m) cx c a = some (ex, a') := by
  obtain ⟨m, e⟩ := h
  exact ⟨m, fun m' hm => evalCode_le (rec2_le P hm) e⟩
theorem RunsF.seq {c b : Code} (h : RunsF P cx c (.code b :: fs) a exF aF) : RunsF P cx (.seq c b) fs a exF aF := by
  obtain ⟨ex1, a1, h1, h2⟩ := h
  obtain ⟨m1, h1⟩ := h1.le
  have other : ex1 ≠ .normal → FinF P cx fs ex1 a1 exF aF → RunsF P cx (.seq c b) fs a exF aF := fun hn hf => ⟨ex1, a1, ⟨m1, by
    rw [evalCode, h1 m1 (Nat.le_refl _)]
    cases ex1 with
    | normal => exact absurd rfl hn
    | _ => rfl⟩, hf⟩
  cases ex1 with
  | normal =>
    obtain ⟨ex2, a2, h3, h4⟩ := h2
    obtain ⟨m2, h3⟩ := h3.le
    refine ⟨ex2, a2, ⟨max m1 m2, ?_⟩, h4⟩
    rw [evalCode, h1 _ (Nat.le_max_left ..)]
    exact h3 _ (Nat.le_max_right ..)
  | exit id => exact other (by simp) h2
  | ret => exact other (by simp) h2
  | panic v => exact other (by simp) h2
theorem RunsF.loop {b : Code} (h : RunsF P cx b (.code (.loop b) :: fs) a exF aF) : RunsF P cx (.loop b) fs a exF aF := by
  obtain ⟨ex1, a1, h1, h2⟩ := h
  obtain ⟨m1, h1⟩ := h1.le
  have other : ex1 ≠ .normal → FinF P cx fs ex1 a1 exF aF → RunsF P cx (.loop b) fs a exF aF := fun hn hf => ⟨ex1, a1, ⟨m1 + 1, by
    rw [evalCode]
    show stepLoop P (rec2 P m1) b cx a = _
    unfold stepLoop
    rw [h1 m1 (Nat.le_refl _)]
    cases ex1 with
    | normal => exact absurd rfl hn
    | _ => rfl⟩, hf⟩
  cases ex1 with
  | normal =>
    obtain ⟨ex2, a2, h3, h4⟩ := h2
    obtain ⟨m2, h3⟩ := h3.le
    refine ⟨ex2, a2, ⟨max m1 m2 + 1, ?_⟩, h4⟩
    rw [evalCode]
    show stepLoop P (rec2 P (max m1 m2)) b cx a = _
    unfold stepLoop
    rw [h1 _ (Nat.le_max_left ..)]
    have := h3 _ (Nat.le_max_right m1 m2)
    rw [evalCode] at this
    exact this
  | exit id => exact other (by simp) h2
  | ret => exact other (by simp) h2
  | panic v => exact other (by simp) h2
theorem RunsF.block {id : Nat} {b : Code} (h : RunsF P cx b (.blk id :: fs) a exF aF) : RunsF P cx (.block id b) fs a exF aF := by
  obtain ⟨ex1, a1, ⟨m1, h1⟩, h2⟩ := h
  cases ex1 with
  | exit id' =>
    simp only [FinF] at h2
    split at h2
    · rename_i e
      exact ⟨.normal, a1, ⟨m1, by rw [evalCode, h1]; simp only [e, if_true]⟩, h2⟩
    · rename_i e
      exact ⟨.exit id', a1, ⟨m1, by rw [evalCode, h1]; simp only [e, if_false]⟩, h2⟩
  | normal => exact ⟨_, a1, ⟨m1, by rw [evalCode, h1]⟩, h2⟩
  | ret => exact ⟨_, a1, ⟨m1, by rw [evalCode, h1]⟩, h2⟩
  | panic v => exact ⟨_, a1, ⟨m1, by rw [evalCode, h1]⟩, h2⟩
theorem RunsF.scope {b : Code} (h : RunsF P cx b fs a exF aF) : RunsF P cx (.scope b) fs a exF aF := by
  obtain ⟨ex1, a1, ⟨m1, h1⟩, h2⟩ := h
  exact ⟨ex1, a1, ⟨m1, by rw [evalCode]; exact h1⟩, h2⟩
theorem RunsF.skip (h : RunsF P cx .skip fs a exF aF) : FinF P cx fs .normal a exF aF := by
  obtain ⟨ex1, a1, ⟨m1, h1⟩, h2⟩ := h
  rw [evalCode] at h1
  cases h1; exact h2
variable {A : Ann} {R : SRec} {f : FuncId} {shs : List Sh} {nb : Nat} {fn : Func} {code0 : Code}
def KOK (P : Program) (fn : Func) (shs : List Sh) (nb : Nat) (cx : Ctx) (fs : List Fr) (k : SEx → SSt → Option (RT (ltsOf shs))) : Prop :=
  ∀ ex st w a r, StR P w st a → k ex st = some r → Ends P fn shs nb w st.ob a.h r (FinF P cx fs (exA ex) a)
theorem tms_region {n m : Nat} (hn : n ≤ m) {id : Nat} {ops : Array Oper} {draw : Bool} (h : tmsOK n (.region id ops draw) = true) : ∀ o, o ∈ ops.toList → dstOK m o.dst := by
  intro o ho
  simp only [tmsOK, List.all_eq_true] at h
  have := h o ho
  cases hd : o.dst with
  | none => trivial
  | some d =>
    rw [hd] at this
    have h2 : d < n := by simpa [Nat.blt_eq] using this
    exact Nat.lt_of_lt_of_le h2 hn
theorem reg_ends (hC : CallSOK P A R) (htn : fn.ntmps ≤ cx.tn) {id : Nat} {ops : Array Oper} {draw : Bool} {k : SEx → SSt → Option (RT (ltsOf shs))} {st : SSt} {w : Wd} {r : RT (ltsOf shs)} (ht : tmsOK fn.ntmps (.region id ops draw) = true) (hk : KOK P fn shs nb cx fs k) (hs : StR P w st a)
    (hr : regS P A R ops draw st (fun st => k .normal st) = some r) : Ends P fn shs nb w st.ob a.h r (RunsF P cx (.region id ops draw) fs a) := by
  obtain ⟨m, w', st', a', q1, q2, q3, q4⟩ := regS_ok (id := id) (cx := cx) hC hs (tms_region htn ht) hr
  exact Ends.frm q3 ((hk _ _ _ _ _ q2 q4).imp fun _ _ e => ⟨_, _, ⟨m, q1⟩, e⟩)
section
variable (hC : CallSOK P A R) (hJ : JumpSOK P A R) (hfn : P.funcs[f]? = some fn) (hb : fn.body = some code0) (htn : fn.ntmps ≤ cx.tn)
include hC hJ hfn hb htn
theorem behind_ok {id : Nat} {k : SEx → SSt → Option (RT (ltsOf shs))} {b : Code} (hsite : ∀ key c' fs', Site key (.block id b) fs c' fs' → Site key code0 [] c' fs') (hk : KOK P fn shs nb cx fs k) :
    KOK P fn shs nb cx (.blk id :: fs) (fun ex st => match (match ex with
      | .exit id' => Nat.beq id' id
      | .normal => true
      | .ret => false) with
    | true => (match A.cut f (2 * id + 1) with
      | some _ => jumpS P A R f (2 * id + 1) shs nb st
      | none => k .normal st)
    | false => k ex st) := by
  intro ex st w a r hs hr
  have beh : (match A.cut f (2 * id + 1) with
      | some _ => jumpS P A R f (2 * id + 1) shs nb st
      | none => k .normal st) = some r → Ends P fn shs nb w st.ob a.h r (FinF P cx fs .normal a) := by
    intro e
    split at e
    · exact (jumpS_ok hJ hs e hfn hb (hsite _ _ _ (.behind rfl)) htn).imp fun _ _ => RunsF.skip
    · exact hk _ _ _ _ _ hs e
  cases ex with
  | normal => exact beh hr
  | ret => exact hk _ _ _ _ _ hs hr
  | exit id' =>
    simp only at hr
    cases hbq : Nat.beq id' id with
    | true =>
      rw [hbq] at hr
      have := Nat.eq_of_beq_eq_true hbq
      exact (beh hr).imp fun _ _ e => by simp only [exA, FinF, this, if_true]; exact e
    | false =>
      rw [hbq] at hr
      have := Nat.ne_of_beq_eq_false hbq
      exact (hk _ _ _ _ _ hs hr).imp fun _ _ e => by simp only [exA, FinF, this, if_false]; exact e
theorem codeS_ok : ∀ (c : Code) {bid : Option Nat} {fs : List Fr} {k : SEx → SSt → Option (RT (ltsOf shs))} {st : SSt} {w : Wd} {a : ASt} {r : RT (ltsOf shs)}, (∀ key c' fs', Site key c fs c' fs' → Site key code0 [] c' fs') →
    (∀ i b, bid = some i → c = .loop b → Site (2 * i) code0 [] c fs) → tmsOK fn.ntmps c = true → KOK P fn shs nb cx fs k → StR P w st a → codeS P A R f shs nb bid c st k = some r → Ends P fn shs nb w st.ob a.h r (RunsF P cx c fs a)
  | .skip, bid, fs, k, st, w, a, r, _, _, _, hk, hs, hr => (hk _ _ _ _ _ hs hr).imp fun _ _ e => ⟨_, _, ⟨0, rfl⟩, e⟩
  | .label _, bid, fs, k, st, w, a, r, _, _, _, hk, hs, hr => (hk _ _ _ _ _ hs hr).imp fun _ _ e => ⟨_, _, ⟨0, rfl⟩, e⟩
  | .region id ops draw, bid, fs, k, st, w, a, r, hsite, _, ht, hk, hs, hr => by
    rw [codeS] at hr
    split at hr
    · exact jumpS_ok hJ hs hr hfn hb (hsite _ _ _ (.region rfl)) htn
    · exact reg_ends hC htn ht hk hs hr
  | .seq c b, bid, fs, k, st, w, a, r, hsite, _, ht, hk, hs, hr => by
    rw [codeS] at hr
    simp only [tmsOK, Bool.and_eq_true] at ht
    refine (codeS_ok c (fs := .code b :: fs) (fun key c' fs' e => hsite _ _ _ (.seqL e)) (fun i b e => by cases e) ht.1 (fun ex st1 w1 a1 r1 hs1 hr1 => ?_) hs hr).imp fun _ _ => RunsF.seq
    cases ex with
    | normal => exact codeS_ok b (fun key c' fs' e => hsite _ _ _ (.seqR e)) (fun i b e => by cases e) ht.2 hk hs1 hr1
    | exit id => exact hk _ _ _ _ _ hs1 hr1
    | ret => exact hk _ _ _ _ _ hs1 hr1
  | .cond c x y, bid, fs, k, st, w, a, r, hsite, _, ht, hk, hs, hr => by
    rw [codeS] at hr
    simp only [tmsOK, Bool.and_eq_true] at ht
    split at hr
    · rename_i t hev
      have he := evS_ok hs.tm c
      rw [hev] at he
      have hav : ev a.tm c = .sc (.bool t) := by
        generalize ev a.tm c = z at he
        cases he; rfl
      rcases sIte_both hr with ⟨rfl, hr⟩ | ⟨rfl, hr⟩
      · refine (codeS_ok x (fun key c' fs' e => hsite _ _ _ (.condL e)) (fun i b e => by cases e) ht.1 hk hs hr).imp fun _ _ e => ?_
        obtain ⟨ex1, a1, ⟨m, h1⟩, h2⟩ := e
        exact ⟨ex1, a1, ⟨m, by rw [evalCode, hav]; exact h1⟩, h2⟩
      · refine (codeS_ok y (fun key c' fs' e => hsite _ _ _ (.condR e)) (fun i b e => by cases e) ht.2 hk hs hr).imp fun _ _ e => ?_
        obtain ⟨ex1, a1, ⟨m, h1⟩, h2⟩ := e
        exact ⟨ex1, a1, ⟨m, by rw [evalCode, hav]; exact h1⟩, h2⟩
    · cases hr
  | .block id b, bid, fs, k, st, w, a, r, hsite, _, ht, hk, hs, hr => by
    rw [codeS] at hr
    simp only [tmsOK] at ht
    exact (codeS_ok b (fs := .blk id :: fs) (fun key c' fs' e => hsite _ _ _ (.blk e)) (fun i b' e1 e2 => by cases e1; subst e2; exact hsite _ _ _ (.here rfl)) ht (behind_ok hC hJ hfn hb htn hsite hk) hs hr).imp fun _ _ => RunsF.block
  | .loop b, bid, fs, k, st, w, a, r, hsite, hbid, ht, hk, hs, hr => by
    cases bid with
    | none => exact none_of hr rfl
    | some i => exact jumpS_ok hJ hs (show jumpS P A R f (2 * i) shs nb st = some r from hr) hfn hb (hbid _ _ rfl rfl) htn
  | .exit id, bid, fs, k, st, w, a, r, _, _, _, hk, hs, hr => (hk _ _ _ _ _ hs hr).imp fun _ _ e => ⟨_, _, ⟨0, rfl⟩, e⟩
  | .scope b, bid, fs, k, st, w, a, r, hsite, _, ht, hk, hs, hr => by
    rw [codeS] at hr
    simp only [tmsOK] at ht
    exact (codeS_ok b (fun key c' fs' e => hsite _ _ _ (.scope e)) (fun i b e => by cases e) ht hk hs hr).imp fun _ _ => RunsF.scope
  | .ret, bid, fs, k, st, w, a, r, _, _, _, hk, hs, hr => (hk _ _ _ _ _ hs hr).imp fun _ _ e => ⟨_, _, ⟨0, rfl⟩, e⟩
  | .goto _, bid, fs, k, st, w, a, r, _, _, _, hk, hs, hr => by rw [codeS] at hr <;> first | cases hr | simp
  | .refuse _, bid, fs, k, st, w, a, r, _, _, _, hk, hs, hr => by rw [codeS] at hr <;> first | cases hr | simp
  | .rangeFunc _ _ _ _, bid, fs, k, st, w, a, r, _, _, _, hk, hs, hr => by rw [codeS] at hr <;> first | cases hr | simp
theorem fromS_ok {key : Nat} {cS : Code} {fsS : List Fr} (h0 : Site key code0 [] cS fsS) : ∀ (c : Code) {bid : Option Nat} {fs : List Fr} {k : SEx → SSt → Option (RT (ltsOf shs))} {st : SSt} {w : Wd} {a : ASt} {r : RT (ltsOf shs)}, Site key c fs cS fsS → cntKey key c ≤ 1 →
    (∀ i, bid = some i → key / 2 ≠ i) → (∀ i b, bid = some i → c = .loop b → Site (2 * i) code0 [] c fs) → (∀ key c' fs', Site key c fs c' fs' → Site key code0 [] c' fs') → tmsOK fn.ntmps c = true → KOK P fn shs nb cx fs k → StR P w st a → fromS P A R f shs nb key bid c st k = some r →
      Ends P fn shs nb w st.ob a.h r (RunsF P cx cS fsS a)
  | .seq c b, bid, fs, k, st, w, a, r, hS, hcnt, _, _, hsite, ht, hk, hs, hr => by
    rw [fromS] at hr
    simp only [tmsOK, Bool.and_eq_true] at ht
    simp only [cntKey] at hcnt
    cases hS with
    | seqL hS =>
      have hc := hS.cnt
      rw [(keyIn_iff key c).2 hc] at hr
      refine fromS_ok h0 c hS (by omega) (fun i e => by cases e) (fun i b e => by cases e) (fun key c' fs' e => hsite _ _ _ (.seqL e)) ht.1 (fun ex st1 w1 a1 r1 hs1 hr1 => ?_) hs hr
      cases ex with
      | normal => exact codeS_ok hC hJ hfn hb htn b (fun key c' fs' e => hsite _ _ _ (.seqR e)) (fun i b e => by cases e) ht.2 hk hs1 hr1
      | exit id => exact hk _ _ _ _ _ hs1 hr1
      | ret => exact hk _ _ _ _ _ hs1 hr1
    | seqR hS =>
      have hc := hS.cnt
      have : keyIn key c = false := by
        cases e : keyIn key c with
        | false => rfl
        | true => have := (keyIn_iff key c).1 e; omega
      rw [this] at hr
      exact fromS_ok h0 b hS (by omega) (fun i e => by cases e) (fun i b e => by cases e) (fun key c' fs' e => hsite _ _ _ (.seqR e)) ht.2 hk hs hr
  | .cond c x y, bid, fs, k, st, w, a, r, hS, hcnt, _, _, hsite, ht, hk, hs, hr => by
    rw [fromS] at hr
    simp only [tmsOK, Bool.and_eq_true] at ht
    simp only [cntKey] at hcnt
    cases hS with
    | condL hS =>
      have hc := hS.cnt
      rw [(keyIn_iff key x).2 hc] at hr
      exact fromS_ok h0 x hS (by omega) (fun i e => by cases e) (fun i b e => by cases e) (fun key c' fs' e => hsite _ _ _ (.condL e)) ht.1 hk hs hr
    | condR hS =>
      have hc := hS.cnt
      have : keyIn key x = false := by
        cases e : keyIn key x with
        | false => rfl
        | true => have := (keyIn_iff key x).1 e; omega
      rw [this] at hr
      exact fromS_ok h0 y hS (by omega) (fun i e => by cases e) (fun i b e => by cases e) (fun key c' fs' e => hsite _ _ _ (.condR e)) ht.2 hk hs hr
  | .block id b, bid, fs, k, st, w, a, r, hS, hcnt, _, _, hsite, ht, hk, hs, hr => by
    rw [fromS] at hr
    simp only [tmsOK] at ht
    simp only [cntKey] at hcnt
    have hbk := behind_ok (id := id) (b := b) hC hJ hfn hb htn hsite hk
    cases hS with
    | blk hS =>
      have hc := hS.cnt
      have hne : key / 2 ≠ id := by
        intro e
        have : Nat.beq (key / 2) id = true := by rw [e]; simp
        rw [this] at hcnt
        simp only at hcnt; omega
      have : Nat.beq key (2 * id + 1) = false := by
        cases e : Nat.beq key (2 * id + 1) with
        | false => rfl
        | true => have := Nat.eq_of_beq_eq_true e; omega
      rw [this] at hr
      exact fromS_ok h0 b hS (by omega) (fun i e => by cases e; exact hne) (fun i b' e1 e2 => by cases e1; subst e2; exact hsite _ _ _ (.here rfl)) (fun key c' fs' e => hsite _ _ _ (.blk e)) ht hbk hs hr
    | @here _ b1 _ e =>
      subst e
      have : Nat.beq (2 * id) (2 * id + 1) = false := by
        cases e : Nat.beq (2 * id) (2 * id + 1) with
        | false => rfl
        | true => have := Nat.eq_of_beq_eq_true e; omega
      rw [this] at hr
      simp only [tmsOK] at ht
      simp only at hr
      rw [fromS] at hr
      have hbb : Nat.beq (2 * id) (2 * id) = true := by simp
      simp only [hbb] at hr
      refine (codeS_ok hC hJ hfn hb htn b1 (fs := .code (.loop b1) :: .blk id :: fs) (fun key c' fs' e => hsite _ _ _ (.blk (.loop e))) (fun i b e => by cases e) ht (fun ex st1 w1 a1 r1 hs1 hr1 => ?_) hs hr).imp fun _ _ => RunsF.loop
      cases ex with
      | normal => exact jumpS_ok hJ hs1 hr1 hfn hb h0 htn
      | exit id' => exact hbk _ _ _ _ _ hs1 hr1
      | ret => exact hbk _ _ _ _ _ hs1 hr1
    | behind e =>
      have : Nat.beq key (2 * id + 1) = true := by rw [e]; simp
      rw [this] at hr
      exact (hk _ _ _ _ _ hs hr).imp fun _ _ e => ⟨_, _, ⟨0, rfl⟩, e⟩
  | .loop b, bid, fs, k, st, w, a, r, hS, hcnt, hne, hbid, hsite, ht, hk, hs, hr => by
    simp only [tmsOK] at ht
    simp only [cntKey] at hcnt
    cases hS with
    | loop hS =>
      have hr' : fromS P A R f shs nb key none b st (fun ex st => match ex with
          | .normal => (match bid with
            | some i => jumpS P A R f (2 * i) shs nb st
            | none => none)
          | ex => k ex st) = some r := by
        cases bid with
        | none => exact hr
        | some i =>
          have : Nat.beq key (2 * i) = false := by
            cases e : Nat.beq key (2 * i) with
            | false => rfl
            | true => have := Nat.eq_of_beq_eq_true e; exact absurd (by omega) (hne i rfl)
          rw [fromS] at hr
          simp only [this] at hr
          exact hr
      refine fromS_ok h0 b hS hcnt (fun i e => by cases e) (fun i b e => by cases e) (fun key c' fs' e => hsite _ _ _ (.loop e)) ht (fun ex st1 w1 a1 r1 hs1 hr1 => ?_) hs hr'
      cases ex with
      | normal =>
        simp only at hr1
        cases bid with
        | none => cases hr1
        | some i => exact jumpS_ok hJ hs1 hr1 hfn hb (hbid i b rfl rfl) htn
      | exit id => exact hk _ _ _ _ _ hs1 hr1
      | ret => exact hk _ _ _ _ _ hs1 hr1
  | .scope b, bid, fs, k, st, w, a, r, hS, hcnt, _, _, hsite, ht, hk, hs, hr => by
    rw [fromS] at hr
    simp only [tmsOK] at ht
    simp only [cntKey] at hcnt
    cases hS with
    | scope hS => exact fromS_ok h0 b hS hcnt (fun i e => by cases e) (fun i b e => by cases e) (fun key c' fs' e => hsite _ _ _ (.scope e)) ht hk hs hr
  | .region id ops draw, bid, fs, k, st, w, a, r, hS, _, _, _, _, ht, hk, hs, hr => by
    rw [fromS] at hr
    cases hS with
    | region e => exact reg_ends hC htn ht hk hs hr
  | .skip, _, _, _, _, _, _, _, hS, _, _, _, _, _, _, _, _ => by cases hS
  | .label _, _, _, _, _, _, _, _, hS, _, _, _, _, _, _, _, _ => by cases hS
  | .exit _, _, _, _, _, _, _, _, hS, _, _, _, _, _, _, _, _ => by cases hS
  | .ret, _, _, _, _, _, _, _, hS, _, _, _, _, _, _, _, _ => by cases hS
  | .goto _, _, _, _, _, _, _, _, hS, _, _, _, _, _, _, _, _ => by cases hS
  | .refuse _, _, _, _, _, _, _, _, hS, _, _, _, _, _, _, _, _ => by cases hS
  | .rangeFunc _ _ _ _, _, _, _, _, _, _, _, hS, _, _, _, _, _, _, _, _ => by cases hS
end
end
end Go.AI
end

/-
  The interpreter over data is sound.
-/
section
namespace Go.AI
variable [Kn]
section
variable {P : Program} {w : Wd} {ob : Tr SOb} {nx : Nat} {h : AHeap} {A : Ann}
theorem resVs_ok {st : SSt} {a : ASt} (hs : StR P w st a) : ∀ {rs : List ResultVar} {vs : List SV}, resVs P st rs = some vs → ∃ ys, (∀ fn : Func, resultsA P fn a.tm a.h rs = some ys) ∧ RVs P w vs ys
  | [], vs, h => by simp only [resVs, Option.some.injEq] at h; subst h; exact ⟨[], fun _ => rfl, .nil⟩
  | .tmp t :: rs, vs, h => by
    simp only [resVs] at h
    obtain ⟨us, h1, rfl⟩ := map_of h
    obtain ⟨ys, q1, q2⟩ := resVs_ok hs h1
    exact ⟨ev a.tm (.tmp t) :: ys, fun fn => by simp only [resultsA, q1 fn], .cons (evS_ok hs.tm _) q2⟩
  | .cell c t :: rs, vs, h => by
    simp only [resVs] at h
    split at h
    · rename_i v us h1 h2
      cases h
      obtain ⟨ys, q1, q2⟩ := resVs_ok hs h2
      obtain ⟨v', y, r1, r2, r3⟩ := load_ok (h1 := a.h) hs.h (evS_ok hs.tm (.tmp c)) (fun _ _ => rfl) h1
      cases r1
      exact ⟨y :: ys, fun fn => by simp only [resultsA, q1 fn, r2], .cons r3 q2⟩
    · cases h
theorem finS_ok {fn : Func} {shs : List Sh} {nb : Nat} {cx : Ctx} : KOK P fn shs nb cx [] (finS P shs nb fn) := by
  intro ex st w a r hs hr
  have fin : ex = .normal ∨ ex = .ret → (match resVs P st fn.results.toList with
    | some vs =>
      let cs := resLeafs P fn.resultTypes.toList vs ++ boxCells st.ob (upto nb)
      match nodup (cs.flatMap ownsV) && okRes P fn.resultTypes.toList vs with
      | true => encs P st.ob shs cs
      | false => none
    | none => none) = some r → Ends P fn shs nb w st.ob a.h r (FinF P cx [] (exA ex) a) := by
    intro hex hr
    split at hr
    · rename_i vs hv
      simp only at hr
      split at hr
      · rename_i hok
        simp only [Bool.and_eq_true] at hok
        obtain ⟨ys, q1, q2⟩ := resVs_ok hs hv
        refine ⟨exA ex, a, w, st.ob, st.nx, vs, ys, ⟨rfl, rfl⟩, ?_, hs.df, hs.cm, hs.h, .of (.refl _ _ _), q1 fn, q2, hok.1, hok.2, hr⟩
        rcases hex with rfl | rfl
        · exact .inl rfl
        · exact .inr rfl
      · cases hr
    · cases hr
  unfold finS at hr
  cases ex with
  | exit id => cases hr
  | normal => exact fin (.inl rfl) hr
  | ret => exact fin (.inr rfl) hr
theorem args_SimT {args : List SV} {xs : List AV} (hx : RVs P w args xs) : SimT P w (putList args 0 .leaf) (putArgs xs 0 .leaf) := by
  refine ⟨fun t v e => ?_⟩
  rw [putList0] at e
  obtain ⟨x, h1, h2⟩ := hx.get t v e
  refine ⟨x, ?_, h2⟩
  rw [putArgs_get]
  have hl : t < xs.length := by
    rcases Nat.lt_or_ge t xs.length with a | a
    · exact a
    · rw [List.getElem?_eq_none a] at h1; cases h1
  rw [if_pos ⟨Nat.zero_le _, by omega⟩, Nat.sub_zero]; exact h1
theorem recS_ok (P : Program) (A : Ann) (hKn : KnOK P A) : ∀ n, CallSOK P A (recS P A n) ∧ JumpSOK P A (recS P A n)
  | 0 => ⟨⟨hKn, fun _ _ _ _ _ e => (by cases e)⟩, fun _ _ _ _ _ _ _ e => (by cases e)⟩
  | n + 1 => by
    obtain ⟨hC, hJ⟩ := recS_ok P A hKn n
    refine ⟨⟨hKn, fun f args obs shs r hr w h xs hs hx => ?_⟩, fun f key shs nb tms obs r hr => ?_⟩
    · simp only [recS] at hr
      split at hr
      case h_2 => cases hr
      rename_i fn hfn
      split at hr
      case h_2 => cases hr
      rename_i code hb
      split at hr
      case h_2 => cases hr
      rename_i ht
      simp only [Bool.and_eq_true, Option.isNone_iff_eq_none] at ht
      have hst : StR P w ⟨putList args 0 .leaf, putList obs 0 .leaf, obs.length, []⟩ { tm := putArgs xs 0 .leaf, df := [], cm := .none, h := h.inner } := ⟨hs.heap_eq (fun _ => rfl) rfl, args_SimT hx, fun _ _ e => (by cases e), rfl, rfl⟩
      have hE := codeS_ok (cx := { fn := f, tn := max fn.ntmps xs.length, kind := .normal, round := none }) hC hJ hfn hb (Nat.le_max_left ..) code (fs := []) (fun _ _ _ e => e) (fun i b e => by cases e) ht.1 finS_ok hst hr
      obtain ⟨exF, aF, w', ob', nx', vs, ys, ⟨ex1, a1, ⟨m, hev⟩, rfl, rfl⟩, hex, hdf, hcm, hS, hF, hres, hv, hnd, hok, henc⟩ := hE
      refine ⟨m + 1, fn, (retV ys), aF.h, hfn, ?_, w', ob', nx', vs, ys, hS, hF, hv, rfl, hnd, hok, henc⟩
      have hret : retA P fn aF.tm aF.h = some (retV ys) := by
        unfold retA
        rw [hres]
        cases ys with
        | nil => rfl
        | cons y l => cases l <;> rfl
      have hleave : endCall2 h aF.cm (leaveA P (rec2 P m) fn aF.tm aF.df .ret aF.h) = some (.ret (retV ys), .none, h.outer aF.h) := by
        rw [hdf, hcm]
        simp only [leaveA, hret, Option.map_some, endCall2]
      show stepCall3 P (rec2 P m) .normal f xs .none h = _
      unfold stepCall3
      rw [hKn.none f ht.2]
      show stepCall2 P (rec2 P m) .normal f xs .none h = _
      unfold stepCall2
      simp only [hfn, hb, hev]
      rcases hex with rfl | rfl
      · exact hleave
      · exact hleave
    · simp only [recS] at hr
      split at hr
      case h_2 => cases hr
      rename_i fn hfn
      split at hr
      case h_2 => cases hr
      rename_i code hb
      split at hr
      case h_2 => cases hr
      rename_i ts hcut
      split at hr
      case h_2 => cases hr
      rename_i hok
      simp only [Bool.and_eq_true] at hok
      have hcnt := Nat.eq_of_beq_eq_true hok.2
      refine ⟨fn, code, ts, hfn, hb, hcut, fun c fs hsite w a cx hs ht hdf hcm htn => ?_⟩
      have hst : StR P w ⟨putTms ts tms, putList obs 0 .leaf, obs.length, []⟩ a := ⟨hs, ht, fun _ _ e => (by cases e), hdf, hcm⟩
      exact fromS_ok hC hJ hfn hb htn hsite code hsite (by omega) (fun i e => by cases e) (fun i b e => by cases e) (fun _ _ _ e => e) hok.1 finS_ok hst hr
theorem lift_ok (hP : ProgOK P) (hKt : KnTrue P) (hKn : KnOK P A) {n : Nat} {f : FuncId} {args : List SV} {obs : List SOb} {shs : List Sh} {r : RT (ltsOf shs)} (hr : (recS P A n).call f args obs shs = some r) {xs : List AV} (hs : SimH P w (putList obs 0 .leaf) obs.length h) (hx : RVs P w args xs) :
    ∃ fn y h', P.funcs[f]? = some fn ∧ CallOK P f xs h (.ret y) (h.outer h') ∧ Post P w (putList obs 0 .leaf) obs.length h.inner fn.resultTypes.toList shs r y h' := by
  obtain ⟨m, fn, y, h', q1, q2, q3⟩ := (recS_ok P A hKn n).1.2 f args obs shs r hr w h xs hs hx
  exact ⟨fn, y, h', q1, (rec2_ok hP hKt m).call _ _ _ _ _ _ q2, q3⟩
def w00S : Wd := { g := fun _ => none, F := fun _ => False, s := fun _ => none }
theorem sim0 : SimH P w00S (putList [] 0 .leaf) 0 h0 where
  g := fun _ => rfl
  box := fun _ _ _ e => by cases e
  arr := fun _ _ _ _ e => by cases e
  byt := fun _ _ _ e => by cases e
  inj := fun _ _ _ _ _ _ _ e => by cases e
  lt := fun _ _ _ e => by cases e
  nx := fun _ _ => ⟨rfl, rfl⟩
  frz := fun _ e => e.elim
  new := fun _ _ => rfl
theorem lift0_ok (hP : ProgOK P) (hKt : KnTrue P) (hKn : KnOK P A) {n : Nat} {f : FuncId} {args : List SV} {shs : List Sh} {r : RT (ltsOf shs)} (hr : (recS P A n).call f args [] shs = some r) {xs : List AV} (hx : RVs P w00S args xs) :
    ∃ fn y h', P.funcs[f]? = some fn ∧ CallOK P f xs h0 (.ret y) h' ∧ ∃ w' ob' nx' vs ys, SimH P w' ob' nx' h' ∧ RVs P w' vs ys ∧ y = (retV ys) ∧ okRes P fn.resultTypes.toList vs = true ∧ encs P ob' shs (resLeafs P fn.resultTypes.toList vs) = some r := by
  obtain ⟨fn, y, h', q1, q2, w', ob', nx', vs, ys, p1, p2, p3, p4, p5, p6, p7⟩ := lift_ok hP hKt hKn hr sim0 hx
  refine ⟨fn, y, _, q1, q2, w', ob', nx', vs, ys, p1.heap_eq (fun _ => rfl) rfl, p3, p4, p6, ?_⟩
  have : boxCells ob' (upto ([] : List SOb).length) = [] := rfl
  rw [this, List.append_nil] at p7
  exact p7
end
end Go.AI
end

/-
  Answers of one truth value.
-/
section
namespace Go.AI
variable [Kn]
section
variable {P : Program} {A : Ann}
theorem lift_bool (hP : ProgOK P) (hKt : KnTrue P) (hKn : KnOK P A) {n : Nat} {f : FuncId} {args : List SV} {b : Bool} (hr : (recS P A n).call f args [] [.bool] = some b) {xs : List AV} (hx : RVs P w00S args xs) {t : TypeId} (hts : ∀ fn, P.funcs[f]? = some fn → fn.resultTypes.toList = [t]) (hag : isAggT P t = some false) :
    ∃ h', CallOK P f xs h0 (.ret (.sc (.bool b))) h' := by
  obtain ⟨fn, y, h', q1, q2, w', ob', nx', vs, ys, q3, q4, rfl, q5, q6⟩ := lift0_ok hP hKt hKn hr hx
  rw [hts fn q1] at q5 q6
  refine ⟨h', ?_⟩
  have hy : retV ys = .sc (.bool b) := by
    cases q4 with
    | nil => cases q5
    | @cons v x vs' xs' a rest =>
      have hl : vs' = [] := by
        cases vs' with
        | nil => rfl
        | cons u us => simp [okRes] at q5
      subst hl
      cases rest
      simp only [resLeafs, hag] at q6
      have q6 : encs P ob' (.bool :: []) (v :: []) = some b := q6
      obtain ⟨b', r', rfl, _, h2⟩ := encs_bool q6
      cases a
      have : b = b' := h2
      rw [this]; rfl
  rw [hy] at q2
  exact q2
end
end Go.AI
end

/-
  Known calls: texts of a slice in whatever heap; calls that change nothing.
-/
section
namespace Go.AI
def strsA : List AV → Option (List ByteArray)
  | [] => some []
  | .sc (.string s) :: r => match strsA r with
    | some l => some (s :: l)
    | none => none
  | _ => none
def rdTexts (h : AHeap) : AV → Option (List ByteArray)
  | .sc (.slice none 0 0) => some []
  | .esl => some []
  | .isl rows sz => if sz = 1 then strsA rows.flatten else none
  | .sl o ver n off sz len _ => if sz = 1 then (match rdCells h o ver n off len with
    | some cs => strsA cs
    | none => none) else none
  | _ => none
theorem strsA_eq : ∀ {cs : List AV} {l : List ByteArray}, strsA cs = some l → cs = l.map fun s => .sc (.string s)
  | [], l, e => by simp [strsA] at e; subst e; rfl
  | c :: cs, l, e => by
    unfold strsA at e
    split at e
    · rename_i he; cases he
    · rename_i s r he
      cases he
      split at e
      · rename_i l' hl
        cases e
        rw [strsA_eq hl]; rfl
      · cases e
    · cases e
theorem strsA_map : ∀ (l : List ByteArray), strsA (l.map fun s => .sc (.string s)) = some l
  | [] => rfl
  | s :: l => by simp only [List.map_cons, strsA, strsA_map l]
section
variable {P : Program} {g : Gh} {w : World} {h : AHeap}
theorem rdTexts_ok (hw : W h g w) {x : AV} {l : List ByteArray} {v : Value} (hr : rdTexts h x = some l) (hv : VR g x v) :
    ∃ a c, v = .slice a l.length c ∧ l.length ≤ c ∧ (l = [] ∨ ∃ bk o, a = some ⟨bk, o, none⟩ ∧ bk < w.heap.size ∧ ∀ (j : Nat) s, l[j]? = some s → w.cell? ⟨bk, o + j, none⟩ = some (.string s)) := by
  unfold rdTexts at hr
  split at hr
  · cases hr; cases hv; exact ⟨none, 0, rfl, Nat.le_refl _, .inl rfl⟩
  · cases hr; cases hv; rename_i a c; exact ⟨some a, c, rfl, Nat.zero_le _, .inl rfl⟩
  · rename_i rows sz
    split at hr
    · rename_i hz; subst hz
      have hcs := strsA_eq hr
      cases hv with
      | islNil => cases hr; exact ⟨none, 0, rfl, Nat.le_refl _, .inl rfl⟩
      | islE a => cases hr; exact ⟨some a, 0, rfl, Nat.le_refl _, .inl rfl⟩
      | isl h1 h2 h3 =>
        rename_i b off c
        have hlen : rows.flatten.length = rows.length * 1 := flat_len h1
        have hl : l.length = rows.length := by rw [hcs, List.length_map] at hlen; omega
        cases h3 with
        | psl f p1 p2 p3 p4 p5 =>
          refine ⟨some ⟨b, off, none⟩, c, by rw [hl], by omega, ?_⟩
          cases hl0 : l with
          | nil => exact .inl rfl
          | cons s0 l0 =>
            refine .inr ⟨b, off, rfl, ?_, fun j s e => ?_⟩
            · have := p1 0 (.sc (.string s0)) (by rw [hcs, hl0]; rfl)
              exact (hw.ro b _ _ this).2
            · have hx : rows.flatten[j]? = some (.sc (.string s)) := by rw [hcs, hl0, List.getElem?_map, e]; rfl
              have h4 := p2 j _ hx
              have h5 := (hw.ro b _ _ (p1 j _ hx)).1
              generalize f j = u at h4 h5
              cases h4
              exact h5
    · cases hr
  · rename_i o ver n off sz len cap
    split at hr
    · rename_i hz; subst hz
      split at hr
      · rename_i cs hrd
        have hcs := strsA_eq hr
        cases hv with
        | sl hB p1 p2 p3 =>
          rename_i b s c
          obtain ⟨vs, q1, q2, q3, _⟩ := rdCells_ok hw hrd hB
          have hl : l.length = len := by rw [← q2, ← q1.length, hcs, List.length_map]
          refine ⟨some ⟨b, off, none⟩, c, by rw [hl], by omega, .inr ⟨b, off, rfl, hw.bnd _ _ _ _ _ hB, fun j s e => ?_⟩⟩
          have hx : cs[j]? = some (.sc (.string s)) := by rw [hcs, List.getElem?_map, e]; rfl
          have hj : j < vs.length := by
            have := q1.length
            rcases Nat.lt_or_ge j vs.length with a | a
            · exact a
            · rw [List.getElem?_eq_none (by omega)] at hx; cases hx
          have h4 := q1.get j _ vs[j] hx (List.getElem?_eq_getElem hj)
          have h5 := q3 j vs[j] (List.getElem?_eq_getElem hj)
          generalize vs[j] = u at h4 h5
          cases h4
          exact h5
      · cases hr
    · cases hr
  · cases hr
theorem still_ok {f : FuncId} {args : List AV} {y : AV} (hc : ∀ (g : Gh) (w : World) (vs : List Value), W h g w → VRs g args vs →
    Calls P f vs.toArray w fun e w' => (∃ x, e = .returned x ∧ VR g y x) ∧ w.heap.size ≤ w'.heap.size ∧ (∀ b, b < w.heap.size → w'.heap[b]? = w.heap[b]?) ∧ w'.tape = w.tape ∧ w'.os = w.os ∧ w'.output = w.output) :
    CallOK P f args h (.ret y) h := by
  intro g w vs hw hf hv
  refine (hc g w vs hw hv).mono ?_
  rintro e w' ⟨⟨x, rfl, hx⟩, h1, h2, h3, h4, h5⟩
  exact ⟨g, { Step.refl h g w with size := h1, fr := fun b hb _ => h2 b hb, tape := h3, os := h4, out := h5, newM := fun _ _ _ h => Or.inl h }, hw.same h1 h2, hx⟩
theorem rdRow_str {w : Wd} {r r' : List AV} (h : RdRow P w [.str] r r') : ∃ s, r = [.sc (.string s)] ∧ r' = [.sc (.string s)] := by
  cases h with
  | cons h1 h2 => cases h2; cases h1; exact ⟨_, rfl, rfl⟩
theorem rdRows_str {w : Wd} : ∀ {rs rs' : List (List AV)}, RdRows P w [.str] rs rs' → rs' = rs ∧ rs.flatten = (rs.map (gS · 0)).map fun s => .sc (.string s)
  | _, _, .nil _ => ⟨rfl, rfl⟩
  | _, _, .cons h1 h2 => by
    obtain ⟨s, rfl, rfl⟩ := rdRow_str h1
    obtain ⟨rfl, e⟩ := rdRows_str h2
    refine ⟨rfl, ?_⟩
    simp only [List.flatten_cons, List.map_cons, e]
    rfl
theorem rdTexts_of {w : Wd} {t : TypeId} {rows : List (List AV)} {x : AV} (hl : lay P t = [.str]) (hg : ∀ o, w.g o = h.get o) (hd : Rd P w t rows x) : rdTexts h x = some (rows.map (gS · 0)) := by
  cases hd with
  | nil => rfl
  | esl => rfl
  | @isl _ _ rows' h1 h2 h3 =>
    rw [hl] at h3
    obtain ⟨rfl, e⟩ := rdRows_str h3
    rw [hl]
    show (if 1 = 1 then strsA rows'.flatten else none) = _
    rw [if_pos rfl, e, strsA_map]
  | sl h1 h2 h3 h4 h5 h6 h7 h8 h9 h10 =>
    rename_i o ver n off v mv fz c el ex sh cap
    rw [hl] at h7 h8 h10
    obtain ⟨e1, e⟩ := rdRows_str h10
    rw [hl]
    have h7 : off + rows.length * 1 ≤ n := h7
    have h8 : off + rows.length * 1 ≤ c.length := h8
    show (if 1 = 1 then (match rdCells h o ver n off rows.length with | some cs => strsA cs | none => none) else none) = _
    rw [if_pos rfl]
    have hrd : rdCells h o ver n off rows.length = some ((c.drop off).take rows.length) := by
      have hgo := h4
      rw [hg] at hgo
      simp only [rdCells, hgo]
      rw [if_pos (by omega)]
    rw [hrd]
    have e1 : chunks 1 rows.length (c.drop off) = rows := e1
    have e2 : (c.drop off).take rows.length = rows.flatten := by
      have hf := chunks_flatten 1 rows.length ((c.drop off).take rows.length) (by rw [List.length_take, List.length_drop]; omega)
      rw [← hf]
      congr 1
      have := chunks_append (sz := 1) rows.length ((c.drop off).take rows.length) ((c.drop off).drop rows.length) (by rw [List.length_take, List.length_drop]; omega)
      rw [List.take_append_drop, e1] at this
      exact this.symm
    show strsA _ = _
    rw [e2, e, strsA_map]
end
end Go.AI
end
