/-
  Leaves handed on: what is encoded and decoded again is what it was.
-/
import Derived.Test.YtbdcnekkebhhhaaGreatDoorSc
set_option linter.all false

section
namespace Go.AI
theorem RT.head_cons {a : LT} : ∀ {l : List LT} (x : a.ty) (y : RT l), RT.head (RT.cons x y) = x
  | [], _, _ => rfl
  | _ :: _, _, _ => rfl
theorem RT.tail_cons {a : LT} : ∀ {l : List LT} (x : a.ty) (y : RT l), RT.tail (RT.cons x y) = y
  | [], _, _ => rfl
  | _ :: _, _, _ => rfl
section
variable {P : Program} {w w' : Wd} {ob ob' : Tr SOb} {nx : Nat} {h h' : AHeap} {ρ : Type} {ss : List Sh} {v : SV} {vs : List SV}
theorem none_of {α : Type} {x : Option α} {r : α} {C : Prop} (h : x = some r) (e : x = none) : C := by rw [e] at h; cases h
theorem map_of {α β : Type} {x : Option α} {f : α → β} {r : β} (h : x.map f = some r) : ∃ y, x = some y ∧ r = f y := by
  cases x with
  | none => cases h
  | some y => cases h; exact ⟨y, rfl, rfl⟩
theorem encs_int {k : IntKind} {r : RT (ltsOf (.int k :: ss))} (h : encs P ob (.int k :: ss) (v :: vs) = some r) : ∃ n r', v = .sc (.int k n) ∧ encs P ob ss vs = some r' ∧ r = RT.cons (a := .int) n r' := by
  cases v with
  | sc u => cases u with
    | int k' n =>
      have h0 : (if k = k' then (encs P ob ss vs).map fun r => RT.cons (a := .int) n r else none) = some r := h
      by_cases e : k = k'
      · rw [if_pos e] at h0
        subst e
        obtain ⟨r', h1, h2⟩ := map_of h0
        exact ⟨n, r', rfl, h1, h2⟩
      · rw [if_neg e] at h0; cases h0
    | _ => exact none_of h rfl
  | _ => exact none_of h rfl
theorem encs_bool {r : RT (ltsOf (.bool :: ss))} (h : encs P ob (.bool :: ss) (v :: vs) = some r) : ∃ n r', v = .sc (.bool n) ∧ encs P ob ss vs = some r' ∧ r = RT.cons (a := .bool) n r' := by
  cases v with
  | sc u => cases u with
    | bool n => obtain ⟨r', h1, h2⟩ := map_of (f := fun r => RT.cons (a := .bool) n r) h; exact ⟨n, r', rfl, h1, h2⟩
    | _ => exact none_of h rfl
  | _ => exact none_of h rfl
theorem encs_str {r : RT (ltsOf (.str :: ss))} (h : encs P ob (.str :: ss) (v :: vs) = some r) : ∃ n r', v = .sc (.string n) ∧ encs P ob ss vs = some r' ∧ r = RT.cons (a := .str) n r' := by
  cases v with
  | sc u => cases u with
    | string n => obtain ⟨r', h1, h2⟩ := map_of (f := fun r => RT.cons (a := .str) n r) h; exact ⟨n, r', rfl, h1, h2⟩
    | _ => exact none_of h rfl
  | _ => exact none_of h rfl
theorem encs_dl {t : TypeId} {r : RT (ltsOf (.dl t :: ss))} (h : encs P ob (.dl t :: ss) (v :: vs) = some r) : ∃ x r', asData ob t v = some x ∧ encs P ob ss vs = some r' ∧ r = RT.cons (a := .rows) x r' := by
  have h : (match asData ob t v, encs P ob ss vs with
    | some x, some r => some (RT.cons (a := .rows) x r)
    | _, _ => none) = some r := h
  cases ha : asData ob t v with
  | none => rw [ha] at h; cases h
  | some x =>
    cases hr : encs P ob ss vs with
    | none => rw [ha, hr] at h; cases h
    | some r' => rw [ha, hr] at h; cases h; exact ⟨x, r', rfl, rfl, rfl⟩
theorem encs_own {t : TypeId} {lent : Bool} {r : RT (ltsOf (.own t lent :: ss))} (h : encs P ob (.own t lent :: ss) (v :: vs) = some r) :
    ∃ x r', freeOwn ob lent v = true ∧ goodT P t = true ∧ isByte P t = false ∧ asData ob t v = some x ∧ encs P ob ss vs = some r' ∧ r = RT.cons (a := .rows) x r' := by
  have h : (match freeOwn ob lent v && goodT P t && !isByte P t, asData ob t v, encs P ob ss vs with
    | true, some x, some r => some (RT.cons (a := .rows) x r)
    | _, _, _ => none) = some r := h
  cases hf : (freeOwn ob lent v && goodT P t && !isByte P t) with
  | false => rw [hf] at h; cases h
  | true =>
    cases ha : asData ob t v with
    | none => rw [hf, ha] at h; cases h
    | some x =>
      cases hr : encs P ob ss vs with
      | none => rw [hf, ha, hr] at h; cases h
      | some r' =>
        rw [hf, ha, hr] at h; cases h
        simp only [Bool.and_eq_true, Bool.not_eq_true'] at hf
        exact ⟨x, r', hf.1.1, hf.1.2, hf.2, rfl, rfl, rfl⟩
theorem encs_byt {t : TypeId} {r : RT (ltsOf (.byt t :: ss))} (h : encs P ob (.byt t :: ss) (v :: vs) = some r) :
    ∃ x r', isByte P t = true ∧ encB ob t v = some x ∧ encs P ob ss vs = some r' ∧ r = RT.cons (a := .str) x r' := by
  have h : (match isByte P t, encB ob t v, encs P ob ss vs with
    | true, some x, some r => some (RT.cons (a := .str) x r)
    | _, _, _ => none) = some r := h
  cases hf : isByte P t with
  | false => rw [hf] at h; cases h
  | true =>
    cases ha : encB ob t v with
    | none => rw [hf, ha] at h; cases h
    | some x =>
      cases hr : encs P ob ss vs with
      | none => rw [hf, ha, hr] at h; cases h
      | some r' => rw [hf, ha, hr] at h; cases h; exact ⟨x, r', rfl, rfl, rfl, rfl⟩
theorem encs_opt {u : SV} {r : RT (ltsOf (.opt u :: ss))} (h : encs P ob (.opt u :: ss) (v :: vs) = some r) :
    ∃ b r', encs P ob ss vs = some r' ∧ r = RT.cons (a := .bool) b r' ∧ ((∃ v', v = .opt b v' ∧ eqv v' u = true) ∨ (v = .sc (.pointer none) ∧ b = false) ∨ (∃ i o, v = .ref i o ∧ b = true ∧ eqv v u = true)) := by
  cases v with
  | opt b v' =>
    have h : (match eqv v' u with
      | true => (encs P ob ss vs).map fun r => RT.cons (a := .bool) b r
      | false => none) = some r := h
    cases e : eqv v' u with
    | true => rw [e] at h; obtain ⟨r', h1, h2⟩ := map_of h; exact ⟨b, r', h1, h2, .inl ⟨v', rfl, e⟩⟩
    | false => rw [e] at h; cases h
  | ref i o =>
    have h : (match eqv (.ref i o) u with
      | true => (encs P ob ss vs).map fun r => RT.cons (a := .bool) true r
      | false => none) = some r := h
    cases e : eqv (.ref i o) u with
    | true => rw [e] at h; obtain ⟨r', h1, h2⟩ := map_of h; exact ⟨true, r', h1, h2, .inr (.inr ⟨i, o, rfl, rfl, rfl⟩)⟩
    | false => rw [e] at h; cases h
  | sc x => cases x with
    | pointer p => cases p with
      | none => obtain ⟨r', h1, h2⟩ := map_of (f := fun r => RT.cons (a := .bool) false r) h; exact ⟨false, r', h1, h2, .inr (.inl ⟨rfl, rfl⟩)⟩
      | some _ => exact none_of h rfl
    | _ => exact none_of h rfl
  | _ => exact none_of h rfl
theorem encs_cst {u : SV} {r : RT (ltsOf (.cst u :: ss))} (h : encs P ob (.cst u :: ss) (v :: vs) = some r) : eqv v u = true ∧ encs P ob ss vs = some r := by
  have h : (match eqv v u with
    | true => encs P ob ss vs
    | false => none) = some r := h
  cases e : eqv v u with
  | true => rw [e] at h; exact ⟨rfl, h⟩
  | false => rw [e] at h; cases h
theorem encs_nil {r : RT (ltsOf [])} (h : encs P ob [] vs = some r) : vs = [] := by
  cases vs with
  | nil => rfl
  | cons _ _ => exact none_of h rfl
theorem encs_cons {s : Sh} {r : RT (ltsOf (s :: ss))} (h : encs P ob (s :: ss) vs = some r) : ∃ v vs', vs = v :: vs' := by
  cases vs with
  | nil => cases s <;> exact none_of h rfl
  | cons v vs' => exact ⟨v, vs', rfl⟩
theorem ObR.to {i j : Nat} {x : SOb} {k : Lk} (hx : ObR P w h i x) (hnb : ∀ t cs, x ≠ .box t cs) (hl : Fle w w') (hF : ∀ o, w'.F o → w.F o) (hi : w.s i = some k) (hj : w'.s j = some k) : ObR P w' h j x := by
  cases x with
  | box t cs => exact absurd rfl (hnb t cs)
  | gone => trivial
  | arr t rows lent =>
    obtain ⟨a1, a2, a3, a4⟩ := hx
    refine ⟨a1, a2, a3, ?_⟩
    rcases a4 with ⟨q1, q2⟩ | ⟨o, ver, mv, c, ex, sh, cap, q1, q2, q3, q4, q5, q6, q7, q8⟩
    · exact .inl ⟨by rw [hj, ← hi]; exact q1, q2⟩
    · exact .inr ⟨o, ver, mv, c, ex, sh, cap, by rw [hj, ← hi]; exact q1, q2, q3, q4, q5, q6.mono hl, q7, fun e f => q8 e (hF _ f)⟩
  | byt s t =>
    obtain ⟨a1, a4⟩ := hx
    refine ⟨a1, ?_⟩
    rcases a4 with ⟨q1, q2⟩ | ⟨o, ver, mv, ex, fz, cap, q0, q1, q2, q3, q4, q5, q7⟩
    · exact .inl ⟨by rw [hj, ← hi]; exact q1, q2⟩
    · exact .inr ⟨o, ver, mv, ex, fz, cap, q0, by rw [hj, ← hi]; exact q1, q2, q3, q4, q5, fun f => q7 (hF _ f)⟩
def Wd.next (w : Wd) (i : Nat) (k : Lk) : Wd := { g := w.g, F := w.F, s := fun j => if j = i then some k else w.s j }
theorem SimH.take (hs : SimH P w ob nx h) {x : SOb} {k : Lk} (hx : ObR P (w.next nx k) h nx x) (hfree : ∀ o, k.obj = some o → ¬ Ow w ob o ∧ o < h.next) :
    SimH P (w.next nx k) (ob.put nx x) (nx + 1) h ∧ (∀ j l, w.s j = some l → (w.next nx k).s j = some l) ∧ (w.next nx k).s nx = some k ∧ (∀ o, Ow (w.next nx k) (ob.put nx x) o → Ow w ob o ∨ k.obj = some o) := by
  have hsn : (w.next nx k).s nx = some k := by simp [Wd.next]
  have hd : ¬ live ob nx := by rintro ⟨y, e, _⟩; rw [(hs.nx nx (Nat.le_refl _)).2] at e; cases e
  obtain ⟨q1, q2⟩ := hs.adopt (w' := w.next nx k) (i := nx) (nx' := nx + 1) rfl rfl (fun j e => by simp only [Wd.next]; rw [if_neg e]) hsn (.inl (hs.nx nx (Nat.le_refl _)).1) hd hfree hx (by omega) (by omega)
  refine ⟨q1, q2, hsn, ?_⟩
  rintro o ⟨j, l, ⟨y, h1, h2⟩, h3, h4⟩
  by_cases e : j = nx
  · subst e; rw [hsn] at h3; cases h3; exact .inr h4
  · rw [Tr.get_put_other _ _ e] at h1
    simp only [Wd.next] at h3; rw [if_neg e] at h3
    exact .inl ⟨j, l, ⟨y, h1, h2⟩, h3, h4⟩
end
end Go.AI
end

/-
  What is decoded is what was encoded.
-/
section
namespace Go.AI
section
variable {P : Program} {h : AHeap} {L : List Nat} {w1 wc : Wd} {obC : Tr SOb}
def Os (w : Wd) (ob : Tr SOb) (o : Nat) : Prop := ∃ a k, live ob a ∧ w.s a = some k ∧ k.obj = some o ∧ ∀ n, k ≠ .box o n
def DecR (P : Program) (w1 : Wd) (obC : Tr SOb) (h : AHeap) (L : List Nat) (wc : Wd) (st : SSt) (p : List SV × SSt) (ys : List AV) : Prop :=
  ∃ wc', SimH P wc' p.2.ob p.2.nx h ∧ wc'.F = wc.F ∧ (∀ j k, wc.s j = some k → wc'.s j = some k) ∧ RVs P wc' (unrenVs L p.1) ys ∧ p.2.tm = st.tm ∧ p.2.al = st.al ∧ (∀ j, j < st.nx → p.2.ob.get j = st.ob.get j) ∧ st.nx ≤ p.2.nx ∧
    (∀ o, Ow wc' p.2.ob o → Ow wc st.ob o ∨ Os w1 obC o)
theorem DecR.cons {st : SSt} {p : List SV × SSt} {ys : List AV} {u : SV} {y : AV} (hg : wc.g = h.get) (hd : DecR P w1 obC h L wc st p ys) (hu : ∀ wc', Fle wc wc' → (∀ j k, wc.s j = some k → wc'.s j = some k) → RV P wc' (unrenV L u) y) :
    DecR P w1 obC h L wc st (u :: p.1, p.2) (y :: ys) := by
  obtain ⟨wc', q1, q2, q3, q4, q5⟩ := hd
  exact ⟨wc', q1, q2, q3, .cons (hu wc' (.imp (by rw [hg]; exact funext q1.g) fun o f => by rw [q2]; exact f) q3) q4, q5⟩
theorem DecR.obj {st : SSt} {p : List SV × SSt} {ys : List AV} {x : SOb} {k : Lk} {y : AV} (hs : SimH P wc st.ob st.nx h) (hx : ObR P (wc.next st.nx k) h st.nx x) (hfree : ∀ o, k.obj = some o → ¬ Ow wc st.ob o ∧ o < h.next) (how : ∀ o, k.obj = some o → Os w1 obC o)
    (hy : ∀ wc' : Wd, wc'.s st.nx = some k → RV P wc' (.own st.nx) y) (hd : DecR P w1 obC h L (wc.next st.nx k) { st with ob := st.ob.put st.nx x, nx := st.nx + 1 } p ys) : DecR P w1 obC h L wc st (.own st.nx :: p.1, p.2) (y :: ys) := by
  obtain ⟨t1, t2, t3, t4⟩ := hs.take hx hfree
  obtain ⟨wc', q1, q2, q3, q4, q5, q6, q7, q8, q9⟩ := hd
  refine ⟨wc', q1, q2, fun j l e => q3 j l (t2 j l e), .cons (hy wc' (q3 _ _ t3)) q4, q5, q6, fun j hj => ?_, by have : st.nx + 1 ≤ p.2.nx := q8; show st.nx ≤ p.2.nx; omega, fun o ho => ?_⟩
  · have := q7 j (by show j < st.nx + 1; omega)
    rw [this]; exact Tr.get_put_other _ _ (by omega)
  · rcases q9 o ho with e | e
    · rcases t4 o e with e | e
      · exact .inl e
      · exact .inr (how o e)
    · exact .inr e
theorem nodup_cons {x : Nat} {xs : List Nat} (h : nodup (x :: xs) = true) : x ∉ xs ∧ nodup xs = true := by
  simp only [nodup, Bool.and_eq_true, Bool.not_eq_true'] at h
  exact ⟨hasN_ok h.1, h.2⟩
theorem owns_mem {a : Nat} {vs : List SV} (h : SV.own a ∈ vs) : a ∈ vs.flatMap ownsV := List.mem_flatMap.2 ⟨_, h, by simp [ownsV]⟩
theorem nodup_tail {v : SV} {vs : List SV} (h : nodup ((v :: vs).flatMap ownsV) = true) : nodup (vs.flatMap ownsV) = true := by
  rw [List.flatMap_cons] at h
  cases v with
  | own a => exact (nodup_cons h).2
  | _ => exact h
theorem nodup_head {a : Nat} {vs : List SV} (h : nodup ((SV.own a :: vs).flatMap ownsV) = true) : SV.own a ∉ vs := by
  rw [List.flatMap_cons] at h
  exact fun e => (nodup_cons h).1 (owns_mem e)
theorem unren_id {v : SV} {L : List Nat} (h : v = .unk ∨ (∃ x, v = .sc x) ∨ (∃ t r, v = .dl t r) ∨ (∃ i, v = .own i)) : unrenV L v = v := by
  rcases h with rfl | ⟨_, rfl⟩ | ⟨_, _, rfl⟩ | ⟨_, rfl⟩ <;> rfl
theorem decs_ok {nxC : Nat} {F : Nat → Prop} {vsD : List SV} (hE : SimH P (w1.more F) (lend obC vsD) nxC h) (hl : LendR obC (lend obC vsD))
    (h3 : ∀ i, SV.own i ∈ vsD → ∀ t rows l x, obC.get i = some (.arr t rows l) → RV P w1 (.own i) x → Rd P (w1.more F) t rows x) :
    ∀ (shs : List Sh) {vs : List SV} {ys : List AV} {r : RT (ltsOf shs)} {st : SSt} {wc : Wd}, encs P obC shs vs = some r → RVs P w1 vs ys → (∀ v, v ∈ dlv shs vs → v ∈ vsD) → (∀ a, SV.own a ∈ vs → SV.own a ∈ vsD → SV.own a ∈ dlv shs vs) →
      nodup (vs.flatMap ownsV) = true → SimH P wc st.ob st.nx h → wc.F = (w1.more F).F → (∀ i j k, L[i]? = some j → w1.s i = some k → wc.s j = some k) →
      (∀ o, Ow wc st.ob o → ∀ a, SV.own a ∈ vs → live obC a → ∀ k, w1.s a = some k → k.obj ≠ some o) → DecR P w1 obC h L wc st (decs shs r st) ys := by
  intro shs
  induction shs with
  | nil =>
    intro vs ys r st wc he hv _ _ _ hs hF _ _
    have := encs_nil he
    subst this
    cases hv
    exact ⟨wc, hs, rfl, fun _ _ e => e, .nil, rfl, rfl, fun _ _ => rfl, Nat.le_refl _, fun _ e => .inl e⟩
  | cons s ss ih =>
    intro vs ys r st wc he hv hD1 hD2 hn hs hF hL hfr
    obtain ⟨v, vs', rfl⟩ := encs_cons he
    cases hv with
    | @cons _ y _ ys a b =>
    have hg : wc.g = h.get := funext hs.g
    have hFle : Fle (w1.more F) wc := .imp (by rw [hg]; exact (funext hE.g).symm) fun o f => by rw [hF]; exact f
    have hn' := nodup_tail hn
    have rest : ∀ {r' : RT (ltsOf ss)}, (dlv (s :: ss) (v :: vs') = dlv ss vs' ∨ dlv (s :: ss) (v :: vs') = v :: dlv ss vs') → encs P obC ss vs' = some r' → DecR P w1 obC h L wc st (decs ss r' st) ys := by
      intro r' hd he'
      refine ih he' b (fun u hu => hD1 u ?_) (fun a' ha' hd' => ?_) hn' hs hF hL fun o ho a' ha' => hfr o ho a' (List.mem_cons_of_mem _ ha')
      · rcases hd with e | e
        · rw [e]; exact hu
        · rw [e]; exact List.mem_cons_of_mem _ hu
      · have := hD2 a' (List.mem_cons_of_mem _ ha') hd'
        rcases hd with e | e
        · rw [e] at this; exact this
        · rw [e] at this
          rcases List.mem_cons.1 this with rfl | this
          · exact absurd ha' (nodup_head hn)
          · exact this
    have hLw : ∀ (wc' : Wd), (∀ j k, wc.s j = some k → wc'.s j = some k) → ∀ i j k, L[i]? = some j → w1.s i = some k → wc'.s j = some k := fun wc' e i j k h1 h2 => e _ _ (hL i j k h1 h2)
    have own : ∀ {a0 : Nat} {x x' : SOb} {r' : RT (ltsOf ss)}, v = .own a0 → dlv (s :: ss) (v :: vs') = dlv ss vs' → obC.get a0 = some x → x ≠ .gone → (∀ t cs, x ≠ .box t cs) → (∀ t cs, x' ≠ .box t cs) → (ObR P (w1.more F) h a0 x → ObR P (w1.more F) h a0 x') → encs P obC ss vs' = some r' →
        DecR P w1 obC h L wc st (.own st.nx :: (decs ss r' { st with ob := st.ob.put st.nx x', nx := st.nx + 1 }).1, (decs ss r' { st with ob := st.ob.put st.nx x', nx := st.nx + 1 }).2) (y :: ys) := by
      intro a0 x x' r' hva hd hx hxg hnb hnb' hxx he'
      subst hva
      have hlv : live obC a0 := ⟨x, hx, hxg⟩
      have hnD : SV.own a0 ∉ vsD := fun e => by
        have := hD2 a0 (List.mem_cons_self ..) e
        rw [hd] at this
        exact nodup_head hn (dlv_mem this)
      have hxE : (lend obC vsD).get a0 = some x := by rw [lend_other hnD]; exact hx
      have hob := hE.obr hxE
      obtain ⟨k, hk⟩ : ∃ k, w1.s a0 = some k := by
        cases a with
        | ownNil e => exact ⟨_, e⟩
        | ownSl e => exact ⟨_, e⟩
      have hlE : live (lend obC vsD) a0 := ⟨x, hxE, hxg⟩
      have hfree : ∀ o, k.obj = some o → ¬ Ow wc st.ob o ∧ o < h.next := fun o ho => ⟨fun how => hfr o how a0 (List.mem_cons_self ..) hlv k hk ho, hE.lt a0 k o hk ho⟩
      have hnx : (wc.next st.nx k).s st.nx = some k := by simp [Wd.next]
      have hobN : ObR P (wc.next st.nx k) h st.nx x' := (hxx hob).to hnb' (hFle.trans (.imp rfl fun _ f => f)) (fun o f => by have f' : wc.F o := f; rw [hF] at f'; exact f') hk hnx
      obtain ⟨t1, t2, t3, t4⟩ := hs.take hobN hfree
      refine DecR.obj hs hobN hfree (fun o ho => ⟨a0, k, hlv, hk, ho, fun n e => by cases a with
        | ownNil e2 => rw [hk] at e2; cases e2; cases e
        | ownSl e2 => rw [hk] at e2; cases e2; cases e⟩) (fun wc' e => ?_) (ih he' b (fun u hu => hD1 u (by rw [hd]; exact hu)) (fun a' ha' hd' => ?_) hn' t1 hF (hLw _ t2) ?_)
      · cases a with
        | ownNil e2 => rw [hk] at e2; cases e2; exact .ownNil e
        | ownSl e2 => rw [hk] at e2; cases e2; exact .ownSl e
      · have := hD2 a' (List.mem_cons_of_mem _ ha') hd'
        rw [hd] at this; exact this
      · intro o ho a' ha' hl' k' hk' hk2
        rcases t4 o ho with e | e
        · exact hfr o e a' (List.mem_cons_of_mem _ ha') hl' k' hk' hk2
        · have := hE.inj a0 a' k k' o hlE ((hl.live a').2 hl') hk hk' e hk2
          subst this
          exact nodup_head hn ha'
    have nil : ∀ {x' : SOb} {r' : RT (ltsOf ss)}, v = .sc (.slice none 0 0) → dlv (s :: ss) (v :: vs') = dlv ss vs' → ObR P (wc.next st.nx .nil) h st.nx x' → encs P obC ss vs' = some r' →
        DecR P w1 obC h L wc st (.own st.nx :: (decs ss r' { st with ob := st.ob.put st.nx x', nx := st.nx + 1 }).1, (decs ss r' { st with ob := st.ob.put st.nx x', nx := st.nx + 1 }).2) (y :: ys) := by
      intro x' r' hva hd hob he'
      subst hva
      obtain ⟨t1, t2, t3, t4⟩ := hs.take (k := .nil) hob (fun o e => by cases e)
      refine DecR.obj hs hob (fun o e => by cases e) (fun o e => by cases e) (fun wc' e => ?_) (ih he' b (fun u hu => hD1 u (by rw [hd]; exact hu)) (fun a' ha' hd' => ?_) hn' t1 hF (hLw _ t2) ?_)
      · cases a; exact .ownNil e
      · have := hD2 a' (List.mem_cons_of_mem _ ha') hd'
        rw [hd] at this; exact this
      · intro o ho a' ha' hl' k' hk' hk2
        rcases t4 o ho with e | e
        · exact hfr o e a' (List.mem_cons_of_mem _ ha') hl' k' hk' hk2
        · cases e
    cases s with
    | int k =>
      obtain ⟨n, r', rfl, he', rfl⟩ := encs_int he
      show DecR P w1 obC h L wc st (.sc (.int k (RT.head (RT.cons (a := .int) n r'))) :: (decs ss (RT.tail (RT.cons (a := .int) n r')) st).1, (decs ss (RT.tail (RT.cons (a := .int) n r')) st).2) _
      rw [RT.head_cons, RT.tail_cons]
      cases a
      exact (rest (.inl rfl) he').cons hg fun _ _ _ => .sc rfl
    | bool =>
      obtain ⟨n, r', rfl, he', rfl⟩ := encs_bool he
      show DecR P w1 obC h L wc st (.sc (.bool (RT.head (RT.cons (a := .bool) n r'))) :: (decs ss (RT.tail (RT.cons (a := .bool) n r')) st).1, (decs ss (RT.tail (RT.cons (a := .bool) n r')) st).2) _
      rw [RT.head_cons, RT.tail_cons]
      cases a
      exact (rest (.inl rfl) he').cons hg fun _ _ _ => .sc rfl
    | str =>
      obtain ⟨n, r', rfl, he', rfl⟩ := encs_str he
      show DecR P w1 obC h L wc st (.sc (.string (RT.head (RT.cons (a := .str) n r'))) :: (decs ss (RT.tail (RT.cons (a := .str) n r')) st).1, (decs ss (RT.tail (RT.cons (a := .str) n r')) st).2) _
      rw [RT.head_cons, RT.tail_cons]
      cases a
      exact (rest (.inl rfl) he').cons hg fun _ _ _ => .sc rfl
    | dl t =>
      obtain ⟨x, r', hx, he', rfl⟩ := encs_dl he
      show DecR P w1 obC h L wc st (.dl t (RT.head (RT.cons (a := .rows) x r')) :: (decs ss (RT.tail (RT.cons (a := .rows) x r')) st).1, (decs ss (RT.tail (RT.cons (a := .rows) x r')) st).2) _
      rw [RT.head_cons, RT.tail_cons]
      have hrd := asData_ok (hD1 v (List.mem_cons_self ..)) h3 hx a
      exact (rest (.inr rfl) he').cons hg fun wc' hle _ => .dl (hrd.mono (hFle.trans hle))
    | own t lent =>
      obtain ⟨x, r', hf, hgd, hby, hx, he', rfl⟩ := encs_own he
      show DecR P w1 obC h L wc st (.own st.nx :: (decs ss (RT.tail (RT.cons (a := .rows) x r')) { st with ob := st.ob.put st.nx (.arr t (RT.head (RT.cons (a := .rows) x r')) lent), nx := st.nx + 1 }).1, (decs ss (RT.tail (RT.cons (a := .rows) x r')) { st with ob := st.ob.put st.nx (.arr t (RT.head (RT.cons (a := .rows) x r')) lent), nx := st.nx + 1 }).2) _
      rw [RT.head_cons, RT.tail_cons]
      unfold asData at hx
      split at hx
      · cases hf
      · cases hx
        obtain ⟨g1, g2, _⟩ := good_of hgd
        exact nil rfl rfl ⟨g1, g2, hby, .inl ⟨by simp [Wd.next], rfl⟩⟩ he'
      · rename_i a0
        split at hx
        · rename_i t' rows l hb
          split at hx
          · rename_i e; subst e; cases hx
            refine own rfl rfl hb (by simp) (by simp) (by simp) (fun ho => ?_) he'
            obtain ⟨a1, a2, a3, a4⟩ := ho
            refine ⟨a1, a2, a3, ?_⟩
            rcases a4 with q | ⟨o, ver, mv, c, ex, sh, cap, q1, q2, q3, q4, q5, q6, q7, q8⟩
            · exact .inl q
            · refine .inr ⟨o, ver, mv, c, ex, sh, cap, q1, q2, q3, q4, q5, q6, fun _ => trivial, fun e => q8 ?_⟩
              have hf' : (lent || !l) = true := by
                simp only [freeOwn, hb] at hf; exact hf
              rw [e] at hf'
              simpa using hf'
          · cases hx
        · cases hx
      · cases hx
    | byt t =>
      obtain ⟨x, r', hby, hx, he', rfl⟩ := encs_byt he
      show DecR P w1 obC h L wc st (.own st.nx :: (decs ss (RT.tail (RT.cons (a := .str) x r')) { st with ob := st.ob.put st.nx (.byt (RT.head (RT.cons (a := .str) x r')) t), nx := st.nx + 1 }).1, (decs ss (RT.tail (RT.cons (a := .str) x r')) { st with ob := st.ob.put st.nx (.byt (RT.head (RT.cons (a := .str) x r')) t), nx := st.nx + 1 }).2) _
      rw [RT.head_cons, RT.tail_cons]
      unfold encB at hx
      split at hx
      · cases hx
        exact nil rfl rfl ⟨hby, .inl ⟨by simp [Wd.next], rfl⟩⟩ he'
      · rename_i a0
        split at hx
        · rename_i s' t' hb
          split at hx
          · rename_i e; subst e; cases hx
            exact own rfl rfl hb (by simp) (by simp) (by simp) (fun ho => ho) he'
          · cases hx
        · cases hx
      · cases hx
    | opt u =>
      obtain ⟨bb, r', he', rfl, hc⟩ := encs_opt he
      show DecR P w1 obC h L wc st (.opt (RT.head (RT.cons (a := .bool) bb r')) u :: (decs ss (RT.tail (RT.cons (a := .bool) bb r')) st).1, (decs ss (RT.tail (RT.cons (a := .bool) bb r')) st).2) _
      rw [RT.head_cons, RT.tail_cons]
      refine (rest (.inl rfl) he').cons hg fun wc' hle hls => ?_
      rcases hc with ⟨v', rfl, e⟩ | ⟨rfl, rfl⟩ | ⟨i, o, rfl, rfl, e⟩
      · cases a with
        | optT a1 a2 => exact .optT (eqv_ren e (hLw wc' hls) a1) a2
        | optF => exact .optF
      · cases a; exact .optF
      · have hna := a.na (by simp) (by simp)
        exact .optT (eqv_ren e (hLw wc' hls) a) hna
    | cst u =>
      obtain ⟨e, he'⟩ := encs_cst he
      show DecR P w1 obC h L wc st (u :: (decs ss r st).1, (decs ss r st).2) _
      exact (rest (.inl rfl) he').cons hg fun wc' hle hls => eqv_ren e (hLw wc' hls) a
    | unk =>
      show DecR P w1 obC h L wc st (.unk :: (decs ss r st).1, (decs ss r st).2) _
      exact (rest (.inl rfl) (show encs P obC ss vs' = some r from he)).cons hg fun _ _ _ => .unk _
end
end Go.AI
end

/-
  Boxes put back, results made up of their leaves.
-/
section
namespace Go.AI
section
variable {P : Program} {w w' w1 wc : Wd} {ob ob' obC : Tr SOb} {nx : Nat} {h h' : AHeap} {ρ : Type}
def absCells (ob : Tr SOb) (w : Wd) : List Nat → List AV
  | [] => []
  | i :: is => (match ob.get i with
    | some (.box _ _) => (match w.s i with
      | some (.box o _) => (match w.g o with
        | some (.cells _ _ c _ _ _ _) => c
        | _ => [])
      | _ => [])
    | _ => []) ++ absCells ob w is
theorem boxCells_ok (hs : SimH P w ob nx h) : ∀ (is : List Nat), RVs P w (boxCells ob is) (absCells ob w is)
  | [] => .nil
  | i :: is => by
    simp only [boxCells, absCells]
    cases hb : ob.get i with
    | none => simpa using boxCells_ok hs is
    | some x =>
      cases x with
      | box t cs =>
        obtain ⟨o, c, sh, b1, b2, b3, _⟩ := hs.box i t cs hb
        simp only [b1, hs.g, b2]
        exact b3.append (boxCells_ok hs is)
      | _ => simpa using boxCells_ok hs is
inductive Al (w1 wc : Wd) (obC : Tr SOb) : List Nat → List Nat → List SOb → Prop
  | nil : Al w1 wc obC [] [] []
  | box {i j o n : Nat} {t : TypeId} {cs cs' : List SV} {is js : List Nat} {os : List SOb} : obC.get j = some (.box t cs') → w1.s j = some (.box o n) → cs.length = n → wc.s i = some (.box o n) → Al w1 wc obC is js os → Al w1 wc obC (i :: is) (j :: js) (.box t cs :: os)
  | other {i j : Nat} {x : SOb} {is js : List Nat} {os : List SOb} : (∀ t cs, x ≠ .box t cs) → (∀ t cs, obC.get j ≠ some (.box t cs)) → Al w1 wc obC is js os → Al w1 wc obC (i :: is) (j :: js) (x :: os)
theorem backS_ok {nxC : Nat} {obE : Tr SOb} (hE : SimH P w1 obE nxC h) (hbE : ∀ i t cs, obE.get i = some (.box t cs) ↔ obC.get i = some (.box t cs)) (hF : wc.F = w1.F) : ∀ {is js : List Nat} {os : List SOb}, Al w1 wc obC is js os → ∀ {vs : List SV} {ob : Tr SOb},
    SimH P wc ob nx h → RVs P wc vs (absCells obC w1 js) → okCs vs = true → is.Nodup → js.Nodup → (∀ i, i ∈ is → ¬ live ob i ∧ i < nx) → (∀ j, j ∈ js → live obE j → ∀ n o, w1.s j = some (.box o n) → ¬ Ow wc ob o) →
      SimH P wc (backS is os vs ob) nx h ∧ (∀ j, j ∉ is → (backS is os vs ob).get j = ob.get j) ∧ (∀ (p : Nat) (i : Nat) (t : TypeId) (cs : List SV), is[p]? = some i → os[p]? = some (.box t cs) → ∃ cs', (backS is os vs ob).get i = some (.box t cs')) ∧
        (∀ o, Ow wc (backS is os vs ob) o → Ow wc ob o ∨ Ow w1 obE o) := by
  intro is js os hal
  induction hal with
  | nil => intro vs ob hs _ _ _ _ _ _; exact ⟨hs, fun _ _ => rfl, fun p i t cs e => by simp at e, fun _ e => .inl e⟩
  | @box i j o n t cs cs' is js os hb hk hn hwc hal ih =>
    intro vs ob hs hv hok hni hnj hd hfr
    obtain ⟨o', c, sh, b1, b2, b3, b4, b5⟩ := hE.box j t cs' ((hbE j t cs').2 hb)
    rw [hk] at b1
    simp only [Option.some.injEq, Lk.box.injEq] at b1
    obtain ⟨rfl, rfl⟩ := b1
    simp only [absCells, hb, hk, hE.g, b2] at hv
    have h1 : RVs P wc (vs.take cs.length) c := by have := hv.take c.length; rw [List.take_left] at this; rw [hn]; exact this
    have h2 : RVs P wc (vs.drop cs.length) (absCells obC w1 js) := by have := hv.drop c.length; rw [List.drop_left] at this; rw [hn]; exact this
    have okT : ∀ (l : List SV) (n : Nat), okCs l = true → okCs (l.take n) = true ∧ okCs (l.drop n) = true := by
      intro l
      induction l with
      | nil => intro n _; simp [okCs]
      | cons v l ih =>
        intro n e
        simp only [okCs, Bool.and_eq_true] at e
        cases n with
        | zero => simp [okCs, e.1, e.2]
        | succ n => simp only [List.take_succ_cons, List.drop_succ_cons, okCs, Bool.and_eq_true]; exact ⟨⟨e.1, (ih n e.2).1⟩, (ih n e.2).2⟩
    obtain ⟨k1, k2⟩ := okT vs cs.length hok
    have hlj : live obE j := ⟨_, (hbE j t cs').2 hb, by simp⟩
    obtain ⟨q1, _⟩ := hs.adopt (w' := wc) (i := i) (nx' := nx) (x := .box t (vs.take cs.length)) (k := .box o c.length) rfl rfl (fun _ _ => rfl) hwc (.inr hwc) (hd i (List.mem_cons_self ..)).1
      (fun o2 e => by cases e; exact ⟨hfr j (List.mem_cons_self ..) hlj _ _ hk, hE.lt j _ _ hk rfl⟩) ⟨o, c, sh, hwc, b2, h1, k1, by rw [hF]; exact b5⟩ (hd i (List.mem_cons_self ..)).2 (Nat.le_refl _)
    rw [List.nodup_cons] at hni hnj
    have how : ∀ o2, Ow wc (ob.put i (.box t (vs.take cs.length))) o2 → Ow wc ob o2 ∨ o2 = o := by
      rintro o2 ⟨a, k, ⟨y, e1, e2⟩, e3, e4⟩
      by_cases e : a = i
      · subst e; rw [hwc] at e3; cases e3; cases e4; exact .inr rfl
      · rw [Tr.get_put_other _ _ e] at e1; exact .inl ⟨a, k, ⟨y, e1, e2⟩, e3, e4⟩
    obtain ⟨r1, r2, r3, r4⟩ := ih (vs := vs.drop cs.length) q1 h2 k2 hni.2 hnj.2 (fun a ha => ⟨fun ⟨y, e1, e2⟩ => by
        have : a ≠ i := by rintro rfl; exact hni.1 ha
        rw [Tr.get_put_other _ _ this] at e1
        exact (hd a (List.mem_cons_of_mem _ ha)).1 ⟨y, e1, e2⟩, (hd a (List.mem_cons_of_mem _ ha)).2⟩)
      (fun a ha hla k o2 e1 e3 => by
        rcases how o2 e3 with e | e
        · exact hfr a (List.mem_cons_of_mem _ ha) hla k o2 e1 e
        · subst e
          have := hE.inj a j _ _ _ hla hlj e1 hk rfl rfl
          subst this; exact hnj.1 ha)
    refine ⟨r1, fun a ha => ?_, fun p a t2 cs2 e1 e2 => ?_, fun o2 e => ?_⟩
    · simp only [List.mem_cons, not_or] at ha
      show (backS is os (vs.drop cs.length) (ob.put i (.box t (vs.take cs.length)))).get a = _
      rw [r2 a ha.2, Tr.get_put_other _ _ ha.1]
    · cases p with
      | zero =>
        simp only [List.getElem?_cons_zero, Option.some.injEq] at e1 e2
        subst e1; cases e2
        refine ⟨vs.take cs.length, ?_⟩
        show (backS is os (vs.drop cs.length) (ob.put i (.box t (vs.take cs.length)))).get i = _
        rw [r2 i hni.1, Tr.get_put_same]
      | succ p => exact r3 p a t2 cs2 (by simpa using e1) (by simpa using e2)
    · rcases r4 o2 e with e | e
      · rcases how o2 e with e | e
        · exact .inl e
        · subst e; exact .inr ⟨j, _, hlj, hk, rfl⟩
      · exact .inr e
  | @other i j x is js os hx hb hal ih =>
    intro vs ob hs hv hok hni hnj hd hfr
    rw [List.nodup_cons] at hni hnj
    have hv' : RVs P wc vs (absCells obC w1 js) := by
      simp only [absCells] at hv
      cases hz : obC.get j with
      | none => simpa [hz] using hv
      | some z => cases z with
        | box t cs => exact absurd hz (hb t cs)
        | _ => simpa [hz] using hv
    have e0 : backS (i :: is) (x :: os) vs ob = backS is os vs ob := by
      cases x with
      | box t cs => exact absurd rfl (hx t cs)
      | _ => rfl
    rw [e0]
    obtain ⟨r1, r2, r3, r4⟩ := ih hs hv' hok hni.2 hnj.2 (fun a ha => hd a (List.mem_cons_of_mem _ ha)) (fun a ha => hfr a (List.mem_cons_of_mem _ ha))
    refine ⟨r1, fun a ha => r2 a fun e => ha (List.mem_cons_of_mem _ e), fun p a t cs e1 e2 => ?_, r4⟩
    cases p with
    | zero => simp only [List.getElem?_cons_zero, Option.some.injEq] at e2; exact absurd e2 (hx t cs)
    | succ p => exact r3 p a t cs (by simpa using e1) (by simpa using e2)
theorem shLeafs_len (m : Nat) : ∀ (ls : List Lf), (shLeafs P m ls).length = ls.length
  | [] => rfl
  | l :: ls => by cases l <;> simp [shLeafs, shLeafs_len m ls]
theorem res_ok (m : Nat) : ∀ {ts : List TypeId} {vs : List SV} {ys : List AV}, okRes P ts vs = true → RVs P w vs ys → ∃ zs, RVs P w (resLeafs P ts vs) zs ∧ zs.length = (shRes P m ts).length ∧ ∀ (wc : Wd) (us : List SV), RVs P wc us zs → RVs P wc (resVals P ts us) ys
  | [], [], _, _, .nil => ⟨[], .nil, rfl, fun _ _ _ => .nil⟩
  | t :: ts, v :: vs, _, h, .cons (x := y) (xs := ys') a b => by
    simp only [okRes, Bool.and_eq_true] at h
    obtain ⟨zs, q1, q2, q3⟩ := res_ok m h.2 b
    have one : isAggT P t ≠ some true → (lay P t).length = 1 → ∃ zs, RVs P w (resLeafs P (t :: ts) (v :: vs)) zs ∧ zs.length = (shRes P m (t :: ts)).length ∧ ∀ (wc : Wd) (us : List SV), RVs P wc us zs → RVs P wc (resVals P (t :: ts) us) (y :: ys') := by
      intro hn h1
      refine ⟨y :: zs, ?_, by simp only [shRes, List.length_append, shLeafs_len, List.length_cons, q2, h1]; omega, fun wc us hu => ?_⟩
      · simp only [resLeafs]
        exact .cons a q1
      · cases hu with
        | cons u1 u2 =>
          simp only [resVals, h1]
          exact .cons u1 (q3 wc _ u2)
    have h1 := h.1
    split at h1
    · rename_i cs hi
      have hl := Nat.eq_of_beq_eq_true h1
      cases a with
      | agg ha =>
        rename_i xs
        refine ⟨xs ++ zs, ?_, by simp only [shRes, List.length_append, shLeafs_len, q2, ← ha.length, hl], fun wc us hu => ?_⟩
        · simp only [resLeafs, hi, cellsS]; exact ha.append q1
        · simp only [resVals, hi]
          have hl2 : (lay P t).length = xs.length := by rw [← hl, ha.length]
          refine .cons (.agg ?_) (q3 wc _ ?_)
          · have := hu.take xs.length; rw [List.take_left] at this; rw [hl2]; exact this
          · have := hu.drop xs.length; rw [List.drop_left] at this; rw [hl2]; exact this
    · cases h1
    · cases h1
    · rename_i hna hna2
      exact one hna (Nat.eq_of_beq_eq_true h1)
  | [], _ :: _, _, h, _ => by simp [okRes] at h
  | _ :: _, [], _, h, _ => by simp [okRes] at h
end
end Go.AI
end

/-
  Calls.
-/
section
namespace Go.AI
variable [Kn]
structure KnOK (P : Program) (A : Ann) : Prop where
  none : ∀ f, A.kn f = .none → ∀ xs h, Kn.K f xs h = .none
  some : ∀ f g, A.kn f = .some g → ∀ (w : Wd) (h : AHeap) (xs : List AV) (vals : List SV) (v : SV), (∀ o, w.g o = h.get o) → RVs P w vals xs → g vals = .some (true, v) → ∃ y, Kn.K f xs h = .some y ∧ RV P w v y
def CallSOK (P : Program) (A : Ann) (Rs : SRec) : Prop := KnOK P A ∧ ∀ f args obs shs r, Rs.call f args obs shs = some r → ∀ (w : Wd) (h : AHeap) (xs : List AV), SimH P w (putList obs 0 .leaf) obs.length h → RVs P w args xs →
  ∃ m fn y h', P.funcs[f]? = some fn ∧ (rec2 P m).call .normal f xs .none h = some (.ret y, .none, h.outer h') ∧ Post P w (putList obs 0 .leaf) obs.length h.inner fn.resultTypes.toList shs r y h'
section
variable {P : Program} {w w' w1 wc : Wd} {ob ob' obC : Tr SOb} {nx : Nat} {h h' : AHeap} {ρ : Type}
theorem ask_ok {α : Type} {x : Option α} {k : α → Option ρ} {r : ρ} (h : ask x k = some r) : ∃ a, x = some a ∧ k a = some r := by
  unfold ask at h
  split at h
  · exact ⟨_, rfl, h⟩
  · cases h
theorem SimH.heap_eq {h2 : AHeap} (hs : SimH P w ob nx h) (hg : ∀ o, h2.get o = h.get o) (hn : h2.next = h.next) : SimH P w ob nx h2 := by
  have hgf : h2.get = h.get := funext hg
  refine ⟨fun o => by rw [hg]; exact hs.g o, ?_, ?_, ?_, hs.inj, by rw [hn]; exact hs.lt, hs.nx, by rw [hn, hgf]; exact hs.frz, by rw [hn, hgf]; exact hs.new⟩
  · rw [hgf]; exact hs.box
  · rw [hgf]; exact hs.arr
  · rw [hgf]; exact hs.byt
theorem noGone_ok : ∀ {os : List SOb}, noGone os = true → ∀ (p : Nat), os[p]? ≠ some .gone
  | [], _, p => by simp
  | x :: os, h, 0 => by
    intro e; simp at e; subst e; cases h
  | x :: os, h, p + 1 => by
    have h' : noGone os = true := by
      cases x with
      | gone => cases h
      | _ => exact h
    simpa using noGone_ok h' p
theorem nodup_of : ∀ {L : List Nat}, nodup L = true → L.Nodup
  | [], _ => List.nodup_nil
  | x :: xs, h => by obtain ⟨a, b⟩ := nodup_cons h; exact List.nodup_cons.2 ⟨a, nodup_of b⟩
theorem upto_len : ∀ n, (upto n).length = n
  | 0 => rfl
  | n + 1 => by simp [upto, upto_len n]
theorem upto_get : ∀ {n p : Nat}, p < n → (upto n)[p]? = some p
  | 0, p, h => by omega
  | n + 1, p, h => by
    simp only [upto]
    by_cases e : p < n
    · rw [List.getElem?_append_left (by rw [upto_len]; exact e)]; exact upto_get e
    · have : p = n := by omega
      subst this
      rw [List.getElem?_append_right (by rw [upto_len]; omega), upto_len]; simp
theorem upto_mem : ∀ {n p : Nat}, p ∈ upto n → p < n
  | 0, p, h => by simp [upto] at h
  | n + 1, p, h => by
    simp only [upto, List.mem_append, List.mem_singleton] at h
    rcases h with h | h
    · have := upto_mem h; omega
    · omega
theorem upto_nodup : ∀ n, (upto n).Nodup
  | 0 => List.nodup_nil
  | n + 1 => by
    simp only [upto]
    rw [List.nodup_append]
    refine ⟨upto_nodup n, by simp, ?_⟩
    intro a ha b hb
    simp at hb; subst hb
    have := upto_mem ha; omega
theorem absCells_more (ob : Tr SOb) (w : Wd) (F : Nat → Prop) : ∀ is, absCells ob (w.more F) is = absCells ob w is
  | [] => rfl
  | i :: is => by
    have := absCells_more ob w F is
    unfold absCells
    rw [this]; rfl
theorem unrenVs_map (L : List Nat) : ∀ vs, unrenVs L vs = vs.map (unrenV L)
  | [] => rfl
  | v :: vs => by simp [unrenVs, unrenVs_map L vs]
theorem Al.of_get : ∀ {is js : List Nat} {os : List SOb}, is.length = js.length → is.length = os.length → (∀ (p i j : Nat) (x : SOb), is[p]? = some i → js[p]? = some j → os[p]? = some x →
      (∀ t cs, x = .box t cs → ∃ cs' o n, obC.get j = some (.box t cs') ∧ w1.s j = some (.box o n) ∧ cs.length = n ∧ wc.s i = some (.box o n)) ∧ ((∀ t cs, x ≠ .box t cs) → ∀ t cs, obC.get j ≠ some (.box t cs))) → Al w1 wc obC is js os
  | [], [], [], _, _, _ => .nil
  | i :: is, j :: js, x :: os, h1, h2, hf => by
    have ih := Al.of_get (is := is) (js := js) (os := os) (by simpa using h1) (by simpa using h2) fun p i j x a b c => hf (p + 1) i j x (by simpa using a) (by simpa using b) (by simpa using c)
    obtain ⟨a, b⟩ := hf 0 i j x rfl rfl rfl
    cases x with
    | box t cs => obtain ⟨cs', o, n, q1, q2, q3, q4⟩ := a t cs rfl; exact .box q1 q2 q3 q4 ih
    | _ => exact .other (by simp) (b (by simp)) ih
  | [], _ :: _, _, h, _, _ => by simp at h
  | _ :: _, [], _, h, _, _ => by simp at h
  | [], [], _ :: _, _, h, _ => by simp at h
  | _ :: _, _ :: _, [], _, h, _ => by simp at h
theorem mem_addWrs {fl o : Nat} : ∀ {os l : List Nat}, o ∈ addWrs l fl os → o ∈ l ∨ o ∈ os
  | [], l, h => .inl h
  | p :: os, l, h => by
    rcases mem_addWrs (os := os) (l := addWr l fl p) h with e | e
    · rcases mem_addWr' e with e | rfl
      · exact .inl e
      · exact .inr (List.mem_cons_self ..)
    · exact .inr (List.mem_cons_of_mem _ e)
theorem lt_addWrs {fl : Nat} : ∀ {os l : List Nat}, (∀ p, p ∈ l → p < fl) → ∀ p, p ∈ addWrs l fl os → p < fl
  | [], l, h => h
  | o :: os, l, h => lt_addWrs (os := os) (lt_addWr h)
theorem frzA_ok {F : Nat → Prop} {us : List SV} (h3 : ∀ i, SV.own i ∈ us → ∀ t rows l x, ob.get i = some (.arr t rows l) → RV P w (.own i) x → Rd P (w.more F) t rows x) {v : SV} {x : AV} (hv : ∀ c, c ∈ cellsS v → c ∈ us) (hx : RV P w v x) : RV P (w.more F) (frzA ob v) x := by
  cases v with
  | agg cs =>
    cases hx with
    | agg a =>
      refine .agg ?_
      have : ∀ {cs : List SV} {xs : List AV}, (∀ c, c ∈ cs → c ∈ us) → RVs P w cs xs → RVs P (w.more F) (cs.map (frz ob)) xs := by
        intro cs
        induction cs with
        | nil => intro xs _ hb; cases hb; exact .nil
        | cons c cs ih => intro xs hm hb; cases hb with
          | cons b1 b2 => exact .cons (frz_ok h3 (hm c (by simp)) b1) (ih (fun d hd => hm d (by simp [hd])) b2)
      exact this hv a
  | _ => exact frz_ok h3 (hv _ (by simp [cellsS])) hx
theorem frzAs_ok {F : Nat → Prop} {us : List SV} (h3 : ∀ i, SV.own i ∈ us → ∀ t rows l x, ob.get i = some (.arr t rows l) → RV P w (.own i) x → Rd P (w.more F) t rows x) : ∀ {vs : List SV} {xs : List AV}, (∀ c, c ∈ vs.flatMap cellsS → c ∈ us) → RVs P w vs xs → RVs P (w.more F) (vs.map (frzA ob)) xs
  | [], _, _, .nil => .nil
  | v :: vs, _, hm, .cons a b => .cons (frzA_ok h3 (fun c hc => hm c (by simp [hc])) a) (frzAs_ok h3 (fun c hc => hm c (by
      rw [List.flatMap_cons]; exact List.mem_append_right _ hc)) b)
theorem away_no (hs : SimH P w ob nx h) {L : List Nat} {wx : Wd} (hsx : wx.s = w.s) {o : Nat} (ho : Ow wx (goneAll ob L) o) : ¬ Ow (w.sub L) (putList (obsOf ob L L) 0 .leaf) o ∧ o < h.next ∧ Ow w ob o := by
  obtain ⟨j, k, ⟨y, h1, h2⟩, h3, h4⟩ := ho
  rw [hsx] at h3
  rw [goneAll_get] at h1
  split at h1
  · cases h1; exact absurd rfl h2
  · rename_i hj
    refine ⟨fun how => ?_, hs.lt j k o h3 h4, ⟨j, k, ⟨y, h1, h2⟩, h3, h4⟩⟩
    obtain ⟨a, i, k', e1, e2, e3, e4⟩ := Ow.sub how
    have := hs.inj i j k' k o e2 ⟨y, h1, h2⟩ e3 h3 e4 h4
    subst this
    exact hj (List.mem_of_getElem? e1)
theorem Ow.of_sub {L : List Nat} {o : Nat} (h : Ow (w.sub L) (putList (obsOf ob L L) 0 .leaf) o) : Ow w ob o := by
  obtain ⟨_, i, k, _, e2, e3, e4⟩ := Ow.sub h
  exact ⟨i, k, e2, e3, e4⟩
variable {A : Ann} {R : SRec}
theorem canon_L {A : Ann} {st st2 : SSt} {vals vals' : List SV} {L : List Nat} {obs : List SOb} (hc : canonS P A st vals [] = some (vals', obs, L, st2)) (he : idsVs vals = []) : L = [] := by
  unfold canonS at hc
  simp only at hc
  split at hc
  · simp only [Option.some.injEq, Prod.mk.injEq] at hc
    rw [← hc.2.2.1, he]; rfl
  · cases hc
theorem callS_ok (hR : CallSOK P A R) {st : SSt} (hs : SimH P w st.ob st.nx h) {f : FuncId} {args : List SV} {xs : List AV} (hx : RVs P w args xs) {k : SV → SSt → Option ρ} {r : ρ} (hr : callS P A R st f args k = some r) :
    ∃ m w' st' h' v y, SimH P w' st'.ob st'.nx h' ∧ Frm w st.ob h w' st'.ob h' ∧ st'.tm = st.tm ∧ st'.al = st.al ∧ k v st' = some r ∧ (rec2 P m).call .normal f xs .none h = some (.ret y, .none, h') ∧ RV P w' v y ∧ (idsVs (args.map (frzA st.ob)) = [] → ∀ p, p ∈ h'.wr → p ∈ h.wr ∨ h.next ≤ p) := by
  unfold callS at hr
  split at hr
  · cases hr
  rename_i fn hfn
  split at hr
  · rename_i g hg
    split at hr
    case h_2 => cases hr
    rename_i b v hv
    rcases sIte_ok hr with ⟨rfl, hr⟩ | ⟨_, hr⟩
    case inr => cases hr
    obtain ⟨F0, p1, p3⟩ := lend_ready hs (args.flatMap cellsS)
    have hx1 := frzAs_ok p3 (fun c hc => hc) hx
    obtain ⟨y, y1, y2⟩ := hR.1.some f g hg _ h xs _ v p1.1.g hx1 hv
    refine ⟨1, _, { st with ob := lend st.ob (args.flatMap cellsS) }, h, v, y, p1.1, p1.2.1, rfl, rfl, hr, ?_, y2, fun _ p e => .inl e⟩
    show stepCall3 P _ .normal f xs .none h = _
    unfold stepCall3
    rw [y1]
  rename_i hkn0
  split at hr
  · cases hr
  rename_i vals obs L st2 hc
  split at hr
  · cases hr
  rename_i hkn
  simp only [Bool.and_eq_true] at hkn
  have hL0 := canon_L hc
  obtain ⟨r0, hr0, hr⟩ := ask_ok hr
  simp only at hr
  split at hr
  · cases hr
  rename_i hoc
  obtain ⟨F0, p1, p3⟩ := lend_ready hs (args.flatMap cellsS)
  have hx1 := frzAs_ok p3 (fun c hc => hc) hx
  obtain ⟨w2, c1, c2, c3, c4, c5, c6, rfl, c8⟩ := canon_ok (st := { st with ob := lend st.ob (args.flatMap cellsS) }) p1.1 hx1 hc
  obtain ⟨m, fn', y, h', e1, e2, w1, ob', nx', vs, ys, hC, hf, hv, rfl, hnd, hok, henc⟩ := hR.2 _ _ _ _ _ hr0 (w2.sub L) h xs c5 c6
  rw [hfn] at e1; cases e1
  have hnb : (obsOf st2.ob L L).length = L.length := obsOf_len ..
  obtain ⟨F, hE, hl, hFo, h3⟩ := lend_ok hC (dlv (shRes P (A.own f) fn.resultTypes.toList ++ shBoxes (obsOf st2.ob L L) (obsOf st2.ob L L)) (resLeafs P fn.resultTypes.toList vs ++ boxCells ob' (upto (obsOf st2.ob L L).length)))
  obtain ⟨zs, z1, z2, z3⟩ := res_ok (A.own f) hok hv
  have hLl : ∀ (p i : Nat), L[p]? = some i → ∃ z, st2.ob.get i = some z ∧ z ≠ .gone ∧ i < st2.nx ∧ (obsOf st2.ob L L)[p]? = some (obOf st2.ob L i) := by
    intro p i e
    have e3 : (obsOf st2.ob L L)[p]? = some (obOf st2.ob L i) := by rw [obsOf_get, e]; rfl
    have hng := noGone_ok hkn.2 p
    rw [e3] at hng
    cases hz : st2.ob.get i with
    | none => unfold obOf at hng; rw [hz] at hng; exact absurd rfl hng
    | some z =>
      refine ⟨z, rfl, ?_, c1.lt_nx hz, e3⟩
      rintro rfl
      unfold obOf at hng; rw [hz] at hng; exact absurd rfl hng
  have hsk : ∀ (p i : Nat) (z : SOb), L[p]? = some i → st2.ob.get i = some z → z ≠ .gone → ∃ k0, w2.s i = some k0 := by
    intro p i z _ hz hg
    cases z with
    | box t cs => obtain ⟨o, c, sh, b1, _⟩ := c1.box i t cs hz; exact ⟨_, b1⟩
    | arr t rows l =>
      obtain ⟨_, _, _, a4⟩ := c1.arr i t rows l hz
      rcases a4 with ⟨q, _⟩ | ⟨o, ver, mv, c, ex, sh, cap, q, _⟩ <;> exact ⟨_, q⟩
    | byt s t =>
      obtain ⟨_, a4⟩ := c1.byt i s t hz
      rcases a4 with ⟨q, _⟩ | ⟨o, ver, mv, ex, fz, cap, _, q, _⟩ <;> exact ⟨_, q⟩
    | gone => exact absurd rfl hg
  have hss : ∀ (p i : Nat), L[p]? = some i → ∃ k0, w2.s i = some k0 ∧ w1.s p = some k0 := by
    intro p i e
    obtain ⟨z, z1, z2, _, _⟩ := hLl p i e
    obtain ⟨k0, hk0⟩ := hsk p i z e z1 z2
    have hp : p < (obsOf st2.ob L L).length := by
      rw [hnb]
      rcases Nat.lt_or_ge p L.length with a | a
      · exact a
      · rw [List.getElem?_eq_none a] at e; cases e
    exact ⟨k0, hk0, hf.s p k0 hp (by simp only [Wd.sub, e, Option.bind_some]; exact hk0)⟩
  have hnext : h.next ≤ h'.next := hf.next
  have hle : Fle w2 (w1.more F) := ((Fle.sub w2 L).trans hf.le).trans (.more _ _)
  have hOw1 : ∀ o, Ow w1 ob' o → h.next ≤ o ∨ Ow (w2.sub L) (putList (obsOf st2.ob L L) 0 .leaf) o := hf.own
  have hFE : ∀ o, (w1.more F).F o → w2.F o ∨ h.next ≤ o ∨ Ow (w2.sub L) (putList (obsOf st2.ob L L) 0 .leaf) o := by
    rintro o (f | f)
    · exact hf.F o f
    · exact .inr (hOw1 o (hFo o f))
  have hA := away_ok c1 hE hnext hf.keep hle hFE fun j hj => by
    obtain ⟨p, hp⟩ := List.getElem?_of_mem hj
    obtain ⟨_, _, _, q, _⟩ := hLl p j hp; exact q
  have hD := decs_ok (L := L) (st := { st2 with ob := goneAll st2.ob L }) hE hl h3 _ henc (z1.append (boxCells_ok hC _)) (fun _ e => e) (fun _ _ e => e) hnd hA rfl
    (fun i j k e1 e2 => by
      obtain ⟨k0, q1, q2⟩ := hss i j e1
      rw [q2] at e2; cases e2; exact q1)
    (fun o ho a _ hla k hk hko => by
      obtain ⟨n1, n2, _⟩ := away_no c1 rfl ho
      rcases hOw1 o ⟨a, k, hla, hk, hko⟩ with e | e
      · omega
      · exact n1 e)
  obtain ⟨wc', d1, d2, d3, d4, d5, d6, d7, d8, d9⟩ := hD
  have hnn : (shRes P (A.own f) fn.resultTypes.toList).length = zs.length := z2.symm
  have hus : RVs P wc' ((unrenVs L (decs (shRes P (A.own f) fn.resultTypes.toList ++ shBoxes (obsOf st2.ob L L) (obsOf st2.ob L L)) r0 { st2 with ob := goneAll st2.ob L }).1).take zs.length) zs := by
    have := d4.take zs.length; rw [List.take_left] at this; exact this
  have hub : RVs P wc' ((unrenVs L (decs (shRes P (A.own f) fn.resultTypes.toList ++ shBoxes (obsOf st2.ob L L) (obsOf st2.ob L L)) r0 { st2 with ob := goneAll st2.ob L }).1).drop zs.length) (absCells ob' (w1.more F) (upto (obsOf st2.ob L L).length)) := by
    have := d4.drop zs.length; rw [List.drop_left] at this; rw [absCells_more]; exact this
  rw [hnn] at hr hoc
  have hal : Al (w1.more F) wc' ob' L (upto (obsOf st2.ob L L).length) (obsOf st2.ob L L) := by
    refine Al.of_get (by rw [upto_len, hnb]) hnb.symm fun p i j x e1 e2 e3 => ?_
    obtain ⟨z, y1, y2, y3, y4⟩ := hLl p i e1
    obtain ⟨k0, k1, k2⟩ := hss p i e1
    have hp : p < (obsOf st2.ob L L).length := by
      rcases Nat.lt_or_ge p (obsOf st2.ob L L).length with a | a
      · exact a
      · rw [List.getElem?_eq_none (by rw [upto_len]; exact a)] at e2; cases e2
    rw [upto_get hp] at e2; cases e2
    have hgp : (putList (obsOf st2.ob L L) 0 .leaf).get p = some x := by rw [putList0]; exact e3
    have hsub : (w2.sub L).s p = some k0 := by simp only [Wd.sub, e1, Option.bind_some]; exact k1
    refine ⟨fun t cs ex => ?_, fun hx t cs hbx => ?_⟩
    · subst ex
      obtain ⟨o, c, sh, b1, _, b3, _⟩ := c5.box p t cs hgp
      rw [hsub] at b1; cases b1
      obtain ⟨cs', q⟩ := hf.bx p t cs hp hgp
      exact ⟨cs', o, c.length, q, k2, b3.length, d3 i _ k1⟩
    · obtain ⟨o, c, sh, b1, _⟩ := hC.box p t cs hbx
      rw [k2] at b1; cases b1
      cases x with
      | box t' cs' => exact hx t' cs' rfl
      | arr t' rows l =>
        obtain ⟨_, _, _, a4⟩ := c5.arr p t' rows l hgp
        rw [hsub] at a4
        rcases a4 with ⟨q, _⟩ | ⟨_, _, _, _, _, _, _, q, _⟩ <;> cases q
      | byt s t' =>
        obtain ⟨_, a4⟩ := c5.byt p s t' hgp
        rw [hsub] at a4
        rcases a4 with ⟨q, _⟩ | ⟨_, _, _, _, _, _, _, q, _⟩ <;> cases q
      | gone => exact noGone_ok hkn.2 p e3
  have hLd : ∀ (i : Nat), i ∈ L → ∃ p : Nat, L[p]? = some i := fun i hi => List.getElem?_of_mem hi
  obtain ⟨r1, r2, r3, r4⟩ := backS_ok (nx := (decs (shRes P (A.own f) fn.resultTypes.toList ++ shBoxes (obsOf st2.ob L L) (obsOf st2.ob L L)) r0 { st2 with ob := goneAll st2.ob L }).2.nx) hE hl.box d2 hal d1 hub hoc (nodup_of c8) (upto_nodup _)
    (fun i hi => by
      obtain ⟨p, hp⟩ := hLd i hi
      obtain ⟨_, _, _, q, _⟩ := hLl p i hp
      have hq : i < st2.nx := q
      refine ⟨fun ⟨y, e1, e2⟩ => ?_, Nat.lt_of_lt_of_le hq d8⟩
      rw [d7 i hq] at e1
      have e1 : (goneAll st2.ob L).get i = some y := e1
      rw [goneAll_get, if_pos hi] at e1
      cases e1; exact e2 rfl)
    (fun j hj hlj n o hk how => by
      have hlj' : live ob' j := (hl.live j).1 hlj
      rcases d9 o how with e | ⟨a, k, a1, a2, a3, a4⟩
      · obtain ⟨n1, n2, _⟩ := away_no c1 rfl e
        rcases hOw1 o ⟨j, _, hlj', hk, rfl⟩ with e | e
        · omega
        · exact n1 e
      · have := hC.inj a j k _ o a1 hlj' a2 hk a3 rfl
        subst this
        have hk' : w1.s a = some (.box o n) := hk
        rw [a2] at hk'; cases hk'; exact a4 n rfl)
  have hOsub : ∀ o, Ow w1 ob' o → h.next ≤ o ∨ Ow w2 st2.ob o := fun o e => (hOw1 o e).imp (fun e => e) Ow.of_sub
  have hfin : Frm w2 st2.ob h wc' (backS L (obsOf st2.ob L L) ((unrenVs L (decs (shRes P (A.own f) fn.resultTypes.toList ++ shBoxes (obsOf st2.ob L L) (obsOf st2.ob L L)) r0 { st2 with ob := goneAll st2.ob L }).1).drop zs.length) (decs (shRes P (A.own f) fn.resultTypes.toList ++ shBoxes (obsOf st2.ob L L) (obsOf st2.ob L L)) r0 { st2 with ob := goneAll st2.ob L }).2.ob) (h.outer h') := by
    refine ⟨hle.trans (.imp (by rw [funext hE.g, funext d1.g]) fun o f => by rw [d2]; exact f), d3, hnext, rfl, fun o h1 h2 => hf.keep o h1 fun e => h2 e.of_sub, fun o e => ?_, fun o f => ?_, fun o e => ?_, fun e => lt_addWrs e, fun i t cs e => ?_⟩
    · rcases r4 o e with e | ⟨a, k, a1, a2, a3⟩
      · rcases d9 o e with e | ⟨a, k, a1, a2, a3, _⟩
        · exact .inr (away_no c1 rfl e).2.2
        · exact hOsub o ⟨a, k, a1, a2, a3⟩
      · exact hOsub o ⟨a, k, (hl.live a).1 a1, a2, a3⟩
    · rw [d2] at f
      rcases hFE o f with e | e | e
      · exact .inl e
      · exact .inr (.inl e)
      · exact .inr (.inr e.of_sub)
    · rcases mem_addWrs e with e | e
      · exact .inl e
      · rcases hf.wr o e with e | e | e
        · cases e
        · exact .inr (.inl e)
        · exact .inr (.inr e.of_sub)
    · by_cases hi : i ∈ L
      · obtain ⟨p, hp⟩ := hLd i hi
        obtain ⟨_, _, _, _, q⟩ := hLl p i hp
        have : obOf st2.ob L i = .box t (renVs L cs) := by unfold obOf; rw [e]
        rw [this] at q
        exact r3 p i t _ hp q
      · refine ⟨cs, ?_⟩
        rw [r2 i hi, d7 i (c1.lt_nx e)]
        show (goneAll st2.ob L).get i = _
        rw [goneAll_get, if_neg hi]; exact e
  have hres := z3 wc' _ hus
  refine ⟨m, wc', { tm := _, ob := _, nx := _, al := _ }, h.outer h', _, _, ?_, ?_, ?_, ?_, hr, e2, ?_, fun hids p hp => ?_⟩
  · exact r1.heap_eq (fun _ => rfl) rfl
  · exact (p1.2.1.trans c2).trans hfin
  · exact d5.trans c3
  · exact d6.trans c4
  · generalize resVals P fn.resultTypes.toList _ = rv at hres
    cases hres with
    | nil => exact .tup .nil
    | cons a b => cases b with
      | nil => exact a
      | cons a' b' => exact .tup (.cons a (.cons a' b'))
  · have hL := hL0 hids
    rcases mem_addWrs hp with e | e
    · exact .inl e
    · rcases hf.wr p e with e | e | e
      · cases e
      · exact .inr e
      · obtain ⟨j, i, _, q, _⟩ := Ow.sub e
        rw [hL] at q; simp at q
end
end Go.AI
end

/-
  One operation, and some.
-/
section
namespace Go.AI
variable [Kn]
section
variable {P : Program} {w w' : Wd} {ob ob' : Tr SOb} {nx : Nat} {h h' : AHeap} {ρ : Type} {A : Ann} {R : SRec}
def wrList (h h' : AHeap) : Prop := ∀ p, p ∈ h'.wr → p ∈ h.wr ∨ h.next ≤ p
def OpR (P : Program) (w : Wd) (h : AHeap) (S : SSt) (o : Oper) (k : SV → SSt → Option ρ) (r : ρ) (cx : Ctx) (cm : AMode) (ρ' : Operand → AV) : Prop :=
  ∃ m w' S' h' v y, SimH P w' S'.ob S'.nx h' ∧ Frm w S.ob h w' S'.ob h' ∧ S'.tm = S.tm ∧ S'.al = S.al ∧ k v S' = some r ∧ opRun P (rec2 P m) cx ρ' o cm h = some (.val y cm h') ∧ RV P w' v y ∧ (pureCall S o = true → wrList h h')
theorem call1_ok (hR : CallSOK P A R) {S : SSt} (hs : SimH P w S.ob S.nx h) {o : Oper} {ρ' : Operand → AV} (hρ : ∀ x, x ∈ o.op.operands.toList → RV P w (evS S.tm x) (ρ' x)) (hC : callV o.op = true) {k : SV → SSt → Option ρ} {r : ρ} (hr : opS1 P A R o S k = some r) (cx : Ctx) (cm : AMode) :
    OpR P w h S o k r cx cm ρ' := by
  unfold callV at hC
  split at hC
  case h_2 => cases hC
  rename_i c hop
  split at hC
  case h_2 => cases hC
  rename_i fo hcal
  obtain ⟨callee, args, ats⟩ := c
  simp only at hcal
  subst hcal
  unfold opS1 at hr
  simp only [hop] at hr
  split at hr
  case h_2 => cases hr
  rename_i f caps hfe
  split at hr
  case h_2 => cases hr
  rename_i fn hfn
  have hf := hρ fo (by rw [hop]; simp [Op.operands, Call.operands])
  rw [hfe] at hf
  have hargs : RVs P w (args.toList.map (evS S.tm)) (args.toList.map ρ') := RVs.map _ fun a ha => hρ a (by rw [hop]; simp only [Op.operands, Call.operands]; simp; exact .inr (by simpa using ha))
  obtain ⟨xs, hcaps, hacall⟩ : ∃ xs, RVs P w caps xs ∧ aop P ρ' o h = acallFunc P h f (args.toList.map ρ' ++ xs) := by
    generalize hy : ρ' fo = y at hf
    cases hf with
    | fn a => exact ⟨_, a, by simp only [aop, hop, acall, hy, fnOf, ainvoke, List.nil_append]⟩
    | fn0 => exact ⟨[], .nil, by simp only [aop, hop, acall, hy, fnOf, ainvoke]; rfl⟩
  split at hr
  · rename_i code hb
    obtain ⟨m, w', S', h', v, y, q1, q2, q3, q4, q5, q6, q7, q8⟩ := callS_ok hR hs (hargs.append hcaps) hr
    refine ⟨m, w', S', h', v, y, q1, q2, q3, q4, q5, ?_, q7, fun hp => q8 ?_⟩
    · unfold opRun
      rw [hacall]
      simp only [acallFunc, hfn, hb, q6]
    · unfold pureCall at hp
      rw [hop] at hp
      simp only [hfe] at hp
      split at hp
      · rename_i e; exact e
      · cases hp
  · rename_i hb
    split at hr
    · rename_i x hk hl
      have hall := hargs.append hcaps
      rw [hl] at hall
      obtain ⟨y, hy1, hy2⟩ : ∃ y, args.toList.map ρ' ++ xs = [y] ∧ RV P w x y := by
        generalize args.toList.map ρ' ++ xs = l at hall
        cases hall with
        | cons a b => cases b; exact ⟨_, rfl, a⟩
      refine ⟨0, w, S, h, x, y, hs, .refl _ _ _, rfl, rfl, hr, ?_, hy2, fun _ p hp => .inl hp⟩
      unfold opRun
      rw [hacall, hy1]
      simp only [acallFunc, hfn, hb, hk, aspecial]
    · cases hr
theorem new_fin {S : SSt} {F : Nat → Prop} {ob1 : Tr SOb} {obj : AObj} {y : Nat → AV} {v : SV} {x : SOb} {lk : Nat → Lk} (q1 : SimH P (w.more F) ob1 S.nx h) (q2 : LendR S.ob ob1) (q3 : ∀ o, F o → Ow w S.ob o) (q6 : x ≠ .gone) (q7 : ∀ a, (lk a).obj = some a)
    (q8 : ∀ (w' : Wd) (h' : AHeap) (a : Nat), Fle (w.more F) w' → (∀ i k, w.s i = some k → w'.s i = some k) → w'.s S.nx = some (lk a) → h'.get a = some obj → ¬ w'.F a → ObR P w' h' S.nx x ∧ RV P w' v (y a))
    {a : Nat} {h' : AHeap} (ha : h.get a = none) (han : a < h'.next) (hga : h'.get a = some obj) (hgo : ∀ o, o ≠ a → h'.get o = h.get o) (hnx : h.next ≤ h'.next) (hnew : ∀ o, h'.next ≤ o → h'.get o = none) (hfl : h'.floor = h.floor) (hwr : h'.wr = h.wr)
    {w0 : Wd} {ob0 : Tr SOb} {h0 : AHeap} (hfr : Frm w0 ob0 h0 w S.ob h) (ha0 : h0.next ≤ a) :
    ∃ w', SimH P w' (ob1.put S.nx x) (S.nx + 1) h' ∧ Frm w0 ob0 h0 w' (ob1.put S.nx x) h' ∧ Fle w w' ∧ (∀ i k, w.s i = some k → w'.s i = some k) ∧ RV P w' v (y a) := by
  have hnF : ¬ (w.more F).F a := fun f => (q1.frz a f).2 ha
  have hsn : ((w.more F).put h'.get S.nx (lk a)).s S.nx = some (lk a) := by simp [Wd.put]
  have hls : ∀ i k, w.s i = some k → ((w.more F).put h'.get S.nx (lk a)).s i = some k := by
    intro i k e
    have : i ≠ S.nx := by
      rintro rfl
      have := (q1.nx _ (Nat.le_refl _)).1
      have e' : (w.more F).s S.nx = some k := e
      rw [this] at e'; cases e'
    simp only [Wd.put]; rw [if_neg this]; exact e
  have hle : Fle (w.more F) ((w.more F).put h'.get S.nx (lk a)) := ⟨fun _ f => f, fun o f vv mv c fz el ex sh e => ⟨vv, [], fz, el, ex, sh, by
    simp only [Wd.put, List.append_nil]
    rw [hgo o fun e2 => hnF (e2 ▸ f), ← q1.g]; exact e, Nat.le_refl _⟩⟩
  obtain ⟨b1, b2⟩ := q8 _ h' a hle hls hsn hga hnF
  obtain ⟨c1, c2, c3⟩ := q1.fresh (h' := h') (lk := lk a) (x := x) (fun b e => by rw [q7] at e; cases e; exact ⟨ha, han⟩) (fun o e => hgo o fun e2 => e (by rw [q7, e2])) hnx hnew b1
  have hfr1 := hfr.trans (Frm.lend q2 q3)
  refine ⟨_, c1, ⟨hfr1.le.trans hle, fun i k e => hls i k (hfr.s i k e), Nat.le_trans hfr.next hnx, by rw [hfl]; exact hfr.floor, fun o h1 h2 => by rw [hgo o (by omega)]; exact hfr1.keep o h1 h2, ?_, fun o f => hfr1.F o f, fun o e => hfr.wr o (by rw [hwr] at e; exact e),
    fun e => by rw [hwr, hfl]; exact hfr.wrlt e, fun i t cs e => ?_⟩, (Fle.more w F).trans hle, hls, b2⟩
  · rintro o ⟨j, k, ⟨z, h1, h4⟩, h2, h3⟩
    simp only [Wd.put] at h2
    split at h2
    · cases h2; rw [q7] at h3; cases h3; exact .inl ha0
    · rename_i hne
      rw [Tr.get_put_other _ _ hne] at h1
      exact hfr1.own o ⟨j, k, ⟨z, h1, h4⟩, h2, h3⟩
  · obtain ⟨c, e1⟩ := hfr1.bx i t cs e
    exact bx_new (q1.nx _ (Nat.le_refl _)).2 i t c e1
theorem wr_alloc (h : AHeap) (y : AObj) : wrList h (h.alloc y) := fun _ e => .inl e
theorem op1_ok (hR : CallSOK P A R) {S : SSt} (hs : SimH P w S.ob S.nx h) {o : Oper} {ρ' : Operand → AV} (hρ : ∀ x, x ∈ o.op.operands.toList → RV P w (evS S.tm x) (ρ' x)) {k : SV → SSt → Option ρ} {r : ρ} (hr : opS1 P A R o S k = some r) (cx : Ctx) (cm : AMode) :
    OpR P w h S o k r cx cm ρ' := by
  cases hF : isF o.op with
  | true =>
    obtain ⟨F, ob1, q1, q2, q3, v, y, q4, q5, q6⟩ := pureS_ok hs hρ (fun _ _ _ _ _ => rfl) hF hr
    refine ⟨0, _, { S with ob := ob1 }, h, v, y, q1, .lend q2 q3, rfl, rfl, q4, ?_, q6, fun _ p hp => .inl hp⟩
    unfold opRun
    rw [q5]
  | false =>
    cases hA : isA o.op with
    | true =>
      obtain ⟨F, ob0, obj, y, v, x, lk, q1, q2, q3, q4, q5, q6, q7, q8⟩ := (newS_ok hs hρ hA hr).ok
      obtain ⟨w', c1, c2, _, _, c3⟩ := new_fin (h' := h.alloc obj) (a := h.next) q1 q2 q3 q6 q7 q8 (q1.new _ (Nat.le_refl _)) (Nat.lt_succ_self _) (by simp only [AHeap.get, AHeap.alloc, Tr.get_put_same]) (fun o e => by simp only [AHeap.get, AHeap.alloc, Tr.get_put_other _ _ e]) (Nat.le_succ _)
        (fun o ho => by
          have ho' : h.next + 1 ≤ o := ho
          have e : o ≠ h.next := by omega
          have := q1.new o (by omega)
          simp only [AHeap.get, AHeap.alloc, Tr.get_put_other _ _ e]; exact this) rfl rfl (Frm.refl w S.ob h) (Nat.le_refl _)
      refine ⟨0, w', { S with ob := ob0.put S.nx x, nx := S.nx + 1 }, h.alloc obj, v, _, c1, c2, rfl, rfl, q5, ?_, c3, fun _ => wr_alloc _ _⟩
      unfold opRun
      rw [q4]
    | false =>
      cases hC : callV o.op with
      | true => exact call1_ok hR hs hρ hC hr cx cm
      | false =>
        obtain ⟨w', ob', nx', h', v, y, q1, q2, q3, q4, q5⟩ := effS_ok hs hρ hA hF hC hr
        refine ⟨0, w', { S with ob := ob', nx := nx' }, h', v, y, q1, q2, rfl, rfl, q3, ?_, q5, fun hp => ?_⟩
        · unfold opRun
          rcases q4 with e | ⟨e, rfl⟩
          · rw [e]
          · rw [e]
        · unfold pureCall at hp
          unfold callV at hC
          split at hp
          · rename_i c hop
            rw [hop] at hC
            simp only at hC
            split at hp
            · rename_i f hcal
              rw [hcal] at hC; cases hC
            · cases hp
          · cases hp
end
end Go.AI
end

/-
  Operations one after another.
-/
section
namespace Go.AI
variable [Kn]
structure StR (P : Program) (w : Wd) (st : SSt) (a : ASt) : Prop where
  h : SimH P w st.ob st.nx a.h
  tm : SimT P w st.tm a.tm
  al : ∀ x y, (x, y) ∈ st.al → ∃ b, a.tm.get x = some (.sc (.bool b)) ∧ a.tm.get y = some (.sc (.bool b))
  df : a.df = []
  cm : a.cm = .none
section
variable {P : Program} {w w' : Wd} {st : SSt} {a : ASt} {ρ : Type} {A : Ann} {R : SRec}
theorem SimT.put {tm : Tr SV} {tm' : Tr AV} {d : Tmp} {v : SV} {x : AV} (h : SimT P w tm tm') (hx : RV P w v x) : SimT P w (tm.put d v) (tm'.put d x) := by
  refine ⟨fun t u e => ?_⟩
  by_cases e2 : t = d
  · subst e2; rw [Tr.get_put_same] at e; cases e; exact ⟨x, Tr.get_put_same .., hx⟩
  · rw [Tr.get_put_other _ _ e2] at e
    obtain ⟨y, a, b⟩ := h.tm t u e
    exact ⟨y, by rw [Tr.get_put_other _ _ e2]; exact a, b⟩
theorem SimT.know {tm : Tr SV} {tm' : Tr AV} {d : Tmp} {v : SV} {x : AV} (h : SimT P w tm tm') (hd : tm'.get d = some x) (hx : RV P w v x) : SimT P w (tm.put d v) tm' := by
  refine ⟨fun t u e => ?_⟩
  by_cases e2 : t = d
  · subst e2; rw [Tr.get_put_same] at e; cases e; exact ⟨x, hd, hx⟩
  · rw [Tr.get_put_other _ _ e2] at e; exact h.tm t u e
theorem refine_ok {d : Tmp} {t : Bool} {tm' : Tr AV} (hd : tm'.get d = some (.sc (.bool t))) : ∀ {l : List (Tmp × Tmp)} {tm : Tr SV}, (∀ x y, (x, y) ∈ l → ∃ b, tm'.get x = some (.sc (.bool b)) ∧ tm'.get y = some (.sc (.bool b))) → SimT P w tm tm' → SimT P w (refine d t l tm) tm'
  | [], _, _, h => h
  | (x, y) :: l, tm, hl, h => by
    obtain ⟨b, h1, h2⟩ := hl x y (List.mem_cons_self ..)
    have hl' : ∀ x y, (x, y) ∈ l → ∃ b, tm'.get x = some (.sc (.bool b)) ∧ tm'.get y = some (.sc (.bool b)) := fun x y e => hl x y (List.mem_cons_of_mem _ e)
    unfold refine
    split
    · rename_i e
      have := Nat.eq_of_beq_eq_true e; subst this
      rw [hd] at h2; cases h2
      exact refine_ok hd hl' (h.know h1 (.sc rfl))
    · split
      · rename_i e
        have := Nat.eq_of_beq_eq_true e; subst this
        rw [hd] at h1; cases h1
        exact refine_ok hd hl' (h.know h2 (.sc rfl))
      · exact refine_ok hd hl' h
theorem known_ok (hs : StR P w st a) {d : Tmp} {t : Bool} (hd : a.tm.get d = some (.sc (.bool t))) : StR P w (known st d t) a :=
  ⟨hs.h, refine_ok hd hs.al (hs.tm.know hd (.sc rfl)), hs.al, hs.df, hs.cm⟩
theorem dropAl_mem {d x y : Tmp} : ∀ {l : List (Tmp × Tmp)}, (x, y) ∈ dropAl d l → (x, y) ∈ l ∧ x ≠ d ∧ y ≠ d
  | [], h => by cases h
  | (x', y') :: l, h => by
    unfold dropAl at h
    split at h
    · obtain ⟨a, b⟩ := dropAl_mem h; exact ⟨List.mem_cons_of_mem _ a, b⟩
    · rename_i e
      simp only [Bool.or_eq_false_iff] at e
      rcases List.mem_cons.1 h with h | h
      · cases h; exact ⟨List.mem_cons_self .., Nat.ne_of_beq_eq_false e.1, Nat.ne_of_beq_eq_false e.2⟩
      · obtain ⟨a, b⟩ := dropAl_mem h; exact ⟨List.mem_cons_of_mem _ a, b⟩
def dstOK (n : Nat) : Option Tmp → Prop
  | some d => d < n
  | none => True
theorem putS_ok (hs : StR P w st a) {n : Nat} {dst : Option Tmp} {v : SV} {x : AV} (hx : RV P w v x) (hd : dstOK n dst) : ∃ a', a.put n dst x = some a' ∧ StR P w (putS st dst v) a' ∧ a'.h = a.h := by
  cases dst with
  | none => exact ⟨a, rfl, hs, rfl⟩
  | some d =>
    refine ⟨{ a with tm := a.tm.put d x }, by unfold ASt.put; simp only; rw [if_pos (show d < n from hd)], ⟨hs.h, hs.tm.put hx, fun y z e => ?_, hs.df, hs.cm⟩, rfl⟩
    obtain ⟨e1, e2, e3⟩ := dropAl_mem e
    obtain ⟨b, b1, b2⟩ := hs.al y z e1
    exact ⟨b, by show (a.tm.put d x).get y = _; rw [Tr.get_put_other _ _ e2]; exact b1, by show (a.tm.put d x).get z = _; rw [Tr.get_put_other _ _ e3]; exact b2⟩
theorem moveS_ok (hs : StR P w st a) {n : Nat} {dst : Option Tmp} {x : Operand} (hd : dstOK n dst) : ∃ a', a.put n dst (ev a.tm x) = some a' ∧ StR P w (moveS st dst x) a' ∧ a'.h = a.h := by
  obtain ⟨a', q1, q2, q3⟩ := putS_ok hs (evS_ok hs.tm x) hd
  refine ⟨a', q1, ?_, q3⟩
  unfold moveS
  simp only
  split
  · rename_i d s b hv
    split
    · exact q2
    · rename_i hne
      refine ⟨q2.h, q2.tm, fun y z e => ?_, q2.df, q2.cm⟩
      rcases List.mem_cons.1 e with e | e
      · cases e
        have he := evS_ok hs.tm (.tmp s)
        rw [hv] at he
        have hav : ev a.tm (.tmp s) = .sc (.bool b) := by
          generalize ev a.tm (.tmp s) = y at he
          cases he; rfl
        unfold ASt.put at q1
        simp only at q1
        rw [if_pos (show d < n from hd), hav] at q1
        cases q1
        refine ⟨b, Tr.get_put_same .., ?_⟩
        show (a.tm.put d _).get s = _
        rw [Tr.get_put_other _ _ (Ne.symm (Nat.ne_of_beq_eq_false hne))]
        simp only [ev] at hav
        split at hav
        · rename_i v hg; rw [hg, hav]
        · cases hav
      · exact q2.al y z e
  · exact q2
theorem get_bool (hs : StR P w st a) {d : Tmp} {b : Bool} (h : st.tm.get d = some (.sc (.bool b))) : a.tm.get d = some (.sc (.bool b)) := by
  obtain ⟨x, h1, h2⟩ := hs.tm.tm d _ h
  cases h2; exact h1
theorem get_undef (hs : StR P w st a) {d : Tmp} (h : st.tm.get d = some (.tup [])) : a.tm.get d = some (.tuple []) := by
  obtain ⟨x, h1, h2⟩ := hs.tm.tm d _ h
  cases h2 with
  | tup b => cases b; exact h1
theorem sIte_both {b : Bool} {x y : Option ρ} {r : ρ} (h : sIte b x y = some r) : (b = true ∧ x = some r) ∨ (b = false ∧ y = some r) := by
  cases b
  · exact .inr ⟨rfl, h⟩
  · exact .inl ⟨rfl, h⟩
theorem StR.step (hs : StR P w st a) {st' : SSt} {h' : AHeap} (hh : SimH P w' st'.ob st'.nx h') (hf : Frm w st.ob a.h w' st'.ob h') (htm : st'.tm = st.tm) (hal : st'.al = st.al) : StR P w' st' { a with h := h' } :=
  ⟨hh, by rw [htm]; exact hs.tm.mono hf.le hf.s, by rw [hal]; exact hs.al, hs.df, hs.cm⟩
theorem opS_ok (hR : CallSOK P A R) (hs : StR P w st a) {o : Oper} {cx : Ctx} {ops : Array Oper} (hd : dstOK cx.tn o.dst) {k : SSt → Option ρ} {r : ρ} (hr : opS P A R o st k = some r) (hw : wantedA ops o a.tm = some true) :
    ∃ m w' st' a', stepOp P (rec2 P m) cx ops o a = some (.normal, a') ∧ StR P w' st' a' ∧ Frm w st.ob a.h w' st'.ob a'.h ∧ k st' = some r := by
  have mv : ∀ (x : Operand) (st1 : SSt), StR P w st1 a → (∀ h : AHeap, aop P (ev a.tm) o h = some (.val (ev a.tm x), h)) → st1.ob = st.ob → k (moveS st1 o.dst x) = some r →
      ∃ m w' st' a', stepOp P (rec2 P m) cx ops o a = some (.normal, a') ∧ StR P w' st' a' ∧ Frm w st.ob a.h w' st'.ob a'.h ∧ k st' = some r := by
    intro x st1 hs1 he hob hk
    obtain ⟨a', q1, q2, q3⟩ := moveS_ok (n := cx.tn) (x := x) hs1 hd
    have hob2 : (moveS st1 o.dst x).ob = st1.ob := by
      unfold moveS putS
      simp only
      split
      · split
        · cases o.dst <;> rfl
        · cases o.dst <;> rfl
      · cases o.dst <;> rfl
    refine ⟨0, w, _, a', ?_, q2, by rw [q3, hob2, hob]; exact .refl _ _ _, hk⟩
    simp only [stepOp, hw, opRun, he]
    have : ({ a with cm := a.cm, h := a.h } : ASt) = a := rfl
    rw [this, q1]; rfl
  unfold opS at hr
  split at hr
  · rename_i x hop
    exact mv x st hs (fun h => by simp only [aop, hop]) rfl hr
  · rename_i x hop
    exact mv x st hs (fun h => by simp only [aop, hop]) rfl hr
  · rename_i c x y hop
    split at hr
    · rename_i d
      split at hr
      · rename_i t ht
        have ht' := get_bool hs ht
        rcases sIte_both hr with ⟨rfl, hr⟩ | ⟨rfl, hr⟩
        · exact mv x _ (known_ok hs ht') (fun h => by simp only [aop, hop, ev, ht']; rfl) rfl hr
        · exact mv y _ (known_ok hs ht') (fun h => by simp only [aop, hop, ev, ht']; rfl) rfl hr
      · cases hr
    · rename_i t
      cases t
      · exact mv y st hs (fun h => by simp only [aop, hop, ev, ofVal]; rfl) rfl hr
      · exact mv x st hs (fun h => by simp only [aop, hop, ev, ofVal]; rfl) rfl hr
    · cases hr
  · split at hr
    · cases hr
    · obtain ⟨m, w', S', h', v, y, q1, q2, q3, q4, q5, q6, q7, _⟩ := op1_ok hR hs.h (fun x _ => evS_ok hs.tm x) hr cx a.cm
      obtain ⟨a', p1, p2, p3⟩ := putS_ok (n := cx.tn) (hs.step q1 q2 q3 q4) q7 hd
      have hob2 : (putS S' o.dst v).ob = S'.ob := by cases o.dst <;> rfl
      refine ⟨m, w', _, a', ?_, p2, by rw [p3, hob2]; exact q2, q5⟩
      simp only [stepOp, hw, q6]
      rw [p1]; rfl
theorem Frm.known {ob' : Tr SOb} {h h' : AHeap} (e : st.ob = ob') (hf : Frm w st.ob h w' ob' h') : Frm w st.ob h w' ob' h' := hf
theorem stepOp_le2 {m m' : Nat} (hm : m ≤ m') {cx : Ctx} {ops : Array Oper} {o : Oper} {r : AEx × ASt} (e : stepOp P (rec2 P m) cx ops o a = some r) : stepOp P (rec2 P m') cx ops o a = some r := stepOp_le (rec2_le P hm) e
theorem seqS_ok (hR : CallSOK P A R) {cx : Ctx} {ops : Array Oper} {k : SSt → Option ρ} {r : ρ} : ∀ {l : List Oper} {w : Wd} {st : SSt} {a : ASt}, StR P w st a → (∀ o, o ∈ l → dstOK cx.tn o.dst) → opsS P A R ops l st k = some r →
    ∃ m w' st' a', runOps P (rec2 P m) cx ops l a = some (.normal, a') ∧ StR P w' st' a' ∧ Frm w st.ob a.h w' st'.ob a'.h ∧ k st' = some r
  | [], w, st, a, hs, _, hr => ⟨0, w, { st with al := [] }, a, rfl, ⟨hs.h, hs.tm, fun _ _ e => (by cases e), hs.df, hs.cm⟩, .refl _ _ _, hr⟩
  | o :: rest, w, st, a, hs, hd, hr => by
    have hd1 := hd o (List.mem_cons_self ..)
    have hd2 : ∀ o, o ∈ rest → dstOK cx.tn o.dst := fun o e => hd o (List.mem_cons_of_mem _ e)
    have run : ∀ (st1 : SSt), st1.ob = st.ob → StR P w st1 a → wantedA ops o a.tm = some true → opS P A R o st1 (fun st => opsS P A R ops rest st k) = some r →
        ∃ m w' st' a', runOps P (rec2 P m) cx ops (o :: rest) a = some (.normal, a') ∧ StR P w' st' a' ∧ Frm w st.ob a.h w' st'.ob a'.h ∧ k st' = some r := by
      intro st1 hob hs1 hw hr1
      obtain ⟨m, w1, st2, a2, q1, q2, q3, q4⟩ := opS_ok (cx := cx) hR hs1 hd1 hr1 hw
      obtain ⟨m', w2, st3, a3, r1, r2, r3, r4⟩ := seqS_ok hR q2 hd2 q4
      refine ⟨max m m', w2, st3, a3, ?_, r2, by rw [← hob]; exact q3.trans r3, r4⟩
      rw [runOps, stepOp_le2 (Nat.le_max_left ..) q1]
      exact runOps_le (rec2_le P (Nat.le_max_right ..)) r1
    have skip : ∀ (st1 : SSt), st1.ob = st.ob → StR P w st1 a → wantedA ops o a.tm = some false → opsS P A R ops rest (putS st1 o.dst (.tup [])) k = some r →
        ∃ m w' st' a', runOps P (rec2 P m) cx ops (o :: rest) a = some (.normal, a') ∧ StR P w' st' a' ∧ Frm w st.ob a.h w' st'.ob a'.h ∧ k st' = some r := by
      intro st1 hob hs1 hw hr1
      obtain ⟨a2, p1, p2, p3⟩ := putS_ok (n := cx.tn) (v := .tup []) (x := undefA) hs1 (.tup .nil) hd1
      obtain ⟨m', w2, st3, a3, r1, r2, r3, r4⟩ := seqS_ok hR p2 hd2 hr1
      have hob2 : (putS st1 o.dst (.tup [])).ob = st.ob := by rw [← hob]; cases o.dst <;> rfl
      rw [hob2, p3] at r3
      refine ⟨m', w2, st3, a3, ?_, r2, r3, r4⟩
      rw [runOps]
      simp only [stepOp, hw, p1, Option.map_some]
      exact r1
    unfold opsS at hr
    unfold guardS at hr
    split at hr
    · rename_i hg
      exact run st rfl hs (by simp only [wantedA, hg]) hr
    · rename_i j want hg
      split at hr
      · rename_i d hdd
        split at hr
        · rename_i b hb
          have hb' := get_bool hs hb
          split at hr
          · rcases sIte_both hr with ⟨rfl, hr⟩ | ⟨rfl, hr⟩
            · exact run (known st d true) rfl (known_ok hs hb') (by simp [wantedA, hg, hdd, hb']) hr
            · exact skip (known st d false) rfl (known_ok hs hb') (by simp [wantedA, hg, hdd, hb']) hr
          · rcases sIte_both hr with ⟨rfl, hr⟩ | ⟨rfl, hr⟩
            · exact skip (known st d true) rfl (known_ok hs hb') (by simp [wantedA, hg, hdd, hb']) hr
            · exact run (known st d false) rfl (known_ok hs hb') (by simp [wantedA, hg, hdd, hb']) hr
        · rename_i hb
          have hb' := get_undef hs hb
          exact skip st rfl hs (by simp only [wantedA, hg, hdd, hb']) hr
        · cases hr
      · cases hr
end
end Go.AI
end
