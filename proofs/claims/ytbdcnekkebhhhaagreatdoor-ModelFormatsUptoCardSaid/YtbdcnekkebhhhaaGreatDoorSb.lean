/-
  What a state over data says of an abstract one.
-/
import Derived.Test.YtbdcnekkebhhhaaGreatDoorSa
import Derived.Test.YtbdcnekkebhhhaaGreatDoorAe
set_option linter.all false

section
namespace Go.AI
inductive Lk where
  | box (o n : Nat)
  | nil
  | sl (o ver n sz len : Nat) (cap : Option Nat)
def Lk.obj : Lk → Option Nat
  | .box o _ => some o
  | .nil => none
  | .sl o _ _ _ _ _ => some o
structure Wd where
  g : Nat → Option AObj
  F : Nat → Prop
  s : Nat → Option Lk
section
variable (P : Program) (w : Wd)
mutual
inductive Rd : TypeId → List (List AV) → AV → Prop
  | nil (t : TypeId) : Rd t [] (.sc (.slice none 0 0))
  | esl (t : TypeId) : Rd t [] .esl
  | isl {t : TypeId} {rows rows' : List (List AV)} : sizeT P t = some (lay P t).length → 0 < (lay P t).length → RdRows (lay P t) rows rows' → Rd t rows (.isl rows' (lay P t).length)
  | sl {t : TypeId} {rows : List (List AV)} {o ver n off v mv fz : Nat} {c : List AV} {el : TypeId} {ex sh : Bool} {cap : Option Nat} :
      sizeT P t = some (lay P t).length → 0 < (lay P t).length → w.F o → w.g o = some (.cells v mv c fz el ex sh) → mv ≤ ver → ver ≤ v → off + rows.length * (lay P t).length ≤ n → off + rows.length * (lay P t).length ≤ c.length → (∀ k, cap = some k → rows.length ≤ k) →
      RdRows (lay P t) rows (chunks (lay P t).length rows.length (c.drop off)) → Rd t rows (.sl o ver n off (lay P t).length rows.length cap)
inductive RdRows : List Lf → List (List AV) → List (List AV) → Prop
  | nil (ls : List Lf) : RdRows ls [] []
  | cons {ls : List Lf} {r r' : List AV} {rs rs' : List (List AV)} : RdRow ls r r' → RdRows ls rs rs' → RdRows ls (r :: rs) (r' :: rs')
inductive RdRow : List Lf → List AV → List AV → Prop
  | nil : RdRow [] [] []
  | cons {l : Lf} {ls : List Lf} {c y : AV} {r r' : List AV} : RdC l c y → RdRow ls r r' → RdRow (l :: ls) (c :: r) (y :: r')
inductive RdC : Lf → AV → AV → Prop
  | int (k : IntKind) (n : Int) : RdC (.int k) (.sc (.int k n)) (.sc (.int k n))
  | bool (b : Bool) : RdC .bool (.sc (.bool b)) (.sc (.bool b))
  | str (s : ByteArray) : RdC .str (.sc (.string s)) (.sc (.string s))
  | sl {t : TypeId} {rows : List (List AV)} {sz : Nat} {y : AV} : Rd t rows y → RdC (.sl t) (.isl rows sz) y
end
inductive Rp : TypeId → List AV → Nat → AV → Prop
  | pref {t : TypeId} {row row' : List AV} {off : Nat} : RdRow P w (lay P t) row row' → Rp t row off (.pref (row'.drop off))
  | ref {t : TypeId} {row : List AV} {off o ver n p v mv fz : Nat} {c : List AV} {el : TypeId} {ex sh : Bool} :
      w.F o → w.g o = some (.cells v mv c fz el ex sh) → mv ≤ ver → ver ≤ v → p + (lay P t).length ≤ n → p + (lay P t).length ≤ c.length → RdRow P w (lay P t) row ((c.drop p).take (lay P t).length) → Rp t row off (.ref o ver n (p + off))
def naA : AV → Bool
  | .agg _ => false
  | _ => true
mutual
inductive RV : SV → AV → Prop
  | unk (x : AV) : RV .unk x
  | sc {v : Value} : plainV v = true → RV (.sc v) (.sc v)
  | agg {cs : List SV} {xs : List AV} : RVs cs xs → RV (.agg cs) (.agg xs)
  | dl {t : TypeId} {rows : List (List AV)} {x : AV} : Rd P w t rows x → RV (.dl t rows) x
  | ownNil {i : Nat} : w.s i = some .nil → RV (.own i) (.sc (.slice none 0 0))
  | ownSl {i o ver n sz len : Nat} {cap : Option Nat} : w.s i = some (.sl o ver n sz len cap) → RV (.own i) (.sl o ver n 0 sz len cap)
  | ref {i off o n : Nat} : w.s i = some (.box o n) → RV (.ref i off) (.ref o 0 n off)
  | eref {i k off o ver n sz len : Nat} {cap : Option Nat} : w.s i = some (.sl o ver n sz len cap) → k < len → RV (.eref i k off) (.ref o ver n (k * sz + off))
  | prow {t : TypeId} {row : List AV} {off : Nat} {x : AV} : Rp P w t row off x → RV (.prow t row off) x
  | bref {i o ver n sz len : Nat} {cap : Option Nat} : w.s i = some (.sl o ver n sz len cap) → RV (.bref i) (.ref o ver n 0)
  | optT {v : SV} {x : AV} : RV v x → naA x = true → RV (.opt true v) x
  | optF {v : SV} : RV (.opt false v) (.sc (.pointer none))
  | fn {f : FuncId} {caps : List SV} {xs : List AV} : RVs caps xs → RV (.fn f caps) (.func (.func f) [] xs)
  | fn0 {f : FuncId} : RV (.fn f []) (.sc (.func (.func f) #[] #[]))
  | tup {vs : List SV} {xs : List AV} : RVs vs xs → RV (.tup vs) (.tuple xs)
  | ifc {t : TypeId} {v : SV} {x : AV} : RV v x → RV (.ifc t v) (.iface t x)
inductive RVs : List SV → List AV → Prop
  | nil : RVs [] []
  | cons {v : SV} {x : AV} {vs : List SV} {xs : List AV} : RV v x → RVs vs xs → RVs (v :: vs) (x :: xs)
end
end
def Grow : Option AObj → Option AObj → Prop
  | some (.cells v mv c _ _ _ _), some (.cells v' mv' c' _ _ _ _) => v ≤ v' ∧ mv' = mv ∧ ∃ d, c' = c ++ d
  | _, _ => True
theorem Grow.cells {v mv fz : Nat} {c : List AV} {el : TypeId} {ex sh : Bool} {y : Option AObj} (hy : ∃ v' mv' c' fz' el' ex' sh', y = some (.cells v' mv' c' fz' el' ex' sh')) (h : Grow (some (.cells v mv c fz el ex sh)) y) :
    ∃ v' d fz' el' ex' sh', y = some (.cells v' mv (c ++ d) fz' el' ex' sh') ∧ v ≤ v' := by
  obtain ⟨v', mv', c', fz', el', ex', sh', rfl⟩ := hy
  obtain ⟨h1, rfl, d, rfl⟩ := h
  exact ⟨v', d, fz', el', ex', sh', rfl, h1⟩
structure Fle (w w' : Wd) : Prop where
  F : ∀ o, w.F o → w'.F o
  g : ∀ o, w.F o → ∀ v mv c fz el ex sh, w.g o = some (.cells v mv c fz el ex sh) → ∃ v' d fz' el' ex' sh', w'.g o = some (.cells v' mv (c ++ d) fz' el' ex' sh') ∧ v ≤ v'
theorem Fle.refl (w : Wd) : Fle w w := ⟨fun _ h => h, fun _ _ v mv c fz el ex sh h => ⟨v, [], fz, el, ex, sh, by simpa using h, Nat.le_refl _⟩⟩
theorem Fle.trans {a b c : Wd} (h : Fle a b) (h' : Fle b c) : Fle a c := ⟨fun o x => h'.F o (h.F o x), fun o x v mv cs fz el ex sh e => by
  obtain ⟨v1, d1, f1, e1, x1, s1, q1, q2⟩ := h.g o x v mv cs fz el ex sh e
  obtain ⟨v2, d2, f2, e2, x2, s2, q3, q4⟩ := h'.g o (h.F o x) _ _ _ _ _ _ _ q1
  exact ⟨v2, d1 ++ d2, f2, e2, x2, s2, by rw [q3, List.append_assoc], Nat.le_trans q2 q4⟩⟩
theorem chunks_append {sz : Nat} : ∀ (n : Nat) (l d : List AV), n * sz ≤ l.length → chunks sz n (l ++ d) = chunks sz n l
  | 0, _, _, _ => rfl
  | n + 1, l, d, h => by
    have h' : sz ≤ l.length := by rw [Nat.add_mul] at h; omega
    simp only [chunks]
    rw [List.take_append_of_le_length h', List.drop_append_of_le_length h', chunks_append n (l.drop sz) d (by rw [List.length_drop]; rw [Nat.add_mul] at h; omega)]
section
variable {P : Program} {w w' : Wd}
mutual
theorem Rd.mono (hl : Fle w w') : ∀ {t : TypeId} {rows : List (List AV)} {x : AV}, Rd P w t rows x → Rd P w' t rows x
  | _, _, _, .nil t => .nil t
  | _, _, _, .esl t => .esl t
  | _, _, _, .isl a b h => .isl a b (RdRows.mono hl h)
  | _, _, _, .sl a b hF hg h1 h2 h3 h4 hc h => by
    obtain ⟨v', d, fz', el', ex', sh', e, hv⟩ := hl.g _ hF _ _ _ _ _ _ _ hg
    refine .sl a b (hl.F _ hF) e h1 (Nat.le_trans h2 hv) h3 (by rw [List.length_append]; omega) hc ?_
    have := RdRows.mono hl h
    rw [List.drop_append_of_le_length (by omega), chunks_append _ _ _ (by rw [List.length_drop]; omega)]
    exact this
theorem RdRows.mono (hl : Fle w w') : ∀ {ls : List Lf} {rs rs' : List (List AV)}, RdRows P w ls rs rs' → RdRows P w' ls rs rs'
  | _, _, _, .nil ls => .nil ls
  | _, _, _, .cons a b => .cons (RdRow.mono hl a) (RdRows.mono hl b)
theorem RdRow.mono (hl : Fle w w') : ∀ {ls : List Lf} {r r' : List AV}, RdRow P w ls r r' → RdRow P w' ls r r'
  | _, _, _, .nil => .nil
  | _, _, _, .cons a b => .cons (RdC.mono hl a) (RdRow.mono hl b)
theorem RdC.mono (hl : Fle w w') : ∀ {l : Lf} {c y : AV}, RdC P w l c y → RdC P w' l c y
  | _, _, _, .int k n => .int k n
  | _, _, _, .bool b => .bool b
  | _, _, _, .str s => .str s
  | _, _, _, .sl h => .sl (Rd.mono hl h)
end
theorem Rp.mono (hl : Fle w w') {t : TypeId} {row : List AV} {off : Nat} {x : AV} (h : Rp P w t row off x) : Rp P w' t row off x := by
  cases h with
  | pref h1 => exact .pref (h1.mono hl)
  | ref hF hg h1 h2 h3 h4 h =>
    obtain ⟨v', d, fz', el', ex', sh', e, hv⟩ := hl.g _ hF _ _ _ _ _ _ _ hg
    refine .ref (hl.F _ hF) e h1 (Nat.le_trans h2 hv) h3 (by rw [List.length_append]; omega) ?_
    rw [List.drop_append_of_le_length (by omega), List.take_append_of_le_length (by rw [List.length_drop]; omega)]
    exact h.mono hl
mutual
theorem RV.mono (hl : Fle w w') (hs : ∀ i k, w.s i = some k → w'.s i = some k) : ∀ {v : SV} {x : AV}, RV P w v x → RV P w' v x
  | _, _, .unk x => .unk x
  | _, _, .sc h => .sc h
  | _, _, .agg h => .agg (RVs.mono hl hs h)
  | _, _, .dl h => .dl (h.mono hl)
  | _, _, .ownNil h => .ownNil (hs _ _ h)
  | _, _, .ownSl h => .ownSl (hs _ _ h)
  | _, _, .ref h => .ref (hs _ _ h)
  | _, _, .eref h a => .eref (hs _ _ h) a
  | _, _, .prow h => .prow (h.mono hl)
  | _, _, .bref h => .bref (hs _ _ h)
  | _, _, .optT h a => .optT (RV.mono hl hs h) a
  | _, _, .optF => .optF
  | _, _, .fn h => .fn (RVs.mono hl hs h)
  | _, _, .fn0 => .fn0
  | _, _, .tup h => .tup (RVs.mono hl hs h)
  | _, _, .ifc h => .ifc (RV.mono hl hs h)
theorem RVs.mono (hl : Fle w w') (hs : ∀ i k, w.s i = some k → w'.s i = some k) : ∀ {vs : List SV} {xs : List AV}, RVs P w vs xs → RVs P w' vs xs
  | _, _, .nil => .nil
  | _, _, .cons a b => .cons (RV.mono hl hs a) (RVs.mono hl hs b)
end
theorem RVs.length : ∀ {vs : List SV} {xs : List AV}, RVs P w vs xs → vs.length = xs.length
  | _, _, .nil => rfl
  | _, _, .cons _ b => by simp [RVs.length b]
theorem RVs.get : ∀ {vs : List SV} {xs : List AV}, RVs P w vs xs → ∀ (i : Nat) (v : SV), vs[i]? = some v → ∃ x, xs[i]? = some x ∧ RV P w v x
  | _, _, .nil, i, v, h => by simp at h
  | _, _, .cons a b, 0, v, h => by simp at h; subst h; exact ⟨_, by simp, a⟩
  | _, _, .cons a b, i + 1, v, h => by simp at h; obtain ⟨x, e, r⟩ := RVs.get b i v h; exact ⟨x, by simpa using e, r⟩
theorem RVs.take : ∀ {vs : List SV} {xs : List AV} (n : Nat), RVs P w vs xs → RVs P w (vs.take n) (xs.take n)
  | _, _, 0, _ => by simp; exact .nil
  | _, _, n + 1, .nil => by simp; exact .nil
  | _, _, n + 1, .cons a b => by simp only [List.take_succ_cons]; exact .cons a (RVs.take n b)
theorem RVs.drop : ∀ {vs : List SV} {xs : List AV} (n : Nat), RVs P w vs xs → RVs P w (vs.drop n) (xs.drop n)
  | _, _, 0, h => by simpa using h
  | _, _, n + 1, .nil => by simp; exact .nil
  | _, _, n + 1, .cons a b => by simp only [List.drop_succ_cons]; exact RVs.drop n b
theorem RVs.append : ∀ {vs us : List SV} {xs ys : List AV}, RVs P w vs xs → RVs P w us ys → RVs P w (vs ++ us) (xs ++ ys)
  | _, _, _, _, .nil, h => h
  | _, _, _, _, .cons a b, h => .cons a (RVs.append b h)
theorem RVs.map {α : Type} {f : α → SV} {f' : α → AV} : ∀ (l : List α), (∀ a, a ∈ l → RV P w (f a) (f' a)) → RVs P w (l.map f) (l.map f')
  | [], _ => .nil
  | a :: l, h => .cons (h a (by simp)) (RVs.map l fun b hb => h b (by simp [hb]))
theorem RdRow.length : ∀ {ls : List Lf} {r r' : List AV}, RdRow P w ls r r' → r.length = ls.length ∧ r'.length = ls.length
  | _, _, _, .nil => ⟨rfl, rfl⟩
  | _, _, _, .cons _ b => by have := RdRow.length b; simp [this]
theorem RdRow.get : ∀ {ls : List Lf} {r r' : List AV}, RdRow P w ls r r' → ∀ (j : Nat) (l : Lf), ls[j]? = some l → ∃ c y, r[j]? = some c ∧ r'[j]? = some y ∧ RdC P w l c y
  | _, _, _, .nil, j, l, h => by simp at h
  | _, _, _, .cons a b, 0, l, h => by simp at h; subst h; exact ⟨_, _, by simp, by simp, a⟩
  | _, _, _, .cons a b, j + 1, l, h => by simp at h; obtain ⟨c, y, e1, e2, q⟩ := RdRow.get b j l h; exact ⟨c, y, by simpa using e1, by simpa using e2, q⟩
theorem RdRows.length : ∀ {ls : List Lf} {rs rs' : List (List AV)}, RdRows P w ls rs rs' → rs.length = rs'.length
  | _, _, _, .nil _ => rfl
  | _, _, _, .cons _ b => by simp [RdRows.length b]
theorem RdRows.get : ∀ {ls : List Lf} {rs rs' : List (List AV)}, RdRows P w ls rs rs' → ∀ (i : Nat) (r : List AV), rs[i]? = some r → ∃ r', rs'[i]? = some r' ∧ RdRow P w ls r r'
  | _, _, _, .nil _, i, r, h => by simp at h
  | _, _, _, .cons a b, 0, r, h => by simp at h; subst h; exact ⟨_, by simp, a⟩
  | _, _, _, .cons a b, i + 1, r, h => by simp at h; obtain ⟨r', e, q⟩ := RdRows.get b i r h; exact ⟨r', by simpa using e, q⟩
theorem RdRows.sub {ls : List Lf} {rs rs' : List (List AV)} (h : RdRows P w ls rs rs') (a b : Nat) : RdRows P w ls ((rs.drop a).take b) ((rs'.drop a).take b) := by
  have hd : ∀ {rs rs' : List (List AV)} (a : Nat), RdRows P w ls rs rs' → RdRows P w ls (rs.drop a) (rs'.drop a) := by
    intro rs rs' a
    induction a generalizing rs rs' with
    | zero => intro h; simpa using h
    | succ a ih => intro h; cases h with
      | nil => simp; exact .nil _
      | cons x y => simpa using ih y
  have ht : ∀ {rs rs' : List (List AV)} (a : Nat), RdRows P w ls rs rs' → RdRows P w ls (rs.take a) (rs'.take a) := by
    intro rs rs' a
    induction a generalizing rs rs' with
    | zero => intro _; simp; exact .nil _
    | succ a ih => intro h; cases h with
      | nil => simp; exact .nil _
      | cons x y => simpa using .cons x (ih y)
  exact ht b (hd a h)
theorem RdRows.append {ls : List Lf} : ∀ {a a' b b' : List (List AV)}, RdRows P w ls a a' → RdRows P w ls b b' → RdRows P w ls (a ++ b) (a' ++ b')
  | _, _, _, _, .nil _, h => h
  | _, _, _, _, .cons x y, h => .cons x (RdRows.append y h)
theorem leaf_ok {l : Lf} {c y : AV} {r : List AV} {j : Nat} (hc : r[j]? = some c) (h : RdC P w l c y) : RV P w (leafS l r j) y := by
  cases h with
  | int k n => simp only [leafS, gI, hc]; exact .sc rfl
  | bool b => simp only [leafS, gB, hc]; exact .sc rfl
  | str s => simp only [leafS, gS, hc]; exact .sc rfl
  | sl h => simp only [leafS, gD, hc]; exact .dl h
theorem leafs_len (r : List AV) : ∀ (ls : List Lf) (j : Nat), (leafsS r ls j).length = ls.length
  | [], _ => rfl
  | l :: ls, j => by simp [leafsS, leafs_len r ls (j + 1)]
theorem leafs_aux {r0 : List AV} : ∀ {ls : List Lf} {r r' : List AV}, RdRow P w ls r r' → ∀ (j : Nat), (∀ k, r0[j + k]? = r[k]?) → RVs P w (leafsS r0 ls j) r'
  | _, _, _, .nil, j, _ => .nil
  | _, _, _, .cons (c := c) a b, j, h => by
    refine .cons (leaf_ok (c := c) (by simpa using h 0) a) (leafs_aux b (j + 1) fun k => ?_)
    have := h (k + 1)
    rw [show j + 1 + k = j + (k + 1) by omega, this]; simp
theorem leafs_ok {ls : List Lf} {r r' : List AV} (h : RdRow P w ls r r') : RVs P w (leafsS r ls 0) r' := leafs_aux h 0 fun k => by simp
end
end Go.AI
end

/-
  A state over data and an abstract one; what reading comes to.
-/
section
namespace Go.AI
def live (ob : Tr SOb) (i : Nat) : Prop := ∃ x, ob.get i = some x ∧ x ≠ .gone
def bytesA (s : ByteArray) : List AV := s.data.toList.map fun b => .sc (.int .u8 b.toNat)
structure SimH (P : Program) (w : Wd) (ob : Tr SOb) (nx : Nat) (h : AHeap) : Prop where
  g : ∀ o, w.g o = h.get o
  box : ∀ i t cs, ob.get i = some (.box t cs) → ∃ o c sh, w.s i = some (.box o c.length) ∧ h.get o = some (.cells 0 0 c 0 t true sh) ∧ RVs P w cs c ∧ okCs cs = true ∧ ¬ w.F o
  arr : ∀ i t rows lent, ob.get i = some (.arr t rows lent) → sizeT P t = some (lay P t).length ∧ 0 < (lay P t).length ∧ isByte P t = false ∧
    ((w.s i = some .nil ∧ rows = []) ∨ ∃ o ver mv c ex sh cap, w.s i = some (.sl o ver (rows.length * (lay P t).length) (lay P t).length rows.length cap) ∧ (∀ k, cap = some k → k = rows.length) ∧
      h.get o = some (.cells ver mv c 0 t ex sh) ∧ mv ≤ ver ∧ c.length = rows.length * (lay P t).length ∧ RdRows P w (lay P t) rows (chunks (lay P t).length rows.length c) ∧ (lent = true → True) ∧ (lent = false → ¬ w.F o))
  byt : ∀ i s el, ob.get i = some (.byt s el) → isByte P el = true ∧ ((w.s i = some .nil ∧ s.size = 0) ∨ ∃ o ver mv ex fz cap, 0 < s.size ∧ w.s i = some (.sl o ver s.size 1 s.size cap) ∧ (∀ k, cap = some k → k = s.size) ∧
      h.get o = some (.cells ver mv (bytesA s) fz el ex false) ∧ mv ≤ ver ∧ fz ≤ s.size ∧ ¬ w.F o)
  inj : ∀ i j k l o, live ob i → live ob j → w.s i = some k → w.s j = some l → k.obj = some o → l.obj = some o → i = j
  lt : ∀ i k o, w.s i = some k → k.obj = some o → o < h.next
  nx : ∀ i, nx ≤ i → w.s i = none ∧ ob.get i = none
  frz : ∀ o, w.F o → o < h.next ∧ h.get o ≠ none
  new : ∀ o, h.next ≤ o → h.get o = none
structure SimT (P : Program) (w : Wd) (tm : Tr SV) (tm' : Tr AV) : Prop where
  tm : ∀ t v, tm.get t = some v → ∃ x, tm'.get t = some x ∧ RV P w v x
theorem SimT.mono {P : Program} {w w' : Wd} {tm : Tr SV} {tm' : Tr AV} (h : SimT P w tm tm') (hl : Fle w w') (hs : ∀ i k, w.s i = some k → w'.s i = some k) : SimT P w' tm tm' :=
  ⟨fun t v e => let ⟨x, a, b⟩ := h.tm t v e; ⟨x, a, b.mono hl hs⟩⟩
section
variable {P : Program} {w w' : Wd}
theorem ofC_ok (v : Value) : RV P w (ofC v) (.sc v) := by
  unfold ofC
  split
  · rename_i h; exact .sc h
  · exact .unk _
theorem ofV_ok (v : Value) : RV P w (ofV v) (ofVal v) := by
  cases v with
  | agg cs => exact .agg (RVs.map _ fun a _ => ofC_ok a)
  | tuple cs => exact .tup (RVs.map _ fun a _ => ofC_ok a)
  | func fn a c =>
    cases fn with
    | func f =>
      simp only [ofV, ofVal]
      split
      · rename_i h1 h2
        have e1 : a = #[] := by cases a; simpa using h1
        have e2 : c = #[] := by cases c; simpa using h2
        subst e1; subst e2
        exact .fn0
      · exact .sc rfl
    | _ => exact .sc rfl
  | _ => exact .sc rfl
theorem evS_ok {tm : Tr SV} {tm' : Tr AV} (h : SimT P w tm tm') (o : Operand) : RV P w (evS tm o) (ev tm' o) := by
  cases o with
  | tmp t =>
    simp only [evS, ev]
    cases e : tm.get t with
    | none => exact .unk _
    | some v =>
      obtain ⟨x, a, b⟩ := h.tm t v e
      simp only [a]; exact b
  | const v => exact ofV_ok v
  | global g => exact .unk _
  | func f => exact .fn0
theorem cellsA_na {x : AV} (h : naA x = true) : cellsA x = [x] := by cases x <;> first | rfl | cases h
theorem Rd.na {t : TypeId} {rows : List (List AV)} {x : AV} (h : Rd P w t rows x) : naA x = true := by cases h <;> rfl
theorem Rp.na {t : TypeId} {row : List AV} {off : Nat} {x : AV} (h : Rp P w t row off x) : naA x = true := by cases h <;> rfl
theorem RV.na {v : SV} {x : AV} (h : RV P w v x) (hv : v ≠ .unk) (ha : ∀ cs, v ≠ .agg cs) : naA x = true := by
  cases h with
  | unk x => exact absurd rfl hv
  | agg h => exact absurd rfl (ha _)
  | dl h => exact h.na
  | prow h => exact h.na
  | optT h a => exact a
  | _ => rfl
theorem cellsS_ok {v : SV} {x : AV} (h : RV P w v x) (hv : v ≠ .unk) : RVs P w (cellsS v) (cellsA x) := by
  by_cases ha : ∃ cs, v = .agg cs
  · obtain ⟨cs, rfl⟩ := ha
    cases h with
    | agg h => exact h
  · have ha : ∀ cs, v ≠ .agg cs := fun cs e => ha ⟨cs, e⟩
    rw [cellsA_na (h.na hv ha)]
    have : cellsS v = [v] := by cases v <;> first | rfl | exact absurd rfl (ha _)
    rw [this]
    exact .cons h .nil
theorem Rd.cell {t : TypeId} {rows : List (List AV)} {x : AV} (h : Rd P w t rows x) : cellOK x = true := by cases h <;> rfl
theorem RV.cell : ∀ {v : SV} {x : AV}, RV P w v x → okC v = true → cellOK x = true
  | .unk, _, _, h => by cases h
  | .agg _, _, _, h => by cases h
  | .tup _, _, _, h => by cases h
  | .sc v, _, .sc hp, h => by cases v <;> first | rfl | cases hp
  | .dl _ _, _, .dl hr, _ => hr.cell
  | .own _, _, .ownNil _, _ => rfl
  | .own _, _, .ownSl _, _ => rfl
  | .ref _ _, _, .ref _, _ => rfl
  | .eref _ _ _, _, .eref _ _, _ => rfl
  | .prow _ _ _, _, .prow hp, _ => by cases hp <;> rfl
  | .bref _, _, .bref _, _ => rfl
  | .opt _ v, _, .optT hr _, h => RV.cell (v := v) hr (by simpa [okC] using h)
  | .opt _ _, _, .optF, _ => rfl
  | .fn _ _, _, .fn _, _ => rfl
  | .fn _ _, _, .fn0, _ => rfl
  | .ifc _ _, _, .ifc _, _ => rfl
theorem RVs.cells : ∀ {vs : List SV} {xs : List AV}, RVs P w vs xs → okCs vs = true → xs.all cellOK = true
  | _, _, .nil, _ => rfl
  | _, _, .cons a b, h => by
    simp only [okCs, Bool.and_eq_true] at h
    simp only [List.all_cons, Bool.and_eq_true]
    exact ⟨a.cell h.1, b.cells h.2⟩
theorem chunks_get {sz : Nat} : ∀ (n : Nat) (l : List AV) (i : Nat), i < n → (chunks sz n l)[i]? = some ((l.drop (i * sz)).take sz)
  | 0, _, _, h => by omega
  | n + 1, l, 0, _ => by simp [chunks]
  | n + 1, l, i + 1, h => by
    simp only [chunks, List.getElem?_cons_succ]
    rw [chunks_get n (l.drop sz) i (by omega), List.drop_drop]
    rw [show sz + i * sz = (i + 1) * sz by rw [Nat.add_mul]; omega]
def Agree (h h1 : AHeap) (x : AV) : Prop := ∀ o, o ∈ idsA x → h1.get o = h.get o
theorem rdRow_cells {row row' : List AV} {ls : List Lf} (hr : RdRow P w ls row row') (off s : Nat) : RVs P w (((leafsS row ls 0).drop off).take s) ((row'.drop off).take s) :=
  (leafs_ok hr).drop off |>.take s
variable {ob : Tr SOb} {nx : Nat} {h h1 : AHeap}
theorem Rp.read (hs : SimH P w ob nx h) {t : TypeId} {row : List AV} {off s : Nat} {x : AV} (hp : Rp P w t row off x) (ha : Agree h h1 x) (hl : off + s ≤ (lay P t).length) :
    ∃ row', RdRow P w (lay P t) row row' ∧ rdAt h1 s x = some ((row'.drop off).take s) := by
  cases hp with
  | pref hr =>
    rename_i row'
    refine ⟨row', hr, ?_⟩
    have := hr.length
    simp only [rdAt]
    rw [if_pos (by rw [List.length_drop]; omega)]
  | ref hF hg h2 h3 h4 h5 hr =>
    rename_i o ver n p v mv fz c el ex sh
    refine ⟨_, hr, ?_⟩
    have hg1 : h1.get o = some (.cells v mv c fz el ex sh) := by rw [ha o (by simp [idsA]), ← hs.g]; exact hg
    simp only [rdAt, rdCells, hg1]
    rw [if_pos ⟨h2, h3, by omega⟩]
    rw [List.drop_take, List.take_take, List.drop_drop, Nat.min_eq_left (by omega)]
theorem box_read (hs : SimH P w ob nx h) {i off s : Nat} {t : TypeId} {cs : List SV} {x : AV} (hb : ob.get i = some (.box t cs)) (hx : RV P w (.ref i off) x) (ha : Agree h h1 x) (hl : off + s ≤ cs.length) :
    ∃ xs, rdAt h1 s x = some ((xs.drop off).take s) ∧ RVs P w cs xs := by
  obtain ⟨o, c, sh, e1, e2, e3, _, _⟩ := hs.box i t cs hb
  cases hx with
  | ref e =>
    rw [e1] at e
    simp only [Option.some.injEq, Lk.box.injEq] at e
    obtain ⟨rfl, rfl⟩ := e
    have hg1 : h1.get o = some (.cells 0 0 c 0 t true sh) := by rw [ha o (by simp [idsA])]; exact e2
    refine ⟨c, ?_, e3⟩
    simp only [rdAt, rdCells, hg1]
    rw [if_pos ⟨Nat.le_refl _, Nat.le_refl _, by rw [← e3.length]; exact hl⟩]
theorem arr_read (hs : SimH P w ob nx h) {i k off s : Nat} {t : TypeId} {rows : List (List AV)} {lent : Bool} {row : List AV} {x : AV} (hb : ob.get i = some (.arr t rows lent)) (hr : rows[k]? = some row) (hx : RV P w (.eref i k off) x) (ha : Agree h h1 x) (hl : off + s ≤ (lay P t).length) :
    ∃ row', RdRow P w (lay P t) row row' ∧ rdAt h1 s x = some ((row'.drop off).take s) := by
  obtain ⟨_, _, _, hd⟩ := hs.arr i t rows lent hb
  have hk : k < rows.length := by
    rcases Nat.lt_or_ge k rows.length with a | a
    · exact a
    · rw [List.getElem?_eq_none a] at hr; cases hr
  rcases hd with ⟨_, rfl⟩ | ⟨o, ver, mv, c, ex, sh, cap, e1, _, e2, e3, e4, e5, _⟩
  · simp at hk
  · cases hx with
    | eref e _ =>
      rw [e1] at e
      simp only [Option.some.injEq, Lk.sl.injEq] at e
      obtain ⟨rfl, rfl, rfl, rfl, rfl, rfl⟩ := e
      have hg1 : h1.get o = some (.cells ver mv c 0 t ex sh) := by rw [ha o (by simp [idsA])]; exact e2
      obtain ⟨row', q1, q2⟩ := e5.get k row hr
      rw [chunks_get _ _ _ hk] at q1
      simp only [Option.some.injEq] at q1; subst q1
      refine ⟨_, q2, ?_⟩
      have hmul : (k + 1) * (lay P t).length ≤ rows.length * (lay P t).length := Nat.mul_le_mul_right _ hk
      rw [Nat.add_mul] at hmul
      simp only [rdAt, rdCells, hg1]
      rw [if_pos ⟨e3, Nat.le_refl _, by omega⟩]
      rw [List.drop_take, List.take_take, List.drop_drop, Nat.min_eq_left (by omega)]
theorem one_of {xs : List AV} {off : Nat} {x : AV} (h : xs[off]? = some x) : (xs.drop off).take 1 = [x] := by
  have hlt : off < xs.length := by
    rcases Nat.lt_or_ge off xs.length with a | a
    · exact a
    · rw [List.getElem?_eq_none a] at h; cases h
  rw [List.getElem?_eq_getElem hlt] at h
  simp only [Option.some.injEq] at h; subst h
  rw [List.drop_eq_getElem_cons hlt]; rfl
variable {ρ : Type}
theorem load_ok {S : SSt} (hs : SimH P w S.ob S.nx h) {t : TypeId} {a : SV} {x : AV} (hx : RV P w a x) (ha : Agree h h1 x) {k : SV → Option ρ} {r : ρ} (hr : loadS P S t a k = some r) :
    ∃ v y, k v = some r ∧ aload P h1 t x = some y ∧ RV P w v y := by
  unfold loadS at hr
  split at hr
  · -- a box
    rename_i g s i off hg hsz
    split at hr
    · rename_i t' cs hb
      split at hr
      · rename_i hl
        cases g with
        | true =>
          obtain ⟨xs, e1, e2⟩ := box_read hs hb hx ha hl
          refine ⟨_, .agg ((xs.drop off).take s), hr, ?_, .agg ((e2.drop off).take s)⟩
          simp only [aload, hg, hsz, e1]; rfl
        | false =>
          simp only at hr
          split at hr
          · rename_i v hv
            have hlt : off + 1 ≤ cs.length := by
              rcases Nat.lt_or_ge off cs.length with a | a
              · exact a
              · rw [List.getElem?_eq_none a] at hv; cases hv
            obtain ⟨xs, e1, e2⟩ := box_read hs hb hx ha hlt
            obtain ⟨y, e3, e4⟩ := e2.get off v hv
            refine ⟨v, y, hr, ?_, e4⟩
            rw [one_of e3] at e1
            simp only [aload, hg, hsz, e1]
          · cases hr
      · cases hr
    · cases hr
  · -- data
    rename_i g s t' row off hg hsz
    split at hr
    · rename_i hl
      cases hx with
      | prow hp =>
        cases g with
        | true =>
          obtain ⟨row', q1, q2⟩ := hp.read hs ha hl
          refine ⟨_, .agg ((row'.drop off).take s), hr, ?_, .agg (rdRow_cells q1 off s)⟩
          simp only [aload, hg, hsz, q2]; rfl
        | false =>
          simp only at hr
          split at hr
          · rename_i l hv
            have hlt : off + 1 ≤ (lay P t').length := by
              rcases Nat.lt_or_ge off (lay P t').length with a | a
              · exact a
              · rw [List.getElem?_eq_none a] at hv; cases hv
            obtain ⟨row', q1, q2⟩ := hp.read hs ha hlt
            obtain ⟨c, y, q3, q4, q5⟩ := q1.get off l hv
            refine ⟨_, y, hr, ?_, leaf_ok q3 q5⟩
            rw [one_of q4] at q2
            simp only [aload, hg, hsz, q2]
          · cases hr
    · cases hr
  · -- an element of the function's own
    rename_i g s i j off hg hsz
    split at hr
    · rename_i t' rows lent hb
      unfold getn at hr
      split at hr
      · rename_i row hrow
        split at hr
        · rename_i hl
          cases g with
          | true =>
            obtain ⟨row', q1, q2⟩ := arr_read hs hb hrow hx ha hl
            refine ⟨_, .agg ((row'.drop off).take s), hr, ?_, .agg (rdRow_cells q1 off s)⟩
            simp only [aload, hg, hsz, q2]; rfl
          | false =>
            simp only at hr
            split at hr
            · rename_i l hv
              have hlt : off + 1 ≤ (lay P t').length := by
                rcases Nat.lt_or_ge off (lay P t').length with a | a
                · exact a
                · rw [List.getElem?_eq_none a] at hv; cases hv
              obtain ⟨row', q1, q2⟩ := arr_read hs hb hrow hx ha hlt
              obtain ⟨c, y, q3, q4, q5⟩ := q1.get off l hv
              refine ⟨_, y, hr, ?_, leaf_ok q3 q5⟩
              rw [one_of q4] at q2
              simp only [aload, hg, hsz, q2]
            · cases hr
        · cases hr
      · cases hr
    · cases hr
  · cases hr
end
end Go.AI
end

/-
  Slices of the function's own, handed out as data.
-/
section
namespace Go.AI
def Wd.more (w : Wd) (F : Nat → Prop) : Wd := { w with F := fun o => w.F o ∨ F o }
theorem Fle.more (w : Wd) (F : Nat → Prop) : Fle w (w.more F) := ⟨fun _ h => .inl h, fun _ _ v mv c fz el ex sh h => ⟨v, [], fz, el, ex, sh, by simpa [Wd.more] using h, Nat.le_refl _⟩⟩
def Ow (w : Wd) (ob : Tr SOb) (o : Nat) : Prop := ∃ i k, live ob i ∧ w.s i = some k ∧ k.obj = some o
theorem Fle.imp {w w' : Wd} (hg : w'.g = w.g) (hF : ∀ o, w.F o → w'.F o) : Fle w w' := ⟨hF, fun _ _ v mv c fz el ex sh h => ⟨v, [], fz, el, ex, sh, by rw [hg]; simpa using h, Nat.le_refl _⟩⟩
section
variable {P : Program} {w : Wd} {ob : Tr SOb} {nx : Nat} {h : AHeap}
theorem live_put {i j : Nat} {x y : SOb} (hx : ob.get i = some x) (hg : x ≠ .gone) (hy : y ≠ .gone) : live (ob.put i y) j ↔ live ob j := by
  unfold live
  by_cases e : j = i
  · subst e; rw [Tr.get_put_same]; exact ⟨fun _ => ⟨x, hx, hg⟩, fun _ => ⟨y, rfl, hy⟩⟩
  · rw [Tr.get_put_other _ _ e]
theorem RVs.sameF {cs : List SV} {c : List AV} (F : Nat → Prop) (hr : RVs P w cs c) : RVs P (w.more F) cs c := hr.mono (Fle.more w F) fun _ _ e => e
theorem lend_arr (hs : SimH P w ob nx h) {i : Nat} {t : TypeId} {rows : List (List AV)} {lent : Bool} (hi : ob.get i = some (.arr t rows lent)) :
    ∃ F, SimH P (w.more F) (ob.put i (.arr t rows true)) nx h ∧ (∀ o, F o → Ow w ob o) ∧ ∀ x, RV P w (.own i) x → Rd P (w.more F) t rows x := by
  have hli : live ob i := ⟨_, hi, by simp⟩
  have hlv : ∀ j, live (ob.put i (.arr t rows true)) j ↔ live ob j := fun j => live_put hi (by simp) (by simp)
  obtain ⟨a1, a2, a3, a4⟩ := hs.arr i t rows lent hi
  have hother : ∀ j, j ≠ i → ∀ k o, live ob j → w.s j = some k → k.obj = some o → ∀ k', w.s i = some k' → k'.obj ≠ some o := fun j hj k o hl h1 h2 k' h3 h4 => hj (hs.inj j i k k' o hl hli h1 h3 h2 h4)
  refine ⟨fun o => ∃ k, w.s i = some k ∧ k.obj = some o, ⟨hs.g, ?_, ?_, ?_, ?_, hs.lt, ?_, ?_, hs.new⟩, fun o ⟨k, h1, h2⟩ => ⟨i, k, hli, h1, h2⟩, ?_⟩
  · intro j t' cs hj
    by_cases e : j = i
    · subst e; rw [Tr.get_put_same] at hj; cases hj
    · rw [Tr.get_put_other _ _ e] at hj
      obtain ⟨o, c, sh, b1, b2, b3, b4, b5⟩ := hs.box j t' cs hj
      refine ⟨o, c, sh, b1, b2, b3.sameF _, b4, ?_⟩
      rintro (h1 | ⟨k, h1, h2⟩)
      · exact b5 h1
      · exact hother j e _ o ⟨_, hj, by simp⟩ b1 rfl k h1 h2
  · intro j t' rows' lent' hj
    by_cases e : j = i
    · subst e
      rw [Tr.get_put_same] at hj
      simp only [Option.some.injEq, SOb.arr.injEq] at hj
      obtain ⟨rfl, rfl, rfl⟩ := hj
      refine ⟨a1, a2, a3, ?_⟩
      rcases a4 with ⟨q1, q2⟩ | ⟨o, ver, mv, c, ex, sh, cap, q1, q2, q3, q4, q5, q6, q7, q8⟩
      · exact .inl ⟨q1, q2⟩
      · exact .inr ⟨o, ver, mv, c, ex, sh, cap, q1, q2, q3, q4, q5, q6.mono (Fle.more w _), fun _ => trivial, fun e => by cases e⟩
    · rw [Tr.get_put_other _ _ e] at hj
      obtain ⟨b1, b2, b3, b4⟩ := hs.arr j t' rows' lent' hj
      refine ⟨b1, b2, b3, ?_⟩
      rcases b4 with ⟨q1, q2⟩ | ⟨o, ver, mv, c, ex, sh, cap, q1, q2, q3, q4, q5, q6, q7, q8⟩
      · exact .inl ⟨q1, q2⟩
      · refine .inr ⟨o, ver, mv, c, ex, sh, cap, q1, q2, q3, q4, q5, q6.mono (Fle.more w _), q7, fun e2 => ?_⟩
        rintro (h1 | ⟨k, h1, h2⟩)
        · exact q8 e2 h1
        · exact hother j e _ o ⟨_, hj, by simp⟩ q1 rfl k h1 h2
  · intro j s lent' hj
    by_cases e : j = i
    · subst e; rw [Tr.get_put_same] at hj; cases hj
    · rw [Tr.get_put_other _ _ e] at hj
      obtain ⟨qb, q⟩ := hs.byt j s lent' hj
      refine ⟨qb, ?_⟩
      rcases q with q | ⟨o, ver, mv, ex, fz, cap, q0, q1, q2, q3, q4, q5, q7⟩
      · exact .inl q
      · refine .inr ⟨o, ver, mv, ex, fz, cap, q0, q1, q2, q3, q4, q5, ?_⟩
        rintro (h1 | ⟨k, h1, h2⟩)
        · exact q7 h1
        · exact hother j e _ o ⟨_, hj, by simp⟩ q1 rfl k h1 h2
  · intro j j' k l o h1 h2 h3 h4 h5 h6
    exact hs.inj j j' k l o ((hlv j).1 h1) ((hlv j').1 h2) h3 h4 h5 h6
  · intro j hj
    obtain ⟨b1, b2⟩ := hs.nx j hj
    refine ⟨b1, ?_⟩
    by_cases e : j = i
    · subst e; rw [hi] at b2; cases b2
    · rw [Tr.get_put_other _ _ e]; exact b2
  · rintro o (h1 | ⟨k, h1, h2⟩)
    · exact hs.frz o h1
    · refine ⟨hs.lt i k o h1 h2, ?_⟩
      rcases a4 with ⟨q1, q2⟩ | ⟨o', ver, mv, c, ex, sh, cap, q1, q2, q3, q4, q5, q6, q7, q8⟩
      · rw [q1] at h1; cases h1; cases h2
      · rw [q1] at h1; cases h1; cases h2; rw [q3]; simp
  · intro x hx
    rcases a4 with ⟨q1, rfl⟩ | ⟨o, ver, mv, c, ex, sh, cap, q1, q2, q3, q4, q5, q6, q7, q8⟩
    · cases hx with
      | ownNil _ => exact .nil t
      | ownSl e => rw [q1] at e; cases e
    · cases hx with
      | ownNil e => rw [q1] at e; cases e
      | ownSl e =>
        rw [q1] at e
        simp only [Option.some.injEq, Lk.sl.injEq] at e
        obtain ⟨rfl, rfl, rfl, rfl, rfl, rfl⟩ := e
        refine .sl a1 a2 (.inr ⟨_, q1, rfl⟩) (by show w.g o = _; rw [hs.g]; exact q3) q4 (Nat.le_refl _) (by omega) (by omega) (fun k e => by rw [q2 k e]; exact Nat.le_refl _) ?_
        rw [List.drop_zero]
        exact q6.mono (Fle.more w _)
structure LendR (ob ob' : Tr SOb) : Prop where
  box : ∀ i t cs, ob'.get i = some (.box t cs) ↔ ob.get i = some (.box t cs)
  arr : ∀ i t rows l, ob.get i = some (.arr t rows l) → ∃ l', ob'.get i = some (.arr t rows l') ∧ (l = true → l' = true)
  arr' : ∀ i t rows l, ob'.get i = some (.arr t rows l) → ∃ l', ob.get i = some (.arr t rows l')
  byt : ∀ i s l, ob'.get i = some (.byt s l) ↔ ob.get i = some (.byt s l)
  live : ∀ i, live ob' i ↔ live ob i
theorem LendR.refl (ob : Tr SOb) : LendR ob ob := ⟨fun _ _ _ => Iff.rfl, fun _ _ _ l h => ⟨l, h, id⟩, fun _ _ _ l h => ⟨l, h⟩, fun _ _ _ => Iff.rfl, fun _ => Iff.rfl⟩
theorem LendR.trans {a b c : Tr SOb} (h : LendR a b) (h' : LendR b c) : LendR a c :=
  ⟨fun i t cs => (h'.box i t cs).trans (h.box i t cs), fun i t rows l e => let ⟨l1, e1, q1⟩ := h.arr i t rows l e; let ⟨l2, e2, q2⟩ := h'.arr i t rows l1 e1; ⟨l2, e2, fun e => q2 (q1 e)⟩,
   fun i t rows l e => let ⟨l1, e1⟩ := h'.arr' i t rows l e; h.arr' i t rows l1 e1, fun i s l => (h'.byt i s l).trans (h.byt i s l), fun i => (h'.live i).trans (h.live i)⟩
theorem lendR_arr {i : Nat} {t : TypeId} {rows : List (List AV)} {lent : Bool} (hi : ob.get i = some (.arr t rows lent)) : LendR ob (ob.put i (.arr t rows true)) := by
  refine ⟨?_, ?_, ?_, ?_, fun j => live_put hi (by simp) (by simp)⟩ <;> intro j <;> by_cases e : j = i
  · subst e; simp [Tr.get_put_same, hi]
  · simp [Tr.get_put_other _ _ e]
  · subst e; intro t' r' l' h'; rw [hi] at h'; cases h'; exact ⟨true, by rw [Tr.get_put_same], fun _ => rfl⟩
  · intro t' r' l' h'; exact ⟨l', by rw [Tr.get_put_other _ _ e]; exact h', id⟩
  · subst e; intro t' r' l' h'; rw [Tr.get_put_same] at h'; cases h'; exact ⟨_, hi⟩
  · intro t' r' l' h'; rw [Tr.get_put_other _ _ e] at h'; exact ⟨_, h'⟩
  · subst e; intro s l; simp [Tr.get_put_same, hi]
  · intro s l; rw [Tr.get_put_other _ _ e]
theorem lend_ok (hs : SimH P w ob nx h) : ∀ (vs : List SV), ∃ F, SimH P (w.more F) (lend ob vs) nx h ∧ LendR ob (lend ob vs) ∧ (∀ o, F o → Ow w ob o) ∧ ∀ i, SV.own i ∈ vs → ∀ t rows l x, ob.get i = some (.arr t rows l) → RV P w (.own i) x → Rd P (w.more F) t rows x := by
  intro vs
  induction vs generalizing ob w with
  | nil => exact ⟨fun _ => False, by simpa [Wd.more, lend] using hs, .refl ob, fun _ f => f.elim, fun i hi => by cases hi⟩
  | cons v vs ih =>
    have other : (∀ i, v ≠ .own i) → lend ob (v :: vs) = lend ob vs →
        ∃ F, SimH P (w.more F) (lend ob (v :: vs)) nx h ∧ LendR ob (lend ob (v :: vs)) ∧ (∀ o, F o → Ow w ob o) ∧ ∀ i, SV.own i ∈ v :: vs → ∀ t rows l x, ob.get i = some (.arr t rows l) → RV P w (.own i) x → Rd P (w.more F) t rows x := fun hv e => by
      obtain ⟨F, h1, h2, h4, h3⟩ := ih hs
      refine ⟨F, by rw [e]; exact h1, by rw [e]; exact h2, h4, fun i hi => ?_⟩
      rcases List.mem_cons.1 hi with e | hi
      · exact absurd e.symm (hv i)
      · exact h3 i hi
    cases v with
    | own i =>
      simp only [lend]
      cases hb : ob.get i with
      | none =>
        obtain ⟨F, h1, h2, h4, h3⟩ := ih hs
        refine ⟨F, h1, h2, h4, fun j hj => ?_⟩
        rcases List.mem_cons.1 hj with e | hj
        · cases e; intro t rows l x e; rw [hb] at e; cases e
        · exact h3 j hj
      | some y =>
        cases y with
        | arr t rows l =>
          obtain ⟨F1, q1, q3, q2⟩ := lend_arr hs hb
          obtain ⟨F, h1, h2, h4, h3⟩ := ih q1
          have hm : (w.more F1).more F = w.more fun o => F1 o ∨ F o := by simp [Wd.more, or_assoc]
          refine ⟨fun o => F1 o ∨ F o, by rw [← hm]; exact h1, (lendR_arr hb).trans h2, fun o f => f.elim (q3 o) fun f => by obtain ⟨j, k, e1, e2, e3⟩ := h4 o f; exact ⟨j, k, ((lendR_arr hb).live j).1 e1, e2, e3⟩, fun j hj t' rows' l' x e hx => ?_⟩
          rw [← hm]
          rcases List.mem_cons.1 hj with e2 | hj
          · cases e2
            rw [hb] at e; cases e
            exact (q2 x hx).mono (Fle.more _ _)
          · obtain ⟨l2, e3, _⟩ := (lendR_arr hb).arr j t' rows' l' e
            exact h3 j hj t' rows' l2 x e3 (hx.mono (Fle.more _ _) fun _ _ e => e)
        | box t cs =>
          obtain ⟨F, h1, h2, h4, h3⟩ := ih hs
          refine ⟨F, h1, h2, h4, fun j hj => ?_⟩
          rcases List.mem_cons.1 hj with e | hj
          · cases e; intro t rows l x e; rw [hb] at e; cases e
          · exact h3 j hj
        | byt s t =>
          obtain ⟨F, h1, h2, h4, h3⟩ := ih hs
          refine ⟨F, h1, h2, h4, fun j hj => ?_⟩
          rcases List.mem_cons.1 hj with e | hj
          · cases e; intro t rows l x e; rw [hb] at e; cases e
          · exact h3 j hj
        | gone =>
          obtain ⟨F, h1, h2, h4, h3⟩ := ih hs
          refine ⟨F, h1, h2, h4, fun j hj => ?_⟩
          rcases List.mem_cons.1 hj with e | hj
          · cases e; intro t rows l x e; rw [hb] at e; cases e
          · exact h3 j hj
    | _ => exact other (fun i e => by cases e) rfl
theorem asData_ok {F : Nat → Prop} {vs : List SV} {v : SV} (hv : v ∈ vs) (h3 : ∀ i, SV.own i ∈ vs → ∀ t rows l x, ob.get i = some (.arr t rows l) → RV P w (.own i) x → Rd P (w.more F) t rows x)
    {t : TypeId} {rows : List (List AV)} {x : AV} (hd : asData ob t v = some rows) (hx : RV P w v x) : Rd P (w.more F) t rows x := by
  unfold asData at hd
  split at hd
  · split at hd
    · rename_i e; subst e
      simp only [Option.some.injEq] at hd; subst hd
      cases hx with
      | dl hr => exact hr.mono (Fle.more _ _)
    · cases hd
  · simp only [Option.some.injEq] at hd; subst hd
    cases hx; exact .nil t
  · rename_i i
    split at hd
    · rename_i t' r l hb
      split at hd
      · rename_i e; subst e
        simp only [Option.some.injEq] at hd; subst hd
        exact h3 i hv _ _ _ _ hb hx
      · cases hd
    · cases hd
  · cases hd
end
end Go.AI
end

/-
  Operations that change nothing.
-/
section
namespace Go.AI
theorem Wd.more_false (w : Wd) : w.more (fun _ => False) = w := by cases w; simp [Wd.more]
section
variable {P : Program} {w : Wd} {h h1 : AHeap} {ρ : Type}
def PureR (P : Program) (w : Wd) (h h1 : AHeap) (S : SSt) (k : SV → SSt → Option ρ) (r : ρ) (res : Option (ANext × AHeap)) : Prop :=
  ∃ F ob, SimH P (w.more F) ob S.nx h ∧ LendR S.ob ob ∧ (∀ o, F o → Ow w S.ob o) ∧ ∃ v y, k v { S with ob := ob } = some r ∧ res = some (.val y, h1) ∧ RV P (w.more F) v y
theorem PureR.one {S : SSt} (hs : SimH P w S.ob S.nx h) {k : SV → SSt → Option ρ} {r : ρ} {res : Option (ANext × AHeap)} {v : SV} {y : AV} (hr : k v S = some r) (he : res = some (.val y, h1)) (hv : RV P w v y) : PureR P w h h1 S k r res :=
  ⟨fun _ => False, S.ob, by rw [Wd.more_false]; exact hs, .refl _, fun _ f => f.elim, v, y, hr, he, by rw [Wd.more_false]; exact hv⟩
theorem fieldAddr_ok {t : TypeId} {a v : SV} {x : AV} {f : Nat} (hx : RV P w a x) (he : fieldAddrS P t a f = some v) : ∃ y, afieldAddr P t x f = some y ∧ RV P w v y := by
  unfold fieldAddrS at he
  split at he
  · rename_i fields hu
    split at he
    · rename_i fd hf
      split at he
      · rename_i n i off hz
        simp only [Option.some.injEq] at he; subst he
        cases hx with
        | ref e => exact ⟨_, by simp only [afieldAddr, hu, hf, hz], .ref e⟩
      · rename_i n t' row off hz
        simp only [Option.some.injEq] at he; subst he
        cases hx with
        | prow hp =>
          cases hp with
          | pref q => exact ⟨_, by simp only [afieldAddr, hu, hf, hz]; rw [List.drop_drop], .prow (.pref q)⟩
          | ref a b c d e f g => exact ⟨_, by simp only [afieldAddr, hu, hf, hz]; rw [Nat.add_assoc], .prow (.ref a b c d e f g)⟩
      · rename_i n i j off hz
        simp only [Option.some.injEq] at he; subst he
        cases hx with
        | eref e hk => exact ⟨_, by simp only [afieldAddr, hu, hf, hz]; rw [Nat.add_assoc], .eref e hk⟩
      · cases he
    · cases he
  · cases he
theorem field_ok {t : TypeId} {a v : SV} {x : AV} {f : Nat} (hx : RV P w a x) (he : fieldS P t a f = some v) : ∃ y, afield P t x f = some y ∧ RV P w v y := by
  unfold fieldS at he
  split at he
  · rename_i fields cs hu
    cases hx with
    | agg hc =>
      rename_i xs
      split at he
      · rename_i fd hf
        split at he
        · rename_i s hg hz
          split at he
          · simp only [Option.some.injEq] at he; subst he
            exact ⟨_, by simp only [afield, hu, hf, apart, hg, hz], .agg ((hc.drop _).take _)⟩
          · cases he
        · rename_i s hg hz
          obtain ⟨y, e1, e2⟩ := hc.get _ _ he
          refine ⟨y, ?_, e2⟩
          simp only [afield, hu, hf, apart, hg, hz]
          rw [List.head?_drop]; exact e1
        · cases he
      · cases he
  · cases he
theorem abin_int {op : BinOp} {t : TypeId} {xo yo : Operand} {kd : IntKind} {a b : Int} {k : SV → Option ρ} {r : ρ} (hr : intK op kd a b k = some r) : ∃ v, plainV v = true ∧ k (.sc v) = some r ∧ abin P op t xo yo (.sc (.int kd a)) (.sc (.int kd b)) = some (.sc v) := by
  have hd : ∀ {x : SV}, (match decide (b = 0) with | true => none | false => k x) = some r → b ≠ 0 ∧ k x = some r := by
    intro x e
    split at e
    · cases e
    · rename_i hb; exact ⟨by simpa using hb, e⟩
  cases op <;> simp only [intK] at hr <;> try (cases hr; done)
  case quo =>
    obtain ⟨hb, hr⟩ := hd hr
    refine ⟨_, rfl, hr, ?_⟩
    simp only [abin, toVal, toVal1]
    show (peel P (Go.binOp .quo t (.int kd a) (.int kd b))).map ofVal = _
    simp only [Go.binOp, ne_eq, not_true_eq_false, if_false, Op.intDiv, if_neg hb]
    rfl
  case rem =>
    obtain ⟨hb, hr⟩ := hd hr
    refine ⟨_, rfl, hr, ?_⟩
    simp only [abin, toVal, toVal1]
    show (peel P (Go.binOp .rem t (.int kd a) (.int kd b))).map ofVal = _
    simp only [Go.binOp, ne_eq, not_true_eq_false, if_false, Op.intDiv, if_neg hb]
    rfl
  all_goals
    refine ⟨_, rfl, hr, ?_⟩
    simp only [abin, toVal, toVal1]
    first
      | rfl
      | (cases kd <;> rfl)
theorem abin_str {op : BinOp} {t : TypeId} {xo yo : Operand} {a b : ByteArray} {k : SV → Option ρ} {r : ρ} (hr : strK op a b k = some r) : ∃ v, plainV v = true ∧ k (.sc v) = some r ∧ abin P op t xo yo (.sc (.string a)) (.sc (.string b)) = some (.sc v) := by
  cases op <;> simp only [strK] at hr <;> try (cases hr; done)
  case add =>
    unfold scat at hr
    split at hr
    · cases hr
    · rename_i hd
      refine ⟨_, rfl, hr, ?_⟩
      simp only [abin, toVal, toVal1]
      show (peel P (Op.stringOp .add a b)).map ofVal = _
      simp only [decide_eq_false_iff_not] at hd
      simp only [Op.stringOp, if_neg hd]
      rfl
  all_goals exact ⟨_, rfl, hr, rfl⟩
theorem peel_bind {α β : Type} (P : Program) : ∀ (m : Sem α) (f : α → Sem β), peel P (m >>= f) = (peel P m).bind fun a => peel P (f a)
  | .pure a, f => rfl
  | .program k, f => peel_bind P (k P) f
  | .mark m k, f => peel_bind P k f
  | .load _ _ _, f => rfl
  | .store _ _ _ _, f => rfl
  | .new _ _, f => rfl
  | .shape _ _, f => rfl
  | .freeze _ _ _, f => rfl
  | .frozen _ _, f => rfl
  | .getObj _ _, f => rfl
  | .setObj _ _ _, f => rfl
  | .choose _ _, f => rfl
  | .sys _ _, f => rfl
  | .halt _, f => rfl
theorem peel_und {t : TypeId} {d : TypeDesc} (hu : P.underlying t = some d) : peel P (underlying t) = some d := by
  unfold underlying
  rw [peel_bind]
  show (some P).bind _ = _
  simp only [Option.bind_some, hu]
  rfl
theorem equal_bool {t : TypeId} {a b : Bool} (hu : P.underlying t = some .bool) : peel P (Op.equal t (.bool a) (.bool b)) = some (a == b) := by
  unfold Op.equal Op.maxDepth
  rw [show (10000 : Nat) = 9999 + 1 from rfl, Op.equalIn, peel_bind, peel_und hu]
  rfl
theorem equal_nil {t e : TypeId} (hu : P.underlying t = some (.pointer e)) : peel P (Op.equal t (.pointer none) (.pointer none)) = some true := by
  unfold Op.equal Op.maxDepth
  rw [show (10000 : Nat) = 9999 + 1 from rfl, Op.equalIn, peel_bind, peel_und hu]
  rfl
theorem abin_bool {op : BinOp} {t : TypeId} {xo yo : Operand} {a b : Bool} (hu : P.underlying t = some .bool) :
    (op = .eql → abin P op t xo yo (.sc (.bool a)) (.sc (.bool b)) = some (.sc (.bool (a == b)))) ∧ (op = .neq → abin P op t xo yo (.sc (.bool a)) (.sc (.bool b)) = some (.sc (.bool !(a == b)))) := by
  constructor <;> rintro rfl <;> simp only [abin, toVal, toVal1]
  · show (peel P (Op.equal t (.bool a) (.bool b) >>= fun x => pure (Value.bool x))).map ofVal = _
    rw [peel_bind, equal_bool hu]; rfl
  · show (peel P (Op.equal t (.bool a) (.bool b) >>= fun x => pure (Value.bool (!x)))).map ofVal = _
    rw [peel_bind, equal_bool hu]; rfl
theorem abin_nil {op : BinOp} {t e : TypeId} {xo yo : Operand} (hu : P.underlying t = some (.pointer e)) :
    (op = .eql → abin P op t xo yo (.sc (.pointer none)) (.sc (.pointer none)) = some (.sc (.bool true))) ∧ (op = .neq → abin P op t xo yo (.sc (.pointer none)) (.sc (.pointer none)) = some (.sc (.bool false))) := by
  constructor <;> rintro rfl <;> simp only [abin, toVal, toVal1]
  · show (peel P (Op.equal t (.pointer none) (.pointer none) >>= fun x => pure (Value.bool x))).map ofVal = _
    rw [peel_bind, equal_nil hu]; rfl
  · show (peel P (Op.equal t (.pointer none) (.pointer none) >>= fun x => pure (Value.bool (!x)))).map ofVal = _
    rw [peel_bind, equal_nil hu]; rfl
theorem eqS_ok {op : BinOp} {t : TypeId} {xo yo : Operand} {a b : SV} {x y : AV} {e : Bool} (hx : RV P w a x) (hy : RV P w b y) (he : eqS P t a b = some e) :
    (op = .eql → abin P op t xo yo x y = some (.sc (.bool e))) ∧ (op = .neq → abin P op t xo yo x y = some (.sc (.bool !e))) := by
  unfold eqS at he
  split at he
  · rename_i el t' r hu
    split at he
    · rename_i r0 rs
      simp only [Option.some.injEq] at he; subst he
      cases hy
      cases hx with
      | dl hr =>
        cases hr with
        | isl h1 h2 hrs =>
          cases hrs with
          | cons q1 q2 =>
            constructor <;> rintro rfl <;> simp [abin, toVal, toVal1, aeq, hu, nilType, nilOf]
        | sl _ _ _ _ _ _ _ _ _ _ => constructor <;> rintro rfl <;> simp [abin, toVal, toVal1, aeq, hu, nilType, nilOf]
    · cases he
  · rename_i i off e' hu
    simp only [Option.some.injEq] at he; subst he
    cases hx with
    | ref e1 => cases hy; constructor <;> rintro rfl <;> simp [abin, toVal, toVal1, aeq, hu, nilType, nilOf]
  · rename_i i off b' e' hu
    simp only [Option.some.injEq] at he; subst he
    cases hy
    cases hx with
    | optT h1 h2 => cases h1 with
      | ref e1 => constructor <;> rintro rfl <;> simp [abin, toVal, toVal1, aeq, hu, nilType, nilOf]
    | optF => exact abin_nil hu
  · rename_i i o j o' e' hu
    split at he
    · rename_i n hz hij
      obtain rfl := Nat.eq_of_beq_eq_true hij
      simp only [Option.some.injEq] at he; subst he
      cases hx with
      | ref e1 => cases hy with
        | ref e2 =>
          rw [e1] at e2
          simp only [Option.some.injEq, Lk.box.injEq] at e2
          obtain ⟨rfl, rfl⟩ := e2
          constructor <;> rintro rfl <;> simp [abin, toVal, toVal1, aeq, hu, nilType, nilOf, hz]
    · cases he
  · cases he
theorem binK_ok {op : BinOp} {t : TypeId} {xo yo : Operand} {a b : SV} {x y : AV} {k : SV → Option ρ} {r : ρ} (hx : RV P w a x) (hy : RV P w b y) (hr : binK P op t a b k = some r) :
    ∃ v, plainV v = true ∧ k (.sc v) = some r ∧ abin P op t xo yo x y = some (.sc v) := by
  unfold binK at hr
  split at hr
  · split at hr
    · rename_i e; subst e
      cases hx; cases hy
      exact abin_int hr
    · cases hr
  · cases hx; cases hy; exact abin_str hr
  · cases hx; cases hy
    split at hr
    · rename_i hb; exact ⟨_, rfl, hr, (abin_bool (by simpa using hb)).1 rfl⟩
    · rename_i hb; exact ⟨_, rfl, hr, (abin_bool (by simpa using hb)).2 rfl⟩
    · cases hr
  · rename_i bb i o j o'
    cases bb with
    | false => simp only [sIte] at hr; cases hr
    | true =>
      simp only [sIte] at hr
      cases hx with
      | optT h1 _ =>
        split at hr
        · rename_i b' he; exact ⟨_, rfl, hr, (eqS_ok h1 hy he).1 rfl⟩
        · rename_i b' he; exact ⟨_, rfl, hr, (eqS_ok h1 hy he).2 rfl⟩
        · cases hr
  · split at hr
    · split at hr
      · rename_i b' he; exact ⟨_, rfl, hr, (eqS_ok hx hy he).1 rfl⟩
      · cases hr
    · split at hr
      · rename_i b' he; exact ⟨_, rfl, hr, (eqS_ok hx hy he).2 rfl⟩
      · cases hr
    · cases hr
end
end Go.AI
end

/-
  Operations that change nothing: slices, texts, conversions.
-/
section
namespace Go.AI
section
variable {P : Program} {w : Wd} {h h1 : AHeap} {ρ : Type}
theorem geti_ok {α : Type} {l : List α} {n : Int} {k : α → Option ρ} {r : ρ} (h : geti l n k = some r) : 0 ≤ n ∧ ∃ x, l[n.toNat]? = some x ∧ k x = some r := by
  unfold geti at h
  split at h
  · rename_i hn
    split at h
    · rename_i x hx; exact ⟨by simpa using hn, x, hx, h⟩
    · cases h
  · cases h
theorem natOfA_int {kd : IntKind} {n : Int} (h : 0 ≤ n) : natOfA (.sc (.int kd n)) = some n.toNat := by simp [natOfA, h]
theorem lt_of_get {α : Type} {l : List α} {i : Nat} {x : α} (h : l[i]? = some x) : i < l.length := by
  rcases Nat.lt_or_ge i l.length with a | a
  · exact a
  · rw [List.getElem?_eq_none a] at h; cases h
theorem indexAddr_ok {S : SSt} (hs : SimH P w S.ob S.nx h) {t : TypeId} {a i : SV} {x y : AV} {k : SV → Option ρ} {r : ρ} (hx : RV P w a x) (hi : RV P w i y) (hr : indexAddrS P S t a i k = some r) :
    ∃ v z, k v = some r ∧ aindexAddr P t x y = some z ∧ RV P w v z := by
  unfold indexAddrS at hr
  split at hr
  · rename_i e kd n hu
    cases hi
    split at hr
    · rename_i t' rows
      split at hr
      · rename_i et; subst et
        obtain ⟨hn, row, hrow, hr⟩ := geti_ok hr
        have hlt := lt_of_get hrow
        cases hx with
        | dl hd =>
          cases hd with
          | nil => simp at hrow
          | esl => simp at hrow
          | isl h1 h2 hrs =>
            obtain ⟨row', e1, e2⟩ := hrs.get _ _ hrow
            refine ⟨_, .pref row', hr, ?_, .prow (by have := Rp.pref (P := P) (w := w) (off := 0) e2; rwa [List.drop_zero] at this)⟩
            simp only [aindexAddr, hu, natOfA_int hn, h1, if_true, e1]
          | sl h1 h2 hF hg h3 h4 h5 h6 hcp hrs =>
            rename_i o ver m off v mv fz c el ex sh cap
            obtain ⟨row', e1, e2⟩ := hrs.get _ _ hrow
            rw [chunks_get _ _ _ hlt] at e1
            simp only [Option.some.injEq] at e1; subst e1
            rw [List.drop_drop] at e2
            have hmul : (n.toNat + 1) * (lay P t').length ≤ rows.length * (lay P t').length := Nat.mul_le_mul_right _ hlt
            rw [Nat.add_mul] at hmul
            refine ⟨_, .ref o ver m (off + n.toNat * (lay P t').length), hr, ?_, .prow (by have := Rp.ref (P := P) (w := w) (off := 0) (t := t') (row := row) (n := m) (p := off + n.toNat * (lay P t').length) hF hg h3 h4 (by omega) (by omega) e2; simpa using this)⟩
            simp only [aindexAddr, hu, natOfA_int hn, h1]
            rw [if_pos ⟨trivial, hlt⟩]
      · cases hr
    · rename_i j
      split at hr
      · rename_i t' rows lent hb
        split at hr
        · rename_i et; subst et
          obtain ⟨hn, row, hrow, hr⟩ := geti_ok hr
          have hlt := lt_of_get hrow
          obtain ⟨a1, a2, a3, a4⟩ := hs.arr _ _ _ _ hb
          cases hx with
          | ownNil e1 =>
            rcases a4 with ⟨_, rfl⟩ | ⟨o, ver, mv, c, ex, sh, cap, q, _⟩
            · simp at hrow
            · rw [e1] at q; cases q
          | ownSl e1 =>
            rcases a4 with ⟨q, _⟩ | ⟨o, ver, mv, c, ex, sh, cap, q, _⟩
            · rw [e1] at q; cases q
            · rw [e1] at q
              simp only [Option.some.injEq, Lk.sl.injEq] at q
              obtain ⟨rfl, rfl, rfl, rfl, rfl, rfl⟩ := q
              refine ⟨_, _, hr, ?_, .eref (off := 0) e1 hlt⟩
              simp only [aindexAddr, hu, natOfA_int hn, a1]
              rw [if_pos ⟨trivial, hlt⟩, Nat.zero_add, Nat.add_zero]
        · cases hr
      · cases hr
    · cases hr
  · rename_i len e kd n hu
    cases hi
    split at hr
    · rename_i s j off hz
      split at hr
      · rename_i hc
        cases hx with
        | ref e1 =>
          refine ⟨_, _, hr, ?_, .ref e1⟩
          simp only [aindexAddr, hu, natOfA_int hc.1, hz]
          rw [if_pos hc.2]
      · cases hr
    · cases hr
  · cases hr
theorem Rd.len {t : TypeId} {rows : List (List AV)} {x : AV} (hd : Rd P w t rows x) : lenA x = some rows.length ∧ isSl x = true := by
  cases hd with
  | nil => exact ⟨rfl, rfl⟩
  | esl => exact ⟨rfl, rfl⟩
  | isl h1 h2 hrs => exact ⟨by simp [lenA, hrs.length], rfl⟩
  | sl => exact ⟨rfl, rfl⟩
theorem own_len {ob : Tr SOb} {nx : Nat} (hs : SimH P w ob nx h) {i : Nat} {x : AV} (hx : RV P w (.own i) x) :
    (∀ t rows l, ob.get i = some (.arr t rows l) → lenA x = some rows.length ∧ isSl x = true) ∧ (∀ s l, ob.get i = some (.byt s l) → lenA x = some s.size ∧ isSl x = true) := by
  constructor
  · intro t rows l hb
    obtain ⟨_, _, _, a4⟩ := hs.arr _ _ _ _ hb
    cases hx with
    | ownNil e1 =>
      rcases a4 with ⟨_, rfl⟩ | ⟨o, ver, mv, c, ex, sh, cap, q, _⟩
      · exact ⟨rfl, rfl⟩
      · rw [e1] at q; cases q
    | ownSl e1 =>
      rcases a4 with ⟨q, _⟩ | ⟨o, ver, mv, c, ex, sh, cap, q, _⟩
      · rw [e1] at q; cases q
      · rw [e1] at q; simp only [Option.some.injEq, Lk.sl.injEq] at q
        obtain ⟨rfl, rfl, rfl, rfl, rfl, rfl⟩ := q
        exact ⟨rfl, rfl⟩
  · intro s l hb
    cases hx with
    | ownNil e1 =>
      rcases (hs.byt _ _ _ hb).2 with ⟨_, q⟩ | ⟨o, ver, mv, ex, fz, cap, _, q, _⟩
      · exact ⟨by simp [lenA, q], rfl⟩
      · rw [e1] at q; cases q
    | ownSl e1 =>
      rcases (hs.byt _ _ _ hb).2 with ⟨q, _⟩ | ⟨o, ver, mv, ex, fz, cap, _, q, _⟩
      · rw [e1] at q; cases q
      · rw [e1] at q; simp only [Option.some.injEq, Lk.sl.injEq] at q
        obtain ⟨rfl, rfl, rfl, rfl, rfl, rfl⟩ := q
        exact ⟨rfl, rfl⟩
theorem lenS_ok {S : SSt} (hs : SimH P w S.ob S.nx h) {a : SV} {x : AV} {n : Int} (hx : RV P w a x) (he : lenS S a = some n) : ∃ m : Nat, n = m ∧ lenA x = some m ∧ (isSl x = true ∨ ∃ s, x = .sc (.string s)) := by
  unfold lenS at he
  split at he
  · cases hx; cases he; exact ⟨0, rfl, rfl, .inl rfl⟩
  · cases hx with
    | dl hd => cases he; exact ⟨_, rfl, hd.len.1, .inl hd.len.2⟩
  · split at he
    · rename_i hb; cases he; have := (own_len hs hx).1 _ _ _ hb; exact ⟨_, rfl, this.1, .inl this.2⟩
    · rename_i hb; cases he; have := (own_len hs hx).2 _ _ hb; exact ⟨_, rfl, this.1, .inl this.2⟩
    · cases he
  · cases hx; cases he; exact ⟨_, rfl, rfl, .inr ⟨_, rfl⟩⟩
  · cases he
theorem subl_ok {α : Type} {l : List α} {lo hi : Int} {k : List α → Option ρ} {r : ρ} (h : subl l lo hi k = some r) : 0 ≤ lo ∧ lo ≤ hi ∧ hi ≤ l.length ∧ k ((l.drop lo.toNat).take (hi.toNat - lo.toNat)) = some r := by
  unfold subl at h
  split at h
  · rename_i hd; simp only [decide_eq_true_eq] at hd; exact ⟨hd.1, hd.2.1, hd.2.2, h⟩
  · cases h
theorem subs_ok {s : ByteArray} {lo hi : Int} {k : ByteArray → Option ρ} {r : ρ} (h : subs s lo hi k = some r) : 0 ≤ lo ∧ lo ≤ hi ∧ hi ≤ s.size ∧ k (s.extract lo.toNat hi.toNat) = some r := by
  unfold subs at h
  split at h
  · rename_i hd; simp only [decide_eq_true_eq] at hd; exact ⟨hd.1, hd.2.1, hd.2.2, h⟩
  · cases h
theorem chunks_sub {sz : Nat} : ∀ (n a b : Nat) (l : List AV), a + b ≤ n → ((chunks sz n l).drop a).take b = chunks sz b (l.drop (a * sz))
  | n, 0, 0, l, _ => by simp [chunks]
  | n, 0, b + 1, l, h => by
    obtain ⟨n, rfl⟩ : ∃ m, n = m + 1 := ⟨n - 1, by omega⟩
    simp only [chunks, List.drop_zero, List.take_succ_cons, Nat.zero_mul]
    have := chunks_sub (sz := sz) n 0 b (l.drop sz) (by omega)
    simp only [List.drop_zero, Nat.zero_mul] at this
    rw [this]
  | n, a + 1, b, l, h => by
    obtain ⟨n, rfl⟩ : ∃ m, n = m + 1 := ⟨n - 1, by omega⟩
    simp only [chunks, List.drop_succ_cons]
    rw [chunks_sub n a b (l.drop sz) (by omega), List.drop_drop, show sz + a * sz = (a + 1) * sz by rw [Nat.add_mul]; omega]
theorem Rd.slice {t e : TypeId} {rows : List (List AV)} {x : AV} (hd : Rd P w e rows x) (hu : P.underlying t = some (.slice e)) (hz : (sizeT P e).isSome) {lo hi : Option AV} {l u : Nat} (hlo : optNat lo 0 = some l) (hhi : optNat hi rows.length = some u) (h1 : l ≤ u) (h2 : u ≤ rows.length) :
    ∃ y, aslice P t x lo hi none = some y ∧ Rd P w e ((rows.drop l).take (u - l)) y := by
  obtain ⟨sz, hz⟩ := Option.isSome_iff_exists.1 hz
  cases hd with
  | nil =>
    obtain rfl : u = 0 := by simpa using h2
    obtain rfl : l = 0 := by omega
    refine ⟨.sc (.slice none 0 0), ?_, by simp; exact .nil _⟩
    simp only [List.length_nil] at hhi
    unfold aslice; simp only [hu, hz, hlo, hhi, Option.map_none]
  | esl =>
    obtain rfl : u = 0 := by simpa using h2
    obtain rfl : l = 0 := by omega
    refine ⟨.esl, ?_, by simp; exact .esl _⟩
    simp only [List.length_nil] at hhi
    unfold aslice; simp only [hu, hz, hlo, hhi, Option.map_none]
  | isl a1 a2 hrs =>
    rename_i rows'
    have hl := hrs.length
    rw [hl] at hhi h2
    refine ⟨_, ?_, .isl a1 a2 (hrs.sub l (u - l))⟩
    rw [hz] at a1; cases a1
    unfold aslice; simp only [hu, hz, hlo, hhi]
    rw [if_pos ⟨trivial, h1, h2⟩]
  | sl a1 a2 hF hg h3 h4 h5 h6 hcap hrs =>
    rename_i o ver n off v mv fz c el ex sh cap
    have hlen : ((rows.drop l).take (u - l)).length = u - l := by rw [List.length_take, List.length_drop]; omega
    have hm1 : l * (lay P e).length + (u - l) * (lay P e).length = u * (lay P e).length := by rw [← Nat.add_mul]; congr 1; omega
    have hm2 : u * (lay P e).length ≤ rows.length * (lay P e).length := Nat.mul_le_mul_right _ h2
    have hsub := hrs.sub l (u - l)
    rw [chunks_sub _ _ _ _ (by omega), List.drop_drop] at hsub
    have key : ∀ cap', (∀ k, cap' = some k → u - l ≤ k) → Rd P w e ((rows.drop l).take (u - l)) (.sl o ver n (off + l * (lay P e).length) (lay P e).length (u - l) cap') := by
      intro cap' hc'
      have := Rd.sl (P := P) (w := w) (t := e) (rows := (rows.drop l).take (u - l)) (ver := ver) (n := n) (off := off + l * (lay P e).length) (cap := cap') a1 a2 hF hg h3 h4 (by rw [hlen]; omega) (by rw [hlen]; omega) (fun k e => by rw [hlen]; exact hc' k e) (by rw [hlen]; exact hsub)
      rwa [hlen] at this
    have key0 : u = l → ∀ off' cap', off' ≤ off + l * (lay P e).length → Rd P w e ((rows.drop l).take (u - l)) (.sl o ver n off' (lay P e).length (u - l) cap') := by
      intro hul off' cap' ho
      have e0 : (rows.drop l).take (u - l) = [] := by subst hul; simp
      rw [e0, show u - l = ([] : List (List AV)).length by simp [hul]]
      exact .sl a1 a2 hF hg h3 h4 (by simp; omega) (by simp; omega) (fun k _ => by simp) (.nil _)
    rw [hz] at a1
    simp only [Option.some.injEq] at a1; subst a1
    cases cap with
    | some cp =>
      have hc0 := hcap cp rfl
      refine ⟨_, by unfold aslice; simp only [hu, hz, hlo, hhi, Option.map_none]; rw [if_pos ⟨trivial, h1, by omega, by omega⟩], ?_⟩
      by_cases hcl : cp = l
      · rw [if_pos hcl]; exact key0 (by omega) _ _ (by omega)
      · rw [if_neg hcl]; exact key _ fun k e => by simp only [Option.some.injEq] at e; omega
    | none =>
      unfold aslice; simp only [hu, hz, hlo, hhi, Option.map_none]
      rw [if_pos ⟨trivial, h1, h2⟩]
      by_cases hl0 : l = 0
      · subst hl0
        rw [if_pos rfl]
        have := key none (fun k e => by cases e)
        rw [Nat.zero_mul, Nat.add_zero] at this
        exact ⟨_, rfl, by simpa using this⟩
      · rw [if_neg hl0]
        by_cases hll : l < rows.length
        · rw [if_pos hll]; exact ⟨_, rfl, key none fun k e => by cases e⟩
        · rw [if_neg hll]
          have e0 : (rows.drop l).take (u - l) = [] := by rw [List.drop_eq_nil_of_le (by omega)]; simp
          rw [e0]
          exact ⟨_, rfl, .esl _⟩
end
end Go.AI
namespace Go.AI
section
variable {P : Program} {w : Wd} {h h1 : AHeap} {ρ : Type}
theorem bound_ok {v : SV} {x : AV} {n : Int} {d : Nat} (hx : RV P w v x) (hv : intS v = some n) (h0 : 0 ≤ n) : optNat (some x) d = some n.toNat := by
  unfold intS at hv
  split at hv
  · rename_i kd _; cases hx; cases hv; exact natOfA_int (kd := kd) h0
  · cases hv
theorem sliceS_ok {S : SSt} (hs : SimH P w S.ob S.nx h) {t : TypeId} {a : SV} {x : AV} {lo hi : Option SV} {lo' hi' : Option AV} {k : SV → SSt → Option ρ} {r : ρ} (hx : RV P w a x)
    (hlo : ∀ v, lo = some v → ∃ y, lo' = some y ∧ RV P w v y) (hlo0 : lo = none → lo' = none) (hhi : ∀ v, hi = some v → ∃ y, hi' = some y ∧ RV P w v y) (hhi0 : hi = none → hi' = none)
    (hr : sliceS P S t a lo hi none k = some r) :
    ∃ F ob, SimH P (w.more F) ob S.nx h ∧ LendR S.ob ob ∧ (∀ o, F o → Ow w S.ob o) ∧ ∃ v y, k v { S with ob := ob } = some r ∧ aslice P t x lo' hi' none = some y ∧ RV P (w.more F) v y := by
  unfold sliceS at hr
  split at hr
  · cases hr
  · rename_i l hl
    split at hr
    · cases hr
    · rename_i u hu
      have hL : 0 ≤ l → optNat lo' 0 = some l.toNat := by
        intro h0
        cases lo with
        | none => rw [hlo0 rfl]; simp only [Option.some.injEq] at hl; subst hl; rfl
        | some v => obtain ⟨y, rfl, hy⟩ := hlo v rfl; exact bound_ok hy hl h0
      have hU : ∀ d : Nat, (hi = none → u = d) → 0 ≤ u → optNat hi' d = some u.toNat := by
        intro d hd h0
        cases hi with
        | none => rw [hhi0 rfl, hd rfl]; simp [optNat]
        | some v => obtain ⟨y, rfl, hy⟩ := hhi v rfl; exact bound_ok hy hu h0
      split at hr
      · cases hr
      split at hr
      · rename_i e t' rows hund
        split at hr
        · rename_i et; obtain ⟨et, hsz⟩ := et; subst et
          obtain ⟨q1, q2, q3, q4⟩ := subl_ok hr
          cases hx with
          | dl hd =>
            obtain ⟨y, e1, e2⟩ := hd.slice hund hsz (hL q1) (hU rows.length (fun e => by subst e; simpa [lenS] using hu.symm) (by omega)) (by omega) (by omega)
            exact ⟨fun _ => False, S.ob, by rw [Wd.more_false]; exact hs, .refl _, fun _ f => f.elim, _, y, q4, e1, by rw [Wd.more_false]; exact .dl e2⟩
        · cases hr
      · rename_i e j hund
        split at hr
        · rename_i t' rows lent hb
          split at hr
          · rename_i et; obtain ⟨et, hsz⟩ := et; subst et
            obtain ⟨q1, q2, q3, q4⟩ := subl_ok hr
            obtain ⟨F, p1, p2, p4, p3⟩ := lend_ok hs [.own j]
            have hd := p3 j (by simp) _ _ _ _ hb hx
            obtain ⟨y, e1, e2⟩ := hd.slice hund hsz (hL q1) (hU rows.length (fun e => by subst e; simp only [lenS, hb] at hu; simpa using hu.symm) (by omega)) (by omega) (by omega)
            exact ⟨F, _, p1, p2, p4, _, y, q4, e1, .dl e2⟩
          · cases hr
        · cases hr
      · rename_i s hund
        obtain ⟨q1, q2, q3, q4⟩ := subs_ok hr
        cases hx
        exact ⟨fun _ => False, S.ob, by rw [Wd.more_false]; exact hs, .refl _, fun _ f => f.elim, _, _, q4, aslice_str hund (hL q1) (hU s.size (fun e => by subst e; simpa [lenS] using hu.symm) (by omega)) ⟨by omega, by omega⟩, by rw [Wd.more_false]; exact .sc rfl⟩
      · cases hr
end
end Go.AI
end

/-
  Operations that change nothing: conversions, structs; all of them.
-/
section
namespace Go.AI
section
variable {P : Program} {w : Wd} {h h1 : AHeap} {ρ : Type}
theorem conv_int {s d : TypeId} {ks kd k : IntKind} {n : Int} (hs : P.underlying s = some (.int ks)) (hd : P.underlying d = some (.int kd)) (hp : AHeap) : aconvert P hp s d (.sc (.int k n)) = some (.sc (.int kd (kd.wrap n)), hp) := by
  have e : peel P (convert s d (.int k n)) = some (.int kd (kd.wrap n)) := by
    unfold convert
    rw [peel_bind, peel_und hs]
    simp only [Option.bind_some]
    rw [peel_bind, peel_und hd]
    rfl
  unfold aconvert
  simp only [hs, hd, toVal, toVal1, e]
  rfl
theorem conv_str {s d : TypeId} {v : ByteArray} (hs : P.underlying s = some .string) (hd : P.underlying d = some .string) (hp : AHeap) : aconvert P hp s d (.sc (.string v)) = some (.sc (.string v), hp) := by
  have e : peel P (convert s d (.string v)) = some (.string v) := by
    unfold convert
    rw [peel_bind, peel_und hs]
    simp only [Option.bind_some]
    rw [peel_bind, peel_und hd]
    rfl
  unfold aconvert
  simp only [hs, hd, toVal, toVal1, e]
  rfl
theorem RVs.splice {cs new : List SV} {xs ys : List AV} (hc : RVs P w cs xs) (hn : RVs P w new ys) (off : Nat) : RVs P w (spliceS cs off new) (splice xs off ys) := by
  unfold spliceS AI.splice
  rw [hn.length]
  exact (hc.take off).append (hn.append (hc.drop _))
theorem okCs_append : ∀ {a b : List SV}, okCs a = true → okCs b = true → okCs (a ++ b) = true
  | [], _, _, h => h
  | x :: xs, b, h, h' => by simp only [okCs, Bool.and_eq_true, List.cons_append] at h ⊢; exact ⟨h.1, okCs_append h.2 h'⟩
theorem okCs_mem : ∀ {a : List SV}, okCs a = true ↔ ∀ x, x ∈ a → okC x = true
  | [] => by simp [okCs]
  | x :: xs => by simp [okCs, okCs_mem (a := xs)]
theorem okCs_sub {a b : List SV} (h : okCs a = true) (hs : ∀ x, x ∈ b → x ∈ a) : okCs b = true := okCs_mem.2 fun x hx => okCs_mem.1 h x (hs x hx)
theorem okCs_splice {cs new : List SV} (off : Nat) (h : okCs cs = true) (h' : okCs new = true) : okCs (spliceS cs off new) = true := by
  unfold spliceS
  exact okCs_append (okCs_sub h fun x hx => List.mem_of_mem_take hx) (okCs_append h' (okCs_sub h fun x hx => List.mem_of_mem_drop hx))
theorem notUnk {v : SV} (h : okCs (cellsS v) = true) : v ≠ .unk := by rintro rfl; simp [cellsS, okCs, okC] at h
def PtR (P : Program) (w : Wd) : List (Nat × SV) → List (Nat × AV) → Prop
  | [], [] => True
  | (i, v) :: ps, (j, x) :: qs => i = j ∧ RV P w v x ∧ PtR P w ps qs
  | _, _ => False
theorem PtR.map {e : Operand → SV} {ρ' : Operand → AV} : ∀ (l : List (Nat × Operand)), (∀ x, x ∈ l.map (·.2) → RV P w (e x) (ρ' x)) → PtR P w (l.map fun (i, x) => (i, e x)) (l.map fun (i, x) => (i, ρ' x))
  | [], _ => trivial
  | (i, x) :: l, h => ⟨rfl, h x (by simp), PtR.map l fun y hy => h y (by simp only [List.map_cons, List.mem_cons]; exact .inr hy)⟩
theorem fill_ok {place : Nat → Option (Nat × Nat)} : ∀ {ps : List (Nat × SV)} {qs : List (Nat × AV)} {cs cs' : List SV} {xs : List AV}, PtR P w ps qs → RVs P w cs xs → fillS place cs ps = some cs' → ∃ xs', afill place xs qs = some xs' ∧ RVs P w cs' xs'
  | [], [], cs, cs', xs, _, hc, he => by simp only [fillS, Option.some.injEq] at he; subst he; exact ⟨xs, rfl, hc⟩
  | (i, v) :: ps, (j, x) :: qs, cs, cs', xs, hp, hc, he => by
    obtain ⟨rfl, hv, hp⟩ := hp
    simp only [fillS] at he
    split at he
    · cases he
    · rename_i off size hpl
      split at he
      · rename_i hcnd
        have hcell := cellsS_ok hv (notUnk hcnd.2.2)
        obtain ⟨xs', e1, e2⟩ := fill_ok hp (hc.splice hcell off) he
        refine ⟨xs', ?_, e2⟩
        simp only [afill, hpl]
        rw [if_pos ⟨by rw [← hcell.length]; exact hcnd.1, by rw [← hcell.length, ← hc.length, hcnd.1]; exact hcnd.2.1, hcell.cells hcnd.2.2⟩]
        exact e1
      · cases he
  | [], _ :: _, _, _, _, hp, _, _ => hp.elim
  | _ :: _, [], _, _, _, hp, _, _ => hp.elim
theorem zero_cells (z : Value) : RVs P w (cellsS (ofV z)) (cellsA (ofVal z)) := by
  refine cellsS_ok (ofV_ok z) ?_
  cases z with
  | func fn a c => cases fn <;> simp [ofV] <;> split <;> simp
  | _ => simp [ofV]
theorem build_ok {t : TypeId} {ps : List (Nat × SV)} {qs : List (Nat × AV)} {v : SV} (hp : PtR P w ps qs) (he : buildS P t ps = some v) : ∃ y, abuild P t qs = some y ∧ RV P w v y := by
  unfold buildS at he
  split at he
  · rename_i it fields hi hu
    split at he
    · rename_i z places hz hpl
      cases hf : fillS (fun i => places[i]?) (cellsS (ofV z)) ps with
      | none => rw [hf] at he; cases he
      | some cs =>
        rw [hf] at he
        simp only [Option.map_some, Option.some.injEq] at he; subst he
        obtain ⟨xs, e1, e2⟩ := fill_ok hp (zero_cells z) hf
        refine ⟨.agg xs, ?_, .agg e2⟩
        simp only [abuild, hi, hu, hz, hpl, e1]; rfl
    · cases he
  · rename_i it n e hi hu
    split at he
    · rename_i z ie hz hie
      cases hf : fillS (fun i => some (i * ie.size, ie.size)) (cellsS (ofV z)) ps with
      | none => rw [hf] at he; cases he
      | some cs =>
        rw [hf] at he
        simp only [Option.map_some, Option.some.injEq] at he; subst he
        obtain ⟨xs, e1, e2⟩ := fill_ok hp (zero_cells z) hf
        refine ⟨.agg xs, ?_, .agg e2⟩
        simp only [abuild, hi, hu, hz, hie, e1]; rfl
    · cases he
  · cases he
theorem bytesOfA_bytesA (s : ByteArray) : bytesOfA (bytesA s) = some s.data.toList := by
  unfold bytesA
  induction s.data.toList with
  | nil => rfl
  | cons b bs ih =>
    simp only [List.map_cons, bytesOfA, ih, Option.map_some]
    congr 2
    simp
theorem own_bytes {ob : Tr SOb} {nx : Nat} (hs : SimH P w ob nx h) {i : Nat} {s : ByteArray} {l : TypeId} {x : AV} (hb : ob.get i = some (.byt s l)) (hx : RV P w (.own i) x) (ha : Agree h h1 x) : lenA x = some s.size ∧ isSl x = true ∧ firstA h1 1 s.size x = some (bytesA s) := by
  obtain ⟨q1, q2⟩ := (own_len hs hx).2 s l hb
  refine ⟨q1, q2, ?_⟩
  have hlen : (bytesA s).length = s.size := by simp [bytesA]
  cases hx with
  | ownNil e1 =>
    rcases (hs.byt _ _ _ hb).2 with ⟨_, q⟩ | ⟨o, ver, mv, ex, fz, cap, _, q, _⟩
    · simp only [firstA, q, if_true]
      have : bytesA s = [] := List.eq_nil_of_length_eq_zero (by omega)
      rw [this]
    · rw [e1] at q; cases q
  | ownSl e1 =>
    rcases (hs.byt _ _ _ hb).2 with ⟨q, _⟩ | ⟨o, ver, mv, ex, fz, cap, _, q, _, hg, hm, _⟩
    · rw [e1] at q; cases q
    · rw [e1] at q; simp only [Option.some.injEq, Lk.sl.injEq] at q
      obtain ⟨rfl, rfl, rfl, rfl, rfl, rfl⟩ := q
      rename_i o ver cap _ _ _
      have hg1 : h1.get o = some (.cells ver mv (bytesA s) fz l ex false) := by rw [ha o (by simp [idsA])]; exact hg
      simp only [firstA]
      rw [if_pos ⟨trivial, Nat.le_refl _⟩]
      simp only [rdCells, hg1]
      rw [if_pos ⟨hm, Nat.le_refl _, by omega⟩, List.drop_zero, Nat.mul_one, List.take_of_length_le (by omega)]
theorem conv_own {ob : Tr SOb} {nx : Nat} (hs : SimH P w ob nx h) {i : Nat} {s : ByteArray} {l : TypeId} {x : AV} {src dst e : TypeId} (hb : ob.get i = some (.byt s l)) (hx : RV P w (.own i) x) (ha : Agree h h1 x)
    (hu : P.underlying src = some (.slice e)) (he : isByte P e = true) (hd : P.underlying dst = some .string) : aconvert P h1 src dst x = some (.sc (.string s), h1) := by
  obtain ⟨q1, q2, q3⟩ := own_bytes hs hb hx ha
  have he' : P.underlying e = some (.int .u8) := by
    unfold isByte at he
    split at he
    · assumption
    · cases he
  unfold aconvert
  simp only [hu, hd, he', q1, q2, q3, bytesOfA_bytesA, Option.map_some]
theorem conv_ref {ob : Tr SOb} {nx : Nat} (hs : SimH P w ob nx h) {i off : Nat} {t' t u : TypeId} {cs : List SV} {x : AV} {src dst : TypeId} (hb : ob.get i = some (.box t' cs)) (hx : RV P w (.ref i off) x) (ha : Agree h h1 x) (hl : off + 1 ≤ cs.length) {n : Nat} :
    (P.underlying src = some (.pointer t) → P.underlying dst = some .unsafePointer → sizeT P t = some (n + 1) → aconvert P h1 src dst x = some (x, h1)) ∧
    (P.underlying src = some .unsafePointer → P.underlying dst = some (.pointer u) → sizeT P u = some (n + 1) → liesAt P P.depth t' (cs.length / P.cellsOf t') off u 1 = true → aconvert P h1 src dst x = some (x, h1)) := by
  obtain ⟨o, c, sh, e1, e2, e3, _, _⟩ := hs.box i t' cs hb
  cases hx with
  | ref e =>
    rw [e1] at e
    simp only [Option.some.injEq, Lk.box.injEq] at e
    obtain ⟨rfl, rfl⟩ := e
    have hg1 : h1.get o = some (.cells 0 0 c 0 t' true sh) := by rw [ha o (by simp [idsA])]; exact e2
    have hlc : off + 1 ≤ c.length := by rw [← e3.length]; exact hl
    have hrd : rdCells h1 o 0 c.length off 1 = some ((c.drop off).take 1) := by
      simp only [rdCells, hg1]
      rw [if_pos ⟨Nat.le_refl _, Nat.le_refl _, hlc⟩]
    constructor
    · intro hs hd hz
      unfold aconvert
      simp only [hs, hd, hz, hrd]
    · intro hs hd hz hli
      unfold aconvert
      simp only [hs, hd, hz, hrd, hg1]
      rw [e3.length] at hli
      rw [if_pos hli]
theorem sIte_ok {b : Bool} {x y : Option ρ} {r : ρ} (h : sIte b x y = some r) : (b = true ∧ x = some r) ∨ (b = false ∧ y = some r) := by
  cases b
  · exact .inr ⟨rfl, h⟩
  · exact .inl ⟨rfl, h⟩
variable {A : Ann} {R : SRec}
theorem cellOf_ok {ob : Tr SOb} {F : Nat → Prop} {vs : List SV} {v : SV} (hv : v ∈ vs) (h3 : ∀ i, SV.own i ∈ vs → ∀ t rows l x, ob.get i = some (.arr t rows l) → RV P w (.own i) x → Rd P (w.more F) t rows x)
    {l : Lf} {c x : AV} (hc : cellOf P ob l v = some c) (hx : RV P w v x) : RdC P (w.more F) l c x := by
  unfold cellOf at hc
  split at hc
  · split at hc
    · rename_i e; subst e; cases hc; cases hx; exact .int _ _
    · cases hc
  · cases hc; cases hx; exact .bool _
  · cases hc; cases hx; exact .str _
  · split at hc
    · rename_i e; subst e
      cases hz : sizeT P _ with
      | none => rw [hz] at hc; cases hc
      | some sz =>
        rw [hz] at hc; cases hc
        cases hx with
        | dl hr => exact .sl (hr.mono (Fle.more _ _))
    · cases hc
  · rename_i t
    cases hz : sizeT P t with
    | none => rw [hz] at hc; cases hc
    | some sz => rw [hz] at hc; cases hc; cases hx; exact .sl (.nil t)
  · rename_i t i
    split at hc
    · rename_i t' r l hb
      split at hc
      · rename_i e; subst e
        cases hz : sizeT P t with
        | none => rw [hz] at hc; cases hc
        | some sz => rw [hz] at hc; cases hc; exact .sl (h3 i hv _ _ _ _ hb hx)
      · cases hc
    · cases hc
  · cases hc
theorem rowOf_ok {ob : Tr SOb} {F : Nat → Prop} {us : List SV} (h3 : ∀ i, SV.own i ∈ us → ∀ t rows l x, ob.get i = some (.arr t rows l) → RV P w (.own i) x → Rd P (w.more F) t rows x) :
    ∀ {ls : List Lf} {vs : List SV} {xs row : List AV}, (∀ v, v ∈ vs → v ∈ us) → rowOf P ob ls vs = some row → RVs P w vs xs → RdRow P (w.more F) ls row xs
  | [], [], _, row, _, hr, .nil => by simp only [rowOf, Option.some.injEq] at hr; subst hr; exact .nil
  | l :: ls, v :: vs, _, row, hm, hr, .cons a b => by
    simp only [rowOf] at hr
    split at hr
    · rename_i c cs h1 h2
      simp only [Option.some.injEq] at hr; subst hr
      exact .cons (cellOf_ok (hm v (by simp)) h3 h1 a) (rowOf_ok h3 (fun u hu => hm u (by simp [hu])) h2 b)
    · cases hr
  | [], _ :: _, _, _, _, hr, _ => by simp [rowOf] at hr
  | _ :: _, [], _, _, _, hr, _ => by simp [rowOf] at hr
theorem rowsOf_ok {ob : Tr SOb} {F : Nat → Prop} {us : List SV} (h3 : ∀ i, SV.own i ∈ us → ∀ t rows l x, ob.get i = some (.arr t rows l) → RV P w (.own i) x → Rd P (w.more F) t rows x) {ls : List Lf} {s : Nat} :
    ∀ {n : Nat} {vs : List SV} {xs : List AV} {rows : List (List AV)}, (∀ v, v ∈ vs → v ∈ us) → rowsOf P ob ls s n vs = some rows → RVs P w vs xs → RdRows P (w.more F) ls rows (chunks s n xs) ∧ rows.length = n
  | 0, vs, xs, rows, _, hr, _ => by simp only [rowsOf, Option.some.injEq] at hr; subst hr; exact ⟨.nil _, rfl⟩
  | n + 1, vs, xs, rows, hm, hr, hx => by
    simp only [rowsOf] at hr
    split at hr
    · rename_i r rs h1 h2
      simp only [Option.some.injEq] at hr; subst hr
      obtain ⟨q1, q2⟩ := rowsOf_ok h3 (fun v hv => hm v (List.mem_of_mem_drop hv)) h2 (hx.drop s)
      exact ⟨.cons (rowOf_ok h3 (fun v hv => hm v (List.mem_of_mem_take hv)) h1 (hx.take s)) q1, by simp [q2]⟩
    · cases hr
theorem idxA_ok {el t : TypeId} {len : Nat} {cs : List SV} {xs : List AV} {n : Int} {kd : IntKind} {k : SV → Option ρ} {r : ρ} (hx : RVs P w cs xs) (hu : P.underlying t = some (.array len el)) (hr : idxA P el len cs n k = some r) :
    ∃ v y, k v = some r ∧ aindex P t (.agg xs) (.sc (.int kd n)) = some y ∧ RV P w v y := by
  unfold idxA at hr
  split at hr
  case h_2 => cases hr
  rename_i s g hz hg
  split at hr
  case h_2 => cases hr
  rename_i rows hsl hrows
  have hs := Nat.eq_of_beq_eq_true hsl
  obtain ⟨h0, row, hrow, hr⟩ := geti_ok hr
  obtain ⟨q1, q2⟩ := rowsOf_ok (w := w) (F := fun _ => False) (us := cs) (fun i _ t rows l x e => by cases e) (fun v hv => hv) hrows hx
  rw [Wd.more_false] at q1
  obtain ⟨row', e1, e2⟩ := q1.get _ _ hrow
  have hlt : n.toNat < len := by rw [← q2]; exact lt_of_get hrow
  rw [chunks_get _ _ _ hlt] at e1
  cases e1
  have hap : aindex P t (.agg xs) (.sc (.int kd n)) = apart P el xs (n.toNat * s) := by
    simp only [aindex, hu, natOfA_int h0, hz]
    rw [if_pos hlt]
  rw [hap]
  split at hr
  · exact ⟨_, _, hr, by simp only [apart, hg, hz], .agg (leafs_ok e2)⟩
  · split at hr
    · rename_i l hl
      rw [hl] at e2
      have hl2 := e2.length.2
      cases hd : (xs.drop (n.toNat * s)).take s with
      | nil => rw [hd] at hl2; simp at hl2
      | cons y l2 =>
        rw [hd] at e2
        cases e2 with
        | cons a b =>
          cases b
          have hrr : (xs.drop (n.toNat * s)).head? = some y := by
            cases hd2 : xs.drop (n.toNat * s) with
            | nil => rw [hd2] at hd; simp at hd
            | cons z zs =>
              rw [hd2] at hd
              cases s with
              | zero => simp at hd
              | succ s => simp only [List.take_succ_cons, List.cons.injEq] at hd; rw [hd.1]; rfl
          exact ⟨_, y, hr, by simp only [apart, hg, hz]; exact hrr, leaf_ok (by simp) a⟩
    · cases hr
theorem pureS_ok {S : SSt} (hs : SimH P w S.ob S.nx h) {o : Oper} {ρ' : Operand → AV} (hρ : ∀ x, x ∈ o.op.operands.toList → RV P w (evS S.tm x) (ρ' x)) (hag : looksA o.op = true → ∀ x, x ∈ o.op.operands.toList → Agree h h1 (ρ' x))
    (hF : isF o.op = true) {k : SV → SSt → Option ρ} {r : ρ} (hr : opS1 P A R o S k = some r) : PureR P w h h1 S k r (aop P ρ' o h1) := by
  have rd : ∀ x, x ∈ o.op.operands.toList → ∃ v y, evS S.tm x = v ∧ ρ' x = y ∧ RV P w v y := fun x hx => ⟨_, _, rfl, rfl, hρ x hx⟩
  have ag : looksA o.op = true → ∀ x, x ∈ o.op.operands.toList → ∀ y, ρ' x = y → Agree h h1 y := fun h1 x hx y e => by rw [← e]; exact hag h1 x hx
  unfold opS1 at hr
  simp only at hr
  split at hr
  case h_1 => simp_all [isF]
  case h_2 => simp_all [isF]
  case h_3 =>
    rename_i t parts hop
    split at hr
    · rename_i v hv
      obtain ⟨y, e1, e2⟩ := build_ok (P := P) (w := w) (PtR.map (e := evS S.tm) (ρ' := ρ') parts.toList fun x hx => hρ x (by rw [hop]; simpa [Op.operands] using hx)) hv
      exact .one hs hr (by simp only [aop, hop]; rw [e1]; rfl) e2
    · cases hr
  case h_4 => simp_all [isF]
  case h_5 =>
    rename_i t a hop
    obtain ⟨v, y, e1, e2, e3⟩ := load_ok (h1 := h1) hs (hρ a (by rw [hop]; simp [Op.operands])) (hag (by rw [hop]; rfl) a (by rw [hop]; simp [Op.operands])) hr
    exact .one hs e1 (by simp only [aop, hop]; rw [e2]; rfl) e3
  case h_6 => simp_all [isF]
  case h_7 =>
    rename_i x hop
    obtain ⟨v, y, ev, ey, hv⟩ := rd x (by rw [hop]; simp [Op.operands])
    rw [ev] at hr
    split at hr
    · cases hv with | ref q => exact .one hs hr (by simp only [aop, hop, ey]) (.ref q)
    · cases hv with | eref q q2 => exact .one hs hr (by simp only [aop, hop, ey]) (.eref q q2)
    · cases hv with
      | prow q => cases q with
        | pref q => exact .one hs hr (by simp only [aop, hop, ey]) (.prow (.pref q))
        | ref a b c d e f g => exact .one hs hr (by simp only [aop, hop, ey]) (.prow (.ref a b c d e f g))
    · cases hv with
      | fn q => exact .one hs hr (by simp only [aop, hop, ey]) (.fn q)
      | fn0 => exact .one hs hr (by simp only [aop, hop, ey]) .fn0
    · rcases sIte_ok hr with ⟨rfl, hr⟩ | ⟨_, hr⟩
      · cases hv with
        | optT q _ => cases q with
          | ref q => exact .one hs hr (by simp only [aop, hop, ey]) (.ref q)
      · cases hr
    · cases hr
  case h_8 =>
    rename_i op t x y t' hop
    obtain ⟨v, e0, e1, e2⟩ := binK_ok (xo := x) (yo := y) (hρ x (by rw [hop]; simp [Op.operands])) (hρ y (by rw [hop]; simp [Op.operands])) hr
    exact .one hs e1 (by simp only [aop, hop]; rw [e2]; rfl) (.sc e0)
  case h_9 =>
    rename_i op t x hop
    obtain ⟨v, y, ev, ey, hv⟩ := rd x (by rw [hop]; simp [Op.operands])
    rw [ev] at hr
    split at hr
    · cases hv; exact .one hs hr (by simp only [aop, hop, ey]; rfl) (.sc rfl)
    · cases hv; exact .one hs hr (by simp only [aop, hop, ey]; rfl) (.sc rfl)
    · cases hr
  case h_10 =>
    rename_i s d x hop
    obtain ⟨v, y, ev, ey, hv⟩ := rd x (by rw [hop]; simp [Op.operands])
    have ha := ag (by rw [hop]; rfl) x (by rw [hop]; simp [Op.operands]) y ey
    rw [ev] at hr
    split at hr
    · cases hv
      split at hr
      · rename_i hu1 hu2; exact .one hs hr (by simp only [aop, hop, ey]; rw [conv_int hu1 hu2]; rfl) (.sc rfl)
      · cases hr
    · cases hv
      split at hr
      · rename_i hu1 hu2; exact .one hs hr (by simp only [aop, hop, ey]; rw [conv_str hu1 hu2]; rfl) (.sc rfl)
      · cases hr
    · cases hv
      split at hr
      · rename_i hu1 hu2; exact .one hs hr (by simp only [aop, hop, ey]; unfold aconvert; simp only [hu1, hu2]; rfl) (.sc rfl)
      · rename_i hu1 hu2; exact .one hs hr (by simp only [aop, hop, ey]; unfold aconvert; simp only [hu1, hu2]; rfl) (.sc rfl)
      · rename_i hu1 hu2; exact .one hs hr (by simp only [aop, hop, ey]; unfold aconvert; simp only [hu1, hu2]; rfl) (.sc rfl)
      · cases hr
    · split at hr
      · rename_i t' cs t hb hu1 hu2
        split at hr
        · rename_i n hz
          split at hr
          · rename_i hl
            have := (conv_ref (t := t) (u := t) hs hb hv ha hl (n := n) (src := s) (dst := d)).1 hu1 hu2 hz
            exact .one hs hr (by simp only [aop, hop, ey]; rw [this]; rfl) hv
          · cases hr
        · cases hr
      · rename_i t' cs u hb hu1 hu2
        split at hr
        · rename_i n hz
          split at hr
          · rename_i hl
            split at hr
            · rename_i hli
              have := (conv_ref (t := u) (u := u) hs hb hv ha hl (n := n) (src := s) (dst := d)).2 hu1 hu2 hz hli
              exact .one hs hr (by simp only [aop, hop, ey]; rw [this]; rfl) hv
            · cases hr
          · cases hr
        · cases hr
      · cases hr
    · split at hr
      · rename_i e b l hu1 hu2 hb
        split at hr
        · rename_i hby
          exact .one hs hr (by simp only [aop, hop, ey]; rw [conv_own hs hb hv ha hu1 hby hu2]; rfl) (.sc rfl)
        · cases hr
      · cases hr
    · cases hr
  case h_11 =>
    rename_i t x hop
    obtain ⟨v, y, ev, ey, hv⟩ := rd x (by rw [hop]; simp [Op.operands])
    rw [ev] at hr
    split at hr
    · cases hr
    · rename_i d hu hd
      refine .one hs hr ?_ (.ifc hv)
      simp only [aop, hop, ey]
      split
      · rename_i h2; rw [hd] at h2; simp only [Option.some.injEq] at h2; subst h2; exact absurd rfl (hu _)
      · rfl
      · rename_i h2; rw [hd] at h2; cases h2
    · cases hr
  case h_12 =>
    rename_i fn first caps hop
    split at hr
    · rename_i f hf
      refine .one hs hr (by simp only [aop, hop, hf]; rfl) (.fn ?_)
      exact RVs.map _ fun x hx => hρ x (by rw [hop]; simp [Op.operands]; exact .inr (by simpa using hx))
    · cases hr
  case h_13 =>
    rename_i t x lo hi mx hop
    cases mx with
    | some m => 
      exfalso
      simp only [sliceS, optS] at hr
      split at hr
      · cases hr
      · split at hr <;> cases hr
    | none =>
      have hlo : ∀ v, optS S lo = some v → ∃ y, lo.map ρ' = some y ∧ RV P w v y := by
        intro v e
        cases lo with
        | none => cases e
        | some l => cases e; exact ⟨_, rfl, hρ l (by rw [hop]; simp [Op.operands])⟩
      have hhi : ∀ v, optS S hi = some v → ∃ y, hi.map ρ' = some y ∧ RV P w v y := by
        intro v e
        cases hi with
        | none => cases e
        | some l => cases e; exact ⟨_, rfl, hρ l (by rw [hop]; simp [Op.operands])⟩
      obtain ⟨F, ob, q1, q2, q6, v, y, q3, q4, q5⟩ := sliceS_ok hs (hρ x (by rw [hop]; simp [Op.operands])) hlo (by intro e; cases lo <;> first | rfl | cases e) hhi (by intro e; cases hi <;> first | rfl | cases e) hr
      exact ⟨F, ob, q1, q2, q6, v, y, q3, by simp only [aop, hop, Option.map_none]; rw [q4]; rfl, q5⟩
  case h_14 =>
    rename_i t x f hop
    split at hr
    · rename_i v hv
      obtain ⟨y, e1, e2⟩ := fieldAddr_ok (hρ x (by rw [hop]; simp [Op.operands])) hv
      exact .one hs hr (by simp only [aop, hop]; rw [e1]; rfl) e2
    · cases hr
  case h_15 =>
    rename_i t x f hop
    split at hr
    · rename_i v hv
      obtain ⟨y, e1, e2⟩ := field_ok (hρ x (by rw [hop]; simp [Op.operands])) hv
      exact .one hs hr (by simp only [aop, hop]; rw [e1]; rfl) e2
    · cases hr
  case h_16 =>
    rename_i t x i hop
    obtain ⟨v, z, e1, e2, e3⟩ := indexAddr_ok hs (hρ x (by rw [hop]; simp [Op.operands])) (hρ i (by rw [hop]; simp [Op.operands])) hr
    exact .one hs e1 (by simp only [aop, hop]; rw [e2]; rfl) e3
  case h_17 =>
    rename_i t x i hop
    obtain ⟨v, y, ev, ey, hv⟩ := rd x (by rw [hop]; simp [Op.operands])
    obtain ⟨v2, y2, ev2, ey2, hv2⟩ := rd i (by rw [hop]; simp [Op.operands])
    rw [ev, ev2] at hr
    split at hr
    · rename_i s kd n hu
      cases hv; cases hv2
      unfold gets at hr
      split at hr
      · rename_i hn
        split at hr
        · rename_i b hb
          refine .one hs hr ?_ (.sc rfl)
          simp only [aop, hop, ey, ey2, aindex, hu, natOfA_int (show 0 ≤ n by simpa using hn), hb]
          rfl
        · cases hr
      · cases hr
    · rename_i len el cs kd n hu
      cases hv with
      | agg hv =>
      cases hv2
      obtain ⟨v3, y3, r1, r2, r3⟩ := idxA_ok (t := t) (kd := kd) hv hu hr
      refine .one hs r1 ?_ r3
      simp only [aop, hop, ey, ey2, r2]
      rfl
    · cases hr
  case h_18 =>
    rename_i t i hop
    obtain ⟨v, y, ev, ey, hv⟩ := rd t (by rw [hop]; simp [Op.operands])
    rw [ev] at hr
    split at hr
    · rename_i vs
      cases hv with
      | tup hq =>
        split at hr
        · rename_i v2 hv2
          obtain ⟨x2, e1, e2⟩ := hq.get _ _ hv2
          exact .one hs hr (by simp only [aop, hop, ey, e1]; rfl) e2
        · cases hr
    · cases hr
  case h_19 =>
    rename_i c hop
    obtain ⟨callee, args, ats⟩ := c
    cases callee with
    | invoke x m => cases hr
    | value f => rw [hop] at hF; cases hF
    | builtin b =>
      simp only at hr
      have hargs : ∀ a, a ∈ args.toList → RV P w (evS S.tm a) (ρ' a) := fun a ha => hρ a (by rw [hop]; simp only [Op.operands, Call.operands]; simpa using ha)
      have one1 : ∀ x, args.toList.map (evS S.tm) = [x] → ∃ a, args.toList = [a] ∧ evS S.tm a = x := by
        intro x hl
        cases h0 : args.toList with
        | nil => rw [h0] at hl; cases hl
        | cons a l => cases l with
          | nil => rw [h0] at hl; simp only [List.map_cons, List.map_nil, List.cons.injEq, and_true] at hl; exact ⟨a, rfl, hl⟩
          | cons _ _ => rw [h0] at hl; simp at hl
      unfold builtinS at hr
      split at hr
      · rw [hop] at hF; cases hF
      · rename_i x hl
        obtain ⟨a, ha, hx⟩ := one1 x hl
        obtain ⟨y, hy⟩ : ∃ y, ρ' a = y := ⟨_, rfl⟩
        have hv := hargs a (by rw [ha]; simp)
        rw [hx, hy] at hv
        split at hr
        · rename_i n t hn hat
          obtain ⟨m, rfl, e1, e2⟩ := lenS_ok hs hv hn
          split at hr
          · rename_i e hu hstr
            refine .one hs hr ?_ (.sc rfl)
            simp only [aop, hop, acall, abuiltin, ha, List.map_cons, List.map_nil, hat, alen, hu, hy]
            rcases e2 with e2 | ⟨s, rfl⟩
            · rw [e2, if_pos rfl, e1]; rfl
            · cases hv <;> first | (simp [isStrS] at hstr; done) | (simp [lenS] at hn; done) | (rename_i hq; cases hq)
          · rename_i hu hstr
            refine .one hs hr ?_ (.sc rfl)
            simp only [aop, hop, acall, abuiltin, ha, List.map_cons, List.map_nil, hat, alen, hu, hy]
            obtain ⟨s, rfl⟩ : ∃ s, x = .sc (.string s) := by
              unfold isStrS at hstr
              split at hstr
              · exact ⟨_, rfl⟩
              · cases hstr
            cases hv
            simp only [lenA, Option.some.injEq] at e1; subst e1
            rfl
          · cases hr
        · cases hr
      · rename_i i hl
        obtain ⟨a, ha, hx⟩ := one1 _ hl
        obtain ⟨y, hy⟩ : ∃ y, ρ' a = y := ⟨_, rfl⟩
        have hv := hargs a (by rw [ha]; simp)
        rw [hx, hy] at hv
        split at hr
        · rename_i s l hb
          rcases sIte_ok hr with ⟨hsz, hr⟩ | ⟨hsz, hr⟩
          · simp only [decide_eq_true_eq] at hsz
            cases hv with
            | ownNil e1 =>
              rcases (hs.byt _ _ _ hb).2 with ⟨_, q⟩ | ⟨o, ver, mv, ex, fz, cap, _, q, _⟩
              · omega
              · rw [e1] at q; cases q
            | ownSl e1 =>
              rcases (hs.byt _ _ _ hb).2 with ⟨q, _⟩ | ⟨o, ver, mv, ex, fz, cap, _, q, _⟩
              · rw [e1] at q; cases q
              · have q' := q
                rw [e1] at q; simp only [Option.some.injEq, Lk.sl.injEq] at q
                obtain ⟨rfl, rfl, rfl, rfl, rfl, rfl⟩ := q
                refine .one hs hr ?_ (.bref q')
                simp only [aop, hop, acall, abuiltin, ha, List.map_cons, List.map_nil, hy]
                rw [if_pos (.inl hsz)]
          · simp only [decide_eq_false_iff_not] at hsz
            cases hv with
            | ownNil e1 =>
              refine .one hs hr ?_ (.sc rfl)
              simp only [aop, hop, acall, abuiltin, ha, List.map_cons, List.map_nil, hy]
            | ownSl e1 =>
              rcases (hs.byt _ _ _ hb).2 with ⟨q, _⟩ | ⟨o, ver, mv, ex, fz, cap, q0, q, _⟩
              · rw [e1] at q; cases q
              · omega
        · cases hr
      · rename_i hl
        obtain ⟨a, ha, hx⟩ := one1 _ hl
        obtain ⟨y, hy⟩ : ∃ y, ρ' a = y := ⟨_, rfl⟩
        have hv := hargs a (by rw [ha]; simp)
        rw [hx, hy] at hv
        cases hv
        refine .one hs hr ?_ (.sc rfl)
        simp only [aop, hop, acall, abuiltin, ha, List.map_cons, List.map_nil, hy]
      · rw [hop] at hF; cases hF
      · rw [hop] at hF; cases hF
      · cases hr
  case h_20 => cases hr
end
end Go.AI
end

/-
  The abstract interpreter once more: a call's heap is never taken back. More depth answers no less.
-/
section
namespace Go.AI
def endCall2 (h : AHeap) (cm : AMode) (r : Option (AOut × AHeap)) : Option (AOut × AMode × AHeap) :=
  match r with
  | some (o, h') => some (o, cm, h.outer h')
  | none => none
def stepCall2 (P : Program) (R : Rec) (kind : CallKind) (f : FuncId) (args : List AV) (cm : AMode) (h : AHeap) : Option (AOut × AMode × AHeap) :=
  match P.funcs[f]? with
  | some fn =>
    match fn.body with
    | some code =>
      match evalCode P R { fn := f, tn := max fn.ntmps args.length, kind, round := none } code { tm := putArgs args 0 .leaf, df := [], cm, h := h.inner } with
      | some (.normal, st) => endCall2 h st.cm (leaveA P R fn st.tm st.df .ret st.h)
      | some (.ret, st) => endCall2 h st.cm (leaveA P R fn st.tm st.df .ret st.h)
      | some (.panic v, st) => endCall2 h st.cm (leaveA P R fn st.tm st.df (.pan v false) st.h)
      | _ => none
    | none => none
  | none => none
section
variable {P : Program} {R : Rec} {g : Gh} {w : World} {h : AHeap}
theorem endCall2_ok {cm cm' : AMode} {r : Option (AOut × AHeap)} {out : AOut} {h2 : AHeap} (hr : endCall2 h cm r = some (out, cm', h2)) (hf : Fresh h g) :
    cm' = cm ∧ ∃ h', r = some (out, h') ∧ ∀ (g' : Gh) (w' : World), Step h.inner g w h' g' w' → W h' g' w' → ∃ g2, Step h g w h2 g2 w' ∧ W h2 g2 w' ∧ g2 = g' := by
  unfold endCall2 at hr
  split at hr
  · rename_i o h'
    simp only [Option.some.injEq, Prod.mk.injEq] at hr
    obtain ⟨rfl, rfl, rfl⟩ := hr
    refine ⟨rfl, h', rfl, fun g' w' hs hw => ?_⟩
    obtain ⟨q1, q2⟩ := outer_ok hf hs hw
    exact ⟨g', q1, q2, rfl⟩
  · cases hr
theorem body2_ok {kind : CallKind} {f : FuncId} {fn : Func} {code : Code} {args : List AV} {cm : AMode} {out : AOut} {cm' : AMode} {h2 : AHeap} (hP : ProgOK P) (hR : RecOK P R) (hE : EvalOK P R)
    (hfn : P.funcs[f]? = some fn) (hbody : fn.body = some code) (hr : stepCall2 P R kind f args cm h = some (out, cm', h2)) {vs : List Value} (hw : W h g w) (hf : Fresh h g) (hv : VRs g args vs) {cs : List Frame} (hm : ModeR g cm cs) :
    ∃ g2 w' fr cs', Step h g w h2 g2 w' ∧ W h2 g2 w' ∧ CsOK cm cs cs' ∧ (cm = .none → cm' = .none) ∧ (kind ≠ .normal → ModeR g2 cm' cs') ∧
      Steps P (lone (Frame.enter P f vs.toArray kind) cs w) (lone fr cs' w') ∧ fr.fn = f ∧ fr.kind = kind ∧ Left P fn g2 w' fr out := by
  have henter : Frame.enter P f vs.toArray kind = frm { (default : Frame) with fn := f, kind := kind } { tmps := vs.toArray ++ Array.replicate (fn.ntmps - vs.toArray.size) undef, defers := [] } [.code code] := by
    simp [Frame.enter, frm, hfn, hbody]
    rfl
  unfold stepCall2 at hr
  simp only [hfn, hbody] at hr
  have hlen : vs.length = args.length := hv.length.symm
  have hact : ActR g (max fn.ntmps args.length) { tm := putArgs args 0 .leaf, df := [], cm, h := h.inner } { tmps := vs.toArray ++ Array.replicate (fn.ntmps - vs.toArray.size) undef, defers := [] } :=
    ⟨args_TR hv, by simp; omega, trivial⟩
  cases he : evalCode P R { fn := f, tn := max fn.ntmps args.length, kind, round := none } code { tm := putArgs args 0 .leaf, df := [], cm, h := h.inner } with
  | none => rw [he] at hr; cases hr
  | some p =>
    obtain ⟨ex, st⟩ := p
    rw [he] at hr
    obtain ⟨g1, w1, a1, cs1, q1, q2, q3, q4, q5, q6, q7⟩ := hE _ _ _ _ _ he g w { (default : Frame) with fn := f, kind := kind } _ [] cs hw.inner hf.inner ⟨rfl, rfl, rfl⟩ hact hm
    rw [← henter] at q7
    have fin : ∀ (m : AMode) (fr0 : Frame), endCall2 h st.cm (leaveA P R fn st.tm st.df m st.h) = some (out, cm', h2) → Steps P (lone (Frame.enter P f vs.toArray kind) cs w) (lone fr0 cs1 w1) → ModeV g1 m fr0.mode →
        fr0.fn = f → fr0.kind = kind → fr0.defers = a1.defers → fr0.tmps = a1.tmps →
        ∃ g2 w' fr cs', Step h g w h2 g2 w' ∧ W h2 g2 w' ∧ CsOK cm cs cs' ∧ (cm = .none → cm' = .none) ∧ (kind ≠ .normal → ModeR g2 cm' cs') ∧
          Steps P (lone (Frame.enter P f vs.toArray kind) cs w) (lone fr cs' w') ∧ fr.fn = f ∧ fr.kind = kind ∧ Left P fn g2 w' fr out := by
      intro m fr0 hend hsteps hmode e1 e2 e3 e4
      obtain ⟨rfl, h3, hl, hk⟩ := endCall2_ok (w := w) hend hf
      obtain ⟨g2, w2, fr2, r1, r2, r3, r4, _, r5, r6⟩ := leaveA_ok hP hR _ _ _ _ _ hl g1 w1 fr0 cs1 q2 (hf.inner.step q1) (by rw [e1]; exact hfn) hmode (by rw [e3]; exact q3.df) (by rw [e4]; exact q3.tm)
      obtain ⟨g3, s1, s2, s3⟩ := hk g2 w2 (q1.trans hf.inner r1) r2
      subst s3
      refine ⟨g3, w2, fr2, cs1, s1, s2, q4, q6, fun hn => q5.mono r1.le, Steps.trans hsteps r5, by rw [r4, e1], by rw [r3, e2], ?_⟩
      cases out with
      | ret v => obtain ⟨x1, x2, x, x3, x4⟩ := r6; exact ⟨x1, x2, x, x3, x4⟩
      | pan v => obtain ⟨x1, x, x2, x3⟩ := r6; exact ⟨x1, x, x2, x3⟩
    cases ex with
    | normal => exact fin .ret _ hr (Steps.trans q7 (.one (fstep_end rfl))) rfl rfl rfl rfl rfl
    | ret =>
      obtain ⟨k2, q7⟩ := q7
      exact fin .ret _ hr (Steps.trans q7 (.one (fstep_ret rfl))) rfl rfl rfl rfl rfl
    | panic v =>
      obtain ⟨todo, x, hx, q7⟩ := q7
      exact fin (.pan v false) _ hr q7 ⟨x, rfl, hx⟩ rfl rfl rfl rfl
    | exit id => cases hr
theorem stepCall2_fn {kind : CallKind} {f : FuncId} {args : List AV} {cm : AMode} {r : AOut × AMode × AHeap} (hr : stepCall2 P R kind f args cm h = some r) : ∃ fn code, P.funcs[f]? = some fn ∧ fn.body = some code := by
  unfold stepCall2 at hr
  split at hr
  · rename_i fn hfn
    split at hr
    · rename_i code hb; exact ⟨fn, code, hfn, hb⟩
    · cases hr
  · cases hr
theorem call2_ok {f : FuncId} {args : List AV} {out : AOut} {cm' : AMode} {h2 : AHeap} (hP : ProgOK P) (hR : RecOK P R) (hE : EvalOK P R) (hr : stepCall2 P R .normal f args .none h = some (out, cm', h2)) : CallOK P f args h out h2 := by
  intro g w vs hw hf hv cs
  obtain ⟨fn, code, hfn, hb⟩ := stepCall2_fn hr
  obtain ⟨g2, w', fr, cs', q1, q2, q3, q4, q5, q6, q7, q8, q9⟩ := body2_ok hP hR hE hfn hb hr hw hf hv (cs := cs) trivial
  obtain rfl : cs' = cs := q3.1 rfl
  cases out with
  | ret v =>
    obtain ⟨x1, x2, x, x3, x4⟩ := q9
    exact ⟨.returned x, w', fr, ⟨g2, q1, q2, x4⟩, q6, q7, x1, x2, q8, fn, by rw [q7]; exact hfn, x3⟩
  | pan v =>
    obtain ⟨x1, x, x2, x3⟩ := q9
    exact ⟨.panicked _, w', fr, ⟨g2, q1, q2, x, rfl, x3⟩, q6, q7, x2, x1, fn, by rw [q7]; exact hfn⟩
theorem calld2_ok {f : FuncId} {args : List AV} {cm : AMode} {out : AOut} {cm' : AMode} {h2 : AHeap} (hP : ProgOK P) (hR : RecOK P R) (hE : EvalOK P R) (hn : cm ≠ .none) (hr : stepCall2 P R .deferred f args cm h = some (out, cm', h2)) :
    CallDOK P f args cm h out cm' h2 := by
  intro g w vs u hw hf hv hm c cs hu
  obtain ⟨fn, code, hfn, hb⟩ := stepCall2_fn hr
  have hmr : ModeR g cm (c :: cs) := by
    cases cm with
    | none => exact absurd rfl hn
    | ret => exact ⟨c, cs, rfl, by rw [hu]; exact hm⟩
    | pan v b => exact ⟨c, cs, rfl, by rw [hu]; exact hm⟩
  obtain ⟨g2, w', fr, cs', q1, q2, q3, q4, q5, q6, q7, q8, q9⟩ := body2_ok hP hR hE hfn hb hr hw hf hv (cs := c :: cs) hmr
  have hmode := q5 (by simp)
  have hcs : ∃ m, cs' = { c with mode := m } :: cs := by
    rcases q3.2 with e | ⟨c', r, m, e1, e2⟩
    · exact ⟨c.mode, by rw [e]⟩
    · simp only [List.cons.injEq] at e1
      obtain ⟨rfl, rfl⟩ := e1
      exact ⟨m, e2⟩
  obtain ⟨m, rfl⟩ := hcs
  have hmv : cm' ≠ .none → ModeV g2 cm' m := by
    intro hne
    cases cm' with
    | none => exact absurd rfl hne
    | ret => obtain ⟨c', r, e, hh⟩ := hmode; simp only [List.cons.injEq] at e; obtain ⟨rfl, rfl⟩ := e; exact hh
    | pan v b => obtain ⟨c', r, e, hh⟩ := hmode; simp only [List.cons.injEq] at e; obtain ⟨rfl, rfl⟩ := e; exact hh
  cases out with
  | ret v =>
    obtain ⟨x1, x2, x, x3, x4⟩ := q9
    exact ⟨.returned x, m, w', fr, ⟨g2, q1, q2, hmv, x4⟩, q6, q8, x1, x2, fn, by rw [q7]; exact hfn, x3⟩
  | pan v =>
    obtain ⟨x1, x, x2, x3⟩ := q9
    exact ⟨.panicked _, m, w', fr, ⟨g2, q1, q2, hmv, x, rfl, x3⟩, q6, q8, x2, x1, fn, by rw [q7]; exact hfn⟩
end
structure KnT where
  K : FuncId → List AV → AHeap → Option AV
abbrev Kn := Inhabited KnT
def Kn.K [Kn] : FuncId → List AV → AHeap → Option AV := (default : KnT).K
def stepCall3 [Kn] (P : Program) (R : Rec) (kind : CallKind) (f : FuncId) (args : List AV) (cm : AMode) (h : AHeap) : Option (AOut × AMode × AHeap) :=
  match kind, cm, Kn.K f args h with
  | .normal, .none, some v => some (.ret v, .none, h)
  | _, _, _ => stepCall2 P R kind f args cm h
def KnTrue (P : Program) [Kn] : Prop := ∀ f args h v, Kn.K f args h = some v → CallOK P f args h (.ret v) h
variable [Kn]
def Rec.succ2 (P : Program) (R : Rec) : Rec := { call := stepCall3 P R, loop := stepLoop P R, round := stepRound P R }
def rec2 (P : Program) : Nat → Rec
  | 0 => Rec.zero
  | n + 1 => Rec.succ2 P (rec2 P n)
theorem rec2_succ {P : Program} {R : Rec} (hP : ProgOK P) (hK : KnTrue P) (hR : RecOK P R) : RecOK P (Rec.succ2 P R) where
  call := fun f args h out cm' h' e => by
    have e : stepCall3 P R .normal f args .none h = some (out, cm', h') := e
    unfold stepCall3 at e
    cases hk : Kn.K f args h with
    | none => rw [hk] at e; exact call2_ok hP hR (eval_ok hP hR) e
    | some v => rw [hk] at e; cases e; exact hK f args h v hk
  calld := fun f args cm h out cm' h' hn e => by
    have e : stepCall3 P R .deferred f args cm h = some (out, cm', h') := e
    exact calld2_ok hP hR (eval_ok hP hR) hn e
  loop := fun _ _ _ _ _ h => loop_ok hR (eval_ok hP hR) h
  round := fun _ _ _ _ _ h => round_ok (eval_ok hP hR) h
theorem rec2_ok {P : Program} (hP : ProgOK P) (hK : KnTrue P) : ∀ n, RecOK P (rec2 P n)
  | 0 => rec_zero
  | n + 1 => rec2_succ hP hK (rec2_ok hP hK n)
structure Rec.Le (R R' : Rec) : Prop where
  call : ∀ k f a m h r, R.call k f a m h = some r → R'.call k f a m h = some r
  loop : ∀ c cx st r, R.loop c cx st = some r → R'.loop c cx st = some r
  round : ∀ l a h r, R.round l a h = some r → R'.round l a h = some r
section
variable {P : Program} {R R' : Rec} (hl : R.Le R')
include hl
theorem opRun_le {cx : Ctx} {ρ : Operand → AV} {o : Oper} {cm : AMode} {h : AHeap} {r : ORes} (e : opRun P R cx ρ o cm h = some r) : opRun P R' cx ρ o cm h = some r := by
  unfold opRun at e ⊢
  split at e
  · exact e
  · exact e
  · exact e
  · rename_i f args h1 _
    cases hc : R.call .normal f args .none h1 with
    | none => rw [hc] at e; cases e
    | some q => rw [hc] at e; rw [hl.call _ _ _ _ _ _ hc]; exact e
  · rename_i l args h1 _
    cases hc : R.round l args h1 with
    | none => rw [hc] at e; cases e
    | some q => rw [hc] at e; rw [hl.round _ _ _ _ hc]; exact e
  · exact e
  · exact e
  · exact e
theorem stepOp_le {cx : Ctx} {ops : Array Oper} {o : Oper} {st : ASt} {r : AEx × ASt} (e : stepOp P R cx ops o st = some r) : stepOp P R' cx ops o st = some r := by
  unfold stepOp at e ⊢
  split at e
  · cases hc : opRun P R cx (ev st.tm) o st.cm st.h with
    | none => rw [hc] at e; cases e
    | some q => rw [hc] at e; rw [opRun_le hl hc]; exact e
  · exact e
  · exact e
theorem runOps_le {cx : Ctx} {ops : Array Oper} : ∀ {l : List Oper} {st : ASt} {r : AEx × ASt}, runOps P R cx ops l st = some r → runOps P R' cx ops l st = some r
  | [], _, _, e => e
  | o :: rest, st, r, e => by
    rw [runOps] at e ⊢
    cases hc : stepOp P R cx ops o st with
    | none => rw [hc] at e; cases e
    | some q =>
      rw [hc] at e; rw [stepOp_le hl hc]
      obtain ⟨ex, st1⟩ := q
      cases ex with
      | normal => exact runOps_le e
      | _ => exact e
theorem runDraw_le {cx : Ctx} {ops : Array Oper} : ∀ {l : List Oper} {i aid : Nat} {k : Book} {st : ASt} {r : Book × ASt}, runDraw P R cx ops l i aid k st = some r → runDraw P R' cx ops l i aid k st = some r
  | [], _, _, _, _, _, e => e
  | o :: rest, i, aid, k, st, r, e => by
    rw [runDraw] at e ⊢
    split at e
    · rename_i hw
      try rw [hw]
      split at e
      · rename_i st1 hp
        try rw [hp]
        exact runDraw_le e
      · cases e
    · rename_i hw
      try rw [hw]
      split at e
      · rename_i hA
        simp only [hA, if_true]
        split at e
        · rename_i v h1 ha
          try rw [ha]
          split at e
          · rename_i x hx
            try rw [hx]
            split at e
            · rename_i hn
              rw [if_pos hn]
              split at e
              · rename_i st1 hp
                try rw [hp]
                exact runDraw_le e
              · cases e
            · cases e
          · cases e
        · cases e
      · rename_i hA
        split at e
        · rename_i hF
          rw [if_neg hA, if_pos hF]
          split at e
          · rename_i v h1 ha
            try rw [ha]
            split at e
            · rename_i hn
              rw [if_pos hn]
              split at e
              · rename_i st1 hp
                try rw [hp]
                exact runDraw_le e
              · cases e
            · cases e
          · cases e
        · rename_i hF
          rw [if_neg hA, if_neg hF]
          cases hc : opRun P R cx (evo (tmpsOf o) st.tm) o .none st.h.inner with
          | none => rw [hc] at e; cases e
          | some q =>
            rw [hc] at e; rw [opRun_le hl hc]
            cases q with
            | val v cm h1 =>
              simp only at e ⊢
              split at e
              · rename_i st1 hp
                try rw [hp]
                exact runDraw_le e
              · cases e
            | dfr _ _ => cases e
            | pan _ _ => cases e
    · cases e
theorem evalDraw_le {cx : Ctx} {ops : Array Oper} {st : ASt} {r : AEx × ASt} (e : evalDraw P R cx ops st = some r) : evalDraw P R' cx ops st = some r := by
  unfold evalDraw at e ⊢
  split at e
  · rename_i hc
    rw [if_pos hc]
    split at e
    · rename_i k st1 hr
      rw [runDraw_le hl hr]
      exact e
    · cases e
  · cases e
theorem evalCode_le {cx : Ctx} : ∀ {c : Code} {st : ASt} {r : AEx × ASt}, evalCode P R cx c st = some r → evalCode P R' cx c st = some r
  | .skip, _, _, e => e
  | .label _, _, _, e => e
  | .region _ ops draw, st, r, e => by
    rw [evalCode] at e ⊢
    split at e
    · rename_i hd; rw [if_pos hd]; exact evalDraw_le hl e
    · rename_i hd; rw [if_neg hd]; exact runOps_le hl e
  | .seq a b, st, r, e => by
    rw [evalCode] at e ⊢
    cases hc : evalCode P R cx a st with
    | none => rw [hc] at e; cases e
    | some q =>
      rw [hc] at e; rw [evalCode_le hc]
      obtain ⟨ex, st1⟩ := q
      cases ex with
      | normal => exact evalCode_le e
      | _ => exact e
  | .cond c a b, st, r, e => by
    rw [evalCode] at e ⊢
    split at e
    · exact evalCode_le e
    · exact evalCode_le e
    · cases e
  | .block id body, st, r, e => by
    rw [evalCode] at e ⊢
    cases hc : evalCode P R cx body st with
    | none => rw [hc] at e; cases e
    | some q => rw [hc] at e; rw [evalCode_le hc]; exact e
  | .loop body, st, r, e => by rw [evalCode] at e ⊢; exact hl.loop _ _ _ _ e
  | .exit _, _, _, e => e
  | .scope body, st, r, e => by rw [evalCode] at e ⊢; exact evalCode_le e
  | .goto _, _, _, e => e
  | .ret, _, _, e => e
  | .refuse _, _, _, e => e
  | .rangeFunc f params assign body, st, r, e => by
    rw [evalCode] at e ⊢
    split at e
    · cases e
    · rename_i hrd
      try rw [hrd]
      split at e
      · rename_i g first captured hf
        try rw [hf]
        dsimp only at e ⊢
        split at e
        · rename_i g' args h1 ha
          try rw [ha]
          cases hc : R.call .normal g' args .none h1 with
          | none => rw [hc] at e; cases e
          | some q =>
            rw [hc] at e
            try dsimp only
            rw [hl.call _ _ _ _ _ _ hc]; exact e
        · cases e
      · cases e
theorem leaveA_le {fn : Func} {tm : Tr AV} : ∀ {ds : List ADef} {m : AMode} {h : AHeap} {r : AOut × AHeap}, leaveA P R fn tm ds m h = some r → leaveA P R' fn tm ds m h = some r := by
  intro ds
  induction ds with
  | nil =>
    intro m h r e
    cases m with
    | none => exact e
    | ret => exact e
    | pan v b => cases b <;> exact e
  | cons d ds ih =>
    intro m h r e
    cases d with
    | coll d =>
      rw [leaveA] at e ⊢
      split at e
      · exact ih e
      · cases e
    | fn f captured args =>
      cases f with
      | func f =>
        rw [leaveA] at e ⊢
        split at e
        · rename_i f' args' h1 ha
          cases hc : R.call .deferred f' args' m h1 with
          | none => rw [hc] at e; cases e
          | some q =>
            rw [hc] at e
            rw [hl.call _ _ _ _ _ _ hc]
            split at e
            all_goals first
              | (rename_i e2; cases e2; exact ih e)
              | cases e
        · cases e
      | _ => exact e
theorem stepCall2_le {k : CallKind} {f : FuncId} {a : List AV} {m : AMode} {h : AHeap} {r : AOut × AMode × AHeap} (e : stepCall2 P R k f a m h = some r) : stepCall2 P R' k f a m h = some r := by
    unfold stepCall2 at e ⊢
    split at e
    · rename_i fn hf
      try rw [hf]
      split at e
      · rename_i code hb
        try rw [hb]
        cases hc : evalCode P R { fn := f, tn := max fn.ntmps a.length, kind := k, round := none } code { tm := putArgs a 0 .leaf, df := [], cm := m, h := h.inner } with
        | none => rw [hc] at e; cases e
        | some q =>
          rw [hc] at e
          try dsimp only
          rw [evalCode_le hl hc]
          obtain ⟨ex, st⟩ := q
          have key : ∀ md r', endCall2 h st.cm (leaveA P R fn st.tm st.df md st.h) = some r' → endCall2 h st.cm (leaveA P R' fn st.tm st.df md st.h) = some r' := by
            intro md r' e
            cases hv : leaveA P R fn st.tm st.df md st.h with
            | none => rw [hv] at e; cases e
            | some q => rw [hv] at e; rw [leaveA_le hl hv]; exact e
          cases ex with
          | normal => exact key _ _ e
          | ret => exact key _ _ e
          | panic v => exact key _ _ e
          | exit id => cases e
      · cases e
    · cases e
theorem succ2_le : (Rec.succ2 P R).Le (Rec.succ2 P R') where
  call := fun k f a m h r e => by
    simp only [Rec.succ2] at e ⊢
    unfold stepCall3 at e ⊢
    split
    · rename_i v hv
      rw [hv] at e; exact e
    · rename_i hn
      split at e
      · rename_i v hv; exact absurd hv (hn v rfl rfl)
      · exact stepCall2_le hl e
  loop := fun c cx st r e => by
    simp only [Rec.succ2, stepLoop] at e ⊢
    cases hc : evalCode P R cx c st with
    | none => rw [hc] at e; cases e
    | some q =>
      rw [hc] at e
      rw [evalCode_le hl hc]
      obtain ⟨ex, st1⟩ := q
      cases ex with
      | normal => exact hl.loop _ _ _ _ e
      | _ => exact e
  round := fun l a h r e => by
    simp only [Rec.succ2, stepRound] at e ⊢
    split at e
    · rename_i s0 p0 fn tn tm ps assign body dd hg
      try rw [hg]
      try dsimp only
      cases hp : putParams tn ps a tm with
      | none => rw [hp] at e; cases e
      | some tm' =>
        rw [hp] at e
        dsimp only at e ⊢
        cases hc : evalCode P R { fn, tn, kind := .normal, round := some l } assign { tm := tm', df := [], cm := .none, h } with
        | none => rw [hc] at e; cases e
        | some q =>
          rw [hc] at e
          rw [evalCode_le hl hc]
          obtain ⟨ex, st1⟩ := q
          cases ex with
          | normal =>
            dsimp only at e ⊢
            split at e
            · rename_i p fn' tn' tm2 ps' assign' body' dd' hg2
              try rw [hg2]
              try dsimp only
              cases hc2 : evalCode P R { fn, tn, kind := .normal, round := some l } body { st1 with h := st1.h.upd l (.loop .busy p fn' tn' tm2 ps' assign' body' dd') } with
              | none => rw [hc2] at e; cases e
              | some q2 => rw [hc2] at e; rw [evalCode_le hl hc2]; exact e
            · cases e
          | _ => cases e
    · cases e
end
theorem rec2_step (P : Program) : ∀ n, (rec2 P n).Le (rec2 P (n + 1))
  | 0 => ⟨fun _ _ _ _ _ _ e => (by cases e), fun _ _ _ _ e => (by cases e), fun _ _ _ _ e => (by cases e)⟩
  | n + 1 => succ2_le (rec2_step P n)
theorem Rec.Le.refl (R : Rec) : R.Le R := ⟨fun _ _ _ _ _ _ e => e, fun _ _ _ _ e => e, fun _ _ _ _ e => e⟩
theorem Rec.Le.trans {a b c : Rec} (h : a.Le b) (h' : b.Le c) : a.Le c := ⟨fun _ _ _ _ _ _ e => h'.call _ _ _ _ _ _ (h.call _ _ _ _ _ _ e), fun _ _ _ _ e => h'.loop _ _ _ _ (h.loop _ _ _ _ e), fun _ _ _ _ e => h'.round _ _ _ _ (h.round _ _ _ _ e)⟩
theorem rec2_le (P : Program) {n m : Nat} (h : n ≤ m) : (rec2 P n).Le (rec2 P m) := by
  induction h with
  | refl => exact .refl _
  | step _ ih => exact ih.trans (rec2_step P _)
end Go.AI
end
