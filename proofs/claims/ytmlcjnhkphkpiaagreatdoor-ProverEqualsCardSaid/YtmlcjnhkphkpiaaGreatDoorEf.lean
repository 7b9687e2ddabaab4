/-
  The comparisons of layer 5, for all data: each answers whether the two are equal.
-/
import Derived.Test.YtmlcjnhkphkpiaaGreatDoorEa
import Derived.Test.YtmlcjnhkphkpiaaGreatDoorEb
import Derived.Test.YtmlcjnhkphkpiaaGreatDoorEc
import Derived.Test.YtmlcjnhkphkpiaaGreatDoorEe
import Derived.Test.YtmlcjnhkphkpiaaGreatDoorEd
set_option linter.all false

namespace Go.AI
open Go Go.Proofs

/-- a family of contracts: is a equal to b? -/
def F2 {α : Type} (f0 : FuncId) (enc : α → AV) (ex : List AV) (D : α → Prop) (f : FuncId) (x : List AV) (v : AV) : Prop := ∃ (a b : α) (t : Bool), f = f0 ∧ x = enc a :: enc b :: ex ∧ v = .sc (.bool t) ∧ D a ∧ EqT a b t

theorem F2.uniq {α : Type} {f0 : FuncId} {enc : α → AV} {ex : List AV} {D : α → Prop} (hi : ∀ a b, enc a = enc b → a = b) {f : FuncId} {x : List AV} {v v' : AV} (h : F2 f0 enc ex D f x v) (h' : F2 f0 enc ex D f x v') : v = v' := by
  obtain ⟨a, b, t, _, rfl, rfl, _, h1⟩ := h
  obtain ⟨a', b', t', _, e, rfl, _, h2⟩ := h'
  simp only [List.cons.injEq, and_true] at e
  obtain rfl := hi _ _ e.1
  obtain rfl := hi _ _ e.2
  rw [h1.uniq h2]

theorem F2.other {α β : Type} {f0 f1 : FuncId} (hne : f0 ≠ f1) {enc : α → AV} {enc' : β → AV} {ex ex' : List AV} {D : α → Prop} {D' : β → Prop} {f : FuncId} {x : List AV} {v v' : AV} (h : F2 f0 enc ex D f x v) (h' : F2 f1 enc' ex' D' f x v') : v = v' := by
  obtain ⟨_, _, _, rfl, _⟩ := h
  obtain ⟨_, _, _, e, _⟩ := h'
  exact absurd e hne

/-- what is proved of a family -/
def Fam (P : Program) {α : Type} (f0 : FuncId) (enc : α → AV) (ex : List AV) (D : α → Prop) : Prop := ∀ (a b : α) (t : Bool), D a → EqT a b t → ∀ h, CallOK P f0 (enc a :: enc b :: ex) h (.ret (.sc (.bool t))) h

theorem F2.ok {P : Program} {α : Type} {f0 : FuncId} {enc : α → AV} {ex : List AV} {D : α → Prop} (hf : Fam P f0 enc ex D) {f : FuncId} {x : List AV} {v : AV} (h : F2 f0 enc ex D f x v) (hp : AHeap) : CallOK P f x hp (.ret v) hp := by
  obtain ⟨a, b, t, rfl, rfl, rfl, hd, ht⟩ := h
  exact hf a b t hd ht hp

/-- what a Rec answers of a family -/
def Ans (R : Rec) {α : Type} (f0 : FuncId) (enc : α → AV) (ex : List AV) (D : α → Prop) : Prop := ∀ (a b : α) (t : Bool), D a → EqT a b t → ∀ h, R.call .normal f0 (enc a :: enc b :: ex) .none h = some (.ret (.sc (.bool t)), .none, h)

theorem fam1 {P : Program} {α : Type} {f0 : FuncId} {enc : α → AV} {ex : List AV} {D : α → Prop} (hi : ∀ a b, enc a = enc b → a = b) (hf : Fam P f0 enc ex D) : ∃ R, RecOK P R ∧ Ans R f0 enc ex D := by
  obtain ⟨R, hR, hC⟩ := rec_of (P := P) (F2 f0 enc ex D) (fun f x v v' h h' => F2.uniq hi h h') (fun f x v h hp => F2.ok hf h hp)
  exact ⟨R, hR, fun a b t hd ht h => hC _ _ _ ⟨a, b, t, rfl, rfl, rfl, hd, ht⟩ h⟩

theorem fam2 {P : Program} {α β : Type} {f0 f1 : FuncId} (hne : f0 ≠ f1) {enc : α → AV} {ex : List AV} {D : α → Prop} {enc1 : β → AV} {ex1 : List AV} {D1 : β → Prop} (hi : ∀ a b, enc a = enc b → a = b) (hi1 : ∀ a b, enc1 a = enc1 b → a = b)
    (hf : Fam P f0 enc ex D) (hf1 : Fam P f1 enc1 ex1 D1) : ∃ R, RecOK P R ∧ Ans R f0 enc ex D ∧ Ans R f1 enc1 ex1 D1 := by
  obtain ⟨R, hR, hC⟩ := rec_of (P := P) (fun f x v => F2 f0 enc ex D f x v ∨ F2 f1 enc1 ex1 D1 f x v)
    (by
      rintro f x v v' (h | h) (h' | h')
      · exact F2.uniq hi h h'
      · exact F2.other hne h h'
      · exact F2.other (Ne.symm hne) h h'
      · exact F2.uniq hi1 h h')
    (by
      rintro f x v (h | h) hp
      · exact F2.ok hf h hp
      · exact F2.ok hf1 h hp)
  exact ⟨R, hR, fun a b t hd ht h => hC _ _ _ (.inl ⟨a, b, t, rfl, rfl, rfl, hd, ht⟩) h, fun a b t hd ht h => hC _ _ _ (.inr ⟨a, b, t, rfl, rfl, rfl, hd, ht⟩) h⟩

theorem fam3 {P : Program} {α β γ : Type} {f0 f1 f2 : FuncId} (h01 : f0 ≠ f1) (h02 : f0 ≠ f2) (h12 : f1 ≠ f2) {enc : α → AV} {ex : List AV} {D : α → Prop} {enc1 : β → AV} {ex1 : List AV} {D1 : β → Prop} {enc2 : γ → AV} {ex2 : List AV} {D2 : γ → Prop}
    (hi : ∀ a b, enc a = enc b → a = b) (hi1 : ∀ a b, enc1 a = enc1 b → a = b) (hi2 : ∀ a b, enc2 a = enc2 b → a = b)
    (hf : Fam P f0 enc ex D) (hf1 : Fam P f1 enc1 ex1 D1) (hf2 : Fam P f2 enc2 ex2 D2) : ∃ R, RecOK P R ∧ Ans R f0 enc ex D ∧ Ans R f1 enc1 ex1 D1 ∧ Ans R f2 enc2 ex2 D2 := by
  obtain ⟨R, hR, hC⟩ := rec_of (P := P) (fun f x v => F2 f0 enc ex D f x v ∨ F2 f1 enc1 ex1 D1 f x v ∨ F2 f2 enc2 ex2 D2 f x v)
    (by
      rintro f x v v' (h | h | h) (h' | h' | h')
      · exact F2.uniq hi h h'
      · exact F2.other h01 h h'
      · exact F2.other h02 h h'
      · exact F2.other (Ne.symm h01) h h'
      · exact F2.uniq hi1 h h'
      · exact F2.other h12 h h'
      · exact F2.other (Ne.symm h02) h h'
      · exact F2.other (Ne.symm h12) h h'
      · exact F2.uniq hi2 h h')
    (by
      rintro f x v (h | h | h) hp
      · exact F2.ok hf h hp
      · exact F2.ok hf1 h hp
      · exact F2.ok hf2 h hp)
  exact ⟨R, hR, fun a b t hd ht h => hC _ _ _ (.inl ⟨a, b, t, rfl, rfl, rfl, hd, ht⟩) h, fun a b t hd ht h => hC _ _ _ (.inr (.inl ⟨a, b, t, rfl, rfl, rfl, hd, ht⟩)) h, fun a b t hd ht h => hC _ _ _ (.inr (.inr ⟨a, b, t, rfl, rfl, rfl, hd, ht⟩)) h⟩

/-! encodings -/
abbrev big : Nat := 9223372036854775807
def eTy (a : Ty) : AV := .agg a.cells
def eTys (l : List Ty) : AV := .isl (Ty.rows l) 3
def eTm (a : Tm) : AV := .agg a.cells
def eTms (l : List Tm) : AV := .isl (Tm.rows l) 7
def eInts (l : List Int) : AV := .isl (intRows l) 1
def eStp (a : Stp) : AV := .agg a.cells
def ePrf (a : Prf) : AV := .agg a.cells
def ePrfs (l : List Prf) : AV := .isl (Prf.rows l) 7
theorem eTy_inj (a b : Ty) (h : eTy a = eTy b) : a = b := by simp only [eTy, AV.agg.injEq] at h; exact Ty.cells_inj a b h
theorem eTys_inj (a b : List Ty) (h : eTys a = eTys b) : a = b := by simp only [eTys, AV.isl.injEq, and_true] at h; exact Ty.rows_inj a b h
theorem eTm_inj (a b : Tm) (h : eTm a = eTm b) : a = b := by simp only [eTm, AV.agg.injEq] at h; exact Tm.cells_inj a b h
theorem eTms_inj (a b : List Tm) (h : eTms a = eTms b) : a = b := by simp only [eTms, AV.isl.injEq, and_true] at h; exact Tm.rows_inj a b h
theorem eInts_inj (a b : List Int) (h : eInts a = eInts b) : a = b := by simp only [eInts, AV.isl.injEq, and_true] at h; exact intRows_inj a b h
theorem eStp_inj (a b : Stp) (h : eStp a = eStp b) : a = b := by simp only [eStp, AV.agg.injEq] at h; exact Stp.cells_inj a b h
theorem ePrf_inj (a b : Prf) (h : ePrf a = ePrf b) : a = b := by simp only [ePrf, AV.agg.injEq] at h; exact Prf.cells_inj a b h
theorem ePrfs_inj (a b : List Prf) (h : ePrfs a = ePrfs b) : a = b := by simp only [ePrfs, AV.isl.injEq, and_true] at h; exact Prf.rows_inj a b h

section
variable (hP : ProgOK Tryz.prog)
include hP

theorem c45 : Fam Tryz.prog 45 eInts [] (fun l => l.length * 8 ≤ 140737488355328) := fun l l' t hl ht h => w45 hP rec_zero l l' (by omega) t ht h
theorem c19 : Fam Tryz.prog 19 eInts [] (fun l => l.length * 8 ≤ 140737488355328) := fun l l' t hl ht h => w19 hP rec_zero l l' (by omega) t ht h
theorem c118 : Fam Tryz.prog 118 eTy [] Ty.ok := fun a b t ha ht h => same118 hP a.size a b (Nat.le_refl _) ha t ht h

/-! the prover's types -/
theorem c44n : ∀ n, Fam Tryz.prog 44 eTy [] (fun a => a.size ≤ n ∧ a.ok)
  | 0 => fun a _ _ ha => by obtain ⟨_, _, ks⟩ := a; exact absurd ha.1 (by simp [Ty.size])
  | n + 1 => by
    rintro ⟨k, m, ks⟩ ⟨k', m', ks'⟩ t ⟨hn, ha⟩ ht h
    obtain ⟨R, hR, hC⟩ := fam1 eTy_inj (c44n n)
    have hl : Fam Tryz.prog 85 eTys [.sc (.func (.func 44) #[] #[])] (fun l => l = ks) := by
      rintro l l' t rfl ht h
      refine w85 hP hR _ _ (by have := ha.1; omega) t ht (fun a b t hm he h => hC a b t ⟨?_, Ty.oks_mem ha.2 a hm⟩ he h) h
      have := Ty.size_mem a hm
      simp only [Ty.size] at hn
      omega
    obtain ⟨R2, hR2, hC2⟩ := fam1 eTys_inj hl
    exact w44 hP hR2 k k' m m' ks ks' t ht (fun t he h => hC2 ks ks' t rfl he h) h
theorem c44 : Fam Tryz.prog 44 eTy [] Ty.ok := fun a b t ha ht h => c44n hP a.size a b t ⟨Nat.le_refl _, ha⟩ ht h

/-! terms -/
theorem c86n : ∀ n, Fam Tryz.prog 86 eTm [] (fun a => a.size ≤ n ∧ a.ok)
  | 0 => fun a _ _ ha => by obtain ⟨_, _, _, _, ks⟩ := a; exact absurd ha.1 (by simp [Tm.size])
  | n + 1 => by
    rintro ⟨o, m, i, ⟨tk, tn, ts⟩, ks⟩ ⟨o', m', i', ⟨tk', tn', ts'⟩, ks'⟩ t ⟨hn, ha⟩ ht h
    obtain ⟨R, hR, hC⟩ := fam1 eTm_inj (c86n n)
    have hl : Fam Tryz.prog 46 eTms [] (fun l => l = ks) := by
      rintro l l' t rfl ht h
      refine w46 hP hR _ _ (by have := ha.2.1; omega) t ht (fun a b t hm he h => hC a b t ⟨?_, Tm.oks_mem ha.2.2 a hm⟩ he h) h
      have := Tm.size_mem a hm
      simp only [Tm.size] at hn
      omega
    obtain ⟨R2, hR2, hC1, hC2⟩ := fam2 (by decide) eTy_inj eTms_inj (c118 hP) hl
    exact w86 hP hR2 o o' m m' i i' tk tk' tn tn' ts ts' ks ks' t ht (fun t he h => hC1 _ _ t ha.1 he h) (fun t he h => hC2 ks ks' t rfl he h) h
theorem c86 : Fam Tryz.prog 86 eTm [] Tm.ok := fun a b t ha ht h => c86n hP a.size a b t ⟨Nat.le_refl _, ha⟩ ht h
theorem c46 : Fam Tryz.prog 46 eTms [] (fun l => l.length * 104 ≤ 140737488355328 ∧ Tm.oks l) := by
  rintro l l' t ⟨h1, h2⟩ ht h
  obtain ⟨R, hR, hC⟩ := fam1 eTm_inj (c86 hP)
  exact w46 hP hR l l' (by omega) t ht (fun a b t hm he h => hC a b t (Tm.oks_mem h2 a hm) he h) h

theorem c21n : ∀ n, Fam Tryz.prog 21 eTm [] (fun a => a.size ≤ n ∧ a.ok)
  | 0 => fun a _ _ ha => by obtain ⟨_, _, _, _, ks⟩ := a; exact absurd ha.1 (by simp [Tm.size])
  | n + 1 => by
    rintro ⟨o, m, i, ⟨tk, tn, ts⟩, ks⟩ ⟨o', m', i', ⟨tk', tn', ts'⟩, ks'⟩ t ⟨hn, ha⟩ ht h
    obtain ⟨R, hR, hC⟩ := fam1 eTm_inj (c21n n)
    have hl : Fam Tryz.prog 20 eTms [.sc (.func (.func 21) #[] #[])] (fun l => l = ks) := by
      rintro l l' t rfl ht h
      refine w20 hP hR _ _ (by have := ha.2.1; omega) t ht (fun a b t hm he h => hC a b t ⟨?_, Tm.oks_mem ha.2.2 a hm⟩ he h) h
      have := Tm.size_mem a hm
      simp only [Tm.size] at hn
      omega
    obtain ⟨R2, hR2, hC1, hC2⟩ := fam2 (by decide) eTy_inj eTms_inj (c44 hP) hl
    exact w21 hP hR2 o o' m m' i i' tk tk' tn tn' ts ts' ks ks' t ht (fun t he h => hC1 _ _ t ha.1 he h) (fun t he h => hC2 ks ks' t rfl he h) h
theorem c21 : Fam Tryz.prog 21 eTm [] Tm.ok := fun a b t ha ht h => c21n hP a.size a b t ⟨Nat.le_refl _, ha⟩ ht h
theorem c20 : Fam Tryz.prog 20 eTms [.sc (.func (.func 21) #[] #[])] (fun l => l.length * 104 ≤ 140737488355328 ∧ Tm.oks l) := by
  rintro l l' t ⟨h1, h2⟩ ht h
  obtain ⟨R, hR, hC⟩ := fam1 eTm_inj (c21 hP)
  exact w20 hP hR l l' (by omega) t ht (fun a b t hm he h => hC a b t (Tm.oks_mem h2 a hm) he h) h

/-! steps -/
theorem c23 : Fam Tryz.prog 23 eStp [] Stp.ok := by
  rintro ⟨r, b, n, p, ts, u⟩ ⟨r', b', n', p', ts', u'⟩ t ha ht h
  obtain ⟨R, hR, hC1, hC2⟩ := fam2 (by decide) eInts_inj eTms_inj (c45 hP) (c46 hP)
  exact w23 hP hR r r' b b' n n' p p' ts ts' u u' t ht (fun t he h => hC1 _ _ t ha.1 he h) (fun t he h => hC2 _ _ t ⟨ha.2.1, ha.2.2.1⟩ he h) (fun t he h => hC1 _ _ t ha.2.2.2 he h) h

/-! proofs -/
theorem c8n : ∀ n, Fam Tryz.prog 8 ePrf [] (fun a => a.size ≤ n ∧ a.ok)
  | 0 => fun a _ _ ha => by obtain ⟨_, ks⟩ := a; exact absurd ha.1 (by simp [Prf.size])
  | n + 1 => by
    rintro ⟨⟨r, b, m, p, ts, u⟩, ks⟩ ⟨⟨r', b', m', p', ts', u'⟩, ks'⟩ t ⟨hn, ha⟩ ht h
    obtain ⟨R, hR, hC1, hC⟩ := fam2 (by decide) eStp_inj ePrf_inj (c23 hP) (c8n n)
    refine w8 hP hR r r' b b' m m' p p' ts ts' u u' ks ks' (by have := ha.2.1; omega) t ht (fun t he h => hC1 _ _ t ha.1 he h) (fun a b t hm he h => hC a b t ⟨?_, Prf.oks_mem ha.2.2 a hm⟩ he h) h
    have := Prf.size_mem a hm
    simp only [Prf.size] at hn
    omega
theorem c8 : Fam Tryz.prog 8 ePrf [] Prf.ok := fun a b t ha ht h => c8n hP a.size a b t ⟨Nat.le_refl _, ha⟩ ht h

theorem c7n : ∀ n, Fam Tryz.prog 7 ePrf [] (fun a => a.size ≤ n ∧ a.ok)
  | 0 => fun a _ _ ha => by obtain ⟨_, ks⟩ := a; exact absurd ha.1 (by simp [Prf.size])
  | n + 1 => by
    rintro ⟨⟨r, b, m, p, ts, u⟩, ks⟩ ⟨⟨r', b', m', p', ts', u'⟩, ks'⟩ t ⟨hn, ha⟩ ht h
    obtain ⟨R, hR, hC⟩ := fam1 ePrf_inj (c7n n)
    have hl : Fam Tryz.prog 22 ePrfs [.sc (.func (.func 7) #[] #[])] (fun l => l = ks) := by
      rintro l l' t rfl ht h
      refine w22 hP hR _ _ (by have := ha.2.1; omega) t ht (fun a b t hm he h => hC a b t ⟨?_, Prf.oks_mem ha.2.2 a hm⟩ he h) h
      have := Prf.size_mem a hm
      simp only [Prf.size] at hn
      omega
    obtain ⟨R2, hR2, hC1, hC2, hC3⟩ := fam3 (by decide) (by decide) (by decide) eInts_inj eTms_inj ePrfs_inj (c19 hP) (c20 hP) hl
    exact w7 hP hR2 r r' b b' m m' p p' ts ts' u u' ks ks' t ht (fun t he h => hC1 _ _ t ha.1.1 he h) (fun t he h => hC1 _ _ t ha.1.2.2.2 he h) (fun t he h => hC2 _ _ t ⟨ha.1.2.1, ha.1.2.2.1⟩ he h) (fun t he h => hC3 ks ks' t rfl he h) h
theorem c7 : Fam Tryz.prog 7 ePrf [] Prf.ok := fun a b t ha ht h => c7n hP a.size a b t ⟨Nat.le_refl _, ha⟩ ht h
end
end Go.AI
