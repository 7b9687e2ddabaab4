/-
  The law of equality over all data: it answers true.
-/
import Derived.Test.YtmlcjnhkphkpiaaGreatDoorEf
import Derived.Test.YtmlcjnhkphkpiaaGreatDoorEn
import Derived.Test.YtmlcjnhkphkpiaaGreatDoorEm
import Derived.Test.YtmlcjnhkphkpiaaGreatDoorEo
import Derived.Test.YtmlcjnhkphkpiaaGreatDoorEp
import Derived.Test.YtmlcjnhkphkpiaaGreatDoorEq
import Derived.Test.YtmlcjnhkphkpiaaGreatDoorEr
import Derived.Test.YtmlcjnhkphkpiaaGreatDoorEs
import Derived.Test.YtmlcjnhkphkpiaaGreatDoorEu
import Derived.Test.YtmlcjnhkphkpiaaGreatDoorEv
import Derived.Test.YtmlcjnhkphkpiaaGreatDoorEw
set_option linter.all false

namespace Go.AI
open Go Go.Proofs

section
variable (hP : ProgOK Tryz.prog)
include hP

theorem known3 : KnownOK Tryz.prog [kn0, kn1, kn2] := by
  have e : KnownOK Tryz.prog [] := fun k hk => by cases hk
  intro k hk
  simp only [List.mem_cons, List.mem_nil_iff, or_false] at hk
  rcases hk with rfl | rfl | rfl
  · exact givesT_ok (recM_ok hP e _) k10
  · exact givesT_ok (recM_ok hP e _) k11
  · exact givesT_ok (recM_ok hP e _) k12

theorem known5 : KnownOK Tryz.prog [kn0, kn1, kn2, kn3, kn4] := by
  have e := known3 hP
  intro k hk
  simp only [List.mem_cons, List.mem_nil_iff, or_false] at hk
  rcases hk with rfl | rfl | rfl | rfl | rfl
  · exact e _ (by simp)
  · exact e _ (by simp)
  · exact e _ (by simp)
  · exact givesT_ok (recM_ok hP e _) k13
  · exact givesT_ok (recM_ok hP e _) k14

theorem c5 (h : AHeap) : CallOK Tryz.prog 5 [] h (.ret (.sc (.bool true))) h := by
  obtain ⟨h1, hc⟩ := givesT_ok (recM_ok hP (known5 hP) _) k5
  exact pure_call (n := 1) hc rfl rfl h

/-- what the law calls -/
def C3 (a b c : Prf) (path : List Int) (e : Int) (f : FuncId) (x : List AV) (v : AV) : Prop :=
  (∃ z, f = 4 ∧ (z = a ∨ z = b) ∧ x = [.agg z.cells] ∧ v = .sc (.bool (decide (z.cnt.1 ≤ 3000) && decide (z.cnt.2 ≤ 500)))) ∨
  (f = 5 ∧ x = [] ∧ v = .sc (.bool true)) ∨
  (f = 6 ∧ x = [.agg a.cells, .isl (intRows path) 1] ∧ v = .tuple [.agg c.cells, .sc (.int .i64 e)]) ∨
  F2 7 ePrf [] Prf.ok f x v ∨ F2 8 ePrf [] Prf.ok f x v

omit hP in
theorem C3.uniq {a b c : Prf} {path : List Int} {e : Int} {f : FuncId} {x : List AV} {v v' : AV} (h : C3 a b c path e f x v) (h' : C3 a b c path e f x v') : v = v' := by
  rcases h with ⟨z, rfl, _, rfl, rfl⟩ | ⟨rfl, rfl, rfl⟩ | ⟨rfl, rfl, rfl⟩ | h | h
  · rcases h' with ⟨z', _, _, e1, rfl⟩ | ⟨e1, _⟩ | ⟨e1, _⟩ | ⟨_, _, _, e1, _⟩ | ⟨_, _, _, e1, _⟩
    · simp only [List.cons.injEq, AV.agg.injEq, and_true] at e1
      rw [Prf.cells_inj _ _ e1]
    all_goals exact absurd e1 (by decide)
  · rcases h' with ⟨_, e1, _⟩ | ⟨_, _, rfl⟩ | ⟨e1, _⟩ | ⟨_, _, _, e1, _⟩ | ⟨_, _, _, e1, _⟩
    case inr.inl => rfl
    all_goals exact absurd e1 (by decide)
  · rcases h' with ⟨_, e1, _⟩ | ⟨e1, _⟩ | ⟨_, _, rfl⟩ | ⟨_, _, _, e1, _⟩ | ⟨_, _, _, e1, _⟩
    case inr.inr.inl => rfl
    all_goals exact absurd e1 (by decide)
  · have e0 : f = 7 := by obtain ⟨_, _, _, e0, _⟩ := h; exact e0
    subst e0
    rcases h' with ⟨_, e1, _⟩ | ⟨e1, _⟩ | ⟨e1, _⟩ | h' | ⟨_, _, _, e1, _⟩
    case inr.inr.inr.inl => exact h.uniq ePrf_inj h'
    all_goals exact absurd e1 (by decide)
  · have e0 : f = 8 := by obtain ⟨_, _, _, e0, _⟩ := h; exact e0
    subst e0
    rcases h' with ⟨_, e1, _⟩ | ⟨e1, _⟩ | ⟨e1, _⟩ | ⟨_, _, _, e1, _⟩ | h'
    case inr.inr.inr.inr => exact h.uniq ePrf_inj h'
    all_goals exact absurd e1 (by decide)

theorem c3 (a b : Prf) (ha : a.ok) (hb : b.ok) (path : List Int) (hp : path.length ≤ 9223372036854775807) (h : AHeap) :
    CallOK Tryz.prog 3 [.agg a.cells, .agg b.cells, .isl (intRows path) 1] h (.ret (.sc (.bool true))) h := by
  obtain ⟨c, hc⟩ : ∃ c, c = (if a.at? path = true then a.putAt path Prf.zero else Prf.zero) := ⟨_, rfl⟩
  obtain ⟨e, he⟩ : ∃ e : Int, e = (if a.at? path = true then 0 else 12) := ⟨_, rfl⟩
  have h6 := c6 hP a ha path hp
  rw [← hc, ← he] at h6
  clear hc he
  obtain ⟨R, hR, hC⟩ := rec_of (P := Tryz.prog) (C3 a b c path e) (fun _ _ _ _ x y => x.uniq y) (by
    rintro f x v (⟨z, rfl, hz, rfl, rfl⟩ | ⟨rfl, rfl, rfl⟩ | ⟨rfl, rfl, rfl⟩ | ⟨y, z, t, rfl, rfl, rfl, hd, ht⟩ | ⟨y, z, t, rfl, rfl, rfl, hd, ht⟩) h
    · rcases hz with rfl | rfl
      · exact c4 hP _ ha h
      · exact c4 hP _ hb h
    · exact c5 hP h
    · exact h6 h
    · exact c7 hP y z t hd ht h
    · exact c8 hP y z t hd ht h)
  obtain ⟨t1, h1⟩ := EqT.ex a c
  obtain ⟨t2, h2⟩ := EqT.ex a b
  have h3 : EqT b a t2 := ⟨fun x => (h2.1 x).symm, fun x => h2.2 x.symm⟩
  have h4 : EqT a a true := ⟨fun _ => rfl, fun _ => rfl⟩
  have q1 := hC 4 _ _ (.inl ⟨a, rfl, .inl rfl, rfl, rfl⟩)
  have q2 := hC 4 _ _ (.inl ⟨b, rfl, .inr rfl, rfl, rfl⟩)
  have q3 := hC 5 _ _ (.inr (.inl ⟨rfl, rfl, rfl⟩))
  have q4 := hC 6 _ _ (.inr (.inr (.inl ⟨rfl, rfl, rfl⟩)))
  have q5 := hC 7 _ _ (.inr (.inr (.inr (.inl ⟨a, c, t1, rfl, rfl, rfl, ha, h1⟩))))
  have q6 := hC 8 _ _ (.inr (.inr (.inr (.inr ⟨a, c, t1, rfl, rfl, rfl, ha, h1⟩))))
  have q7 := hC 7 _ _ (.inr (.inr (.inr (.inl ⟨a, b, t2, rfl, rfl, rfl, ha, h2⟩))))
  have q8 := hC 8 _ _ (.inr (.inr (.inr (.inr ⟨a, b, t2, rfl, rfl, rfl, ha, h2⟩))))
  have q9 := hC 7 _ _ (.inr (.inr (.inr (.inl ⟨a, a, true, rfl, rfl, rfl, ha, h4⟩))))
  have q10 := hC 7 _ _ (.inr (.inr (.inr (.inl ⟨b, a, t2, rfl, rfl, rfl, hb, h3⟩))))
  clear hC h1 h2 h3 h4 h6
  generalize (decide (a.cnt.1 ≤ 3000) && decide (a.cnt.2 ≤ 500)) = ta at q1
  generalize (decide (b.cnt.1 ≤ 3000) && decide (b.cnt.2 ≤ 500)) = tb at q2
  simp only [ePrf] at q5 q6 q7 q8 q9 q10
  obtain ⟨⟨r, b1, n, p, ts, u⟩, l⟩ := a
  obtain ⟨⟨r', b', n', p', ts', u'⟩, l'⟩ := b
  obtain ⟨⟨c1, c2, c3, c4, c5, c6⟩, cs⟩ := c
  cases ta with
  | false => exact w3a hP hR r b1 n p ts u l r' b' n' p' ts' u' l' c1 c2 c3 c4 c5 c6 cs path tb t1 t2 e q1 q2 q3 q4 q5 q6 q7 q8 q9 q10 h
  | true =>
    cases tb with
    | false => exact w3b hP hR r b1 n p ts u l r' b' n' p' ts' u' l' c1 c2 c3 c4 c5 c6 cs path t1 t2 e q1 q2 q3 q4 q5 q6 q7 q8 q9 q10 h
    | true =>
      cases t1 with
      | false =>
        cases t2 with
        | false => exact w3c hP hR r b1 n p ts u l r' b' n' p' ts' u' l' c1 c2 c3 c4 c5 c6 cs path e q1 q2 q3 q4 q5 q6 q7 q8 q9 q10 h
        | true => exact w3d hP hR r b1 n p ts u l r' b' n' p' ts' u' l' c1 c2 c3 c4 c5 c6 cs path e q1 q2 q3 q4 q5 q6 q7 q8 q9 q10 h
      | true =>
        cases t2 with
        | false => exact w3e hP hR r b1 n p ts u l r' b' n' p' ts' u' l' c1 c2 c3 c4 c5 c6 cs path e q1 q2 q3 q4 q5 q6 q7 q8 q9 q10 h
        | true => exact w3f hP hR r b1 n p ts u l r' b' n' p' ts' u' l' c1 c2 c3 c4 c5 c6 cs path e q1 q2 q3 q4 q5 q6 q7 q8 q9 q10 h
end
end Go.AI
