/-
  The copies of layer 5, for all data: each hands back what it was handed.
-/
import Derived.Test.YtmlcjnhkphkpiaaGreatDoorEh
import Derived.Test.YtmlcjnhkphkpiaaGreatDoorEg
import Derived.Test.YtmlcjnhkphkpiaaGreatDoorEi
import Derived.Test.YtmlcjnhkphkpiaaGreatDoorEj
import Derived.Test.YtmlcjnhkphkpiaaGreatDoorEk
import Derived.Test.YtmlcjnhkphkpiaaGreatDoorEl
import Derived.Test.YtmlcjnhkphkpiaaGreatDoorEm
set_option linter.all false

section
namespace Go.AI
open Go Go.Proofs

/-- a family: f hands back its argument -/
def Same (P : Program) {α : Type} (f0 : FuncId) (enc : α → AV) (D : α → Prop) : Prop := ∀ (a : α), D a → ∀ h, CallOK P f0 [enc a] h (.ret (enc a)) h

theorem same1 {P : Program} {α : Type} {f0 : FuncId} {enc : α → AV} {D : α → Prop} (hf : Same P f0 enc D) : ∃ R, RecOK P R ∧ ∀ a, D a → ∀ h, R.call .normal f0 [enc a] .none h = some (.ret (enc a), .none, h) := by
  obtain ⟨R, hR, hC⟩ := rec_of (P := P) (fun f x v => ∃ a, f = f0 ∧ x = [enc a] ∧ v = enc a ∧ D a)
    (by
      rintro f x v v' ⟨a, _, rfl, rfl, _⟩ ⟨b, _, e, rfl, _⟩
      simpa using e)
    (by
      rintro f x v ⟨a, rfl, rfl, rfl, h1⟩ h
      exact hf a h1 h)
  exact ⟨R, hR, fun a ha h => hC _ _ _ ⟨a, rfl, rfl, rfl, ha⟩ h⟩

theorem same2 {P : Program} {α β : Type} {f0 f1 : FuncId} {enc : α → AV} {D : α → Prop} {enc1 : β → AV} {D1 : β → Prop} (hne : f0 ≠ f1) (hf : Same P f0 enc D) (hf1 : Same P f1 enc1 D1) :
    ∃ R, RecOK P R ∧ (∀ a, D a → ∀ h, R.call .normal f0 [enc a] .none h = some (.ret (enc a), .none, h)) ∧ (∀ a, D1 a → ∀ h, R.call .normal f1 [enc1 a] .none h = some (.ret (enc1 a), .none, h)) := by
  obtain ⟨R, hR, hC⟩ := rec_of (P := P) (fun f x v => (∃ a, f = f0 ∧ x = [enc a] ∧ v = enc a ∧ D a) ∨ (∃ a, f = f1 ∧ x = [enc1 a] ∧ v = enc1 a ∧ D1 a))
    (by
      rintro f x v v' (⟨a, ea, rfl, rfl, _⟩ | ⟨a, ea, rfl, rfl, _⟩) (⟨b, eb, e, rfl, _⟩ | ⟨b, eb, e, rfl, _⟩)
      · simpa using e
      · exact absurd (ea.symm.trans eb) hne
      · exact absurd (eb.symm.trans ea) hne
      · simpa using e)
    (by
      rintro f x v (⟨a, rfl, rfl, rfl, h1⟩ | ⟨a, rfl, rfl, rfl, h1⟩) h
      · exact hf a h1 h
      · exact hf1 a h1 h)
  exact ⟨R, hR, fun a ha h => hC _ _ _ (.inl ⟨a, rfl, rfl, rfl, ha⟩) h, fun a ha h => hC _ _ _ (.inr ⟨a, rfl, rfl, rfl, ha⟩) h⟩

section
variable (hP : ProgOK Tryz.prog)
include hP

theorem s252 : Same Tryz.prog 252 (fun a : Ty => .agg a.cells) Ty.ok := fun a ha h => c252 hP a.size a (Nat.le_refl _) ha h

theorem s187n : ∀ n, Same Tryz.prog 187 (fun a : Tm => .agg a.cells) (fun a => a.size ≤ n ∧ a.ok)
  | 0 => fun a ha => by obtain ⟨_, _, _, _, ks⟩ := a; exact absurd ha.1 (by simp [Tm.size])
  | n + 1 => by
    rintro ⟨o, m, i, ⟨tk, tn, ts⟩, ks⟩ ⟨hn, ha⟩ h
    obtain ⟨R, hR, hC⟩ := same1 (s187n n)
    have hl : Same Tryz.prog 117 (fun l : List Tm => .isl (Tm.rows l) 7) (fun l => l = ks) := by
      rintro l rfl h
      refine w117 hP hR _ ha.2.1 (fun a hm h => hC a ⟨?_, Tm.oks_mem ha.2.2 a hm⟩ h) h
      have := Tm.size_mem a hm
      simp only [Tm.size] at hn
      omega
    obtain ⟨R2, hR2, hC1, hC2⟩ := same2 (by decide) (s252 hP) hl
    exact w187 hP hR2 o m i tk tn ts ks (fun h => hC1 _ ha.1 h) (fun h => hC2 ks rfl h) h
theorem s187 : Same Tryz.prog 187 (fun a : Tm => .agg a.cells) Tm.ok := fun a ha h => s187n hP a.size a ⟨Nat.le_refl _, ha⟩ h
theorem s117 : Same Tryz.prog 117 (fun l : List Tm => .isl (Tm.rows l) 7) (fun l => l.length * 104 ≤ 140737488355328 ∧ Tm.oks l) := by
  rintro l ⟨h1, h2⟩ h
  obtain ⟨R, hR, hC⟩ := same1 (s187 hP)
  exact w117 hP hR l h1 (fun a hm h => hC a (Tm.oks_mem h2 a hm) h) h

theorem s84 : Same Tryz.prog 84 (fun s : Stp => .agg s.cells) Stp.ok := by
  rintro ⟨r, b, n, p, ts, u⟩ ha h
  obtain ⟨R, hR, hC⟩ := same1 (s117 hP)
  exact w84 hP hR r b n p ts u ha.1 ha.2.2.2 (fun h => hC ts ⟨ha.2.1, ha.2.2.1⟩ h) h

theorem s43n : ∀ n, Same Tryz.prog 43 (fun a : Prf => .agg a.cells) (fun a => a.size ≤ n ∧ a.ok)
  | 0 => fun a ha => by obtain ⟨_, ks⟩ := a; exact absurd ha.1 (by simp [Prf.size])
  | n + 1 => by
    rintro ⟨⟨r, b, m, p, ts, u⟩, ks⟩ ⟨hn, ha⟩ h
    obtain ⟨R, hR, hC1, hC2⟩ := same2 (by decide) (s84 hP) (s43n n)
    refine w43 hP hR r b m p ts u ks ha.2.1 (fun h => hC1 _ ha.1 h) (fun a hm h => hC2 a ⟨?_, Prf.oks_mem ha.2.2 a hm⟩ h) h
    have := Prf.size_mem a hm
    simp only [Prf.size] at hn
    omega
theorem s43 : Same Tryz.prog 43 (fun a : Prf => .agg a.cells) Prf.ok := fun a ha h => s43n hP a.size a ⟨Nat.le_refl _, ha⟩ h

theorem s43t (r b : Int) (m : ByteArray) (p : List Int) (ts : List Tm) (u : List Int) (ks : List Prf) (ha : (Prf.mk ⟨r, b, m, p, ts, u⟩ ks).ok) (hne : 0 < ks.length) (h : AHeap) :
    CallOK Tryz.prog 43 [.agg (Prf.mk ⟨r, b, m, p, ts, u⟩ ks).cells] h (.ret (.agg [.sc (.int .i64 r), .sc (.int .i64 b), .sc (.string m), .isl (intRows p) 1, .isl (Tm.rows ts) 7, .isl (intRows u) 1, .sl h.next 0 (ks.length * 7) 0 7 ks.length none])) (h.alloc (.cells 0 0 (Prf.rows ks).flatten 0 28 false false)) := by
  obtain ⟨R, hR, hC1, hC2⟩ := same2 (by decide) (s84 hP) (s43 hP)
  exact w43t hP hR r b m p ts u ks ha.2.1 (fun h => hC1 _ ha.1 h) (fun a hm h => hC2 a (Prf.oks_mem ha.2.2 a hm) h) hne h

/-- a proof with one node replaced -/
def Prf.putAt : Prf → List Int → Prf → Prf
  | _, [], q => q
  | .mk s ks, i :: is, q => match ks[i.toNat]? with
    | some y => .mk s (ks.set i.toNat (y.putAt is q))
    | none => .mk s ks

theorem s18 (q : Prf) (hq : q.ok) : ∀ (path : List Int) (a : Prf), a.ok → a.at? path = true → ∀ h, CallOK Tryz.prog 18 [.agg a.cells, .isl (intRows path) 1, .agg q.cells] h (.ret (.agg (a.putAt path q).cells)) h
  | [], a, _, _, h => by
    obtain ⟨⟨r, b, m, p, ts, u⟩, ks⟩ := a
    obtain ⟨⟨r', b', m', p', ts', u'⟩, ks'⟩ := q
    obtain ⟨R, hR, hC⟩ := same1 (s43 hP)
    exact w18e hP hR r b m p ts u ks r' b' m' p' ts' u' ks' (fun h => hC _ hq h) h
  | i :: is, .mk ⟨r, b, m, p, ts, u⟩ ks, ha, hat, h => by
    simp only [Prf.at?] at hat
    by_cases hi : i < 0
    · rw [if_pos hi] at hat; cases hat
    · rw [if_neg hi] at hat
      obtain ⟨k, rfl⟩ : ∃ k : Nat, i = (k : Int) := ⟨i.toNat, by omega⟩
      rw [Int.toNat_natCast] at hat
      cases hy : ks[k]? with
      | none => rw [hy] at hat; cases hat
      | some y =>
        rw [hy] at hat
        have hk : k < ks.length := by
          rcases Nat.lt_or_ge k ks.length with e | e
          · exact e
          · rw [List.getElem?_eq_none e] at hy; cases hy
        have hmem : y ∈ ks := List.mem_of_getElem? hy
        have ih := s18 q hq is y (Prf.oks_mem ha.2.2 y hmem) hat
        obtain ⟨R, hR, hC⟩ := rec_ofH (P := Tryz.prog) (fun f x h v h' => (f = 43 ∧ x = [.agg (Prf.mk ⟨r, b, m, p, ts, u⟩ ks).cells] ∧ v = .agg [.sc (.int .i64 r), .sc (.int .i64 b), .sc (.string m), .isl (intRows p) 1, .isl (Tm.rows ts) 7, .isl (intRows u) 1, .sl h.next 0 (ks.length * 7) 0 7 ks.length none] ∧ h' = h.alloc (.cells 0 0 (Prf.rows ks).flatten 0 28 false false)) ∨
            (f = 18 ∧ x = [.agg y.cells, .isl (intRows is) 1, .agg q.cells] ∧ v = .agg (y.putAt is q).cells ∧ h' = h))
          (by
            rintro f x h v h1 v' h1' (⟨e1, _, rfl, rfl⟩ | ⟨e1, _, rfl, rfl⟩) (⟨e2, _, rfl, rfl⟩ | ⟨e2, _, rfl, rfl⟩)
            · exact ⟨rfl, rfl⟩
            · exact absurd (e1.symm.trans e2) (by decide)
            · exact absurd (e1.symm.trans e2) (by decide)
            · exact ⟨rfl, rfl⟩)
          (by
            rintro f x h v h' (⟨rfl, rfl, rfl, rfl⟩ | ⟨rfl, rfl, rfl, rfl⟩)
            · exact s43t hP r b m p ts u ks ha (by omega) h
            · exact ih _)
        obtain ⟨⟨r', b', m', p', ts', u'⟩, ks'⟩ := q
        have := w18 hP hR r b m p ts u ks r' b' m' p' ts' u' ks' k is y (y.putAt is (Prf.mk ⟨r', b', m', p', ts', u'⟩ ks')) hk hy
          (fun objs nx fl wr => hC _ _ _ _ _ (.inl ⟨rfl, rfl, rfl, rfl⟩)) (fun h => hC _ _ _ _ _ (.inr ⟨rfl, rfl, rfl, rfl⟩)) h
        have e : (Prf.mk ⟨r, b, m, p, ts, u⟩ ks).putAt ((k : Int) :: is) (Prf.mk ⟨r', b', m', p', ts', u'⟩ ks') = .mk ⟨r, b, m, p, ts, u⟩ (ks.set k (y.putAt is (Prf.mk ⟨r', b', m', p', ts', u'⟩ ks'))) := by
          simp only [Prf.putAt, Int.toNat_natCast, hy]
        rw [e]
        exact this
end
end Go.AI
end

section
namespace Go.AI
open Go Go.Proofs
set_option maxRecDepth 10000
set_option maxHeartbeats 4000000

theorem CallOK.args {P : Program} {f : FuncId} {args args' : List AV} {h h' : AHeap} {out : AOut} (hw : wkAs args args') (hc : CallOK P f args' h out h') : CallOK P f args h out h' :=
  fun g w vs a b c => hc g w vs a b (wkAs_ok args hw c)

def Prf.zero : Prf := .mk ⟨0, 0, ⟨#[]⟩, [], [], []⟩ []
def zeroNil : List AV := [.sc (.int .i64 0), .sc (.int .i64 0), .sc (.string ⟨#[]⟩), .sc (.slice none 0 0), .sc (.slice none 0 0), .sc (.slice none 0 0), .sc (.slice none 0 0)]

theorem w6 {R : Rec} (hP : ProgOK Tryz.prog) (hR : RecOK Tryz.prog R) (r b : Int) (n : ByteArray) (p : List Int) (ts : List Tm) (u : List Int) (l : List Prf) (path : List Int) (t : Bool) (c : Prf)
    (hC1 : ∀ h, R.call .normal 17 [.agg (Prf.mk ⟨r, b, n, p, ts, u⟩ l).cells, .isl (intRows path) 1] .none h = some (.ret (.sc (.bool t)), .none, h))
    (hC2 : t = true → ∀ h, R.call .normal 18 [.agg (Prf.mk ⟨r, b, n, p, ts, u⟩ l).cells, .isl (intRows path) 1, .agg zeroNil] .none h = some (.ret (.agg c.cells), .none, h)) (h : AHeap) :
    CallOK Tryz.prog 6 [.agg (Prf.mk ⟨r, b, n, p, ts, u⟩ l).cells, .isl (intRows path) 1] h (.ret (.tuple [.agg (if t = true then c else Prf.zero).cells, .sc (.int .i64 (if t = true then 0 else 12))])) h := by
  have hcall1 := hC1
  cases t with
  | true =>
    have hcall2 := hC2 rfl
    obtain ⟨⟨c1, c2, c3, c4, c5, c6⟩, cs⟩ := c
    refine PR.callW hP Tryz.func6 rfl rfl ?_ h
    repeat' first
    | (refine OpsW.id ?_; first
     | (refine OpsW.guarded ?_; first | refine OpsW.met rfl rfl rfl ?_ | refine OpsW.unmet rfl rfl rfl rfl ?_ | refine OpsW.gone rfl rfl rfl ?_)
     | (refine OpsW.as (.fieldAddr _ _ _) ?_; first | refine OpsW.val (v := .ref _ _ _ _) rfl rfl ?_ | refine OpsW.val (v := .pref _) rfl rfl ?_)
     | ((first | refine OpsW.as (.load _ _) ?_ | refine OpsW.as (.move _) ?_ | refine OpsW.as (.pick _ _ _) ?_ | refine OpsW.as (.assign _) ?_ | refine OpsW.as (.extract _ _) ?_); first | refine OpsW.val (v := .sc (.bool _)) rfl rfl ?_ | refine OpsW.val (v := .sc (.int _ _)) rfl rfl ?_ | refine OpsW.val (v := .ref _ _ _ _) rfl rfl ?_ | refine OpsW.val (v := .isl _ _) rfl rfl ?_ | refine OpsW.val (v := .sc (.string _)) rfl rfl ?_ | refine OpsW.val (v := .agg _) rfl rfl ?_ | refine OpsW.val rfl rfl ?_)
     | (refine OpsW.as (.binOp _ _ _ _ _) ?_; first | refine OpsW.test rfl rfl (fun hb => ?_) (fun hb => ?_) | refine OpsW.val (v := .sc (.int _ _)) rfl rfl ?_ | refine OpsW.val rfl rfl ?_)
     | (refine OpsW.as (.indexAddr _ _ _) ?_; refine OpsW.val rfl rfl ?_)
     | (refine OpsW.as (.call _) ?_; first | refine OpsW.val (v := .sc (.int _ _)) rfl rfl ?_ | refine OpsW.call (v := .sc (.bool true)) rfl (by first | exact hcall1 _ | exact hcall2 _) rfl ?_ | refine OpsW.call (v := .sc (.bool false)) rfl (by first | exact hcall1 _ | exact hcall2 _) rfl ?_ | refine OpsW.callB rfl (by first | exact hcall1 _ | exact hcall2 _) rfl (fun hb => ?_) (fun hb => ?_) | refine OpsW.call rfl (by first | exact hcall1 _ | exact hcall2 _) rfl ?_ | refine OpsW.val rfl rfl ?_)
     | (refine OpsW.as (.unOp _ _ _) ?_; first | refine OpsW.val (v := .sc (.bool _)) rfl rfl ?_ | refine OpsW.val (v := .sc (.int _ _)) rfl rfl ?_)
     | (refine OpsW.as (.box _ _) ?_; refine OpsW.box rfl rfl rfl rfl ?_)
     | (refine OpsW.as (.alloc _) ?_; refine OpsW.alloc rfl rfl rfl rfl rfl ?_)
     | (refine OpsW.as (.store _ _ _) ?_; refine OpsW.put rfl rfl rfl rfl rfl rfl rfl rfl rfl ?_)
     | (refine OpsW.as (.buildSlice _ _ _) ?_; refine OpsW.buildSlice rfl rfl rfl rfl rfl rfl rfl rfl ?_)
     | refine OpsW.unit rfl ?_
     | refine OpsW.nil ?_
     | refine OpsW.val rfl rfl ?_)
    | (refine DrawW.id ?_; first
     | (refine DrawW.guarded ?_; first | refine DrawW.met rfl rfl ?_ | refine DrawW.unmet rfl rfl rfl rfl rfl ?_ | refine DrawW.gone rfl rfl rfl rfl ?_)
     | (refine DrawW.as (.fieldAddr _ _ _) ?_; first | refine DrawW.val (v := .ref _ _ _ _) rfl rfl rfl rfl rfl rfl ?_ | refine DrawW.val (v := .pref _) rfl rfl rfl rfl rfl rfl ?_)
     | ((first | refine DrawW.as (.load _ _) ?_ | refine DrawW.as (.move _) ?_ | refine DrawW.as (.pick _ _ _) ?_ | refine DrawW.as (.assign _) ?_ | refine DrawW.as (.extract _ _) ?_); first | refine DrawW.val (v := .sc (.bool _)) rfl rfl rfl rfl rfl rfl ?_ | refine DrawW.val (v := .sc (.int _ _)) rfl rfl rfl rfl rfl rfl ?_ | refine DrawW.val (v := .ref _ _ _ _) rfl rfl rfl rfl rfl rfl ?_ | refine DrawW.val (v := .isl _ _) rfl rfl rfl rfl rfl rfl ?_ | refine DrawW.val (v := .sc (.string _)) rfl rfl rfl rfl rfl rfl ?_ | refine DrawW.val (v := .agg _) rfl rfl rfl rfl rfl rfl ?_ | refine DrawW.val rfl rfl rfl rfl rfl rfl ?_)
     | (refine DrawW.as (.binOp _ _ _ _ _) ?_; first | refine DrawW.test rfl rfl rfl (fun hb => ?_) (fun hb => ?_) | refine DrawW.val (v := .sc (.int _ _)) rfl rfl rfl rfl rfl rfl ?_ | refine DrawW.val rfl rfl rfl rfl rfl rfl ?_)
     | (refine DrawW.as (.indexAddr _ _ _) ?_; refine DrawW.val rfl rfl rfl rfl rfl rfl ?_)
     | (refine DrawW.as (.call _) ?_; first | refine DrawW.val (v := .sc (.int _ _)) rfl rfl rfl rfl rfl rfl ?_ | refine DrawW.call (v := .sc (.bool true)) rfl rfl rfl (by first | exact hcall1 _ | exact hcall2 _) rfl ?_ | refine DrawW.call (v := .sc (.bool false)) rfl rfl rfl (by first | exact hcall1 _ | exact hcall2 _) rfl ?_ | refine DrawW.callB rfl rfl rfl (by first | exact hcall1 _ | exact hcall2 _) rfl (fun hb => ?_) (fun hb => ?_) | refine DrawW.call rfl rfl rfl (by first | exact hcall1 _ | exact hcall2 _) rfl ?_ | refine DrawW.actv rfl rfl rfl rfl ?_)
     | (refine DrawW.as (.unOp _ _ _) ?_; first | refine DrawW.val (v := .sc (.bool _)) rfl rfl rfl rfl rfl rfl ?_ | refine DrawW.val (v := .sc (.int _ _)) rfl rfl rfl rfl rfl rfl ?_)
     | (refine DrawW.as (.box _ _) ?_; refine DrawW.box rfl rfl rfl rfl ?_)
     | (refine DrawW.as (.alloc _) ?_; refine DrawW.alloc rfl rfl rfl rfl rfl ?_)
     | (refine DrawW.as (.store _ _ _) ?_; refine DrawW.put rfl rfl rfl rfl rfl rfl rfl rfl rfl ?_)
     | refine DrawW.store rfl ?_
     | refine DrawW.fin (by kernel_rfl) ?_
     | (refine DrawW.as (.buildSlice _ _ _) ?_; refine DrawW.buildSlice rfl rfl rfl rfl rfl rfl rfl rfl ?_)
     | refine DrawW.val rfl rfl rfl rfl rfl rfl ?_
     | refine DrawW.actv rfl rfl rfl rfl ?_)
    | refine PR.seq ?_
    | refine PR.region hP hR rfl rfl ?_
    | refine PR.draw hP hR rfl rfl (by kernel_rfl) ?_
    | refine PR.yes rfl ?_
    | refine PR.no rfl ?_
    | refine PR.block ?_
    | refine PR.skip hP rfl rfl ?_
    | refine PR.exit hP rfl rfl ?_
    | refine PR.ret hP rfl rfl ?_
    exact ⟨.inl rfl, rfl, _, 19, _, rfl, rfl, ⟨⟨rfl, rfl, rfl, rfl, rfl, rfl, rfl, rfl⟩, rfl, rfl⟩⟩
  | false =>
    refine PR.callW hP Tryz.func6 rfl rfl ?_ h
    repeat' first
    | (refine OpsW.id ?_; first
     | (refine OpsW.guarded ?_; first | refine OpsW.met rfl rfl rfl ?_ | refine OpsW.unmet rfl rfl rfl rfl ?_ | refine OpsW.gone rfl rfl rfl ?_)
     | (refine OpsW.as (.fieldAddr _ _ _) ?_; first | refine OpsW.val (v := .ref _ _ _ _) rfl rfl ?_ | refine OpsW.val (v := .pref _) rfl rfl ?_)
     | ((first | refine OpsW.as (.load _ _) ?_ | refine OpsW.as (.move _) ?_ | refine OpsW.as (.pick _ _ _) ?_ | refine OpsW.as (.assign _) ?_ | refine OpsW.as (.extract _ _) ?_); first | refine OpsW.val (v := .sc (.bool _)) rfl rfl ?_ | refine OpsW.val (v := .sc (.int _ _)) rfl rfl ?_ | refine OpsW.val (v := .ref _ _ _ _) rfl rfl ?_ | refine OpsW.val (v := .isl _ _) rfl rfl ?_ | refine OpsW.val (v := .sc (.string _)) rfl rfl ?_ | refine OpsW.val (v := .agg _) rfl rfl ?_ | refine OpsW.val rfl rfl ?_)
     | (refine OpsW.as (.binOp _ _ _ _ _) ?_; first | refine OpsW.test rfl rfl (fun hb => ?_) (fun hb => ?_) | refine OpsW.val (v := .sc (.int _ _)) rfl rfl ?_ | refine OpsW.val rfl rfl ?_)
     | (refine OpsW.as (.indexAddr _ _ _) ?_; refine OpsW.val rfl rfl ?_)
     | (refine OpsW.as (.call _) ?_; first | refine OpsW.val (v := .sc (.int _ _)) rfl rfl ?_ | refine OpsW.call (v := .sc (.bool true)) rfl (by first | exact hcall1 _ | exact hcall2 _) rfl ?_ | refine OpsW.call (v := .sc (.bool false)) rfl (by first | exact hcall1 _ | exact hcall2 _) rfl ?_ | refine OpsW.callB rfl (by first | exact hcall1 _ | exact hcall2 _) rfl (fun hb => ?_) (fun hb => ?_) | refine OpsW.call rfl (by first | exact hcall1 _ | exact hcall2 _) rfl ?_ | refine OpsW.val rfl rfl ?_)
     | (refine OpsW.as (.unOp _ _ _) ?_; first | refine OpsW.val (v := .sc (.bool _)) rfl rfl ?_ | refine OpsW.val (v := .sc (.int _ _)) rfl rfl ?_)
     | (refine OpsW.as (.box _ _) ?_; refine OpsW.box rfl rfl rfl rfl ?_)
     | (refine OpsW.as (.alloc _) ?_; refine OpsW.alloc rfl rfl rfl rfl rfl ?_)
     | (refine OpsW.as (.store _ _ _) ?_; refine OpsW.put rfl rfl rfl rfl rfl rfl rfl rfl rfl ?_)
     | (refine OpsW.as (.buildSlice _ _ _) ?_; refine OpsW.buildSlice rfl rfl rfl rfl rfl rfl rfl rfl ?_)
     | refine OpsW.unit rfl ?_
     | refine OpsW.nil ?_
     | refine OpsW.val rfl rfl ?_)
    | (refine DrawW.id ?_; first
     | (refine DrawW.guarded ?_; first | refine DrawW.met rfl rfl ?_ | refine DrawW.unmet rfl rfl rfl rfl rfl ?_ | refine DrawW.gone rfl rfl rfl rfl ?_)
     | (refine DrawW.as (.fieldAddr _ _ _) ?_; first | refine DrawW.val (v := .ref _ _ _ _) rfl rfl rfl rfl rfl rfl ?_ | refine DrawW.val (v := .pref _) rfl rfl rfl rfl rfl rfl ?_)
     | ((first | refine DrawW.as (.load _ _) ?_ | refine DrawW.as (.move _) ?_ | refine DrawW.as (.pick _ _ _) ?_ | refine DrawW.as (.assign _) ?_ | refine DrawW.as (.extract _ _) ?_); first | refine DrawW.val (v := .sc (.bool _)) rfl rfl rfl rfl rfl rfl ?_ | refine DrawW.val (v := .sc (.int _ _)) rfl rfl rfl rfl rfl rfl ?_ | refine DrawW.val (v := .ref _ _ _ _) rfl rfl rfl rfl rfl rfl ?_ | refine DrawW.val (v := .isl _ _) rfl rfl rfl rfl rfl rfl ?_ | refine DrawW.val (v := .sc (.string _)) rfl rfl rfl rfl rfl rfl ?_ | refine DrawW.val (v := .agg _) rfl rfl rfl rfl rfl rfl ?_ | refine DrawW.val rfl rfl rfl rfl rfl rfl ?_)
     | (refine DrawW.as (.binOp _ _ _ _ _) ?_; first | refine DrawW.test rfl rfl rfl (fun hb => ?_) (fun hb => ?_) | refine DrawW.val (v := .sc (.int _ _)) rfl rfl rfl rfl rfl rfl ?_ | refine DrawW.val rfl rfl rfl rfl rfl rfl ?_)
     | (refine DrawW.as (.indexAddr _ _ _) ?_; refine DrawW.val rfl rfl rfl rfl rfl rfl ?_)
     | (refine DrawW.as (.call _) ?_; first | refine DrawW.val (v := .sc (.int _ _)) rfl rfl rfl rfl rfl rfl ?_ | refine DrawW.call (v := .sc (.bool true)) rfl rfl rfl (by first | exact hcall1 _ | exact hcall2 _) rfl ?_ | refine DrawW.call (v := .sc (.bool false)) rfl rfl rfl (by first | exact hcall1 _ | exact hcall2 _) rfl ?_ | refine DrawW.callB rfl rfl rfl (by first | exact hcall1 _ | exact hcall2 _) rfl (fun hb => ?_) (fun hb => ?_) | refine DrawW.call rfl rfl rfl (by first | exact hcall1 _ | exact hcall2 _) rfl ?_ | refine DrawW.actv rfl rfl rfl rfl ?_)
     | (refine DrawW.as (.unOp _ _ _) ?_; first | refine DrawW.val (v := .sc (.bool _)) rfl rfl rfl rfl rfl rfl ?_ | refine DrawW.val (v := .sc (.int _ _)) rfl rfl rfl rfl rfl rfl ?_)
     | (refine DrawW.as (.box _ _) ?_; refine DrawW.box rfl rfl rfl rfl ?_)
     | (refine DrawW.as (.alloc _) ?_; refine DrawW.alloc rfl rfl rfl rfl rfl ?_)
     | (refine DrawW.as (.store _ _ _) ?_; refine DrawW.put rfl rfl rfl rfl rfl rfl rfl rfl rfl ?_)
     | refine DrawW.store rfl ?_
     | refine DrawW.fin (by kernel_rfl) ?_
     | (refine DrawW.as (.buildSlice _ _ _) ?_; refine DrawW.buildSlice rfl rfl rfl rfl rfl rfl rfl rfl ?_)
     | refine DrawW.val rfl rfl rfl rfl rfl rfl ?_
     | refine DrawW.actv rfl rfl rfl rfl ?_)
    | refine PR.seq ?_
    | refine PR.region hP hR rfl rfl ?_
    | refine PR.draw hP hR rfl rfl (by kernel_rfl) ?_
    | refine PR.yes rfl ?_
    | refine PR.no rfl ?_
    | refine PR.block ?_
    | refine PR.skip hP rfl rfl ?_
    | refine PR.exit hP rfl rfl ?_
    | refine PR.ret hP rfl rfl ?_
    exact ⟨.inl rfl, rfl, _, 19, _, rfl, rfl, ⟨⟨rfl, rfl, rfl, ⟨rfl, rfl⟩, ⟨rfl, rfl⟩, ⟨rfl, rfl⟩, ⟨rfl, rfl⟩, rfl⟩, rfl, rfl⟩⟩

theorem Prf.zero_ok : Prf.zero.ok := ⟨⟨by decide, by decide, trivial, by decide⟩, by decide, trivial⟩

theorem c6 (hP : ProgOK Tryz.prog) (a : Prf) (ha : a.ok) (path : List Int) (hp : path.length ≤ 9223372036854775807) (h : AHeap) :
    CallOK Tryz.prog 6 [.agg a.cells, .isl (intRows path) 1] h (.ret (.tuple [.agg (if a.at? path = true then a.putAt path Prf.zero else Prf.zero).cells, .sc (.int .i64 (if a.at? path = true then 0 else 12))])) h := by
  obtain ⟨⟨r, b, n, p, ts, u⟩, l⟩ := a
  obtain ⟨R, hR, hC⟩ := rec_of (P := Tryz.prog) (fun f x v => (f = 17 ∧ x = [.agg (Prf.mk ⟨r, b, n, p, ts, u⟩ l).cells, .isl (intRows path) 1] ∧ v = .sc (.bool ((Prf.mk ⟨r, b, n, p, ts, u⟩ l).at? path))) ∨
      (f = 18 ∧ (Prf.mk ⟨r, b, n, p, ts, u⟩ l).at? path = true ∧ x = [.agg (Prf.mk ⟨r, b, n, p, ts, u⟩ l).cells, .isl (intRows path) 1, .agg zeroNil] ∧ v = .agg ((Prf.mk ⟨r, b, n, p, ts, u⟩ l).putAt path Prf.zero).cells))
    (by
      rintro f x v v' (⟨e1, _, rfl⟩ | ⟨e1, _, _, rfl⟩) (⟨e2, _, rfl⟩ | ⟨e2, _, _, rfl⟩)
      · rfl
      · exact absurd (e1.symm.trans e2) (by decide)
      · exact absurd (e1.symm.trans e2) (by decide)
      · rfl)
    (by
      rintro f x v (⟨rfl, rfl, rfl⟩ | ⟨rfl, hat, rfl, rfl⟩) h
      · exact w17 hP _ path hp h
      · refine CallOK.args ?_ (s18 hP Prf.zero Prf.zero_ok path _ ha hat h)
        exact ⟨⟨rfl, rfl, rfl, rfl, rfl, rfl, rfl, rfl⟩, rfl, ⟨rfl, rfl, rfl, ⟨rfl, rfl⟩, ⟨rfl, rfl⟩, ⟨rfl, rfl⟩, ⟨rfl, rfl⟩, rfl⟩, rfl⟩)
  exact w6 hP hR r b n p ts u l path _ _ (fun h => hC _ _ _ (.inl ⟨rfl, rfl, rfl⟩) h) (fun hat h => hC _ _ _ (.inr ⟨rfl, hat, rfl, rfl⟩) h) h
end Go.AI
end
