/-
  The data of layer 5.
-/
import Derived.IntWalk
import Derived.Test.YtmlcjnhkphkpiaaGreatDoorAiF
set_option linter.all false

namespace Go.AI

inductive Ty where
  | mk (kind : Int) (name : ByteArray) (kids : List Ty)

def Ty.kids : Ty → List Ty | .mk _ _ k => k

mutual
def Ty.cells : Ty → List AV
  | .mk k n ks => [.sc (.int .i64 k), .sc (.string n), .isl (Ty.rows ks) 3]
def Ty.rows : List Ty → List (List AV)
  | [] => []
  | t :: ts => t.cells :: Ty.rows ts
end

mutual
def Ty.ok : Ty → Prop
  | .mk _ _ ks => ks.length * 48 ≤ 140737488355328 ∧ Ty.oks ks
def Ty.oks : List Ty → Prop
  | [] => True
  | t :: ts => t.ok ∧ Ty.oks ts
end

theorem Ty.oks_mem : ∀ {l : List Ty}, Ty.oks l → ∀ t, t ∈ l → t.ok
  | [], _, t, h => by cases h
  | a :: as, ho, t, h => by
    rcases List.mem_cons.1 h with rfl | h
    · exact ho.1
    · exact Ty.oks_mem ho.2 t h

mutual
def Ty.size : Ty → Nat
  | .mk _ _ ks => 1 + Ty.sizes ks
def Ty.sizes : List Ty → Nat
  | [] => 0
  | t :: ts => t.size + Ty.sizes ts
end

theorem Ty.size_mem : ∀ {l : List Ty} (t : Ty), t ∈ l → t.size ≤ Ty.sizes l
  | [], t, h => by cases h
  | a :: as, t, h => by
    rcases List.mem_cons.1 h with rfl | h
    · simp only [Ty.sizes]; omega
    · have := Ty.size_mem t h; simp only [Ty.sizes]; omega

theorem Ty.rows_get : ∀ (l : List Ty) (i : Nat), (Ty.rows l)[i]? = (l[i]?).map Ty.cells
  | [], i => by simp [Ty.rows]
  | t :: ts, 0 => by simp [Ty.rows]
  | t :: ts, i + 1 => by simp [Ty.rows, Ty.rows_get ts i]

theorem Ty.rows_length : ∀ (l : List Ty), (Ty.rows l).length = l.length
  | [] => rfl
  | t :: ts => by simp [Ty.rows, Ty.rows_length ts]

mutual
theorem Ty.cells_inj : ∀ (a b : Ty), a.cells = b.cells → a = b
  | .mk k n ks, .mk k' n' ks', h => by
    simp only [Ty.cells, List.cons.injEq, AV.sc.injEq, Value.int.injEq, Value.string.injEq, AV.isl.injEq, true_and, and_true] at h
    obtain ⟨rfl, rfl, h⟩ := h
    rw [Ty.rows_inj ks ks' h]
theorem Ty.rows_inj : ∀ (a b : List Ty), Ty.rows a = Ty.rows b → a = b
  | [], [], _ => rfl
  | [], _ :: _, h => by simp [Ty.rows] at h
  | _ :: _, [], h => by simp [Ty.rows] at h
  | a :: as, b :: bs, h => by
    simp only [Ty.rows, List.cons.injEq] at h
    rw [Ty.cells_inj a b h.1, Ty.rows_inj as bs h.2]
end


inductive Tm where
  | mk (op : Int) (name : ByteArray) (n : Int) (ty : Ty) (kids : List Tm)

def Tm.kids : Tm → List Tm | .mk _ _ _ _ k => k

mutual
def Tm.cells : Tm → List AV
  | .mk o nm n (.mk tk tn ts) ks => [.sc (.int .i64 o), .sc (.string nm), .sc (.int .i64 n), .sc (.int .i64 tk), .sc (.string tn), .isl (Ty.rows ts) 3, .isl (Tm.rows ks) 7]
def Tm.rows : List Tm → List (List AV)
  | [] => []
  | t :: ts => t.cells :: Tm.rows ts
end

mutual
def Tm.ok : Tm → Prop
  | .mk _ _ _ ty ks => ty.ok ∧ ks.length * 104 ≤ 140737488355328 ∧ Tm.oks ks
def Tm.oks : List Tm → Prop
  | [] => True
  | t :: ts => t.ok ∧ Tm.oks ts
end

theorem Tm.oks_mem : ∀ {l : List Tm}, Tm.oks l → ∀ t, t ∈ l → t.ok
  | [], _, t, h => by cases h
  | a :: as, ho, t, h => by
    rcases List.mem_cons.1 h with rfl | h
    · exact ho.1
    · exact Tm.oks_mem ho.2 t h

mutual
def Tm.size : Tm → Nat
  | .mk _ _ _ _ ks => 1 + Tm.sizes ks
def Tm.sizes : List Tm → Nat
  | [] => 0
  | t :: ts => t.size + Tm.sizes ts
end

theorem Tm.size_mem : ∀ {l : List Tm} (t : Tm), t ∈ l → t.size ≤ Tm.sizes l
  | [], t, h => by cases h
  | a :: as, t, h => by
    rcases List.mem_cons.1 h with rfl | h
    · simp only [Tm.sizes]; omega
    · have := Tm.size_mem t h; simp only [Tm.sizes]; omega

theorem Tm.rows_get : ∀ (l : List Tm) (i : Nat), (Tm.rows l)[i]? = (l[i]?).map Tm.cells
  | [], i => by simp [Tm.rows]
  | t :: ts, 0 => by simp [Tm.rows]
  | t :: ts, i + 1 => by simp [Tm.rows, Tm.rows_get ts i]

theorem Tm.rows_length : ∀ (l : List Tm), (Tm.rows l).length = l.length
  | [] => rfl
  | t :: ts => by simp [Tm.rows, Tm.rows_length ts]

mutual
theorem Tm.cells_inj : ∀ (a b : Tm), a.cells = b.cells → a = b
  | .mk o nm n (.mk tk tn ts) ks, .mk o' nm' n' (.mk tk' tn' ts') ks', h => by
    simp only [Tm.cells, List.cons.injEq, AV.sc.injEq, Value.int.injEq, Value.string.injEq, AV.isl.injEq, true_and, and_true] at h
    obtain ⟨rfl, rfl, rfl, rfl, rfl, h1, h2⟩ := h
    rw [Ty.rows_inj ts ts' h1, Tm.rows_inj ks ks' h2]
theorem Tm.rows_inj : ∀ (a b : List Tm), Tm.rows a = Tm.rows b → a = b
  | [], [], _ => rfl
  | [], _ :: _, h => by simp [Tm.rows] at h
  | _ :: _, [], h => by simp [Tm.rows] at h
  | a :: as, b :: bs, h => by
    simp only [Tm.rows, List.cons.injEq] at h
    rw [Tm.cells_inj a b h.1, Tm.rows_inj as bs h.2]
end

/-- numbers -/
def intRows : List Int → List (List AV)
  | [] => []
  | t :: ts => [.sc (.int .i64 t)] :: intRows ts

theorem intRows_get : ∀ (l : List Int) (i : Nat), (intRows l)[i]? = (l[i]?).map fun n => [.sc (.int .i64 n)]
  | [], i => by simp [intRows]
  | t :: ts, 0 => by simp [intRows]
  | t :: ts, i + 1 => by simp [intRows, intRows_get ts i]

theorem intRows_length : ∀ (l : List Int), (intRows l).length = l.length
  | [] => rfl
  | t :: ts => by simp [intRows, intRows_length ts]

theorem intRows_inj : ∀ (a b : List Int), intRows a = intRows b → a = b
  | [], [], _ => rfl
  | [], _ :: _, h => by simp [intRows] at h
  | _ :: _, [], h => by simp [intRows] at h
  | a :: as, b :: bs, h => by
    simp only [intRows, List.cons.injEq, AV.sc.injEq, Value.int.injEq, true_and, and_true] at h
    rw [h.1, intRows_inj as bs h.2]

structure Stp where
  rule : Int
  b : Int
  name : ByteArray
  path : List Int
  terms : List Tm
  nums : List Int

def Stp.cells (s : Stp) : List AV := [.sc (.int .i64 s.rule), .sc (.int .i64 s.b), .sc (.string s.name), .isl (intRows s.path) 1, .isl (Tm.rows s.terms) 7, .isl (intRows s.nums) 1]
def Stp.ok (s : Stp) : Prop := s.path.length * 8 ≤ 140737488355328 ∧ s.terms.length * 104 ≤ 140737488355328 ∧ Tm.oks s.terms ∧ s.nums.length * 8 ≤ 140737488355328

theorem Stp.cells_inj (a b : Stp) (h : a.cells = b.cells) : a = b := by
  obtain ⟨r, b1, n, p, t, u⟩ := a
  obtain ⟨r', b', n', p', t', u'⟩ := b
  simp only [Stp.cells, List.cons.injEq, AV.sc.injEq, Value.int.injEq, Value.string.injEq, AV.isl.injEq, true_and, and_true] at h
  obtain ⟨rfl, rfl, rfl, h1, h2, h3⟩ := h
  rw [intRows_inj _ _ h1, Tm.rows_inj _ _ h2, intRows_inj _ _ h3]

inductive Prf where
  | mk (step : Stp) (kids : List Prf)

def Prf.kids : Prf → List Prf | .mk _ k => k

mutual
def Prf.cells : Prf → List AV
  | .mk ⟨r, b, n, p, t, u⟩ ks => [.sc (.int .i64 r), .sc (.int .i64 b), .sc (.string n), .isl (intRows p) 1, .isl (Tm.rows t) 7, .isl (intRows u) 1, .isl (Prf.rows ks) 7]
def Prf.rows : List Prf → List (List AV)
  | [] => []
  | t :: ts => t.cells :: Prf.rows ts
end

mutual
def Prf.ok : Prf → Prop
  | .mk s ks => s.ok ∧ ks.length * 128 ≤ 140737488355328 ∧ Prf.oks ks
def Prf.oks : List Prf → Prop
  | [] => True
  | t :: ts => t.ok ∧ Prf.oks ts
end

theorem Prf.oks_mem : ∀ {l : List Prf}, Prf.oks l → ∀ t, t ∈ l → t.ok
  | [], _, t, h => by cases h
  | a :: as, ho, t, h => by
    rcases List.mem_cons.1 h with rfl | h
    · exact ho.1
    · exact Prf.oks_mem ho.2 t h

mutual
def Prf.size : Prf → Nat
  | .mk _ ks => 1 + Prf.sizes ks
def Prf.sizes : List Prf → Nat
  | [] => 0
  | t :: ts => t.size + Prf.sizes ts
end

theorem Prf.size_mem : ∀ {l : List Prf} (t : Prf), t ∈ l → t.size ≤ Prf.sizes l
  | [], t, h => by cases h
  | a :: as, t, h => by
    rcases List.mem_cons.1 h with rfl | h
    · simp only [Prf.sizes]; omega
    · have := Prf.size_mem t h; simp only [Prf.sizes]; omega

theorem Prf.rows_get : ∀ (l : List Prf) (i : Nat), (Prf.rows l)[i]? = (l[i]?).map Prf.cells
  | [], i => by simp [Prf.rows]
  | t :: ts, 0 => by simp [Prf.rows]
  | t :: ts, i + 1 => by simp [Prf.rows, Prf.rows_get ts i]

theorem Prf.rows_length : ∀ (l : List Prf), (Prf.rows l).length = l.length
  | [] => rfl
  | t :: ts => by simp [Prf.rows, Prf.rows_length ts]

mutual
theorem Prf.cells_inj : ∀ (a b : Prf), a.cells = b.cells → a = b
  | .mk ⟨r, b1, n, p, t, u⟩ ks, .mk ⟨r', b', n', p', t', u'⟩ ks', h => by
    simp only [Prf.cells, List.cons.injEq, AV.sc.injEq, Value.int.injEq, Value.string.injEq, AV.isl.injEq, true_and, and_true] at h
    obtain ⟨rfl, rfl, rfl, h1, h2, h3, h4⟩ := h
    rw [intRows_inj _ _ h1, Tm.rows_inj _ _ h2, intRows_inj _ _ h3, Prf.rows_inj ks ks' h4]
theorem Prf.rows_inj : ∀ (a b : List Prf), Prf.rows a = Prf.rows b → a = b
  | [], [], _ => rfl
  | [], _ :: _, h => by simp [Prf.rows] at h
  | _ :: _, [], h => by simp [Prf.rows] at h
  | a :: as, b :: bs, h => by
    simp only [Prf.rows, List.cons.injEq] at h
    rw [Prf.cells_inj a b h.1, Prf.rows_inj as bs h.2]
end

/-- a test for equality: what it answers -/
def EqT {α : Type} (a b : α) (t : Bool) : Prop := t = true ↔ a = b

theorem EqT.eq {α : Type} {a b : α} {t : Bool} (h : EqT a b t) (e : a = b) : t = true := h.2 e
theorem EqT.ne {α : Type} {a b : α} {t : Bool} (h : EqT a b t) (e : a ≠ b) : t = false := by
  cases t
  · rfl
  · exact absurd (h.1 rfl) e
theorem EqT.uniq {α : Type} {a b : α} {t t' : Bool} (h : EqT a b t) (h' : EqT a b t') : t = t' := by rw [Bool.eq_iff_iff]; exact h.trans h'.symm
theorem EqT.ex {α : Type} (a b : α) : ∃ t, EqT a b t := by
  rcases Classical.em (a = b) with h | h
  · exact ⟨true, fun _ => h, fun _ => rfl⟩
  · exact ⟨false, fun e => (by cases e), fun e => absurd e h⟩

theorem list_eq {α : Type} {l l' : List α} (hll : l.length = l'.length) (hpre : ∀ j, j < l.length → l[j]? = l'[j]?) : l = l' := by
  apply List.ext_getElem?
  intro j
  rcases Nat.lt_or_ge j l.length with hj | hj
  · exact hpre j hj
  · rw [List.getElem?_eq_none hj, List.getElem?_eq_none (by omega)]

theorem wrap_succ {i n : Nat} (h : i < n) (hn : n ≤ 9223372036854775807) : IntKind.i64.wrap ((i : Int) + 1) = ((i + 1 : Nat) : Int) := by
  rw [IntWalk.i64_in _ (by omega)]; rfl

theorem Ty.row_of : ∀ {l : List Ty} {r : List AV}, r ∈ Ty.rows l → ∃ a, a ∈ l ∧ r = Ty.cells a
  | [], r, h => by simp [Ty.rows] at h
  | a :: as, r, h => by
    simp only [Ty.rows, List.mem_cons] at h
    rcases h with rfl | h
    · exact ⟨a, by simp, rfl⟩
    · obtain ⟨b, hb, e⟩ := Ty.row_of h
      exact ⟨b, by simp [hb], e⟩
theorem Ty.cells_len (a : Ty) : a.cells.length = 3 := by obtain ⟨_, _, _⟩ := a; rfl
theorem Ty.cells_dat (a : Ty) : a.cells.all isDat = true := by obtain ⟨_, _, _⟩ := a; rfl
theorem Ty.rows_len (l : List Ty) (r : List AV) (h : r ∈ Ty.rows l) : r.length = 3 := by obtain ⟨a, _, rfl⟩ := Ty.row_of h; exact a.cells_len
theorem Ty.rows_dat (l : List Ty) : (Ty.rows l).flatten.all isDat = true := all_flatten fun r h => by obtain ⟨a, _, rfl⟩ := Ty.row_of h; exact a.cells_dat
theorem Ty.rows_append : ∀ (l l' : List Ty), Ty.rows (l ++ l') = Ty.rows l ++ Ty.rows l'
  | [], _ => rfl
  | a :: as, l' => by simp [Ty.rows, Ty.rows_append as l']
theorem Ty.rows_snoc (l : List Ty) (i : Nat) (a : Ty) (h : l[i]? = some a) : (Ty.rows (l.take (i + 1))).flatten = (Ty.rows (l.take i)).flatten ++ a.cells := by
  have hlt : i < l.length := by
    rcases Nat.lt_or_ge i l.length with e | e
    · exact e
    · rw [List.getElem?_eq_none e] at h; cases h
  rw [List.take_succ_eq_append_getElem hlt, Ty.rows_append]
  rw [List.getElem?_eq_getElem hlt] at h
  simp only [Option.some.injEq] at h
  rw [h]
  simp [Ty.rows]
theorem Ty.flat_len (l : List Ty) : (Ty.rows l).flatten.length = l.length * 3 := by rw [Go.AI.flat_len (Ty.rows_len l), Ty.rows_length]

theorem Tm.row_of : ∀ {l : List Tm} {r : List AV}, r ∈ Tm.rows l → ∃ a, a ∈ l ∧ r = Tm.cells a
  | [], r, h => by simp [Tm.rows] at h
  | a :: as, r, h => by
    simp only [Tm.rows, List.mem_cons] at h
    rcases h with rfl | h
    · exact ⟨a, by simp, rfl⟩
    · obtain ⟨b, hb, e⟩ := Tm.row_of h
      exact ⟨b, by simp [hb], e⟩
theorem Tm.cells_len (a : Tm) : a.cells.length = 7 := by obtain ⟨_, _, _, ⟨_, _, _⟩, _⟩ := a; rfl
theorem Tm.cells_dat (a : Tm) : a.cells.all isDat = true := by obtain ⟨_, _, _, ⟨_, _, _⟩, _⟩ := a; rfl
theorem Tm.rows_len (l : List Tm) (r : List AV) (h : r ∈ Tm.rows l) : r.length = 7 := by obtain ⟨a, _, rfl⟩ := Tm.row_of h; exact a.cells_len
theorem Tm.rows_dat (l : List Tm) : (Tm.rows l).flatten.all isDat = true := all_flatten fun r h => by obtain ⟨a, _, rfl⟩ := Tm.row_of h; exact a.cells_dat
theorem Tm.rows_append : ∀ (l l' : List Tm), Tm.rows (l ++ l') = Tm.rows l ++ Tm.rows l'
  | [], _ => rfl
  | a :: as, l' => by simp [Tm.rows, Tm.rows_append as l']
theorem Tm.rows_snoc (l : List Tm) (i : Nat) (a : Tm) (h : l[i]? = some a) : (Tm.rows (l.take (i + 1))).flatten = (Tm.rows (l.take i)).flatten ++ a.cells := by
  have hlt : i < l.length := by
    rcases Nat.lt_or_ge i l.length with e | e
    · exact e
    · rw [List.getElem?_eq_none e] at h; cases h
  rw [List.take_succ_eq_append_getElem hlt, Tm.rows_append]
  rw [List.getElem?_eq_getElem hlt] at h
  simp only [Option.some.injEq] at h
  rw [h]
  simp [Tm.rows]
theorem Tm.flat_len (l : List Tm) : (Tm.rows l).flatten.length = l.length * 7 := by rw [Go.AI.flat_len (Tm.rows_len l), Tm.rows_length]

theorem Prf.row_of : ∀ {l : List Prf} {r : List AV}, r ∈ Prf.rows l → ∃ a, a ∈ l ∧ r = Prf.cells a
  | [], r, h => by simp [Prf.rows] at h
  | a :: as, r, h => by
    simp only [Prf.rows, List.mem_cons] at h
    rcases h with rfl | h
    · exact ⟨a, by simp, rfl⟩
    · obtain ⟨b, hb, e⟩ := Prf.row_of h
      exact ⟨b, by simp [hb], e⟩
theorem Prf.cells_len (a : Prf) : a.cells.length = 7 := by obtain ⟨⟨_, _, _, _, _, _⟩, _⟩ := a; rfl
theorem Prf.cells_dat (a : Prf) : a.cells.all isDat = true := by obtain ⟨⟨_, _, _, _, _, _⟩, _⟩ := a; rfl
theorem Prf.rows_len (l : List Prf) (r : List AV) (h : r ∈ Prf.rows l) : r.length = 7 := by obtain ⟨a, _, rfl⟩ := Prf.row_of h; exact a.cells_len
theorem Prf.rows_dat (l : List Prf) : (Prf.rows l).flatten.all isDat = true := all_flatten fun r h => by obtain ⟨a, _, rfl⟩ := Prf.row_of h; exact a.cells_dat
theorem Prf.rows_append : ∀ (l l' : List Prf), Prf.rows (l ++ l') = Prf.rows l ++ Prf.rows l'
  | [], _ => rfl
  | a :: as, l' => by simp [Prf.rows, Prf.rows_append as l']
theorem Prf.rows_snoc (l : List Prf) (i : Nat) (a : Prf) (h : l[i]? = some a) : (Prf.rows (l.take (i + 1))).flatten = (Prf.rows (l.take i)).flatten ++ a.cells := by
  have hlt : i < l.length := by
    rcases Nat.lt_or_ge i l.length with e | e
    · exact e
    · rw [List.getElem?_eq_none e] at h; cases h
  rw [List.take_succ_eq_append_getElem hlt, Prf.rows_append]
  rw [List.getElem?_eq_getElem hlt] at h
  simp only [Option.some.injEq] at h
  rw [h]
  simp [Prf.rows]
theorem Prf.flat_len (l : List Prf) : (Prf.rows l).flatten.length = l.length * 7 := by rw [Go.AI.flat_len (Prf.rows_len l), Prf.rows_length]

theorem intRow_of : ∀ {l : List Int} {r : List AV}, r ∈ intRows l → ∃ a, a ∈ l ∧ r = [.sc (.int .i64 a)]
  | [], r, h => by simp [intRows] at h
  | a :: as, r, h => by
    simp only [intRows, List.mem_cons] at h
    rcases h with rfl | h
    · exact ⟨a, by simp, rfl⟩
    · obtain ⟨b, hb, e⟩ := intRow_of h
      exact ⟨b, by simp [hb], e⟩
theorem intRows_len (l : List Int) (r : List AV) (h : r ∈ intRows l) : r.length = 1 := by obtain ⟨a, _, rfl⟩ := intRow_of h; rfl
theorem intRows_dat (l : List Int) : (intRows l).flatten.all isDat = true := all_flatten fun r h => by obtain ⟨a, _, rfl⟩ := intRow_of h; rfl
theorem intRows_cell : ∀ (l : List Int), (intRows l).flatten.all cellOK = true
  | [] => rfl
  | a :: as => by simp [intRows, intRows_cell as, cellOK]
theorem intRows_ne {l : List Int} (h : l ≠ []) : intRows l ≠ [] := by
  cases l with
  | nil => exact absurd rfl h
  | cons a as => simp [intRows]

theorem Prf.rows_set : ∀ (l : List Prf) (k : Nat) (z : Prf), Prf.rows (l.set k z) = (Prf.rows l).set k z.cells
  | [], _, _ => rfl
  | _ :: _, 0, _ => rfl
  | a :: as, k + 1, z => by simp [Prf.rows, Prf.rows_set as k z]
end Go.AI
