/-
  Answers at every great depth.
-/
import Derived.IntWalk
import Derived.Test.YtbdcnekkebhhhaaGreatDoorSa
import Derived.Test.YtbdcnekkebhhhaaGreatDoorAe
import Derived.Test.YtbdcnekkebhhhaaGreatDoorG
set_option linter.all false

section
namespace Go.AI
open Go
def Ev {α : Type} (F : Nat → Option α) (r : α) : Prop := ∃ n0, ∀ n, n0 ≤ n → F n = some r
section
variable {α β : Type} {r : β}
theorem Ev.ret (r : β) : Ev (fun _ => some r) r := ⟨0, fun _ _ => rfl⟩
theorem Ev.step {F G : Nat → Option β} (h : ∀ n, F (n + 1) = G n) (hG : Ev G r) : Ev F r := by
  obtain ⟨m, hm⟩ := hG
  refine ⟨m + 1, fun n hn => ?_⟩
  obtain ⟨k, rfl⟩ : ∃ k, n = k + 1 := ⟨n - 1, by omega⟩
  rw [h]; exact hm k (by omega)
theorem Ev.const {F : Nat → Option β} (m : Nat) (h : ∀ n, F (n + m) = some r) : Ev F r := by
  refine ⟨m, fun n hn => ?_⟩
  obtain ⟨k, rfl⟩ : ∃ k, n = k + m := ⟨n - m, by omega⟩
  exact h k
theorem Ev.det {F : Nat → Option β} {a b : β} (h : Ev F a) (h' : Ev F b) : a = b := by
  obtain ⟨m, hm⟩ := h
  obtain ⟨k, hk⟩ := h'
  have := hm (max m k) (Nat.le_max_left _ _)
  rw [hk (max m k) (Nat.le_max_right _ _)] at this
  exact (Option.some.inj this).symm
theorem Ev.ask {F : Nat → Option α} {k : Nat → α → Option β} {a : α} (h : Ev F a) (hk : Ev (fun n => k n a) r) : Ev (fun n => ask (F n) (k n)) r := by
  obtain ⟨m, hm⟩ := h
  obtain ⟨l, hl⟩ := hk
  refine ⟨max m l, fun n hn => ?_⟩
  show (match F n with | some a => k n a | none => none) = _
  rw [hm n (Nat.le_trans (Nat.le_max_left _ _) hn)]
  exact hl n (Nat.le_trans (Nat.le_max_right _ _) hn)
theorem Ev.ite {b : Bool} {x y : Nat → Option β} (h1 : b = true → Ev x r) (h2 : b = false → Ev y r) : Ev (fun n => sIte b (x n) (y n)) r := by
  cases b
  · exact h2 rfl
  · exact h1 rfl
theorem Ev.pos {b : Bool} {x y : Nat → Option β} (h : b = true) (h1 : Ev x r) : Ev (fun n => sIte b (x n) (y n)) r := by
  subst h; exact h1
theorem Ev.neg {b : Bool} {x y : Nat → Option β} (h : b = false) (h1 : Ev y r) : Ev (fun n => sIte b (x n) (y n)) r := by
  subst h; exact h1
theorem Ev.geti {l : List α} {i : Int} {m : Nat} {x : α} {k : Nat → α → Option β} (hi : i = (m : Int)) (h : l[m]? = some x) (hk : Ev (fun n => k n x) r) : Ev (fun n => geti l i (k n)) r := by
  subst hi
  obtain ⟨n0, h0⟩ := hk
  refine ⟨n0, fun n hn => ?_⟩
  unfold Go.AI.geti
  rw [show decide ((0 : Int) ≤ (m : Int)) = true from decide_eq_true (by omega)]
  simp only [Int.toNat_natCast, h]
  exact h0 n hn
theorem Ev.gets {s : ByteArray} {i : Int} {m : Nat} {x : UInt8} {k : Nat → Int → Option β} (hi : i = (m : Int)) (h : s.data.toList[m]? = some x) (hk : Ev (fun n => k n (x.toNat : Int)) r) : Ev (fun n => gets s i (k n)) r := by
  subst hi
  obtain ⟨n0, h0⟩ := hk
  refine ⟨n0, fun n hn => ?_⟩
  unfold Go.AI.gets
  have hs : s[m]? = some x := by
    have hlt : m < s.data.toList.length := by
      rcases Nat.lt_or_ge m s.data.toList.length with a | a
      · exact a
      · rw [List.getElem?_eq_none a] at h; cases h
    have hlt' : m < s.size := by simpa using hlt
    rw [List.getElem?_eq_getElem hlt] at h
    rw [getElem?_pos s m hlt']
    exact h
  rw [show decide ((0 : Int) ≤ (m : Int)) = true from decide_eq_true (by omega)]
  simp only [Int.toNat_natCast, hs]
  exact h0 n hn
theorem Ev.fits {m b : Nat} {x : Nat → Option β} (h : m * b ≤ 140737488355328) (hx : Ev x r) : Ev (fun n => fits m b (x n)) r := by
  unfold Go.AI.fits
  rw [decide_eq_true h]; exact hx
theorem Ev.scat {a b : ByteArray} {k : Nat → ByteArray → Option β} (h : a.size + b.size ≤ 9223372036854775807) (hx : Ev (fun n => k n (a ++ b)) r) : Ev (fun n => scat a b (k n)) r := by
  unfold Go.AI.scat
  rw [decide_eq_false (p := ((a.size + b.size : Nat) : Int) > IntKind.i64.max) (by show ¬ _ > (9223372036854775807 : Int); omega)]; exact hx
theorem Ev.subs {s : ByteArray} {lo hi : Int} {k : Nat → ByteArray → Option β} (h : 0 ≤ lo ∧ lo ≤ hi ∧ hi ≤ s.size) (hx : Ev (fun n => k n (s.extract lo.toNat hi.toNat)) r) : Ev (fun n => subs s lo hi (k n)) r := by
  unfold Go.AI.subs
  rw [decide_eq_true h]; exact hx
theorem Ev.subl {l : List α} {lo hi : Int} {k : Nat → List α → Option β} (h : 0 ≤ lo ∧ lo ≤ hi ∧ hi ≤ l.length) (hx : Ev (fun n => k n ((l.drop lo.toNat).take (hi.toNat - lo.toNat))) r) : Ev (fun n => subl l lo hi (k n)) r := by
  unfold Go.AI.subl
  rw [decide_eq_true h]; exact hx
theorem Ev.head {s : ByteArray} {m : Int} {k : Nat → ByteArray → Option β} (h : 0 < m ∧ m ≤ s.size ∧ m ≤ 9223372036854775807) (hx : Ev (fun n => k n (s.extract 0 m.toNat)) r) : Ev (fun n => head s m (k n)) r := by
  unfold Go.AI.head
  rw [decide_eq_true h]; exact hx
end
theorem beqS_iff {a b : ByteArray} : beqS a b = true ↔ a = b := by
  unfold beqS
  rw [beq_iff_eq]
  constructor
  · intro h
    exact ByteArray.ext (Array.ext' (by rw [← bytes_toList, ← bytes_toList]; exact h))
  · rintro rfl; rfl
theorem beqS_eq (a b : ByteArray) : beqS a b = decide (a = b) := by
  rw [Bool.eq_iff_iff, beqS_iff, decide_eq_true_iff]
end Go.AI
end

/-
  Words and letters: what the functions of layer 1 compute.
-/
section
namespace Go.AI
def letterB (c : Int) : Bool := decide (97 ≤ c) && decide (c ≤ 122) || decide (65 ≤ c) && decide (c ≤ 90)
def digitB (c : Int) : Bool := decide (48 ≤ c) && decide (c ≤ 57)
def inWordB (c : Int) : Bool := letterB c || digitB c || c == 95
def kws : List ByteArray := [⟨#[116, 114, 117, 101]⟩, ⟨#[102, 97, 108, 115, 101]⟩, ⟨#[110, 111, 116]⟩, ⟨#[111, 114]⟩, ⟨#[102, 111, 114, 97, 108, 108]⟩, ⟨#[101, 120, 105, 115, 116, 115]⟩, ⟨#[105, 110]⟩, ⟨#[110, 111, 116, 105, 110]⟩, ⟨#[115, 117, 98]⟩, ⟨#[109, 111, 100]⟩, ⟨#[102, 117, 110]⟩, ⟨#[99, 97, 114, 100]⟩, ⟨#[109, 105, 110]⟩, ⟨#[109, 97, 120]⟩, ⟨#[100, 111, 109]⟩, ⟨#[114, 97, 110]⟩, ⟨#[80, 79, 87]⟩, ⟨#[105, 110, 116]⟩, ⟨#[98, 111, 111, 108]⟩, ⟨#[115, 101, 116]⟩, ⟨#[112, 97, 105, 114]⟩]
def keywordB (s : ByteArray) : Bool := kws.any fun k => decide (s = k)
def wordB (l : List UInt8) : Bool := l.all fun b => inWordB (b.toNat : Int)
def firstB (l : List UInt8) : Bool := match l with
  | [] => false
  | b :: _ => letterB (b.toNat : Int)
def identB (s : ByteArray) : Bool := decide (s.size ≤ 16) && firstB s.data.toList && !keywordB s && wordB s.data.toList
theorem wrap_succ {i n : Nat} (h : i < n) (hn : n ≤ 9223372036854775807) : IntKind.i64.wrap ((i : Int) + 1) = ((i + 1 : Nat) : Int) := by
  rw [IntWalk.i64_in _ (by omega)]; rfl
def strRows : List ByteArray → List (List AV)
  | [] => []
  | t :: ts => [.sc (.string t)] :: strRows ts
theorem strRows_get : ∀ (l : List ByteArray) (i : Nat), (strRows l)[i]? = (l[i]?).map fun n => [.sc (.string n)]
  | [], i => by simp [strRows]
  | t :: ts, 0 => by simp [strRows]
  | t :: ts, i + 1 => by simp [strRows, strRows_get ts i]
theorem strRows_length : ∀ (l : List ByteArray), (strRows l).length = l.length
  | [] => rfl
  | t :: ts => by simp [strRows, strRows_length ts]
theorem strRows_inj : ∀ (a b : List ByteArray), strRows a = strRows b → a = b
  | [], [], _ => rfl
  | [], _ :: _, h => by simp [strRows] at h
  | _ :: _, [], h => by simp [strRows] at h
  | a :: u, b :: v, h => by
    simp only [strRows, List.cons.injEq, AV.sc.injEq, Value.string.injEq, and_true] at h
    rw [h.1, strRows_inj u v h.2]
def inB (s : ByteArray) (l : List ByteArray) : Bool := l.any fun x => decide (x = s)
theorem inB_true {s : ByteArray} {l : List ByteArray} : inB s l = true ↔ s ∈ l := by simp [inB]
theorem inB_append {s : ByteArray} {l l' : List ByteArray} : inB s (l ++ l') = (inB s l || inB s l') := by simp [inB]
theorem inB_kws {s : ByteArray} : inB s kws = keywordB s := by
  unfold inB keywordB
  congr 1
  funext x
  exact decide_eq_decide.2 eq_comm
def quote : ByteArray := ⟨#[39]⟩
def endsQ (s : ByteArray) : Bool := match s.data.toList.getLast? with
  | some b => b == 39
  | none => false
def cutQ (s : ByteArray) : ByteArray := s.extract 0 (s.size - 1)
def trimQ (s : ByteArray) : ByteArray := if endsQ s then cutQ s else s
def primedB (s : ByteArray) : Bool := decide (1 < s.size) && endsQ s && identB (cutQ s)
def namedB (s : ByteArray) : Bool := identB s || primedB s
theorem extract_list (s : ByteArray) (l u : Nat) : (s.extract l u).data.toList = (s.data.toList.drop l).take (u - l) := by
  simp [List.take_drop]
theorem cutQ_list (s : ByteArray) : (cutQ s).data.toList = s.data.toList.dropLast := by
  rw [cutQ, extract_list, List.dropLast_eq_take]
  simp
theorem last_list (s : ByteArray) (h : 0 < s.size) : (s.extract (s.size - 1) s.size).data.toList = match s.data.toList.getLast? with
    | some b => [b]
    | none => [] := by
  rw [extract_list]
  cases hl : s.data.toList.getLast? with
  | none =>
    rw [List.getLast?_eq_none_iff] at hl
    have := byte_len s
    rw [hl] at this; simp at this; omega
  | some b =>
    rw [List.getLast?_eq_some_iff] at hl
    obtain ⟨ys, hy⟩ := hl
    have := byte_len s
    rw [hy] at this
    simp only [List.length_append, List.length_cons, List.length_nil] at this
    rw [hy]
    have e : s.size - 1 = ys.length := by omega
    rw [e, List.drop_left']
    · rw [List.take_of_length_le (by simp; omega)]
    · rfl
theorem ends_iff (s : ByteArray) (h : 0 < s.size) : s.extract (s.size - 1) s.size = quote ↔ endsQ s = true := by
  have e1 : s.extract (s.size - 1) s.size = quote ↔ (s.extract (s.size - 1) s.size).data.toList = [39] := by
    constructor
    · intro e; rw [e]; rfl
    · intro e
      apply ByteArray.ext
      apply Array.ext'
      rw [e]; rfl
  rw [e1, last_list s h]
  unfold endsQ
  cases s.data.toList.getLast? with
  | none => simp
  | some b => simp
theorem wordB_ends {s : ByteArray} (h : endsQ s = true) : wordB s.data.toList = false := by
  unfold endsQ at h
  cases hl : s.data.toList.getLast? with
  | none => rw [hl] at h; cases h
  | some b =>
    rw [hl] at h
    have hb : b = 39 := by simpa using h
    have hm : b ∈ s.data.toList := List.mem_of_getLast? hl
    rw [Bool.eq_false_iff]
    intro hw
    have := List.all_eq_true.1 hw b hm
    rw [hb] at this
    exact absurd this (by decide)
theorem named_eq (s : ByteArray) : identB (trimQ s) = namedB s := by
  unfold namedB trimQ primedB
  cases h : endsQ s with
  | false => simp
  | true =>
    have hi : identB s = false := by simp [identB, wordB_ends h]
    rw [hi]
    simp only [if_true, Bool.false_or, Bool.and_true]
    by_cases hs : 1 < s.size
    · simp [hs]
    · have hc : (cutQ s).data.toList = [] := by
        rw [cutQ_list]
        apply List.eq_nil_of_length_eq_zero
        rw [List.length_dropLast, byte_len]; omega
      simp [hs, identB, hc, firstB]
theorem size_zero {s : ByteArray} (h : s.size = 0) : s.data.toList = [] := List.eq_nil_of_length_eq_zero (by rw [byte_len, h])
end Go.AI
end

/-
  Nodes of terms: what the functions of layer 1 compute.
-/
section
namespace Go.AI
def kidsS (op : Int) : Option (Option Int) :=
  if op = 1 ∨ op = 2 ∨ op = 19 ∨ op = 20 ∨ op = 29 then some (some 0)
  else if op = 3 ∨ op = 21 ∨ (46 ≤ op ∧ op ≤ 52) then some (some 1)
  else if op = 28 then some none
  else if 1 ≤ op ∧ op ≤ 56 then some (some 2)
  else none
def binderB (op : Int) : Bool := decide (op = 8) || decide (op = 9) || decide (op = 55) || decide (op = 56)
end Go.AI
namespace Go.AI
def nOf : Option (Option Int) → Int
  | none => 0
  | some none => -1
  | some (some k) => k
def rOf : Option (Option Int) → Int
  | none => -2
  | some none => -1
  | some (some k) => k
def kidsN (op : Int) : Int := nOf (kidsS op)
def kidsK (op : Int) : Bool := (kidsS op).isSome
def kidsR (op : Int) : Int := rOf (kidsS op)
end Go.AI
namespace Go.AI
theorem kres {op : Int} {v : Option (Option Int)} (h : kidsS op = v) : some (AV.tuple [.sc (.int .i64 (nOf v)), .sc (.bool v.isSome)]) = some (AV.tuple [.sc (.int .i64 (kidsN op)), .sc (.bool (kidsK op))]) := by
  subst h; rfl
theorem kresR {op : Int} {v : Option (Option Int)} (h : kidsS op = v) : some (AV.sc (.int .i64 (rOf v))) = some (AV.sc (.int .i64 (kidsR op))) := by
  subst h; rfl
end Go.AI
end

/-
  Words: program and reference alike.
-/
section
namespace Go.AI
open Go
theorem sIte_eq {α : Type} (b : Bool) (x y : Option α) : sIte b x y = if b then x else y := by cases b <;> rfl
theorem letter_p (a : Int) : Ev (fun n => F227 n a) (letterB a) := .const 1 fun n => by
  rw [eF227]; simp only [sIte_eq, letterB]
  by_cases h1 : 97 ≤ a <;> by_cases h2 : a ≤ 122 <;> by_cases h3 : 65 ≤ a <;> by_cases h4 : a ≤ 90 <;> simp [h1, h2, h3, h4]
theorem letter_r (a : Int) : Ev (fun n => F349 n a) (letterB a) := .const 1 fun n => by
  rw [eF349]; simp only [sIte_eq, letterB]
  by_cases h1 : 97 ≤ a <;> by_cases h2 : a ≤ 122 <;> by_cases h3 : 65 ≤ a <;> by_cases h4 : a ≤ 90 <;> simp [h1, h2, h3, h4]
theorem digit_p (a : Int) : Ev (fun n => F304 n a) (digitB a) := .const 1 fun n => by
  rw [eF304]; simp only [sIte_eq, digitB]
  by_cases h1 : 48 ≤ a <;> by_cases h2 : a ≤ 57 <;> simp [h1, h2]
theorem digit_r (a : Int) : Ev (fun n => F351 n a) (digitB a) := .const 1 fun n => by
  rw [eF351]; simp only [sIte_eq, digitB]
  by_cases h1 : 48 ≤ a <;> by_cases h2 : a ≤ 57 <;> simp [h1, h2]
theorem inWord_p (a : Int) : Ev (fun n => F229 n a) (inWordB a) := .step (fun n => eF229 n a) (.ask (letter_p a) (.ite (fun h => by simpa [inWordB, h] using Ev.ret true)
  (fun h => .ask (digit_p a) (.ite (fun h2 => by simpa [inWordB, h, h2] using Ev.ret true) (fun h2 => by simpa [inWordB, h, h2] using Ev.ret (a == 95))))))
theorem kws1 {b : Bool} {y : Option Bool} {c : Bool} (h : y = some c) : (if b = true then (if b = true then some true else some false) else y) = some (b || c) := by cases b <;> simp [h]
theorem kw_p (s : ByteArray) : Ev (fun n => F228 n s) (keywordB s) := .const 1 fun n => by
  rw [eF228]; simp only [sIte_eq, beqS_eq, keywordB, kws, List.any_cons, List.any_nil]
  repeat (refine kws1 ?_)
  simp only [Bool.or_false]
  generalize decide (s = _) = b
  cases b <;> rfl
theorem in_r (s : ByteArray) (l : List ByteArray) (hl : l.length ≤ 1000) : ∀ (d i : Nat), l.length - i = d → Ev (fun n => J387x0 n s (strRows l) i) (inB s (l.drop i))
  | 0, i, hd => .step (fun n => eJ387x0 n s _ _) (.neg (by simp [strRows_length]; omega) (by rw [List.drop_eq_nil_of_le (by omega)]; exact .ret _))
  | d + 1, i, hd => by
    have hi : i < l.length := by omega
    refine .step (fun n => eJ387x0 n s _ _) (.pos (by simp [strRows_length]; omega) (.geti rfl (x := [.sc (.string l[i])]) (by rw [strRows_get, List.getElem?_eq_getElem hi]; rfl) ?_))
    rw [List.drop_eq_getElem_cons hi]
    show Ev (fun n => sIte (beqS l[i] s) _ _) _
    rw [beqS_eq]
    refine .ite (fun h => ?_) (fun h => ?_)
    · simp only [inB, List.any_cons, h, Bool.true_or]; exact .ret _
    · simp only [inB, List.any_cons, h, Bool.false_or]
      have := in_r s l hl d (i + 1) (by omega)
      rw [wrap_succ hi (by omega)]
      exact this
theorem kw_r (s : ByteArray) : Ev (fun n => F350 n s) (keywordB s) := .step (fun n => eF350 n s) (.ask (.step (fun n => eF387 n s _) (in_r s kws (by decide) _ 0 rfl)) (by rw [← inB_kws]; exact .ret _))
theorem word_loop_p (s : ByteArray) (hs : s.size ≤ 16) : ∀ (d i : Nat), s.size - i = d → Ev (fun n => J111x0 n s s.size i) (wordB (s.data.toList.drop i))
  | 0, i, hd => .step (fun n => eJ111x0 n s _ _) (.neg (by simp; omega) (by rw [List.drop_eq_nil_of_le (by simp; omega)]; exact .ret _))
  | d + 1, i, hd => by
    have hi : i < s.data.toList.length := by simp; omega
    refine .step (fun n => eJ111x0 n s _ _) (.pos (by simp; omega) (.gets rfl (List.getElem?_eq_getElem hi) (.ask (inWord_p _) ?_)))
    rw [List.drop_eq_getElem_cons hi]
    refine .ite (fun h => ?_) (fun h => ?_)
    · simp only [Bool.not_eq_true'] at h; simp only [wordB, List.all_cons, h, Bool.false_and]; exact .ret _
    · simp only [Bool.not_eq_false'] at h; simp only [wordB, List.all_cons, h, Bool.true_and]
      rw [wrap_succ hi (by simp; omega)]
      exact word_loop_p s hs d (i + 1) (by omega)
theorem word_loop_r (s : ByteArray) (hs : s.size ≤ 16) : ∀ (d i : Nat), s.size - i = d → Ev (fun n => J295x0 n s i) (wordB (s.data.toList.drop i))
  | 0, i, hd => .step (fun n => eJ295x0 n s _) (.neg (by simp; omega) (by rw [List.drop_eq_nil_of_le (by simp; omega)]; exact .ret _))
  | d + 1, i, hd => by
    have hi : i < s.data.toList.length := by simp; omega
    have key := word_loop_r s hs d (i + 1) (by omega)
    refine .step (fun n => eJ295x0 n s _) (.pos (by simp; omega) (.gets rfl (List.getElem?_eq_getElem hi) (.ask (letter_r _) ?_)))
    rw [List.drop_eq_getElem_cons hi, wrap_succ hi (by simp; omega)]
    refine .ite (fun h => ?_) (fun h => ?_)
    · simp only [Bool.not_eq_true'] at h
      refine .gets rfl (List.getElem?_eq_getElem hi) (.ask (digit_r _) (.ite (fun h2 => ?_) (fun h2 => ?_)))
      · simp only [Bool.not_eq_true'] at h2
        refine .gets rfl (List.getElem?_eq_getElem hi) (.ite (fun h3 => ?_) (fun h3 => ?_))
        · have h3' : (((s.data.toList[i].toNat : Nat) : Int) == 95) = false := by simpa [bne] using h3
          simp only [wordB, List.all_cons, inWordB, h, h2, h3', Bool.or_self, Bool.false_and]; exact .ret _
        · have h3' : (((s.data.toList[i].toNat : Nat) : Int) == 95) = true := by simpa [bne] using h3
          simp only [wordB, List.all_cons, inWordB, h, h2, h3', Bool.or_true, Bool.true_and]; exact key
      · simp only [Bool.not_eq_false'] at h2; simp only [wordB, List.all_cons, inWordB, h2, Bool.or_true, Bool.true_or, Bool.true_and]; exact key
    · simp only [Bool.not_eq_false'] at h; simp only [wordB, List.all_cons, inWordB, h, Bool.true_or, Bool.true_and]; exact key
theorem size_bs_nil {s : ByteArray} : beqS s (bs []) = decide (s.size = 0) := by
  rw [beqS_eq, decide_eq_decide]
  constructor
  · rintro rfl; rfl
  · intro h; exact ByteArray.ext (Array.ext' (by rw [size_zero h]))
theorem ident_p (s : ByteArray) : Ev (fun n => F111 n s) (identB s) := by
  refine .step (fun n => eF111 n s) ?_
  rw [size_bs_nil]
  refine .ite (fun h => ?_) (fun h => .ite (fun h2 => ?_) (fun h2 => ?_))
  · simp only [decide_eq_true_eq] at h
    have : identB s = false := by simp [identB, size_zero h, firstB]
    rw [this]; exact .ret _
  · simp only [decide_eq_true_eq] at h2
    have : identB s = false := by simp only [identB, decide_eq_false (p := s.size ≤ 16) (by omega), Bool.false_and]
    rw [this]; exact .ret _
  · simp only [decide_eq_false_iff_not] at h h2
    have h16 : s.size ≤ 16 := by omega
    cases hl : s.data.toList with
    | nil => exact absurd (by simpa using congrArg List.length hl) h
    | cons b t =>
      refine .gets (m := 0) rfl (by rw [hl]; rfl) (.ask (letter_p _) (.ite (fun h3 => ?_) (fun h3 => .ask (kw_p s) (.ite (fun h4 => ?_) (fun h4 => ?_)))))
      · simp only [Bool.not_eq_true'] at h3
        have : identB s = false := by simp [identB, hl, firstB, h3]
        rw [this]; exact .ret _
      · have : identB s = false := by simp [identB, h4]
        rw [this]; exact .ret _
      · simp only [Bool.not_eq_false'] at h3
        have : identB s = wordB (s.data.toList.drop 0) := by simp [identB, h4, hl, firstB, h3, h16]
        rw [this]; exact word_loop_p s h16 _ 0 rfl
theorem ident_r (s : ByteArray) : Ev (fun n => F295 n s) (identB s) := by
  refine .step (fun n => eF295 n s) ?_
  refine .ite (fun h => ?_) (fun h => .ite (fun h2 => ?_) (fun h2 => ?_))
  · simp only [decide_eq_true_eq] at h
    have : identB s = false := by simp [identB, size_zero (s := s) (by omega), firstB]
    rw [this]; exact .ret _
  · simp only [decide_eq_true_eq] at h2
    have : identB s = false := by simp only [identB, decide_eq_false (p := s.size ≤ 16) (by omega), Bool.false_and]
    rw [this]; exact .ret _
  · simp only [decide_eq_false_iff_not] at h h2
    have h16 : s.size ≤ 16 := by omega
    cases hl : s.data.toList with
    | nil => have : s.size = 0 := by rw [← byte_len, hl]; rfl
             omega
    | cons b t =>
      refine .gets (m := 0) rfl (by rw [hl]; rfl) (.ask (letter_r _) (.ite (fun h3 => ?_) (fun h3 => .ask (kw_r s) (.ite (fun h4 => ?_) (fun h4 => ?_)))))
      · simp only [Bool.not_eq_true'] at h3
        have : identB s = false := by simp [identB, hl, firstB, h3]
        rw [this]; exact .ret _
      · have : identB s = false := by simp [identB, h4]
        rw [this]; exact .ret _
      · simp only [Bool.not_eq_false'] at h3
        have : identB s = wordB (s.data.toList.drop 1) := by simp [identB, h4, hl, firstB, h3, h16, wordB, inWordB]
        rw [this]; exact word_loop_r s h16 _ 1 rfl
end Go.AI
end

/-
  Named words, kids, zero types, nodes: program and reference alike.
-/
section
namespace Go.AI
open Go
abbrev Fits (s : ByteArray) : Prop := s.size ≤ 4611686018427387904
theorem suffix_p (s : ByteArray) (hs : Fits s) : Ev (fun n => F312 n s (bs [39])) (endsQ s) := by
  refine .step (fun n => eF312 n s _) (.ite (fun h => ?_) (fun h => ?_))
  · have h : (1 : Int) ≤ s.size := of_decide_eq_true h
    have hw : IntKind.i64.wrap ((s.size : Int) - ((bs [39]).size : Int)) = ((s.size - 1 : Nat) : Int) := by
      rw [show ((bs [39]).size : Int) = 1 from rfl, IntWalk.i64_in _ (by unfold Fits at hs; omega)]; omega
    rw [hw]
    refine .subs ⟨by omega, by omega, Int.le_refl _⟩ ?_
    have e : beqS (s.extract ((s.size - 1 : Nat) : Int).toNat ((s.size : Int)).toNat) (bs [39]) = endsQ s := by
      rw [beqS_eq, Bool.eq_iff_iff, decide_eq_true_iff]
      exact ends_iff s (by omega)
    rw [← e]; exact .ret _
  · have h : ¬ (1 : Int) ≤ s.size := of_decide_eq_false h
    have : endsQ s = false := by unfold endsQ; rw [size_zero (s := s) (by omega)]; rfl
    rw [this]; exact .ret _
theorem wrap_pred {m : Nat} (h : 1 ≤ m) (hm : m ≤ 9223372036854775807) : IntKind.i64.wrap ((m : Int) - 1) = ((m - 1 : Nat) : Int) := by
  rw [IntWalk.i64_in _ (by omega)]; omega
theorem trim_p (s : ByteArray) (hs : Fits s) : Ev (fun n => F136 n s (bs [39])) (trimQ s) := by
  refine .step (fun n => eF136 n s _) (.ask (a := trimQ s) (.step (fun n => eF236 n s _) (.ask (suffix_p s hs) (.ite (fun h => ?_) (fun h => ?_)))) (.ret _))
  · have h0 : 0 < s.size := by
      rcases Nat.eq_zero_or_pos s.size with h0 | h0
      · unfold endsQ at h; rw [size_zero h0] at h; cases h
      · exact h0
    rw [show ((bs [39]).size : Int) = 1 from rfl, wrap_pred h0 (by unfold Fits at hs; omega)]
    refine .subs ⟨by omega, by omega, by omega⟩ ?_
    rw [trimQ, h, if_pos rfl, cutQ]; exact .ret _
  · rw [trimQ, h, if_neg (by simp)]; exact .ret _
theorem named_p (s : ByteArray) (hs : Fits s) : Ev (fun n => F344 n s) (namedB s) :=
  .step (fun n => eF344 n s) (.ask (trim_p s hs) (.ask (ident_p _) (by rw [named_eq]; exact .ret _)))
theorem primed_r (s : ByteArray) (hs : Fits s) : Ev (fun n => F388 n s) (primedB s) := by
  refine .step (fun n => eF388 n s) (.ite (fun h => ?_) (fun h => ?_))
  · have h : (1 : Int) < s.size := of_decide_eq_true h
    rw [wrap_pred (by omega) (by unfold Fits at hs; omega)]
    obtain ⟨b, hb⟩ : ∃ b, s.data.toList[s.size - 1]? = some b := ⟨_, List.getElem?_eq_getElem (by rw [byte_len]; omega)⟩
    have hl : s.data.toList.getLast? = some b := by rw [List.getLast?_eq_getElem?, byte_len]; exact hb
    refine .gets rfl hb (.ite (fun h2 => ?_) (fun h2 => ?_))
    · refine .subs ⟨by omega, by omega, by omega⟩ (.ask (ident_r _) ?_)
      have : primedB s = identB (s.extract (0 : Int).toNat ((s.size - 1 : Nat) : Int).toNat) := by
        unfold primedB endsQ cutQ
        rw [hl]
        have h3 : (b == 39) = true := by
          have : ((b.toNat : Nat) : Int) = 39 := by simpa using h2
          have : b.toNat = 39 := by omega
          rw [beq_iff_eq]; exact UInt8.toNat_inj.1 this
        simp [h3, decide_eq_true (show 1 < s.size by omega)]
      rw [this]; exact .ret _
    · have : primedB s = false := by
        unfold primedB endsQ
        rw [hl]
        have h3 : (b == 39) = false := by
          have : ¬ ((b.toNat : Nat) : Int) = 39 := by simpa using h2
          rw [beq_eq_false_iff_ne]; rintro rfl; exact this rfl
        simp [h3]
      rw [this]; exact .ret _
  · have h : ¬ (1 : Int) < s.size := of_decide_eq_false h
    have : primedB s = false := by unfold primedB; rw [decide_eq_false (show ¬ 1 < s.size by omega)]; rfl
    rw [this]; exact .ret _
theorem named_r (s : ByteArray) (hs : Fits s) : Ev (fun n => F353 n s) (namedB s) :=
  .step (fun n => eF353 n s) (.ask (ident_r s) (.ite (fun h => by simpa [namedB, h] using Ev.ret true) (fun h => .ask (primed_r s hs) (by simpa [namedB, h] using Ev.ret (primedB s)))))
theorem kids_p (op : Int) : Ev (fun n => F343 n op) (kidsN op, kidsK op) := .const 3 fun n => by
  rw [eF343, eJ343x1000007, eJ343x1000012]; simp only [sIte_eq]
  by_cases h : op = 1 ∨ op = 2 ∨ op = 19 ∨ op = 20 ∨ op = 29
  · rcases h with rfl | rfl | rfl | rfl | rfl <;> rfl
  · by_cases h2 : op = 3 ∨ op = 21 ∨ (46 ≤ op ∧ op ≤ 52)
    · simp only [kidsN, kidsK, kidsS, if_neg h, if_pos h2]
      simp only [not_or] at h
      rcases h2 with rfl | rfl | h2
      · rfl
      · rfl
      · by_cases h3 : op ≤ 51
        · have h4 : op ≠ 3 := by omega
          have h5 : op ≠ 21 := by omega
          simp [h, h3, h4, h5, h2.1, nOf]
        · have : op = 52 := by omega
          subst this; rfl
    · by_cases h3 : op = 28
      · subst h3; rfl
      · simp only [kidsN, kidsK, kidsS, if_neg h, if_neg h2, if_neg h3]
        simp only [not_or] at h h2
        by_cases h4 : 1 ≤ op <;> by_cases h5 : op ≤ 56 <;> by_cases h6 : 46 ≤ op <;> by_cases h7 : op ≤ 51 <;> by_cases h8 : op = 52 <;> simp [h, h2, h3, h4, h5, h6, h7, h8, nOf] <;> omega
theorem kids_r (op : Int) : Ev (fun n => F352 n op) (kidsR op) := .const 2 fun n => by
  rw [eF352, eJ352x1000005]; simp only [sIte_eq]
  by_cases h : op = 1 ∨ op = 2 ∨ op = 19 ∨ op = 20 ∨ op = 29
  · rcases h with rfl | rfl | rfl | rfl | rfl <;> rfl
  · by_cases h2 : op = 3 ∨ op = 21 ∨ (46 ≤ op ∧ op ≤ 52)
    · simp only [kidsR, kidsS, if_neg h, if_pos h2]
      simp only [not_or] at h
      rcases h2 with rfl | rfl | h2
      · rfl
      · rfl
      · by_cases h3 : op = 21 <;> by_cases h4 : op = 3 <;> simp [h, h3, h4, h2.1, h2.2, rOf]
    · by_cases h3 : op = 28
      · subst h3; rfl
      · simp only [kidsR, kidsS, if_neg h, if_neg h2, if_neg h3]
        simp only [not_or] at h h2
        by_cases h4 : 4 ≤ op <;> by_cases h5 : op ≤ 56 <;> by_cases h6 : 46 ≤ op <;> by_cases h7 : op ≤ 52 <;> by_cases h8 : 1 ≤ op <;> simp [h, h2, h3, h4, h5, h6, h7, h8, rOf] <;> omega
theorem binder_p (op : Int) : Ev (fun n => F345 n op) (binderB op) := .const 1 fun n => by
  rw [eF345]; simp only [sIte_eq, binderB]
  by_cases h1 : op = 8 <;> by_cases h2 : op = 9 <;> by_cases h3 : op = 55 <;> by_cases h4 : op = 56 <;> simp [h1, h2, h3, h4]
theorem binder_r (op : Int) : Ev (fun n => F354 n op) (binderB op) := .const 1 fun n => by
  rw [eF354]; simp only [sIte_eq, binderB]
  by_cases h1 : op = 8 <;> by_cases h2 : op = 9 <;> by_cases h3 : op = 55 <;> by_cases h4 : op = 56 <;> simp [h1, h2, h3, h4]
def zeroB (tk : Int) (tn : ByteArray) (ts : Rows) : Bool := decide (tk = 0) && (decide (tn.size = 0) && decide (ts.length = 0))
theorem zero_p (tk : Int) (tn : ByteArray) (ts : Rows) : Ev (fun n => F346 n tk tn ts) (zeroB tk tn ts) := .const 1 fun n => by
  rw [eF346, size_bs_nil]; simp only [sIte_eq, zeroB]
  by_cases h1 : tk = 0 <;> by_cases h2 : tn.size = 0 <;> by_cases h3 : ts.length = 0 <;> simp [h1, h2, h3]
theorem zero_r (tk : Int) (tn : ByteArray) (ts : Rows) : Ev (fun n => F355 n tk tn ts) (zeroB tk tn ts) := .const 1 fun n => by
  rw [eF355, size_bs_nil]; simp only [sIte_eq, zeroB]
  by_cases h1 : tk = 0 <;> by_cases h2 : tn.size = 0 <;> by_cases h3 : ts.length = 0 <;> simp [h1, h2, h3]
end Go.AI
end

/-
  Types: valid for the program just where they are for the reference.
-/
section
namespace Go.AI
open Go
theorem wt_mem {r : List AV} : ∀ {rows : Rows}, r ∈ rows → wtR r < wtRs rows
  | r' :: rows, h => by
    rw [wtRs]
    rcases List.mem_cons.1 h with rfl | h
    · omega
    · have := wt_mem h; omega
theorem wt_get {rows : Rows} {i : Nat} {r : List AV} (h : rows[i]? = some r) : wtR r < wtRs rows := wt_mem (List.mem_of_getElem? h)
theorem wt_cell : ∀ {r : List AV} {j : Nat} {c : AV}, r[j]? = some c → wtA c ≤ wtR r
  | c' :: r, 0, c, h => by simp at h; subst h; rw [wtR]; omega
  | c' :: r, j + 1, c, h => by
    have := wt_cell (r := r) (j := j) (c := c) (by simpa using h)
    rw [wtR]; omega
theorem wt_gS (r : List AV) (j : Nat) : (gS r j).size ≤ wtR r := by
  unfold gS
  split
  · rename_i s h
    have := wt_cell h
    rw [wtA] at this; omega
  · exact Nat.zero_le _
theorem wt_gD (r : List AV) (j : Nat) : wtRs (gD r j) ≤ wtR r := by
  unfold gD
  split
  · rename_i l _ h
    have := wt_cell h
    rw [wtA] at this; omega
  · rw [wtRs]; exact Nat.zero_le _
theorem wt_len : ∀ (rows : Rows), rows.length ≤ wtRs rows
  | [] => Nat.zero_le _
  | r :: rows => by have := wt_len rows; rw [wtRs, List.length_cons]; omega
mutual
inductive VTy : Int → ByteArray → Rows → Nat → Prop
  | mk {k : Int} {nm : ByteArray} {ks : Rows} {c : Nat} : nm.size ≤ 16 → ((k = 1 ∨ k = 2 ∨ k = 3) ∧ ks.length = 0 ∨ k = 4 ∧ ks.length = 2 ∨ k = 5 ∧ ks.length = 1) → VTys ks c → VTy k nm ks (c + 1)
inductive VTys : Rows → Nat → Prop
  | nil : VTys [] 0
  | cons {r : List AV} {rs : Rows} {c d : Nat} : VTy (gI r 0) (gS r 1) (gD r 2) c → VTys rs d → VTys (r :: rs) (c + d)
end
theorem identB_size {s : ByteArray} (h : identB s = true) : s.size ≤ 16 := by
  simp only [identB, Bool.and_eq_true, decide_eq_true_eq] at h; exact h.1.1.1
def tailB (k : Int) (nm : ByteArray) (ks : Rows) (m : Nat) : Bool := decide (ks.length = m) && (if k = 3 then identB nm else decide (nm.size = 0))
def headB (k : Int) (nm : ByteArray) (ks : Rows) (within : Bool) : Bool :=
  if k = 1 then tailB k nm ks 0
  else if k = 2 then !within && tailB k nm ks 0
  else if k = 3 then tailB k nm ks 0
  else if k = 4 then tailB k nm ks 2
  else if k = 5 then tailB k nm ks 1
  else false
theorem tail_ok {k : Int} {nm : ByteArray} {ks : Rows} {m : Nat} (h : tailB k nm ks m = true) : nm.size ≤ 16 ∧ ks.length = m := by
  unfold tailB at h
  rw [Bool.and_eq_true, decide_eq_true_eq] at h
  refine ⟨?_, h.1⟩
  have h := h.2
  split at h
  · exact identB_size h
  · rw [decide_eq_true_eq] at h; omega
theorem headTy_ok {k : Int} {nm : ByteArray} {ks : Rows} {w : Bool} (h : headB k nm ks w = true) : nm.size ≤ 16 ∧ ((k = 1 ∨ k = 2 ∨ k = 3) ∧ ks.length = 0 ∨ k = 4 ∧ ks.length = 2 ∨ k = 5 ∧ ks.length = 1) := by
  unfold headB at h
  split at h
  · exact ⟨(tail_ok h).1, by simp [(tail_ok h).2, *]⟩
  · split at h
    · rw [Bool.and_eq_true] at h; exact ⟨(tail_ok h.2).1, by simp [(tail_ok h.2).2, *]⟩
    · split at h
      · exact ⟨(tail_ok h).1, by simp [(tail_ok h).2, *]⟩
      · split at h
        · exact ⟨(tail_ok h).1, by simp [(tail_ok h).2, *]⟩
        · split at h
          · exact ⟨(tail_ok h).1, by simp [(tail_ok h).2, *]⟩
          · cases h
theorem len_ne {ks : Rows} {m : Nat} : (((ks.length : Nat) : Int) != (m : Int)) = !decide (ks.length = m) := by
  rw [Bool.eq_iff_iff]; simp; omega
theorem tail_r (k : Int) (nm : ByteArray) (ks : Rows) (d n : Int) (m : Nat) (r : Int) (h : tailB k nm ks m = true → Ev (fun l => J211x2 l d n 0 k nm ks) r)
    (h' : tailB k nm ks m = false → r = -1) : Ev (fun l => J211x1000014 l d n m k nm ks) r := by
  refine .step (fun l => eJ211x1000014 l _ _ _ _ _ _) ?_
  rw [len_ne]
  unfold tailB at h h'
  refine .ite (fun h1 => ?_) (fun h1 => ?_)
  · simp only [Bool.not_eq_true'] at h1
    rw [h' (by rw [h1]; rfl)]; exact .ret _
  · simp only [Bool.not_eq_false'] at h1
    rw [h1, Bool.true_and] at h h'
    rw [size_bs_nil]
    by_cases hk : k = 3
    · subst hk
      rw [if_pos rfl] at h h'
      refine .pos rfl (.ask (ident_r nm) (.ite (fun h2 => ?_) (fun h2 => ?_)))
      · simp only [Bool.not_eq_true'] at h2; rw [h' h2]; exact .ret _
      · simp only [Bool.not_eq_false'] at h2; exact .neg rfl (h h2)
    · rw [if_neg hk] at h h'
      refine .neg (by simpa using hk) (.pos (by simpa [bne] using hk) (.ite (fun h2 => ?_) (fun h2 => ?_)))
      · simp only [Bool.not_eq_true'] at h2; rw [h' h2]; exact .ret _
      · simp only [Bool.not_eq_false'] at h2; exact h h2
theorem type_r (k : Int) (nm : ByteArray) (ks : Rows) (d n : Nat) (hd : d ≤ 6) (hn : n + 1 ≤ 16) (r : Int) (h : headB k nm ks (decide (1 < d)) = true → Ev (fun l => J211x2 l (d : Int) ((n + 1 : Nat) : Int) 0 k nm ks) r)
    (h' : headB k nm ks (decide (1 < d)) = false → r = -1) : Ev (fun l => F211 l k nm ks d n) r := by
  have hw : IntKind.i64.wrap ((n : Int) + 1) = ((n + 1 : Nat) : Int) := by rw [IntWalk.i64_in _ (by omega)]; rfl
  refine .step (fun l => eF211 l _ _ _ _ _) (.neg (by simp; omega) ?_)
  rw [hw]
  refine .neg (by simp; omega) ?_
  unfold headB at h h'
  by_cases h1 : k = 1
  · subst h1
    simp only [if_true] at h h'
    exact .neg rfl (.step (fun l => eJ211x1000004 l _ _ _ _ _) (.pos rfl (.pos rfl (tail_r 1 nm ks _ _ 0 r h h'))))
  by_cases h2 : k = 2
  · subst h2
    simp only [show ¬ (2 : Int) = 1 by decide, if_false, if_true] at h h'
    refine .pos rfl (.ite (fun h3 => ?_) (fun h3 => ?_))
    · have h3 : decide (1 < d) = true := by simp at h3 ⊢; omega
      rw [h' (by rw [h3]; rfl)]; exact .ret _
    · have h3 : decide (1 < d) = false := by simp at h3 ⊢; omega
      rw [h3, Bool.not_false, Bool.true_and] at h h'
      exact .step (fun l => eJ211x1000004 l _ _ _ _ _) (.neg rfl (.pos rfl (.pos rfl (tail_r 2 nm ks _ _ 0 r h h'))))
  refine .neg (by simpa using h2) (.step (fun l => eJ211x1000004 l _ _ _ _ _) (.neg (by simpa using h1) (.neg (by simpa using h2) ?_)))
  simp only [if_neg h1, if_neg h2] at h h'
  by_cases h3 : k = 3
  · subst h3
    simp only [if_true] at h h'
    exact .pos rfl (tail_r 3 nm ks _ _ 0 r h h')
  simp only [if_neg h3] at h h'
  refine .neg (by simpa using h3) (.step (fun l => eJ211x1000010 l _ _ _ _ _ _) ?_)
  by_cases h5 : k = 5
  · subst h5
    simp only [show ¬ (5 : Int) = 4 by decide, if_false, if_true] at h h'
    exact .pos rfl (tail_r 5 nm ks _ _ 1 r h h')
  refine .neg (by simpa using h5) ?_
  by_cases h4 : k = 4
  · subst h4
    simp only [if_true] at h h'
    exact .pos rfl (tail_r 4 nm ks _ _ 2 r h h')
  · simp only [if_neg h4, if_neg h5] at h'
    rw [h' trivial]
    exact .neg (by simpa using h4) (.ret _)
end Go.AI
end

/-
  Types: valid for the program just where they are for the reference.
-/
section
namespace Go.AI
open Go
theorem wrap_suc (n : Nat) (h : n ≤ 4611686018427387904) : IntKind.i64.wrap ((n : Int) + 1) = ((n + 1 : Nat) : Int) := by rw [IntWalk.i64_in _ (by omega)]; rfl
theorem enter_p (d n most deep : Nat) (hn : n ≤ 1000000) : Ev (fun l => F285 l d n most deep) (decide (n + 1 ≤ most) && decide (d ≤ deep), ((n + 1 : Nat) : Int), (most : Int), (deep : Int)) := by
  refine .step (fun l => eF285 l _ _ _ _) ?_
  rw [wrap_suc n (by omega)]
  have e1 : decide (((n + 1 : Nat) : Int) ≤ (most : Int)) = decide (n + 1 ≤ most) := by rw [decide_eq_decide]; omega
  have e2 : decide ((d : Int) ≤ (deep : Int)) = decide (d ≤ deep) := by rw [decide_eq_decide]; omega
  rw [e1, e2]
  refine .ite (fun h => ?_) (fun h => ?_) <;> rw [h] <;> exact .ret _
theorem tail_p (k : Int) (nm : ByteArray) (ks : Rows) (d n : Int) (m : Nat) (r : Bool × Int × Int × Int) (hid : k = 3 → identB nm = true) (h : tailB k nm ks m = true → Ev (fun l => J202x1000019 l n 16 6 k nm ks d) r)
    (h' : tailB k nm ks m = false → r = (false, n, 16, 6)) : Ev (fun l => J202x1000017 l m n 16 6 k nm ks d) r := by
  refine .step (fun l => eJ202x1000017 l _ _ _ _ _ _ _ _) ?_
  rw [len_ne]
  unfold tailB at h h'
  refine .ite (fun h1 => ?_) (fun h1 => ?_)
  · simp only [Bool.not_eq_true'] at h1
    rw [h' (by rw [h1]; rfl)]; exact .ret _
  · simp only [Bool.not_eq_false'] at h1
    rw [h1, Bool.true_and] at h h'
    rw [size_bs_nil]
    by_cases hk : k = 3
    · rw [if_pos hk] at h
      exact .neg (by simpa [bne] using hk) (h (hid hk))
    · rw [if_neg hk] at h h'
      refine .pos (by simpa [bne] using hk) (.ite (fun h2 => ?_) (fun h2 => ?_))
      · simp only [Bool.not_eq_true'] at h2; rw [h' h2]; exact .ret _
      · simp only [Bool.not_eq_false'] at h2; exact h h2
theorem type_p (k : Int) (nm : ByteArray) (ks : Rows) (d n : Nat) (w : Bool) (hd : d ≤ 6) (hn : n + 1 ≤ 16) (r : Bool × Int × Int × Int) (h : headB k nm ks w = true → Ev (fun l => J202x1000019 l ((n + 1 : Nat) : Int) 16 6 k nm ks d) r)
    (h' : headB k nm ks w = false → r = (false, ((n + 1 : Nat) : Int), 16, 6)) : Ev (fun l => F202 l k nm ks d w n 16 6) r := by
  refine .step (fun l => eF202 l _ _ _ _ _ _ _ _) (.ask (enter_p d n 16 6 (by omega)) ?_)
  rw [decide_eq_true hn, decide_eq_true hd]
  refine .neg rfl ?_
  unfold headB at h h'
  by_cases h1 : k = 1
  · subst h1
    simp only [if_true] at h h'
    exact .pos rfl (tail_p 1 nm ks _ _ 0 r (by simp) h h')
  simp only [if_neg h1] at h h'
  refine .neg (by simpa using h1) ?_
  by_cases h2 : k = 2
  · subst h2
    simp only [if_true] at h h'
    refine .pos rfl (.ite (fun h3 => ?_) (fun h3 => ?_))
    · rw [h' (by rw [h3]; rfl)]; exact .ret _
    · rw [h3, Bool.not_false, Bool.true_and] at h h'
      exact tail_p 2 nm ks _ _ 0 r (by simp) h h'
  simp only [if_neg h2] at h h'
  refine .neg (by simpa using h2) ?_
  by_cases h3 : k = 3
  · subst h3
    simp only [if_true] at h h'
    refine .pos rfl (.ask (ident_p nm) (.ite (fun h3 => ?_) (fun h3 => ?_)))
    · simp only [Bool.not_eq_true'] at h3
      rw [h' (by unfold tailB; rw [if_pos rfl, h3, Bool.and_false])]; exact .ret _
    · simp only [Bool.not_eq_false'] at h3
      exact tail_p 3 nm ks _ _ 0 r (fun _ => h3) h h'
  simp only [if_neg h3] at h h'
  refine .neg (by simpa using h3) ?_
  by_cases h4 : k = 4
  · subst h4
    simp only [if_true] at h h'
    exact .pos rfl (tail_p 4 nm ks _ _ 2 r (by simp) h h')
  simp only [if_neg h4] at h h'
  refine .neg (by simpa using h4) ?_
  by_cases h5 : k = 5
  · subst h5
    simp only [if_true] at h h'
    exact .pos rfl (tail_p 5 nm ks _ _ 1 r (by simp) h h')
  · simp only [if_neg h5] at h'
    rw [h' trivial]
    exact .neg (by simpa using h5) (.ret _)
def TyR (k : Int) (nm : ByteArray) (ks : Rows) (d n : Nat) : Prop := ∃ (r m : Int), Ev (fun l => F211 l k nm ks d n) r ∧ Ev (fun l => F202 l k nm ks d (decide (1 < d)) n 16 6) (decide (0 ≤ r), m, 16, 6) ∧
  (r = -1 ∨ ∃ c, VTy k nm ks c ∧ r = ((n + c : Nat) : Int) ∧ n + c ≤ 16 ∧ m = r)
theorem type_loop {k : Int} {nm : ByteArray} {ks : Rows} {d : Nat} (hl : ks.length ≤ 1000) (hd : 1 ≤ d) (hd6 : d ≤ 6) (ih : ∀ r, r ∈ ks → ∀ n, n ≤ 16 → TyR (gI r 0) (gS r 1) (gD r 2) (d + 1) n) : ∀ (j i n : Nat), ks.length - i = j → n ≤ 16 →
    ∃ (r m x : Int), Ev (fun l => J211x2 l d n i k nm ks) r ∧ Ev (fun l => J342x0 l ks ks.length i d n 16 6) (x, (d : Int), m, 16, 6) ∧ (r = -1 ∧ 0 ≤ x ∨ x = -1 ∧ ∃ c, VTys (ks.drop i) c ∧ r = ((n + c : Nat) : Int) ∧ n + c ≤ 16 ∧ m = r)
  | 0, i, n, hj, hn => ⟨n, n, -1, .step (fun l => eJ211x2 l _ _ _ _ _ _) (.neg (by simp; omega) (.ret _)), .step (fun l => eJ342x0 l _ _ _ _ _ _ _) (.neg (by simp; omega) (.ret _)),
      .inr ⟨rfl, 0, by rw [List.drop_eq_nil_of_le (by omega)]; exact .nil, rfl, hn, rfl⟩⟩
  | j + 1, i, n, hj, hn => by
    have hi : i < ks.length := by omega
    have hx := List.getElem?_eq_getElem hi
    obtain ⟨r, m, q1, q2, q3⟩ := ih ks[i] (List.getElem_mem hi) n hn
    have hw := wrap_suc d (by omega)
    have hwi := wrap_suc i (by omega)
    rw [decide_eq_true (show 1 < d + 1 by omega)] at q2
    rcases q3 with rfl | ⟨c, v, rfl, hc, rfl⟩
    · refine ⟨-1, m, i, .step (fun l => eJ211x2 l _ _ _ _ _ _) (.pos (by simp; omega) (.geti rfl hx (.ask (by rw [hw]; exact q1) (.pos rfl (.ret _))))),
        .step (fun l => eJ342x0 l _ _ _ _ _ _ _) (.pos (by simp; omega) (.geti rfl hx (.ask (.step (fun l => eF287 l _ _ _ _ _ _ _) (.ask (by rw [hw]; exact q2) (.ret _))) (.pos rfl (.ret _))))), .inl ⟨rfl, by omega⟩⟩
    · obtain ⟨r', m', x, p1, p2, p3⟩ := type_loop (k := k) (nm := nm) hl hd hd6 ih j (i + 1) (n + c) (by omega) hc
      have e0 : decide (0 ≤ ((n + c : Nat) : Int)) = true := decide_eq_true (by omega)
      rw [e0] at q2
      refine ⟨r', m', x, .step (fun l => eJ211x2 l _ _ _ _ _ _) (.pos (by simp; omega) (.geti rfl hx (.ask (by rw [hw]; exact q1) (.neg (by simp; omega) (by rw [hwi]; exact p1))))),
        .step (fun l => eJ342x0 l _ _ _ _ _ _ _) (.pos (by simp; omega) (.geti rfl hx (.ask (.step (fun l => eF287 l _ _ _ _ _ _ _) (.ask (by rw [hw]; exact q2) (.ret _))) (.neg rfl (by rw [hwi]; exact p2))))), ?_⟩
      rcases p3 with p3 | ⟨rfl, c', v', rfl, hc', rfl⟩
      · exact .inl p3
      · refine .inr ⟨rfl, c + c', ?_, by congr 1; omega, by omega, rfl⟩
        rw [List.drop_eq_getElem_cons hi]
        exact .cons v v'
theorem types : ∀ (W : Nat) (k : Int) (nm : ByteArray) (ks : Rows), wtRs ks < W → ∀ d n : Nat, 1 ≤ d → d ≤ 7 → n ≤ 16 → TyR k nm ks d n
  | 0, _, _, _, h => by omega
  | W + 1, k, nm, ks, hW => by
    intro d n hd hd7 hn
    by_cases hd6 : d ≤ 6
    · by_cases hn1 : n + 1 ≤ 16
      · cases hh : headB k nm ks (decide (1 < d)) with
        | false => exact ⟨-1, ((n + 1 : Nat) : Int), type_r k nm ks d n hd6 hn1 _ (by rw [hh]; simp) (fun _ => rfl), type_p k nm ks d n _ hd6 hn1 _ (by rw [hh]; simp) (fun _ => rfl), .inl rfl⟩
        | true =>
          have hlen : ks.length ≤ 2 := by have := (headTy_ok hh).2; omega
          obtain ⟨r, m, x, q1, q2, q3⟩ := type_loop (k := k) (nm := nm) (ks := ks) (d := d) (by omega) hd hd6 (fun r hr n hn => types W _ _ _ (by have := wt_gD r 2; have := wt_mem hr; omega) (d + 1) n (by omega) (by omega) hn) _ 0 (n + 1) rfl hn1
          have e : decide (0 ≤ x) = !decide (0 ≤ r) := by
            rcases q3 with ⟨rfl, h⟩ | ⟨rfl, c, _, rfl, _⟩
            · rw [decide_eq_true h]; rfl
            · rw [decide_eq_true (show (0 : Int) ≤ ((n + 1 + c : Nat) : Int) by omega)]; rfl
          refine ⟨r, m, type_r k nm ks d n hd6 hn1 _ (fun _ => q1) (by rw [hh]; simp), type_p k nm ks d n _ hd6 hn1 _ (fun _ => ?_) (by rw [hh]; simp), ?_⟩
          · refine .step (fun l => eJ202x1000019 l _ _ _ _ _ _ _) (.ask (.step (fun l => eF286 l _ _ _ _ _) (.ask (.step (fun l => eF342 l _ _ _ _ _) q2) (.ret _))) ?_)
            show Ev (fun _ => some (!decide (0 ≤ x), m, 16, 6)) _
            rw [e, Bool.not_not]; exact .ret _
          · rcases q3 with ⟨rfl, _⟩ | ⟨rfl, c, v, rfl, hc, rfl⟩
            · exact .inl rfl
            · exact .inr ⟨c + 1, .mk (headTy_ok hh).1 (headTy_ok hh).2 (by simpa using v), by congr 1; omega, by omega, rfl⟩
      · refine ⟨-1, ((n + 1 : Nat) : Int), .step (fun l => eF211 l _ _ _ _ _) (.neg (by simp; omega) (.pos (by rw [wrap_suc n (by omega)]; simp; omega) (.ret _))),
          .step (fun l => eF202 l _ _ _ _ _ _ _ _) (.ask (enter_p d n 16 6 (by omega)) (.pos (by rw [decide_eq_false (show ¬ n + 1 ≤ 16 by omega)]; rfl) (.ret _))), .inl rfl⟩
    · refine ⟨-1, ((n + 1 : Nat) : Int), .step (fun l => eF211 l _ _ _ _ _) (.pos (by simp; omega) (.ret _)),
        .step (fun l => eF202 l _ _ _ _ _ _ _ _) (.ask (enter_p d n 16 6 (by omega)) (.pos (by rw [decide_eq_false hd6, Bool.and_false]; rfl) (.ret _))), .inl rfl⟩
theorem validType (k : Int) (nm : ByteArray) (ks : Rows) : ∃ b, Ev (fun l => F89 l k nm ks) b ∧ Ev (fun l => F93 l k nm ks) b ∧ (b = true → ∃ c, VTy k nm ks c ∧ c ≤ 16) := by
  obtain ⟨r, m, q1, q2, q3⟩ := types _ k nm ks (Nat.lt_succ_self _) 1 0 (by omega) (by omega) (by omega)
  have hb : decide (r > 0) = decide (0 ≤ r) := by
    rcases q3 with rfl | ⟨c, v, rfl, _⟩
    · rfl
    · cases v; rw [decide_eq_decide]; omega
  refine ⟨decide (0 ≤ r), .step (fun l => eF89 l _ _ _) (.ask q2 (.ret _)), .step (fun l => eF93 l _ _ _) (.ask q1 (by rw [← hb]; exact .ret _)), fun h => ?_⟩
  rcases q3 with rfl | ⟨c, v, _, hc, _⟩
  · cases h
  · exact ⟨c, v, by omega⟩
end Go.AI
end

/-
  Nodes of terms: right for the program just where they are for the reference.
-/
section
namespace Go.AI
open Go
def arityB (op : Int) (kl : Nat) : Bool := match kidsS op with
  | none => false
  | some none => !decide (kl = 0)
  | some (some k) => decide ((kl : Int) = k)
def nameB (op : Int) (nm : ByteArray) : Bool := if op = 20 then namedB nm else if binderB op = true then identB nm else decide (nm.size = 0)
def numB (op N : Int) : Bool := if op = 19 then decide (0 ≤ N) && decide (N ≤ 1000000000) else decide (N = 0)
def typB (op tk : Int) (tn : ByteArray) (ts : Rows) (vt : Bool) : Bool := if op = 29 then vt && !decide (tk = 2) else zeroB tk tn ts
def nodeB (op : Int) (nm : ByteArray) (N tk : Int) (tn : ByteArray) (ts ks : Rows) (vt : Bool) : Bool := arityB op ks.length && (nameB op nm && (numB op N && typB op tk tn ts vt))
theorem kidsS_nonneg {op k : Int} (h : kidsS op = some (some k)) : 0 ≤ k := by
  unfold kidsS at h
  split at h
  · cases h; omega
  · split at h
    · cases h; omega
    · split at h
      · cases h
      · split at h
        · cases h; omega
        · cases h
section
variable {op : Int} {nm : ByteArray} {N tk : Int} {tn : ByteArray} {ts ks : Rows} {vt : Bool}
theorem typ_r (hv : Ev (fun l => F93 l tk tn ts) vt) : Ev (fun l => J296x1000014 l op nm N tk tn ts ks) (typB op tk tn ts vt) := by
  refine .step (fun l => eJ296x1000014 l _ _ _ _ _ _ _) ?_
  unfold typB
  by_cases h : op = 29
  · rw [if_pos h]
    refine .pos (by simpa using h) (.ask hv (.ite (fun h => ?_) (fun h => ?_)))
    · rw [h, Bool.true_and]
      have : (tk != 2) = !decide (tk = 2) := by rw [Bool.eq_iff_iff]; simp
      rw [← this]; exact .ret _
    · rw [h]; exact .ret _
  · rw [if_neg h]
    exact .neg (by simpa using h) (.ask (zero_r _ _ _) (.ret _))
theorem num_r (hv : Ev (fun l => F93 l tk tn ts) vt) : Ev (fun l => J296x1000012 l op nm N tk tn ts ks) (numB op N && typB op tk tn ts vt) := by
  refine .step (fun l => eJ296x1000012 l _ _ _ _ _ _ _) ?_
  unfold numB
  by_cases h : op = 19
  · rw [if_pos h]
    refine .pos (by simpa using h) (.ite (fun h1 => ?_) (fun h1 => .ite (fun h2 => ?_) (fun h2 => .neg (by simpa [bne] using h) ?_)))
    · have h1 := of_decide_eq_true h1
      rw [decide_eq_false (show ¬ 0 ≤ N by omega)]; exact .ret _
    · have h2 := of_decide_eq_true h2
      rw [decide_eq_false (show ¬ N ≤ 1000000000 by omega), Bool.and_false]; exact .ret _
    · have h1 := of_decide_eq_false h1
      have h2 := of_decide_eq_false h2
      rw [decide_eq_true (show 0 ≤ N by omega), decide_eq_true (show N ≤ 1000000000 by omega)]; exact typ_r hv
  · rw [if_neg h]
    refine .neg (by simpa using h) (.pos (by simpa [bne] using h) (.ite (fun h1 => ?_) (fun h1 => ?_)))
    · have h1 : ¬ N = 0 := by simpa [bne] using h1
      rw [decide_eq_false h1]; exact .ret _
    · have h1 : N = 0 := by simpa [bne] using h1
      rw [decide_eq_true h1]; exact typ_r hv
theorem name_r (hs : Fits nm) (hv : Ev (fun l => F93 l tk tn ts) vt) : Ev (fun l => J296x1000004 l op nm N tk tn ts ks) (nameB op nm && (numB op N && typB op tk tn ts vt)) := by
  refine .step (fun l => eJ296x1000004 l _ _ _ _ _ _ _) ?_
  unfold nameB
  by_cases h : op = 20
  · rw [if_pos h]
    refine .pos (by simpa using h) (.ask (named_r nm hs) (.ite (fun h1 => ?_) (fun h1 => ?_)))
    · simp only [Bool.not_eq_true'] at h1; rw [h1]; exact .ret _
    · simp only [Bool.not_eq_false'] at h1; rw [h1]; exact num_r hv
  · rw [if_neg h]
    refine .neg (by simpa using h) (.ask (binder_r op) (.ite (fun h0 => ?_) (fun h0 => ?_)))
    · rw [if_pos h0]
      refine .ask (ident_r nm) (.ite (fun h1 => ?_) (fun h1 => ?_))
      · simp only [Bool.not_eq_true'] at h1; rw [h1]; exact .ret _
      · simp only [Bool.not_eq_false'] at h1; rw [h1]; exact num_r hv
    · rw [if_neg (by rw [h0]; simp), size_bs_nil]
      refine .ite (fun h1 => ?_) (fun h1 => ?_)
      · simp only [Bool.not_eq_true'] at h1; rw [h1]; exact .ret _
      · simp only [Bool.not_eq_false'] at h1; rw [h1]; exact num_r hv
theorem node_r (hs : Fits nm) (hv : Ev (fun l => F93 l tk tn ts) vt) : Ev (fun l => F296 l op nm N tk tn ts ks) (nodeB op nm N tk tn ts ks vt) := by
  refine .step (fun l => eF296 l _ _ _ _ _ _ _) (.ask (kids_r op) ?_)
  unfold nodeB arityB kidsR
  cases hk : kidsS op with
  | none => exact .pos rfl (.ret _)
  | some o =>
    cases o with
    | none =>
      refine .neg rfl (.pos rfl (.ite (fun h => ?_) (fun h => .neg rfl ?_)))
      · have h : ks.length = 0 := by simpa using h
        rw [h]; exact .ret _
      · have h : ¬ ks.length = 0 := by simpa using h
        simp only [decide_eq_false h, Bool.not_false, Bool.true_and]; exact name_r hs hv
    | some k =>
      have hk0 := kidsS_nonneg hk
      have e1 : (rOf (some (some k)) == -2) = false := by show (k == -2) = false; rw [beq_eq_false_iff_ne]; omega
      have e2 : (rOf (some (some k)) == -1) = false := by show (k == -1) = false; rw [beq_eq_false_iff_ne]; omega
      refine .neg e1 (.neg e2 (.pos (decide_eq_true (show k ≥ 0 from hk0)) (.ite (fun h => ?_) (fun h => ?_))))
      · have h : ¬ (ks.length : Int) = k := by simpa [bne, rOf] using h
        simp only [decide_eq_false h, Bool.false_and]; exact .ret _
      · have h : (ks.length : Int) = k := by simpa [bne, rOf] using h
        simp only [decide_eq_true h, Bool.true_and]; exact name_r hs hv
theorem typ_p (b : Bool) (hv : Ev (fun l => F89 l tk tn ts) vt) : Ev (fun l => J288x1000014 l b op nm N tk tn ts ks) (b && typB op tk tn ts vt) := by
  refine .step (fun l => eJ288x1000014 l _ _ _ _ _ _ _ _) ?_
  unfold typB
  by_cases h : op = 29
  · rw [if_pos h]
    refine .pos (by simpa using h) (.ite (fun h => ?_) (fun h => ?_))
    · rw [h, Bool.true_and]
      have : (tk != 2) = !decide (tk = 2) := by rw [Bool.eq_iff_iff]; simp
      rw [this]
      refine .ite (fun h => ?_) (fun h => ?_)
      · rw [h, Bool.and_true]; exact .ask hv (.ret _)
      · rw [h, Bool.and_false]; exact .ret _
    · rw [h]; exact .ret _
  · rw [if_neg h]
    refine .neg (by simpa using h) (.ite (fun h => ?_) (fun h => ?_))
    · rw [h, Bool.true_and]; exact .ask (zero_p _ _ _) (.ret _)
    · rw [h]; exact .ret _
theorem num_p (b : Bool) (hv : Ev (fun l => F89 l tk tn ts) vt) : Ev (fun l => J288x1000011 l b op nm N tk tn ts ks) (b && (numB op N && typB op tk tn ts vt)) := by
  refine .step (fun l => eJ288x1000011 l _ _ _ _ _ _ _ _) ?_
  unfold numB
  by_cases h : op = 19
  · rw [if_pos h]
    refine .pos (by simpa using h) (.ite (fun h0 => .ite (fun h1 => ?_) (fun h1 => ?_)) (fun h0 => ?_))
    · rw [h0, Bool.true_and, show decide (0 ≤ N) = true from h1, Bool.true_and]; exact typ_p _ hv
    · rw [show decide (0 ≤ N) = false from h1, Bool.false_and, h0, Bool.true_and]; exact typ_p _ hv
    · rw [h0, Bool.false_and]; exact typ_p _ hv
  · rw [if_neg h]
    have e : (N == 0) = decide (N = 0) := by rw [Bool.eq_iff_iff]; simp
    rw [e]
    refine .neg (by simpa using h) (.ite (fun h0 => ?_) (fun h0 => ?_))
    · rw [h0, Bool.true_and]; exact typ_p _ hv
    · rw [h0, Bool.false_and]; exact typ_p _ hv
theorem name_p (hs : Fits nm) (hv : Ev (fun l => F89 l tk tn ts) vt) : Ev (fun l => J288x1000007 l op nm N tk tn ts ks) (nameB op nm && (numB op N && typB op tk tn ts vt)) := by
  refine .step (fun l => eJ288x1000007 l _ _ _ _ _ _ _) ?_
  unfold nameB
  by_cases h : op = 20
  · rw [if_pos h]
    exact .pos (by simpa using h) (.ask (named_p nm hs) (num_p _ hv))
  · rw [if_neg h]
    refine .neg (by simpa using h) (.ask (binder_p op) (.ite (fun h0 => ?_) (fun h0 => ?_)))
    · rw [if_pos h0]
      exact .ask (ident_p nm) (num_p _ hv)
    · rw [if_neg (by rw [h0]; simp), size_bs_nil]
      exact num_p _ hv
theorem node_p (hs : Fits nm) (hv : Ev (fun l => F89 l tk tn ts) vt) : Ev (fun l => F288 l op nm N tk tn ts ks) (nodeB op nm N tk tn ts ks vt) := by
  refine .step (fun l => eF288 l _ _ _ _ _ _ _) (.ask (kids_p op) ?_)
  unfold nodeB arityB kidsN kidsK
  cases hk : kidsS op with
  | none => exact .pos rfl (.pos rfl (.ret _))
  | some o =>
    refine .neg rfl ?_
    cases o with
    | none =>
      refine .pos rfl (.ite (fun h => .pos h ?_) (fun h => .step (fun l => eJ288x1000005 l _ _ _ _ _ _ _ _) (.neg rfl ?_)))
      · have h : ks.length = 0 := by simpa using h
        rw [h]; exact .ret _
      · have h : ¬ ks.length = 0 := by simpa using h
        simp only [decide_eq_false h, Bool.not_false, Bool.true_and]; exact name_p hs hv
    | some k =>
      have hk0 := kidsS_nonneg hk
      have e2 : (nOf (some (some k)) == -1) = false := by show (k == -1) = false; rw [beq_eq_false_iff_ne]; omega
      have e3 : (nOf (some (some k)) != -1) = true := by show (k != -1) = true; rw [bne_iff_ne]; omega
      refine .neg e2 (.step (fun l => eJ288x1000005 l _ _ _ _ _ _ _ _) (.pos e3 (.ite (fun h => ?_) (fun h => ?_))))
      · have h : ¬ (ks.length : Int) = k := by simpa [bne, nOf] using h
        simp only [decide_eq_false h, Bool.false_and]; exact .ret _
      · have h : (ks.length : Int) = k := by simpa [bne, nOf] using h
        simp only [decide_eq_true h, Bool.true_and]; exact name_p hs hv
end
end Go.AI
end

/-
  Terms: valid for the program just where they are for the reference.
-/
section
namespace Go.AI
open Go
structure NodeOK (op : Int) (nm : ByteArray) (N tk : Int) (tn : ByteArray) (ts : Rows) (kl : Nat) : Prop where
  ar : arityB op kl = true
  nm : nm.size ≤ 17
  num : 0 ≤ N ∧ N ≤ 1000000000
  ty : op = 29 → ∃ c, VTy tk tn ts c ∧ c ≤ 16
mutual
inductive VT : Int → ByteArray → Int → Int → ByteArray → Rows → Rows → Nat → Prop
  | mk {op : Int} {nm : ByteArray} {N tk : Int} {tn : ByteArray} {ts ks : Rows} {c : Nat} : NodeOK op nm N tk tn ts ks.length → VTs ks c → VT op nm N tk tn ts ks (c + 1)
inductive VTs : Rows → Nat → Prop
  | nil : VTs [] 0
  | cons {r : List AV} {rs : Rows} {c d : Nat} : VT (gI r 0) (gS r 1) (gI r 2) (gI r 3) (gS r 4) (gD r 5) (gD r 6) c → VTs rs d → VTs (r :: rs) (c + d)
end
theorem named_size {s : ByteArray} (h : namedB s = true) : s.size ≤ 17 := by
  unfold namedB at h
  rw [Bool.or_eq_true] at h
  rcases h with h | h
  · have := identB_size h; omega
  · unfold primedB at h
    rw [Bool.and_eq_true] at h
    have := identB_size h.2
    have e : (cutQ s).size = s.size - 1 := by rw [← byte_len, cutQ_list, List.length_dropLast, byte_len]
    omega
theorem nodeB_ok {op : Int} {nm : ByteArray} {N tk : Int} {tn : ByteArray} {ts ks : Rows} {vt : Bool} (hv : vt = true → ∃ c, VTy tk tn ts c ∧ c ≤ 16) (h : nodeB op nm N tk tn ts ks vt = true) : NodeOK op nm N tk tn ts ks.length := by
  unfold nodeB at h
  rw [Bool.and_eq_true, Bool.and_eq_true, Bool.and_eq_true] at h
  obtain ⟨h1, h2, h3, h4⟩ := h
  refine ⟨h1, ?_, ?_, fun e => ?_⟩
  · unfold nameB at h2
    split at h2
    · exact named_size h2
    · split at h2
      · have := identB_size h2; omega
      · rw [decide_eq_true_eq] at h2; omega
  · unfold numB at h3
    split at h3
    · rw [Bool.and_eq_true, decide_eq_true_eq, decide_eq_true_eq] at h3; exact h3
    · rw [decide_eq_true_eq] at h3; omega
  · unfold typB at h4
    rw [if_pos e, Bool.and_eq_true] at h4
    exact hv h4.1
def TmR (op : Int) (nm : ByteArray) (N tk : Int) (tn : ByteArray) (ts ks : Rows) (d n : Nat) : Prop := ∃ (r m : Int), Ev (fun l => F212 l op nm N tk tn ts ks d n) r ∧ Ev (fun l => F203 l op nm N tk tn ts ks d n 2000 64) (decide (0 ≤ r), m, 2000, 64) ∧
  (r = -1 ∨ ∃ c, VT op nm N tk tn ts ks c ∧ r = ((n + c : Nat) : Int) ∧ n + c ≤ 2000 ∧ m = r)
theorem term_loop {op : Int} {nm : ByteArray} {N tk : Int} {tn : ByteArray} {ts ks : Rows} {d : Nat} (hl : ks.length ≤ 4611686018427387904) (hd6 : d ≤ 64) (ih : ∀ r, r ∈ ks → ∀ n, n ≤ 2000 → TmR (gI r 0) (gS r 1) (gI r 2) (gI r 3) (gS r 4) (gD r 5) (gD r 6) (d + 1) n) : ∀ (j i n : Nat), ks.length - i = j → n ≤ 2000 →
    ∃ (r m x : Int), Ev (fun l => J212x0 l d n i op nm N tk tn ts ks) r ∧ Ev (fun l => J347x0 l ks ks.length i d n 2000 64) (x, (d : Int), m, 2000, 64) ∧ (r = -1 ∧ 0 ≤ x ∨ x = -1 ∧ ∃ c, VTs (ks.drop i) c ∧ r = ((n + c : Nat) : Int) ∧ n + c ≤ 2000 ∧ m = r)
  | 0, i, n, hj, hn => ⟨n, n, -1, .step (fun l => eJ212x0 l _ _ _ _ _ _ _ _ _ _) (.neg (by simp; omega) (.ret _)), .step (fun l => eJ347x0 l _ _ _ _ _ _ _) (.neg (by simp; omega) (.ret _)),
      .inr ⟨rfl, 0, by rw [List.drop_eq_nil_of_le (by omega)]; exact .nil, rfl, hn, rfl⟩⟩
  | j + 1, i, n, hj, hn => by
    have hi : i < ks.length := by omega
    have hx := List.getElem?_eq_getElem hi
    obtain ⟨r, m, q1, q2, q3⟩ := ih ks[i] (List.getElem_mem hi) n hn
    have hw := wrap_suc d (by omega)
    have hwi := wrap_suc i (by omega)
    rcases q3 with rfl | ⟨c, v, rfl, hc, rfl⟩
    · refine ⟨-1, m, i, .step (fun l => eJ212x0 l _ _ _ _ _ _ _ _ _ _) (.pos (by simp; omega) (.geti rfl hx (.ask (by rw [hw]; exact q1) (.pos rfl (.ret _))))),
        .step (fun l => eJ347x0 l _ _ _ _ _ _ _) (.pos (by simp; omega) (.geti rfl hx (.ask (.step (fun l => eF290 l _ _ _ _ _ _ _ _ _ _ _) (.ask (by rw [hw]; exact q2) (.ret _))) (.pos rfl (.ret _))))), .inl ⟨rfl, by omega⟩⟩
    · obtain ⟨r', m', x, p1, p2, p3⟩ := term_loop (op := op) (nm := nm) (N := N) (tk := tk) (tn := tn) (ts := ts) hl hd6 ih j (i + 1) (n + c) (by omega) hc
      have e0 : decide (0 ≤ ((n + c : Nat) : Int)) = true := decide_eq_true (by omega)
      rw [e0] at q2
      refine ⟨r', m', x, .step (fun l => eJ212x0 l _ _ _ _ _ _ _ _ _ _) (.pos (by simp; omega) (.geti rfl hx (.ask (by rw [hw]; exact q1) (.neg (by simp; omega) (by rw [hwi]; exact p1))))),
        .step (fun l => eJ347x0 l _ _ _ _ _ _ _) (.pos (by simp; omega) (.geti rfl hx (.ask (.step (fun l => eF290 l _ _ _ _ _ _ _ _ _ _ _) (.ask (by rw [hw]; exact q2) (.ret _))) (.neg rfl (by rw [hwi]; exact p2))))), ?_⟩
      rcases p3 with p3 | ⟨rfl, c', v', rfl, hc', rfl⟩
      · exact .inl p3
      · refine .inr ⟨rfl, c + c', ?_, by congr 1; omega, by omega, rfl⟩
        rw [List.drop_eq_getElem_cons hi]
        exact .cons v v'
theorem terms : ∀ (W : Nat) (op : Int) (nm : ByteArray) (N tk : Int) (tn : ByteArray) (ts ks : Rows), wtRs ks < W → W ≤ 4611686018427387904 → Fits nm → ∀ d n : Nat, d ≤ 65 → n ≤ 2000 → TmR op nm N tk tn ts ks d n
  | 0, _, _, _, _, _, _, _, h, _, _ => by omega
  | W + 1, op, nm, N, tk, tn, ts, ks, hW, hB, hf => by
    intro d n hd7 hn
    by_cases hd6 : d ≤ 64
    · by_cases hn1 : n + 1 ≤ 2000
      · obtain ⟨vt, v1, v2, v3⟩ := validType tk tn ts
        have hr := node_r (op := op) (N := N) (ks := ks) hf v2
        have hp := node_p (op := op) (N := N) (ks := ks) hf v1
        have hw := wrap_suc n (by omega)
        have hen := enter_p d n 2000 64 (by omega)
        rw [decide_eq_true hn1, decide_eq_true hd6] at hen
        cases hh : nodeB op nm N tk tn ts ks vt with
        | false =>
          rw [hh] at hr hp
          exact ⟨-1, ((n + 1 : Nat) : Int), .step (fun l => eF212 l _ _ _ _ _ _ _ _ _) (.neg (by simp; omega) (by rw [hw]; exact .neg (by simp; omega) (.ask hr (.pos rfl (.ret _))))),
            .step (fun l => eF203 l _ _ _ _ _ _ _ _ _ _ _) (.ask hen (.neg rfl (.ask hp (.pos rfl (.ret _))))), .inl rfl⟩
        | true =>
          rw [hh] at hr hp
          have hlen := wt_len ks
          obtain ⟨r, m, x, q1, q2, q3⟩ := term_loop (op := op) (nm := nm) (N := N) (tk := tk) (tn := tn) (ts := ts) (ks := ks) (d := d) (by omega) hd6 (fun r hr n hn => terms W _ _ _ _ _ _ _ (by have := wt_gD r 6; have := wt_mem hr; omega) (by omega)
            (by have := wt_gS r 1; have := wt_mem hr; unfold Fits; omega) (d + 1) n (by omega) hn) _ 0 (n + 1) rfl hn1
          have e : decide (0 ≤ x) = !decide (0 ≤ r) := by
            rcases q3 with ⟨rfl, h⟩ | ⟨rfl, c, _, rfl, _⟩
            · rw [decide_eq_true h]; rfl
            · rw [decide_eq_true (show (0 : Int) ≤ ((n + 1 + c : Nat) : Int) by omega)]; rfl
          refine ⟨r, m, .step (fun l => eF212 l _ _ _ _ _ _ _ _ _) (.neg (by simp; omega) (by rw [hw]; exact .neg (by simp; omega) (.ask hr (.neg rfl q1)))),
            .step (fun l => eF203 l _ _ _ _ _ _ _ _ _ _ _) (.ask hen (.neg rfl (.ask hp (.neg rfl (.ask (.step (fun l => eF289 l _ _ _ _ _) (.ask (.step (fun l => eF347 l _ _ _ _ _) q2) (.ret _))) ?_))))), ?_⟩
          · show Ev (fun _ => some (!decide (0 ≤ x), m, 2000, 64)) _
            rw [e, Bool.not_not]; exact .ret _
          · rcases q3 with ⟨rfl, _⟩ | ⟨rfl, c, v, rfl, hc, rfl⟩
            · exact .inl rfl
            · exact .inr ⟨c + 1, .mk (nodeB_ok v3 hh) (by simpa using v), by congr 1; omega, by omega, rfl⟩
      · refine ⟨-1, ((n + 1 : Nat) : Int), .step (fun l => eF212 l _ _ _ _ _ _ _ _ _) (.neg (by simp; omega) (.pos (by rw [wrap_suc n (by omega)]; simp; omega) (.ret _))),
          .step (fun l => eF203 l _ _ _ _ _ _ _ _ _ _ _) (.ask (enter_p d n 2000 64 (by omega)) (.pos (by rw [decide_eq_false (show ¬ n + 1 ≤ 2000 by omega)]; rfl) (.ret _))), .inl rfl⟩
    · refine ⟨-1, ((n + 1 : Nat) : Int), .step (fun l => eF212 l _ _ _ _ _ _ _ _ _) (.pos (by simp; omega) (.ret _)),
        .step (fun l => eF203 l _ _ _ _ _ _ _ _ _ _ _) (.ask (enter_p d n 2000 64 (by omega)) (.pos (by rw [decide_eq_false hd6, Bool.and_false]; rfl) (.ret _))), .inl rfl⟩
theorem validTerm (op : Int) (nm : ByteArray) (N tk : Int) (tn : ByteArray) (ts ks : Rows) (hk : wtRs ks < 4611686018427387904) (hn : Fits nm) :
    ∃ b, Ev (fun l => F91 l op nm N tk tn ts ks) b ∧ Ev (fun l => F95 l op nm N tk tn ts ks) b ∧ (b = true → ∃ c, VT op nm N tk tn ts ks c ∧ c ≤ 2000) := by
  obtain ⟨r, m, q1, q2, q3⟩ := terms _ op nm N tk tn ts ks (Nat.lt_succ_self _) (by omega) hn 1 0 (by omega) (by omega)
  have hb : decide (r > 0) = decide (0 ≤ r) := by
    rcases q3 with rfl | ⟨c, v, rfl, _⟩
    · rfl
    · cases v; rw [decide_eq_decide]; omega
  refine ⟨decide (0 ≤ r), .step (fun l => eF91 l _ _ _ _ _ _ _) (.ask q2 (.ret _)), .step (fun l => eF95 l _ _ _ _ _ _ _) (.ask q1 (by rw [← hb]; exact .ret _)), fun h => ?_⟩
  rcases q3 with rfl | ⟨c, v, _, hc, _⟩
  · cases h
  · exact ⟨c, v, by omega⟩
end Go.AI
end
