/-
  Texts of types and numbers; writing to a builder.
-/
import Derived.Lib.ItoaNum
import Derived.Test.YtbdcnekkebhhhaaGreatDoorPa
import Derived.Test.YtbdcnekkebhhhaaGreatDoorPs
set_option linter.all false

section
namespace Go.AI
open Go
theorem kids1 {ks : Rows} {c : Nat} (h : VTys ks c) (hl : ks.length = 1) : ∃ r, ks = [r] ∧ VTy (gI r 0) (gS r 1) (gD r 2) c := by
  cases h with
  | nil => cases hl
  | cons v vs => cases vs with
    | nil => exact ⟨_, rfl, v⟩
    | cons _ _ => simp at hl
theorem kids2 {ks : Rows} {c : Nat} (h : VTys ks c) (hl : ks.length = 2) : ∃ r r' c1 c2, ks = [r, r'] ∧ c = c1 + c2 ∧ VTy (gI r 0) (gS r 1) (gD r 2) c1 ∧ VTy (gI r' 0) (gS r' 1) (gD r' 2) c2 := by
  cases h with
  | nil => cases hl
  | cons v vs => cases vs with
    | nil => simp at hl
    | cons v' vs' => cases vs' with
      | nil => exact ⟨_, _, _, _, rfl, rfl, v, v'⟩
      | cons _ _ => simp at hl
theorem bs_size (l : List UInt8) : (bs l).size = l.length := rfl
theorem app_size (a b : ByteArray) : (a ++ b).size = a.size + b.size := ByteArray.size_append
theorem tyText : ∀ (W : Nat) {k : Int} {nm : ByteArray} {ks : Rows} {c : Nat}, VTy k nm ks c → c < W → c ≤ 16 → ∃ s : ByteArray, s.size ≤ 32 * c ∧ Ev (fun l => F90 l k nm ks) s ∧ Ev (fun l => F94 l k nm ks) s
  | 0, _, _, _, _, _, h, _ => by omega
  | W + 1, k, nm, ks, _, .mk (c := c) hn hk v, hW, h16 => by
    rcases hk with ⟨rfl | rfl | rfl, h0⟩ | ⟨rfl, h2⟩ | ⟨rfl, h1⟩
    · exact ⟨bs [105, 110, 116], by rw [bs_size]; simp; omega, .step (fun l => eF90 l _ _ _) (.pos rfl (.ret _)), .step (fun l => eF94 l _ _ _) (.pos rfl (.ret _))⟩
    · exact ⟨bs [98, 111, 111, 108], by rw [bs_size]; simp; omega, .step (fun l => eF90 l _ _ _) (.neg rfl (.pos rfl (.ret _))), .step (fun l => eF94 l _ _ _) (.neg rfl (.pos rfl (.ret _)))⟩
    · exact ⟨nm, by omega, .step (fun l => eF90 l _ _ _) (.neg rfl (.neg rfl (.pos rfl (.ret _)))), .step (fun l => eF94 l _ _ _) (.neg rfl (.neg rfl (.neg rfl (.neg rfl (.ret _)))))⟩
    · obtain ⟨r, r', c1, c2, rfl, rfl, v1, v2⟩ := kids2 v h2
      obtain ⟨s1, z1, p1, q1⟩ := tyText W v1 (by omega) (by omega)
      obtain ⟨s2, z2, p2, q2⟩ := tyText W v2 (by omega) (by omega)
      refine ⟨bs [112, 97, 105, 114, 40] ++ s1 ++ bs [44, 32] ++ s2 ++ bs [41], ?_, .step (fun l => eF90 l _ _ _) ?_, .step (fun l => eF94 l _ _ _) ?_⟩
      · simp only [app_size, bs_size, List.length_cons, List.length_nil]; omega
      · refine .neg rfl (.neg rfl (.neg rfl (.neg rfl (.pos rfl (.geti (m := 0) rfl rfl (.ask p1 (.scat ?_ (.scat ?_ (.geti (m := 1) rfl rfl (.ask p2 (.scat ?_ (.scat ?_ (.ret _)))))))))))))
        all_goals (simp only [app_size, bs_size, List.length_cons, List.length_nil]; omega)
      · refine .neg rfl (.neg rfl (.neg rfl (.pos rfl (.geti (m := 0) rfl rfl (.ask q1 (.scat ?_ (.scat ?_ (.geti (m := 1) rfl rfl (.ask q2 (.scat ?_ (.scat ?_ (.ret _))))))))))))
        all_goals (simp only [app_size, bs_size, List.length_cons, List.length_nil]; omega)
    · obtain ⟨r, rfl, v1⟩ := kids1 v h1
      obtain ⟨s1, z1, p1, q1⟩ := tyText W v1 (by omega) (by omega)
      refine ⟨bs [115, 101, 116, 40] ++ s1 ++ bs [41], ?_, .step (fun l => eF90 l _ _ _) ?_, .step (fun l => eF94 l _ _ _) ?_⟩
      · simp only [app_size, bs_size, List.length_cons, List.length_nil]; omega
      · refine .neg rfl (.neg rfl (.neg rfl (.pos rfl (.geti (m := 0) rfl rfl (.ask p1 (.scat ?_ (.scat ?_ (.ret _))))))))
        all_goals (simp only [app_size, bs_size, List.length_cons, List.length_nil]; omega)
      · refine .neg rfl (.neg rfl (.pos rfl (.geti (m := 0) rfl rfl (.ask q1 (.scat ?_ (.scat ?_ (.ret _)))))))
        all_goals (simp only [app_size, bs_size, List.length_cons, List.length_nil]; omega)
theorem Ev.byt1 {β : Type} {r : β} {n : Int} {m : Nat} {k : Nat → UInt8 → Option β} (hn : n = (m : Int)) (h : m < 256) (hk : Ev (fun l => k l (UInt8.ofNat m)) r) : Ev (fun l => byt1 n (k l)) r := by
  subst hn
  unfold Go.AI.byt1
  rw [decide_eq_true (show (0 : Int) ≤ (m : Int) ∧ (m : Int) < 256 by omega)]
  exact hk
theorem Ev.getn {α β : Type} {r : β} {l : List α} {m : Nat} {x : α} {k : Nat → α → Option β} (h : l[m]? = some x) (hk : Ev (fun n => k n x) r) : Ev (fun n => getn l m (k n)) r := by
  unfold Go.AI.getn
  rw [h]; exact hk
theorem digits_le : ∀ (k u : Nat), u < 10 ^ (k + 1) → Lib.nDigits u ≤ k + 1
  | 0, u, h => by rw [Lib.nDigits_small (by simpa using h)]; exact Nat.le_refl _
  | k + 1, u, h => by
    by_cases h1 : u < 10
    · rw [Lib.nDigits_small h1]; omega
    · rw [Lib.nDigits_big h1]
      have := digits_le k (u / 10) (by rw [Nat.pow_succ] at h; omega)
      omega
theorem decimal : ∀ (N m : Nat), m < N → m ≤ 1000000000 → Ev (fun l => F213 l (m : Int)) (bs (Lib.decDigits m))
  | 0, _, h, _ => by omega
  | N + 1, m, hN, hm => by
    refine .step (fun l => eF213 l _) (.neg (by rw [beq_eq_false_iff_ne]; omega) (.neg (decide_eq_false (by omega)) ?_))
    have hu : ∀ k : Nat, k < 100 → IntKind.u8.wrap (IntKind.i64.wrap (48 + (k : Int))) = ((48 + k : Nat) : Int) := by
      intro k hk
      rw [IntWalk.i64_in _ (by omega), show ((48 : Int) + (k : Int)) = ((48 + k : Nat) : Int) by omega]
      show ((48 + k : Nat) : Int) % 256 = _
      omega
    by_cases h : m < 10
    · refine .pos (by simp; omega) (.byt1 (hu m (by omega)) (by omega) ?_)
      rw [Lib.decDigits_one h]; exact .ret _
    · refine .neg (by simp; omega) ?_
      have e0 : IntKind.i64.wrap (Int.tdiv (m : Int) 10) = ((m / 10 : Nat) : Int) := by
        rw [show Int.tdiv (m : Int) 10 = ((m / 10 : Nat) : Int) by rw [Int.tdiv_eq_ediv_of_nonneg (by omega)]; omega, IntWalk.i64_in _ (by omega)]
      have e1 : Int.tmod (m : Int) 10 = ((m % 10 : Nat) : Int) := by rw [Int.tmod_eq_emod_of_nonneg (by omega)]; omega
      rw [e0, e1]
      have hs : (Lib.decDigits (m / 10)).length ≤ 10 := by
        rw [Lib.decDigits_length]
        exact digits_le 9 (m / 10) (by have : (10 : Nat) ^ (9 + 1) = 10000000000 := by decide
                                       omega)
      refine .ask (decimal N (m / 10) (by omega) (by omega)) (.byt1 (hu _ (by omega)) (by omega) (.scat (by simp only [bs_size, List.length_cons, List.length_nil]; omega) ?_))
      have : bs (Lib.decDigits (m / 10)) ++ bs [UInt8.ofNat (48 + m % 10)] = bs (Lib.decDigits m) := by
        have e2 : Lib.decDigits m = Lib.decDigits (m / 10) ++ [UInt8.ofNat (48 + m % 10)] := by
          conv => lhs; rw [Lib.decDigits, dif_neg h]
        rw [e2]
        exact ByteArray.ext (Array.ext' (by simp))
      rw [this]; exact .ret _
theorem decimal_itoa {N : Int} (h : 0 ≤ N) (h' : N ≤ 1000000000) : Ev (fun l => F213 l N) (itoaB N) ∧ (itoaB N).size ≤ 10 ∧ itoaOK N = true := by
  obtain ⟨m, rfl⟩ : ∃ m : Nat, N = (m : Int) := ⟨N.toNat, by omega⟩
  have e : itoaB (m : Int) = bs (Lib.decDigits m) := by
    unfold itoaB Lib.itoa
    rw [if_neg (by omega), Int.toNat_natCast]
  refine ⟨by rw [e]; exact decimal _ m (Nat.lt_succ_self _) (by omega), ?_, decide_eq_true (by omega)⟩
  rw [e, bs_size, Lib.decDigits_length]
  exact digits_le 9 m (by have : (10 : Nat) ^ (9 + 1) = 10000000000 := by decide
                          omega)
abbrev LIM : Nat := 140737488355328
theorem check_p (f : Bool) (b : ByteArray) : Ev (fun l => F36 l f b) (true, b) := .const 1 fun n => by
  rw [eF36]; cases f <;> rfl
theorem check_p1 (f : Bool) (b : ByteArray) : Ev (fun l => F36v1 l f b) (true, b) := .const 1 fun n => by
  rw [eF36v1]; cases f <;> rfl
theorem str_p (s : ByteArray) (f : Bool) (b : ByteArray) (h : b.size + s.size ≤ 140737488355328) : Ev (fun l => F49 l s f b) ((s.size : Int), true, b ++ s) :=
  .step (fun l => eF49 l _ _ _) (.ask (check_p1 f b) (.fits (by rw [Nat.mul_one]; exact h) (.ret _)))
theorem str_p1 (s : ByteArray) (f : Bool) (b : ByteArray) (h : b.size + s.size ≤ 140737488355328) : Ev (fun l => F49v1 l s f b) ((s.size : Int), true, b ++ s) :=
  .step (fun l => eF49v1 l _ _ _) (.ask (check_p f b) (.fits (by rw [Nat.mul_one]; exact h) (.ret _)))
theorem byte_p {c : Int} {m : Nat} (hc : c = (m : Int)) (hm : m < 256) (f : Bool) (b : ByteArray) (h : b.size + 1 ≤ 140737488355328) : Ev (fun l => F13 l c f b) (true, b ++ bs [UInt8.ofNat m]) :=
  .step (fun l => eF13 l _ _ _) (.ask (check_p f b) (.byt1 hc hm (.fits (by rw [Nat.mul_one]; exact h) (.ret _))))
theorem byte_p1 {c : Int} {m : Nat} (hc : c = (m : Int)) (hm : m < 256) (f : Bool) (b : ByteArray) (h : b.size + 1 ≤ 140737488355328) : Ev (fun l => F13v1 l c f b) (true, b ++ bs [UInt8.ofNat m]) :=
  .step (fun l => eF13v1 l _ _ _) (.ask (check_p1 f b) (.byt1 hc hm (.fits (by rw [Nat.mul_one]; exact h) (.ret _))))
end Go.AI
end

/-
  Texts of terms: operands, lists, heads.
-/
section
namespace Go.AI
open Go
theorem Ev.ret' {β : Type} {a r : β} (h : a = r) : Ev (fun _ => some a) r := h ▸ .ret a
structure Txt (op : Int) (nm : ByteArray) (N tk : Int) (tn : ByteArray) (ts ks : Rows) (s : ByteArray) (c : Nat) : Prop where
  sh : Ev (fun l => F96 l op nm N tk tn ts ks) s
  wr : ∀ f b, b.size + s.size ≤ 140737488355328 → Ev (fun l => F92 l op nm N tk tn ts ks f b) (true, b ++ s)
  sz : s.size + 100 ≤ 700 * c
structure Cl (op : Int) (nm : ByteArray) (N tk : Int) (tn : ByteArray) (ts ks : Rows) (s : ByteArray) (c : Nat) : Prop where
  sh : Ev (fun l => F214 l op nm N tk tn ts ks) s
  wr : ∀ f b, b.size + s.size ≤ 140737488355328 → Ev (fun l => F205 l op nm N tk tn ts ks f b) (true, b ++ s)
  sz : s.size + 98 ≤ 700 * c
abbrev TxtR (r : List AV) := Txt (gI r 0) (gS r 1) (gI r 2) (gI r 3) (gS r 4) (gD r 5) (gD r 6)
abbrev ClR (r : List AV) := Cl (gI r 0) (gS r 1) (gI r 2) (gI r 3) (gS r 4) (gD r 5) (gD r 6)
def compB (op : Int) : Bool := if op = 3 ∨ op = 21 ∨ op = 8 ∨ op = 9 ∨ op = 56 then true else !decide ((signB op).size = 0)
section
variable {op : Int} {nm : ByteArray} {N tk : Int} {tn : ByteArray} {ts ks : Rows}
theorem comp_p (h : 1 ≤ op) (h' : op ≤ 56) : Ev (fun l => F293 l op nm N tk tn ts ks) (compB op) := by
  refine .step (fun l => eF293 l _ _ _ _ _ _ _) ?_
  unfold compB
  by_cases h1 : op = 3
  · subst h1; exact .pos rfl (.pos rfl (.ret _))
  by_cases h2 : op = 21
  · subst h2; exact .neg rfl (.pos rfl (.pos rfl (.ret _)))
  by_cases h3 : op = 8
  · subst h3; exact .neg rfl (.neg rfl (.pos rfl (.pos rfl (.ret _))))
  by_cases h4 : op = 9
  · subst h4; exact .neg rfl (.neg rfl (.neg rfl (.pos rfl (.pos rfl (.ret _)))))
  by_cases h5 : op = 56
  · subst h5; exact .neg rfl (.neg rfl (.neg rfl (.neg rfl (.pos rfl (.ret _)))))
  rw [if_neg (by simp [h1, h2, h3, h4, h5]), ← size_bs_nil]
  exact .neg (by simpa using h1) (.neg (by simpa using h2) (.neg (by simpa using h3) (.neg (by simpa using h4) (.neg (by simpa using h5) (.ask (sign_p h h') (.ret _))))))
theorem comp_r (h : 1 ≤ op) (h' : op ≤ 56) : Ev (fun l => F297 l op nm N tk tn ts ks) (compB op) := by
  refine .step (fun l => eF297 l _ _ _ _ _ _ _) ?_
  unfold compB
  by_cases h1 : op = 3
  · subst h1; exact .pos rfl (.ret _)
  by_cases h2 : op = 21
  · subst h2; exact .neg rfl (.pos rfl (.ret _))
  by_cases h3 : op = 8
  · subst h3; exact .neg rfl (.neg rfl (.pos rfl (.ret _)))
  by_cases h4 : op = 9
  · subst h4; exact .neg rfl (.neg rfl (.neg rfl (.pos rfl (.ret _))))
  by_cases h5 : op = 56
  · subst h5; exact .neg rfl (.neg rfl (.neg rfl (.neg rfl (.pos rfl (.ret _)))))
  rw [if_neg (by simp [h1, h2, h3, h4, h5]), ← size_bs_nil]
  exact .neg (by simpa using h1) (.neg (by simpa using h2) (.neg (by simpa using h3) (.neg (by simpa using h4) (.neg (by simpa using h5) (.ask (sign_r h h') (.ret _))))))
theorem Txt.closed {s : ByteArray} {c : Nat} (t : Txt op nm N tk tn ts ks s c) (h : 1 ≤ op) (h' : op ≤ 56) (hc : c ≤ 2000) : ∃ e, Cl op nm N tk tn ts ks e c := by
  have hz := t.sz
  cases hcb : compB op with
  | true =>
    have hp := comp_p (nm := nm) (N := N) (tk := tk) (tn := tn) (ts := ts) (ks := ks) h h'
    have hr := comp_r (nm := nm) (N := N) (tk := tk) (tn := tn) (ts := ts) (ks := ks) h h'
    rw [hcb] at hp hr
    refine ⟨bs [40] ++ s ++ bs [41], .step (fun l => eF214 l _ _ _ _ _ _ _) (.ask hr (.pos rfl (.ask t.sh (.scat ?_ (.scat ?_ (.ret _)))))), fun f b hb => .step (fun l => eF205 l _ _ _ _ _ _ _ _ _) (.ask hp (.pos rfl (.ask (byte_p1 (m := 40) rfl (by omega) f b ?_) (.ask (t.wr _ _ ?_) (.ask (byte_p1 (m := 41) rfl (by omega) _ _ ?_) (.ret' ?_)))))), ?_⟩
    any_goals (simp only [app_size, bs_size, List.length_cons, List.length_nil] at *; omega)
    simp only [ByteArray.append_assoc]; rfl
  | false =>
    have hp := comp_p (nm := nm) (N := N) (tk := tk) (tn := tn) (ts := ts) (ks := ks) h h'
    have hr := comp_r (nm := nm) (N := N) (tk := tk) (tn := tn) (ts := ts) (ks := ks) h h'
    rw [hcb] at hp hr
    exact ⟨s, .step (fun l => eF214 l _ _ _ _ _ _ _) (.ask hr (.neg rfl (.ask t.sh (.ret _)))), fun f b hb => .step (fun l => eF205 l _ _ _ _ _ _ _ _ _) (.ask hp (.neg rfl (.ask (t.wr f b hb) (.ret _)))), by omega⟩
end
inductive KTs : Rows → List ByteArray → Nat → Prop
  | nil : KTs [] [] 0
  | cons {r : List AV} {rs : Rows} {s : ByteArray} {ss : List ByteArray} {c d : Nat} : TxtR r s c → KTs rs ss d → KTs (r :: rs) (s :: ss) (c + d)
def lst : List ByteArray → ByteArray
  | [] => bs []
  | s :: ss => bs [44, 32] ++ s ++ lst ss
theorem app_nil (b : ByteArray) : b ++ bs [] = b := ByteArray.append_empty
theorem lst_size : ∀ {ks : Rows} {ss : List ByteArray} {d : Nat}, KTs ks ss d → (lst ss).size ≤ 700 * d
  | _, _, _, .nil => by rw [lst, bs_size]; simp
  | _, _, _, .cons t k => by
    have h1 := lst_size k
    have h2 := t.sz
    rw [lst]
    simp only [app_size, bs_size, List.length_cons, List.length_nil]; omega
theorem list_p {ks : Rows} (hl : ks.length ≤ 1000000) : ∀ {ss : List ByteArray} {d i : Nat}, KTs (ks.drop i) ss d → 1 ≤ i → ∀ b, b.size + (lst ss).size ≤ 140737488355328 → Ev (fun l => J209x0v1 l ks ks.length i true b) (true, b ++ lst ss)
  | ss, d, i, h, hi, b, hb => by
    generalize hx : ks.drop i = rs at h
    cases h with
    | nil =>
      have : ks.length ≤ i := List.drop_eq_nil_iff.1 hx
      refine .step (fun l => eJ209x0v1 l _ _ _ _ _) (.neg (by simp; omega) (.ret' ?_))
      rw [lst, app_nil]
    | cons t k =>
      rename_i r rs s ss c d
      have hlt : i < ks.length := by
        rcases Nat.lt_or_ge i ks.length with a | a
        · exact a
        · rw [List.drop_eq_nil_of_le a] at hx; cases hx
      have hg : ks[i]? = some r := by
        have : (ks.drop i)[0]? = some r := by rw [hx]; rfl
        rw [List.getElem?_drop] at this; exact this
      have hd : ks.drop (i + 1) = rs := by rw [List.drop_eq_getElem_cons hlt] at hx; exact (List.cons.inj hx).2
      have ih := list_p hl (i := i + 1) (by rw [hd]; exact k) (by omega)
      rw [lst] at hb ⊢
      simp only [app_size, bs_size, List.length_cons, List.length_nil] at hb
      refine .step (fun l => eJ209x0v1 l _ _ _ _ _) (.pos (by simp; omega) (.geti rfl hg (.pos (by simp; omega) (.ask (str_p _ _ _ ?_) (.step (fun l => eJ209x1000005 l _ _ _ _ _ _ _ _ _ _ _ _) (.ask (t.wr _ _ ?_) ?_))))))
      · simp only [app_size, bs_size, List.length_cons, List.length_nil]; omega
      · simp only [app_size, bs_size, List.length_cons, List.length_nil]; omega
      · rw [wrap_suc i (by omega)]
        have := ih (b ++ bs [44, 32] ++ s) (by simp only [app_size, bs_size, List.length_cons, List.length_nil]; omega)
        simp only [ByteArray.append_assoc] at this ⊢
        exact this
theorem list_r {ks : Rows} (hl : ks.length ≤ 1000000) : ∀ {ss : List ByteArray} {d i : Nat}, KTs (ks.drop i) ss d → 1 ≤ i → ∀ b, b.size + (lst ss).size + 1 ≤ 140737488355328 → Ev (fun l => J96x2 l ks b i) (b ++ lst ss ++ bs [125])
  | ss, d, i, h, hi, b, hb => by
    generalize hx : ks.drop i = rs at h
    cases h with
    | nil =>
      have : ks.length ≤ i := List.drop_eq_nil_iff.1 hx
      rw [lst, app_nil]
      exact .step (fun l => eJ96x2 l _ _ _) (.neg (by simp; omega) (.scat (by simp only [app_size, bs_size, List.length_cons, List.length_nil]; omega) (.ret _)))
    | cons t k =>
      rename_i r rs s ss c d
      have hlt : i < ks.length := by
        rcases Nat.lt_or_ge i ks.length with a | a
        · exact a
        · rw [List.drop_eq_nil_of_le a] at hx; cases hx
      have hg : ks[i]? = some r := by
        have : (ks.drop i)[0]? = some r := by rw [hx]; rfl
        rw [List.getElem?_drop] at this; exact this
      have hd : ks.drop (i + 1) = rs := by rw [List.drop_eq_getElem_cons hlt] at hx; exact (List.cons.inj hx).2
      have ih := list_r hl (i := i + 1) (by rw [hd]; exact k) (by omega)
      rw [lst] at hb ⊢
      simp only [app_size, bs_size, List.length_cons, List.length_nil] at hb
      refine .step (fun l => eJ96x2 l _ _ _) (.pos (by simp; omega) (.pos (by simp; omega) (.scat ?_ (.step (fun l => eJ96x1000038 l _ _ _) (.geti rfl hg (.ask t.sh (.scat ?_ ?_)))))))
      · simp only [app_size, bs_size, List.length_cons, List.length_nil]; omega
      · simp only [app_size, bs_size, List.length_cons, List.length_nil]; omega
      · rw [wrap_suc i (by omega)]
        have := ih (b ++ bs [44, 32] ++ s) (by simp only [app_size, bs_size, List.length_cons, List.length_nil]; omega)
        simp only [ByteArray.append_assoc] at this ⊢
        exact this
  termination_by ss => ss.length
end Go.AI
end

/-
  Texts of terms: program and reference alike.
-/
section
namespace Go.AI
open Go
section
variable {op : Int} {nm : ByteArray} {N tk : Int} {tn : ByteArray} {ts ks : Rows}
theorem pre_p (h1 : 1 ≤ op) (h2 : op ≤ 56) (hs : signB op = bs []) {f : Bool} {b : ByteArray} (hb : b.size + (keyedB op).size ≤ 140737488355328) {r : Bool × ByteArray}
    (hj : op ≠ 1 → op ≠ 2 → Ev (fun l => J92x1000013 l op true op nm N tk tn ts ks (b ++ keyedB op)) r) (hr : op = 1 ∨ op = 2 → (true, b ++ keyedB op) = r) : Ev (fun l => F92 l op nm N tk tn ts ks f b) r := by
  refine .step (fun l => eF92 l _ _ _ _ _ _ _ _ _) (.ask (sign_p h1 h2) ?_)
  rw [hs]
  refine .neg (by rw [size_bs_nil]; rfl) (.pos (decide_eq_true (by omega)) (.ask (str_p _ f b hb) ?_))
  by_cases e1 : op = 1
  · subst e1; exact .pos rfl (.pos rfl (.ret' (hr (.inl rfl))))
  · refine .neg (by simpa using e1) ?_
    by_cases e2 : op = 2
    · subst e2; exact .pos rfl (.ret' (hr (.inr rfl)))
    · exact .neg (by simpa using e2) (hj e1 e2)
theorem head_p {r0 : List AV} {rest : Rows} {e0 : ByteArray} {c0 : Nat} (h : ClR r0 e0 c0) (f : Bool) (b : ByteArray) (hb : b.size + nm.size + 4 + e0.size ≤ 140737488355328) :
    Ev (fun l => F207 l op nm N tk tn ts (r0 :: rest) f b) (true, b ++ (nm ++ bs [32, 105, 110, 32]) ++ e0) := by
  refine .step (fun l => eF207 l _ _ _ _ _ _ _ _ _) (.scat ?_ (.ask (str_p _ f b ?_) (.geti (m := 0) rfl rfl (.ask (h.wr _ _ ?_) (.ret _)))))
  all_goals first | omega | (simp only [app_size, bs_size, List.length_cons, List.length_nil]; omega)
theorem quant_p {r0 r1 : List AV} {e0 s1 : ByteArray} {c0 c1 : Nat} (h : ClR r0 e0 c0) (h' : TxtR r1 s1 c1) (f : Bool) (b : ByteArray) (hb : b.size + nm.size + 7 + e0.size + s1.size ≤ 140737488355328) :
    Ev (fun l => J92x1000022 l f op nm N tk tn ts [r0, r1] b) (true, b ++ (nm ++ bs [32, 105, 110, 32]) ++ e0 ++ bs [32, 46, 32] ++ s1) := by
  refine .step (fun l => eJ92x1000022 l _ _ _ _ _ _ _ _ _) (.ask (head_p h f b (by omega)) (.ask (str_p _ _ _ ?_) (.geti (m := 1) rfl rfl (.ask (h'.wr _ _ ?_) (.ret _)))))
  all_goals first | omega | (simp only [app_size, bs_size, List.length_cons, List.length_nil]; omega)
theorem brk_p {r0 r1 : List AV} {e0 s1 : ByteArray} {c0 c1 : Nat} (h : ClR r0 e0 c0) (h' : TxtR r1 s1 c1) {x y : Int} {m k : Nat} (hx : x = m) (hm : m < 256) (hy : y = k) (hk : k < 256) (f : Bool) (b : ByteArray) (hb : b.size + e0.size + s1.size + 2 ≤ 140737488355328) :
    Ev (fun l => F208 l op nm N tk tn ts [r0, r1] x y f b) (true, b ++ e0 ++ bs [UInt8.ofNat m] ++ s1 ++ bs [UInt8.ofNat k]) := by
  refine .step (fun l => eF208 l _ _ _ _ _ _ _ _ _ _ _) (.geti (m := 0) rfl rfl (.ask (h.wr _ _ ?_) (.ask (byte_p1 hx hm _ _ ?_) (.geti (m := 1) rfl rfl (.ask (h'.wr _ _ ?_) (.ask (byte_p1 hy hk _ _ ?_) (.ret _)))))))
  all_goals first | omega | (simp only [app_size, bs_size, List.length_cons, List.length_nil]; omega)
theorem all_p {r : List AV} {rs : Rows} {s : ByteArray} {ss : List ByteArray} {c d : Nat} (t : TxtR r s c) (k : KTs rs ss d) (hl : rs.length ≤ 99999) (f : Bool) (b : ByteArray) (hb : b.size + s.size + (lst ss).size ≤ 140737488355328) :
    Ev (fun l => F209 l (r :: rs) f b) (true, b ++ s ++ lst ss) := by
  refine .step (fun l => eF209 l _ _ _) (.step (fun l => eJ209x0 l _ _ _ _ _) (.pos (by simp <;> omega) (.geti (m := 0) rfl rfl (.neg rfl (.step (fun l => eJ209x1000005v1 l _ _ _ _ _ _ _ _ _ _ _ _) (.ask (t.wr f b ?_) ?_))))))
  · omega
  · exact list_p (ks := r :: rs) (by simp; omega) (i := 1) (by simpa using k) (by omega) (b ++ s) (by simp only [app_size]; omega)
theorem vts1 {c : Nat} (h : VTs ks c) (hl : ks.length = 1) : ∃ r, ks = [r] ∧ VT (gI r 0) (gS r 1) (gI r 2) (gI r 3) (gS r 4) (gD r 5) (gD r 6) c := by
  cases h with
  | nil => cases hl
  | cons v vs => cases vs with
    | nil => exact ⟨_, rfl, v⟩
    | cons _ _ => simp at hl
theorem vts2 {c : Nat} (h : VTs ks c) (hl : ks.length = 2) : ∃ r r' c1 c2, ks = [r, r'] ∧ c = c1 + c2 ∧ VT (gI r 0) (gS r 1) (gI r 2) (gI r 3) (gS r 4) (gD r 5) (gD r 6) c1 ∧ VT (gI r' 0) (gS r' 1) (gI r' 2) (gI r' 3) (gS r' 4) (gD r' 5) (gD r' 6) c2 := by
  cases h with
  | nil => cases hl
  | cons v vs => cases vs with
    | nil => simp at hl
    | cons v' vs' => cases vs' with
      | nil => exact ⟨_, _, _, _, rfl, rfl, v, v'⟩
      | cons _ _ => simp at hl
theorem arity_range {kl : Nat} (h : arityB op kl = true) : 1 ≤ op ∧ op ≤ 56 := by
  unfold arityB kidsS at h
  split at h
  · cases h
  · rename_i e
    repeat' (first | (cases e; done) | omega | split at e)
  · rename_i e
    repeat' (first | (cases e; done) | omega | split at e)
theorem VT.range {c : Nat} (h : VT op nm N tk tn ts ks c) : 1 ≤ op ∧ op ≤ 56 := by
  cases h with
  | mk h _ => exact arity_range h.ar
end
theorem signB_bin {op : Int} (h : (4 ≤ op ∧ op ≤ 7) ∨ (10 ≤ op ∧ op ≤ 18) ∨ (22 ≤ op ∧ op ≤ 27) ∨ (30 ≤ op ∧ op ≤ 45)) : beqS (signB op) (bs []) = false ∧ (signB op).size ≤ 5 := by
  have : 1 ≤ op ∧ op ≤ 56 := by omega
  rcases ops this.1 this.2 with rfl | rfl | rfl | rfl | rfl | rfl | rfl | rfl | rfl | rfl | rfl | rfl | rfl | rfl | rfl | rfl | rfl | rfl | rfl | rfl | rfl | rfl | rfl | rfl | rfl | rfl | rfl | rfl | rfl | rfl | rfl | rfl | rfl | rfl | rfl | rfl | rfl | rfl | rfl | rfl | rfl | rfl | rfl | rfl | rfl | rfl | rfl | rfl | rfl | rfl | rfl | rfl | rfl | rfl | rfl | rfl <;> first | omega | exact ⟨by rw [size_bs_nil]; rfl, by decide⟩
end Go.AI
end

/-
  Texts of terms: program and reference print alike.
-/
section
namespace Go.AI
open Go
set_option linter.all false
theorem Ev.eq {β : Type} {F : Nat → Option β} {a r : β} (h : Ev F a) (e : a = r) : Ev F r := e ▸ h
theorem KTs.len : ∀ {ks : Rows} {ss : List ByteArray} {d : Nat}, KTs ks ss d → ks.length ≤ d
  | _, _, _, .nil => Nat.le_refl _
  | _, _, _, .cons t k => by
    have := KTs.len k
    have := t.sz
    simp only [List.length_cons]; omega
theorem showsL {C : Nat} (ih : ∀ {op : Int} {nm : ByteArray} {N tk : Int} {tn : ByteArray} {ts ks : Rows} {c : Nat}, VT op nm N tk tn ts ks c → c ≤ C → ∃ s, Txt op nm N tk tn ts ks s c) : ∀ (ks : Rows) {c : Nat}, VTs ks c → c ≤ C → ∃ ss, KTs ks ss c
  | [], _, .nil, _ => ⟨[], .nil⟩
  | _ :: rs, _, .cons v vs, h => by
    obtain ⟨ss, k⟩ := showsL @ih rs vs (by omega)
    obtain ⟨s, t⟩ := ih v (by omega)
    exact ⟨s :: ss, .cons t k⟩
theorem shows : ∀ (W : Nat) {op : Int} {nm : ByteArray} {N tk : Int} {tn : ByteArray} {ts ks : Rows} {c : Nat}, VT op nm N tk tn ts ks c → c < W → c ≤ 2000 → ∃ s, Txt op nm N tk tn ts ks s c
  | 0, _, _, _, _, _, _, _, _, _, h, _ => by omega
  | W + 1, op, nm, N, tk, tn, ts, ks, _, .mk (c := c) hn vs, hW, h2 => by
    have hr := arity_range hn.ar
    have kidsT := showsL (C := c) (fun v h => shows W v (by omega) (by omega)) ks vs (Nat.le_refl _)
    have hcases : op = 1 ∨ op = 2 ∨ op = 19 ∨ op = 20 ∨ op = 29 ∨ op = 3 ∨ op = 21 ∨ op = 8 ∨ op = 9 ∨ op = 56 ∨ op = 55 ∨ op = 54 ∨ op = 53 ∨ op = 52 ∨ op = 28 ∨ op = 46 ∨ op = 47 ∨ op = 48 ∨ op = 49 ∨ op = 50 ∨ op = 51 ∨ ((4 ≤ op ∧ op ≤ 7) ∨ (10 ≤ op ∧ op ≤ 18) ∨ (22 ≤ op ∧ op ≤ 27) ∨ (30 ≤ op ∧ op ≤ 45)) := by omega
    rcases hcases with rfl | rfl | rfl | rfl | rfl | rfl | rfl | rfl | rfl | rfl | rfl | rfl | rfl | rfl | rfl | rfl | rfl | rfl | rfl | rfl | rfl | hop
    · have hk : keyedB 1 = bs [116, 114, 117, 101] := rfl
      refine ⟨bs [116, 114, 117, 101], .step (fun l => eF96 l _ _ _ _ _ _ _) (.pos rfl (.ret _)), fun f b hb => pre_p (by decide) (by decide) rfl ?_ (fun p1 p2 => absurd rfl p1) (fun h => ?_), ?_⟩
      all_goals first | (simp only [hk, app_nil, ByteArray.append_assoc]; done) | (simp only [hk, app_nil, ByteArray.append_assoc]; rfl) | (simp only [hk, app_size, bs_size, List.length_cons, List.length_nil] at *; omega)
    · have hk : keyedB 2 = bs [102, 97, 108, 115, 101] := rfl
      refine ⟨bs [102, 97, 108, 115, 101], .step (fun l => eF96 l _ _ _ _ _ _ _) (.neg rfl (.pos rfl (.ret _))), fun f b hb => pre_p (by decide) (by decide) rfl ?_ (fun p1 p2 => absurd rfl p2) (fun h => ?_), ?_⟩
      all_goals first | (simp only [hk, app_nil, ByteArray.append_assoc]; done) | (simp only [hk, app_nil, ByteArray.append_assoc]; rfl) | (simp only [hk, app_size, bs_size, List.length_cons, List.length_nil] at *; omega)
    · have hk : keyedB 19 = bs [] := rfl
      obtain ⟨d1, d2, d3⟩ := decimal_itoa hn.num.1 hn.num.2
      refine ⟨itoaB N, .step (fun l => eF96 l _ _ _ _ _ _ _) (.neg rfl (.neg rfl (.pos rfl (.ask d1 (.ret _))))), fun f b hb => pre_p (by decide) (by decide) rfl ?_ (fun _ _ => .step (fun l => eJ92x1000013 l _ _ _ _ _ _ _ _ _ _) (.neg rfl (.neg rfl (.neg rfl (.neg rfl (.neg rfl (.step (fun l => eJ92x1000025 l _ _ _ _ _ _ _ _ _ _) (.neg rfl (.neg rfl (.neg rfl (.neg rfl (.neg rfl (.neg rfl (.pos rfl (.pos d3 (.ask (str_p _ _ _ ?_) (.ret' ?_))))))))))))))))) (fun h => ?_), ?_⟩
      any_goals (exact absurd h (by decide))
      all_goals first | (simp only [hk, app_nil, ByteArray.append_assoc]; done) | (simp only [hk, app_nil, ByteArray.append_assoc]; rfl) | (simp only [hk, app_size, bs_size, List.length_cons, List.length_nil] at *; omega)
    · have hk : keyedB 20 = bs [] := rfl
      have hz := hn.nm
      refine ⟨nm, .step (fun l => eF96 l _ _ _ _ _ _ _) (.neg rfl (.neg rfl (.neg rfl (.pos rfl (.ret _))))), fun f b hb => pre_p (by decide) (by decide) rfl ?_ (fun _ _ => .step (fun l => eJ92x1000013 l _ _ _ _ _ _ _ _ _ _) (.neg rfl (.neg rfl (.neg rfl (.neg rfl (.neg rfl (.step (fun l => eJ92x1000025 l _ _ _ _ _ _ _ _ _ _) (.neg rfl (.neg rfl (.neg rfl (.neg rfl (.neg rfl (.neg rfl (.neg rfl (.pos rfl (.ask (str_p _ _ _ ?_) (.ret' ?_))))))))))))))))) (fun h => ?_), ?_⟩
      any_goals (exact absurd h (by decide))
      all_goals first | (simp only [hk, app_nil, ByteArray.append_assoc]; done) | (simp only [hk, app_nil, ByteArray.append_assoc]; rfl) | (simp only [hk, app_size, bs_size, List.length_cons, List.length_nil] at *; omega)
    · have hk : keyedB 29 = bs [] := rfl
      obtain ⟨cT, vT, hT⟩ := hn.ty rfl
      obtain ⟨sT, zT, q1, q2⟩ := tyText _ vT (Nat.lt_succ_self _) hT
      refine ⟨bs [123, 125, 91] ++ sT ++ bs [93], .step (fun l => eF96 l _ _ _ _ _ _ _) (.neg rfl (.neg rfl (.neg rfl (.neg rfl (.pos rfl (.ask q2 (.scat ?_ (.scat ?_ (.ret _))))))))), fun f b hb => pre_p (by decide) (by decide) rfl ?_ (fun _ _ => .step (fun l => eJ92x1000013 l _ _ _ _ _ _ _ _ _ _) (.neg rfl (.neg rfl (.neg rfl (.neg rfl (.neg rfl (.step (fun l => eJ92x1000025 l _ _ _ _ _ _ _ _ _ _) (.neg rfl (.neg rfl (.neg rfl (.neg rfl (.neg rfl (.pos rfl (.ask q1 (.scat ?_ (.scat ?_ (.ask (str_p _ _ _ ?_) (.ret' ?_)))))))))))))))))) (fun h => ?_), ?_⟩
      any_goals (exact absurd h (by decide))
      all_goals first | (simp only [hk, app_nil, ByteArray.append_assoc]; done) | (simp only [hk, app_nil, ByteArray.append_assoc]; rfl) | (simp only [hk, app_size, bs_size, List.length_cons, List.length_nil] at *; omega)
    · have hk : keyedB 3 = bs [] := rfl
      have hl : ks.length = 1 := by have := hn.ar; unfold arityB kidsS at this; simp at this; omega
      obtain ⟨r0, rfl, v0⟩ := vts1 vs hl
      obtain ⟨s0, t0⟩ := shows W v0 (by omega) (by omega)
      obtain ⟨e0, k0⟩ := t0.closed v0.range.1 v0.range.2 (by omega)
      have z0 := t0.sz
      have y0 := k0.sz
      refine ⟨bs [110, 111, 116, 32] ++ e0, .step (fun l => eF96 l _ _ _ _ _ _ _) (.neg rfl (.neg rfl (.neg rfl (.neg rfl (.neg rfl (.pos rfl (.geti (m := 0) rfl rfl (.ask k0.sh (.scat ?_ (.ret _)))))))))), fun f b hb => pre_p (by decide) (by decide) rfl ?_ (fun _ _ => .step (fun l => eJ92x1000013 l _ _ _ _ _ _ _ _ _ _) (.pos rfl (.ask (str_p _ _ _ ?_) (.geti (m := 0) rfl rfl (.ask (k0.wr _ _ ?_) (.ret' ?_)))))) (fun h => ?_), ?_⟩
      any_goals (exact absurd h (by decide))
      all_goals first | (simp only [hk, app_nil, ByteArray.append_assoc]; done) | (simp only [hk, app_nil, ByteArray.append_assoc]; rfl) | (simp only [hk, app_size, bs_size, List.length_cons, List.length_nil] at *; omega)
    · have hk : keyedB 21 = bs [] := rfl
      have hl : ks.length = 1 := by have := hn.ar; unfold arityB kidsS at this; simp at this; omega
      obtain ⟨r0, rfl, v0⟩ := vts1 vs hl
      obtain ⟨s0, t0⟩ := shows W v0 (by omega) (by omega)
      obtain ⟨e0, k0⟩ := t0.closed v0.range.1 v0.range.2 (by omega)
      have z0 := t0.sz
      have y0 := k0.sz
      refine ⟨bs [45] ++ e0, .step (fun l => eF96 l _ _ _ _ _ _ _) (.neg rfl (.neg rfl (.neg rfl (.neg rfl (.neg rfl (.neg rfl (.pos rfl (.geti (m := 0) rfl rfl (.ask k0.sh (.scat ?_ (.ret _))))))))))), fun f b hb => pre_p (by decide) (by decide) rfl ?_ (fun _ _ => .step (fun l => eJ92x1000013 l _ _ _ _ _ _ _ _ _ _) (.neg rfl (.pos rfl (.ask (byte_p1 (m := 45) rfl (by omega) _ _ ?_) (.geti (m := 0) rfl rfl (.ask (k0.wr _ _ ?_) (.ret' ?_))))))) (fun h => ?_), ?_⟩
      any_goals (exact absurd h (by decide))
      all_goals first | (simp only [hk, app_nil, ByteArray.append_assoc]; done) | (simp only [hk, app_nil, ByteArray.append_assoc]; rfl) | (simp only [hk, app_size, bs_size, List.length_cons, List.length_nil] at *; omega)
    · have hk : keyedB 8 = bs [102, 111, 114, 97, 108, 108, 32] := rfl
      have hz := hn.nm
      have hl : ks.length = 2 := by have := hn.ar; unfold arityB kidsS at this; simp at this; omega
      obtain ⟨r0, r1, c0, c1, rfl, rfl, v0, v1⟩ := vts2 vs hl
      obtain ⟨s0, t0⟩ := shows W v0 (by omega) (by omega)
      obtain ⟨s1, t1⟩ := shows W v1 (by omega) (by omega)
      obtain ⟨e0, k0⟩ := t0.closed v0.range.1 v0.range.2 (by omega)
      have z0 := t0.sz
      have z1 := t1.sz
      have y0 := k0.sz
      refine ⟨bs [102, 111, 114, 97, 108, 108, 32] ++ nm ++ bs [32, 105, 110, 32] ++ e0 ++ bs [32, 46, 32] ++ s1, .step (fun l => eF96 l _ _ _ _ _ _ _) (.neg rfl (.neg rfl (.neg rfl (.neg rfl (.neg rfl (.neg rfl (.neg rfl (.pos rfl (.scat ?_ (.scat ?_ (.geti (m := 0) rfl rfl (.ask k0.sh (.scat ?_ (.scat ?_ (.geti (m := 1) rfl rfl (.ask t1.sh (.scat ?_ (.ret _)))))))))))))))))), fun f b hb => pre_p (by decide) (by decide) rfl ?_ (fun _ _ => .step (fun l => eJ92x1000013 l _ _ _ _ _ _ _ _ _ _) (.neg rfl (.neg rfl (.pos rfl (.pos rfl (.eq (quant_p k0 t1 true (b ++ keyedB 8) ?_) ?_)))))) (fun h => ?_), ?_⟩
      any_goals (exact absurd h (by decide))
      all_goals first | (simp only [hk, app_nil, ByteArray.append_assoc]; done) | (simp only [hk, app_nil, ByteArray.append_assoc]; rfl) | (simp only [hk, app_size, bs_size, List.length_cons, List.length_nil] at *; omega)
    · have hk : keyedB 9 = bs [101, 120, 105, 115, 116, 115, 32] := rfl
      have hz := hn.nm
      have hl : ks.length = 2 := by have := hn.ar; unfold arityB kidsS at this; simp at this; omega
      obtain ⟨r0, r1, c0, c1, rfl, rfl, v0, v1⟩ := vts2 vs hl
      obtain ⟨s0, t0⟩ := shows W v0 (by omega) (by omega)
      obtain ⟨s1, t1⟩ := shows W v1 (by omega) (by omega)
      obtain ⟨e0, k0⟩ := t0.closed v0.range.1 v0.range.2 (by omega)
      have z0 := t0.sz
      have z1 := t1.sz
      have y0 := k0.sz
      refine ⟨bs [101, 120, 105, 115, 116, 115, 32] ++ nm ++ bs [32, 105, 110, 32] ++ e0 ++ bs [32, 46, 32] ++ s1, .step (fun l => eF96 l _ _ _ _ _ _ _) (.neg rfl (.neg rfl (.neg rfl (.neg rfl (.neg rfl (.neg rfl (.neg rfl (.neg rfl (.pos rfl (.scat ?_ (.scat ?_ (.geti (m := 0) rfl rfl (.ask k0.sh (.scat ?_ (.scat ?_ (.geti (m := 1) rfl rfl (.ask t1.sh (.scat ?_ (.ret _))))))))))))))))))), fun f b hb => pre_p (by decide) (by decide) rfl ?_ (fun _ _ => .step (fun l => eJ92x1000013 l _ _ _ _ _ _ _ _ _ _) (.neg rfl (.neg rfl (.neg rfl (.pos rfl (.pos rfl (.eq (quant_p k0 t1 true (b ++ keyedB 9) ?_) ?_))))))) (fun h => ?_), ?_⟩
      any_goals (exact absurd h (by decide))
      all_goals first | (simp only [hk, app_nil, ByteArray.append_assoc]; done) | (simp only [hk, app_nil, ByteArray.append_assoc]; rfl) | (simp only [hk, app_size, bs_size, List.length_cons, List.length_nil] at *; omega)
    · have hk : keyedB 56 = bs [102, 117, 110, 32] := rfl
      have hz := hn.nm
      have hl : ks.length = 2 := by have := hn.ar; unfold arityB kidsS at this; simp at this; omega
      obtain ⟨r0, r1, c0, c1, rfl, rfl, v0, v1⟩ := vts2 vs hl
      obtain ⟨s0, t0⟩ := shows W v0 (by omega) (by omega)
      obtain ⟨s1, t1⟩ := shows W v1 (by omega) (by omega)
      obtain ⟨e0, k0⟩ := t0.closed v0.range.1 v0.range.2 (by omega)
      have z0 := t0.sz
      have z1 := t1.sz
      have y0 := k0.sz
      refine ⟨bs [102, 117, 110, 32] ++ nm ++ bs [32, 105, 110, 32] ++ e0 ++ bs [32, 46, 32] ++ s1, .step (fun l => eF96 l _ _ _ _ _ _ _) (.neg rfl (.neg rfl (.neg rfl (.neg rfl (.neg rfl (.neg rfl (.neg rfl (.neg rfl (.neg rfl (.pos rfl (.scat ?_ (.scat ?_ (.geti (m := 0) rfl rfl (.ask k0.sh (.scat ?_ (.scat ?_ (.geti (m := 1) rfl rfl (.ask t1.sh (.scat ?_ (.ret _)))))))))))))))))))), fun f b hb => pre_p (by decide) (by decide) rfl ?_ (fun _ _ => .step (fun l => eJ92x1000013 l _ _ _ _ _ _ _ _ _ _) (.neg rfl (.neg rfl (.neg rfl (.neg rfl (.pos rfl (.eq (quant_p k0 t1 true (b ++ keyedB 56) ?_) ?_))))))) (fun h => ?_), ?_⟩
      any_goals (exact absurd h (by decide))
      all_goals first | (simp only [hk, app_nil, ByteArray.append_assoc]; done) | (simp only [hk, app_nil, ByteArray.append_assoc]; rfl) | (simp only [hk, app_size, bs_size, List.length_cons, List.length_nil] at *; omega)
    · have hk : keyedB 55 = bs [] := rfl
      have hz := hn.nm
      have hl : ks.length = 2 := by have := hn.ar; unfold arityB kidsS at this; simp at this; omega
      obtain ⟨r0, r1, c0, c1, rfl, rfl, v0, v1⟩ := vts2 vs hl
      obtain ⟨s0, t0⟩ := shows W v0 (by omega) (by omega)
      obtain ⟨s1, t1⟩ := shows W v1 (by omega) (by omega)
      obtain ⟨e0, k0⟩ := t0.closed v0.range.1 v0.range.2 (by omega)
      have z0 := t0.sz
      have z1 := t1.sz
      have y0 := k0.sz
      refine ⟨bs [123] ++ nm ++ bs [32, 105, 110, 32] ++ e0 ++ bs [32, 124, 32] ++ s1 ++ bs [125], .step (fun l => eF96 l _ _ _ _ _ _ _) (.neg rfl (.neg rfl (.neg rfl (.neg rfl (.neg rfl (.neg rfl (.neg rfl (.neg rfl (.neg rfl (.neg rfl (.pos rfl (.scat ?_ (.scat ?_ (.geti (m := 0) rfl rfl (.ask k0.sh (.scat ?_ (.scat ?_ (.geti (m := 1) rfl rfl (.ask t1.sh (.scat ?_ (.scat ?_ (.ret _)))))))))))))))))))))), fun f b hb => pre_p (by decide) (by decide) rfl ?_ (fun _ _ => .step (fun l => eJ92x1000013 l _ _ _ _ _ _ _ _ _ _) (.neg rfl (.neg rfl (.neg rfl (.neg rfl (.neg rfl (.step (fun l => eJ92x1000025 l _ _ _ _ _ _ _ _ _ _) (.pos rfl (.ask (byte_p1 (m := 123) rfl (by omega) _ _ ?_) (.ask (head_p k0 _ _ ?_) (.ask (str_p _ _ _ ?_) (.geti (m := 1) rfl rfl (.ask (t1.wr _ _ ?_) (.ask (byte_p1 (m := 125) rfl (by omega) _ _ ?_) (.ret' ?_))))))))))))))) (fun h => ?_), ?_⟩
      any_goals (exact absurd h (by decide))
      all_goals first | (simp only [hk, app_nil, ByteArray.append_assoc]; done) | (simp only [hk, app_nil, ByteArray.append_assoc]; rfl) | (simp only [hk, app_size, bs_size, List.length_cons, List.length_nil] at *; omega)
    · have hk : keyedB 54 = bs [] := rfl
      have hl : ks.length = 2 := by have := hn.ar; unfold arityB kidsS at this; simp at this; omega
      obtain ⟨r0, r1, c0, c1, rfl, rfl, v0, v1⟩ := vts2 vs hl
      obtain ⟨s0, t0⟩ := shows W v0 (by omega) (by omega)
      obtain ⟨s1, t1⟩ := shows W v1 (by omega) (by omega)
      obtain ⟨e0, k0⟩ := t0.closed v0.range.1 v0.range.2 (by omega)
      have z0 := t0.sz
      have z1 := t1.sz
      have y0 := k0.sz
      refine ⟨e0 ++ bs [40] ++ s1 ++ bs [41], .step (fun l => eF96 l _ _ _ _ _ _ _) (.neg rfl (.neg rfl (.neg rfl (.neg rfl (.neg rfl (.neg rfl (.neg rfl (.neg rfl (.neg rfl (.neg rfl (.neg rfl (.pos rfl (.geti (m := 0) rfl rfl (.ask k0.sh (.scat ?_ (.geti (m := 1) rfl rfl (.ask t1.sh (.scat ?_ (.scat ?_ (.ret _)))))))))))))))))))), fun f b hb => pre_p (by decide) (by decide) rfl ?_ (fun _ _ => .step (fun l => eJ92x1000013 l _ _ _ _ _ _ _ _ _ _) (.neg rfl (.neg rfl (.neg rfl (.neg rfl (.neg rfl (.step (fun l => eJ92x1000025 l _ _ _ _ _ _ _ _ _ _) (.neg rfl (.pos rfl (.ask (brk_p k0 t1 (m := 40) (k := 41) rfl (by omega) rfl (by omega) _ _ ?_) (.ret' ?_))))))))))) (fun h => ?_), ?_⟩
      any_goals (exact absurd h (by decide))
      all_goals first | (simp only [hk, app_nil, ByteArray.append_assoc]; done) | (simp only [hk, app_nil, ByteArray.append_assoc]; rfl) | (simp only [hk, app_size, bs_size, List.length_cons, List.length_nil] at *; omega)
    · have hk : keyedB 53 = bs [] := rfl
      have hl : ks.length = 2 := by have := hn.ar; unfold arityB kidsS at this; simp at this; omega
      obtain ⟨r0, r1, c0, c1, rfl, rfl, v0, v1⟩ := vts2 vs hl
      obtain ⟨s0, t0⟩ := shows W v0 (by omega) (by omega)
      obtain ⟨s1, t1⟩ := shows W v1 (by omega) (by omega)
      obtain ⟨e0, k0⟩ := t0.closed v0.range.1 v0.range.2 (by omega)
      have z0 := t0.sz
      have z1 := t1.sz
      have y0 := k0.sz
      refine ⟨e0 ++ bs [91] ++ s1 ++ bs [93], .step (fun l => eF96 l _ _ _ _ _ _ _) (.neg rfl (.neg rfl (.neg rfl (.neg rfl (.neg rfl (.neg rfl (.neg rfl (.neg rfl (.neg rfl (.neg rfl (.neg rfl (.neg rfl (.pos rfl (.geti (m := 0) rfl rfl (.ask k0.sh (.scat ?_ (.geti (m := 1) rfl rfl (.ask t1.sh (.scat ?_ (.scat ?_ (.ret _))))))))))))))))))))), fun f b hb => pre_p (by decide) (by decide) rfl ?_ (fun _ _ => .step (fun l => eJ92x1000013 l _ _ _ _ _ _ _ _ _ _) (.neg rfl (.neg rfl (.neg rfl (.neg rfl (.neg rfl (.step (fun l => eJ92x1000025 l _ _ _ _ _ _ _ _ _ _) (.neg rfl (.neg rfl (.pos rfl (.ask (brk_p k0 t1 (m := 91) (k := 93) rfl (by omega) rfl (by omega) _ _ ?_) (.ret' ?_)))))))))))) (fun h => ?_), ?_⟩
      any_goals (exact absurd h (by decide))
      all_goals first | (simp only [hk, app_nil, ByteArray.append_assoc]; done) | (simp only [hk, app_nil, ByteArray.append_assoc]; rfl) | (simp only [hk, app_size, bs_size, List.length_cons, List.length_nil] at *; omega)
    · have hk : keyedB 52 = bs [] := rfl
      have hl : ks.length = 1 := by have := hn.ar; unfold arityB kidsS at this; simp at this; omega
      obtain ⟨r0, rfl, v0⟩ := vts1 vs hl
      obtain ⟨s0, t0⟩ := shows W v0 (by omega) (by omega)
      obtain ⟨e0, k0⟩ := t0.closed v0.range.1 v0.range.2 (by omega)
      have z0 := t0.sz
      have y0 := k0.sz
      refine ⟨e0 ++ bs [126], .step (fun l => eF96 l _ _ _ _ _ _ _) (.neg rfl (.neg rfl (.neg rfl (.neg rfl (.neg rfl (.neg rfl (.neg rfl (.neg rfl (.neg rfl (.neg rfl (.neg rfl (.neg rfl (.neg rfl (.pos rfl (.geti (m := 0) rfl rfl (.ask k0.sh (.scat ?_ (.ret _)))))))))))))))))), fun f b hb => pre_p (by decide) (by decide) rfl ?_ (fun _ _ => .step (fun l => eJ92x1000013 l _ _ _ _ _ _ _ _ _ _) (.neg rfl (.neg rfl (.neg rfl (.neg rfl (.neg rfl (.step (fun l => eJ92x1000025 l _ _ _ _ _ _ _ _ _ _) (.neg rfl (.neg rfl (.neg rfl (.pos rfl (.geti (m := 0) rfl rfl (.ask (k0.wr _ _ ?_) (.ask (byte_p1 (m := 126) rfl (by omega) _ _ ?_) (.ret' ?_))))))))))))))) (fun h => ?_), ?_⟩
      any_goals (exact absurd h (by decide))
      all_goals first | (simp only [hk, app_nil, ByteArray.append_assoc]; done) | (simp only [hk, app_nil, ByteArray.append_assoc]; rfl) | (simp only [hk, app_size, bs_size, List.length_cons, List.length_nil] at *; omega)
    · have hk : keyedB 28 = bs [] := rfl
      have hl : ks.length ≠ 0 := by have := hn.ar; simpa [arityB, kidsS] using this
      obtain ⟨sa, ka⟩ := kidsT
      cases ka with
      | nil => simp at hl
      | @cons r0 rs s0 ss c0 d0 t0 kk =>
      have hlen := KTs.len kk
      have z0 := t0.sz
      have z1 := lst_size kk
      refine ⟨bs [123] ++ s0 ++ lst ss ++ bs [125], .step (fun l => eF96 l _ _ _ _ _ _ _) (.neg rfl (.neg rfl (.neg rfl (.neg rfl (.neg rfl (.neg rfl (.neg rfl (.neg rfl (.neg rfl (.neg rfl (.neg rfl (.neg rfl (.neg rfl (.neg rfl (.pos rfl (.step (fun l => eJ96x2 l _ _ _) (.pos (by simp <;> omega) (.neg rfl (.step (fun l => eJ96x1000038 l _ _ _) (.geti (m := 0) rfl rfl (.ask t0.sh (.scat ?_ (list_r (ks := r0 :: rs) (by simp <;> omega) (i := 1) (by simpa using kk) (by omega) _ ?_))))))))))))))))))))))), fun f b hb => pre_p (by decide) (by decide) rfl ?_ (fun _ _ => .step (fun l => eJ92x1000013 l _ _ _ _ _ _ _ _ _ _) (.neg rfl (.neg rfl (.neg rfl (.neg rfl (.neg rfl (.step (fun l => eJ92x1000025 l _ _ _ _ _ _ _ _ _ _) (.neg rfl (.neg rfl (.neg rfl (.neg rfl (.pos rfl (.ask (byte_p1 (m := 123) rfl (by omega) _ _ ?_) (.ask (all_p t0 kk (by omega) _ _ ?_) (.ask (byte_p1 (m := 125) rfl (by omega) _ _ ?_) (.ret' ?_)))))))))))))))) (fun h => ?_), ?_⟩
      any_goals (exact absurd h (by decide))
      all_goals first | (simp only [hk, app_nil, ByteArray.append_assoc]; done) | (simp only [hk, app_nil, ByteArray.append_assoc]; rfl) | (simp only [hk, app_size, bs_size, List.length_cons, List.length_nil] at *; omega)
    · have hk : keyedB 46 = bs [80, 79, 87] := rfl
      have hg : gS [AV.sc (.string (bs [80, 79, 87]))] 0 = bs [80, 79, 87] := rfl
      have hl : ks.length = 1 := by have := hn.ar; unfold arityB kidsS at this; simp at this; omega
      obtain ⟨r0, rfl, v0⟩ := vts1 vs hl
      obtain ⟨s0, t0⟩ := shows W v0 (by omega) (by omega)
      obtain ⟨e0, k0⟩ := t0.closed v0.range.1 v0.range.2 (by omega)
      have z0 := t0.sz
      have y0 := k0.sz
      refine ⟨bs [80, 79, 87] ++ bs [40] ++ s0 ++ bs [41], .step (fun l => eF96 l _ _ _ _ _ _ _) (.neg rfl (.neg rfl (.neg rfl (.neg rfl (.neg rfl (.neg rfl (.neg rfl (.neg rfl (.neg rfl (.neg rfl (.neg rfl (.neg rfl (.neg rfl (.neg rfl (.neg rfl (.pos rfl (.pos rfl (.geti (m := 0) rfl rfl (.getn (m := 0) rfl (.scat ?_ (.geti (m := 0) rfl rfl (.ask t0.sh (.scat ?_ (.scat ?_ (.ret _))))))))))))))))))))))))), fun f b hb => pre_p (by decide) (by decide) rfl ?_ (fun _ _ => .step (fun l => eJ92x1000013 l _ _ _ _ _ _ _ _ _ _) (.neg rfl (.neg rfl (.neg rfl (.neg rfl (.neg rfl (.step (fun l => eJ92x1000025 l _ _ _ _ _ _ _ _ _ _) (.neg rfl (.neg rfl (.neg rfl (.neg rfl (.neg rfl (.neg rfl (.neg rfl (.neg rfl (.ask (byte_p1 (m := 40) rfl (by omega) _ _ ?_) (.ask (all_p t0 .nil (by simp) _ _ ?_) (.ask (byte_p1 (m := 41) rfl (by omega) _ _ ?_) (.ret' ?_))))))))))))))))))) (fun h => ?_), ?_⟩
      any_goals (exact absurd h (by decide))
      all_goals first | (simp only [hk, hg, lst, app_nil, ByteArray.append_assoc]; done) | (simp only [hk, hg, lst, app_nil, ByteArray.append_assoc]; rfl) | (simp only [hk, lst, hg, app_size, bs_size, List.length_cons, List.length_nil] at *; omega)
    · have hk : keyedB 47 = bs [99, 97, 114, 100] := rfl
      have hg : gS [AV.sc (.string (bs [99, 97, 114, 100]))] 0 = bs [99, 97, 114, 100] := rfl
      have hl : ks.length = 1 := by have := hn.ar; unfold arityB kidsS at this; simp at this; omega
      obtain ⟨r0, rfl, v0⟩ := vts1 vs hl
      obtain ⟨s0, t0⟩ := shows W v0 (by omega) (by omega)
      obtain ⟨e0, k0⟩ := t0.closed v0.range.1 v0.range.2 (by omega)
      have z0 := t0.sz
      have y0 := k0.sz
      refine ⟨bs [99, 97, 114, 100] ++ bs [40] ++ s0 ++ bs [41], .step (fun l => eF96 l _ _ _ _ _ _ _) (.neg rfl (.neg rfl (.neg rfl (.neg rfl (.neg rfl (.neg rfl (.neg rfl (.neg rfl (.neg rfl (.neg rfl (.neg rfl (.neg rfl (.neg rfl (.neg rfl (.neg rfl (.pos rfl (.pos rfl (.geti (m := 1) rfl rfl (.getn (m := 1) rfl (.scat ?_ (.geti (m := 0) rfl rfl (.ask t0.sh (.scat ?_ (.scat ?_ (.ret _))))))))))))))))))))))))), fun f b hb => pre_p (by decide) (by decide) rfl ?_ (fun _ _ => .step (fun l => eJ92x1000013 l _ _ _ _ _ _ _ _ _ _) (.neg rfl (.neg rfl (.neg rfl (.neg rfl (.neg rfl (.step (fun l => eJ92x1000025 l _ _ _ _ _ _ _ _ _ _) (.neg rfl (.neg rfl (.neg rfl (.neg rfl (.neg rfl (.neg rfl (.neg rfl (.neg rfl (.ask (byte_p1 (m := 40) rfl (by omega) _ _ ?_) (.ask (all_p t0 .nil (by simp) _ _ ?_) (.ask (byte_p1 (m := 41) rfl (by omega) _ _ ?_) (.ret' ?_))))))))))))))))))) (fun h => ?_), ?_⟩
      any_goals (exact absurd h (by decide))
      all_goals first | (simp only [hk, hg, lst, app_nil, ByteArray.append_assoc]; done) | (simp only [hk, hg, lst, app_nil, ByteArray.append_assoc]; rfl) | (simp only [hk, lst, hg, app_size, bs_size, List.length_cons, List.length_nil] at *; omega)
    · have hk : keyedB 48 = bs [109, 105, 110] := rfl
      have hg : gS [AV.sc (.string (bs [109, 105, 110]))] 0 = bs [109, 105, 110] := rfl
      have hl : ks.length = 1 := by have := hn.ar; unfold arityB kidsS at this; simp at this; omega
      obtain ⟨r0, rfl, v0⟩ := vts1 vs hl
      obtain ⟨s0, t0⟩ := shows W v0 (by omega) (by omega)
      obtain ⟨e0, k0⟩ := t0.closed v0.range.1 v0.range.2 (by omega)
      have z0 := t0.sz
      have y0 := k0.sz
      refine ⟨bs [109, 105, 110] ++ bs [40] ++ s0 ++ bs [41], .step (fun l => eF96 l _ _ _ _ _ _ _) (.neg rfl (.neg rfl (.neg rfl (.neg rfl (.neg rfl (.neg rfl (.neg rfl (.neg rfl (.neg rfl (.neg rfl (.neg rfl (.neg rfl (.neg rfl (.neg rfl (.neg rfl (.pos rfl (.pos rfl (.geti (m := 2) rfl rfl (.getn (m := 2) rfl (.scat ?_ (.geti (m := 0) rfl rfl (.ask t0.sh (.scat ?_ (.scat ?_ (.ret _))))))))))))))))))))))))), fun f b hb => pre_p (by decide) (by decide) rfl ?_ (fun _ _ => .step (fun l => eJ92x1000013 l _ _ _ _ _ _ _ _ _ _) (.neg rfl (.neg rfl (.neg rfl (.neg rfl (.neg rfl (.step (fun l => eJ92x1000025 l _ _ _ _ _ _ _ _ _ _) (.neg rfl (.neg rfl (.neg rfl (.neg rfl (.neg rfl (.neg rfl (.neg rfl (.neg rfl (.ask (byte_p1 (m := 40) rfl (by omega) _ _ ?_) (.ask (all_p t0 .nil (by simp) _ _ ?_) (.ask (byte_p1 (m := 41) rfl (by omega) _ _ ?_) (.ret' ?_))))))))))))))))))) (fun h => ?_), ?_⟩
      any_goals (exact absurd h (by decide))
      all_goals first | (simp only [hk, hg, lst, app_nil, ByteArray.append_assoc]; done) | (simp only [hk, hg, lst, app_nil, ByteArray.append_assoc]; rfl) | (simp only [hk, lst, hg, app_size, bs_size, List.length_cons, List.length_nil] at *; omega)
    · have hk : keyedB 49 = bs [109, 97, 120] := rfl
      have hg : gS [AV.sc (.string (bs [109, 97, 120]))] 0 = bs [109, 97, 120] := rfl
      have hl : ks.length = 1 := by have := hn.ar; unfold arityB kidsS at this; simp at this; omega
      obtain ⟨r0, rfl, v0⟩ := vts1 vs hl
      obtain ⟨s0, t0⟩ := shows W v0 (by omega) (by omega)
      obtain ⟨e0, k0⟩ := t0.closed v0.range.1 v0.range.2 (by omega)
      have z0 := t0.sz
      have y0 := k0.sz
      refine ⟨bs [109, 97, 120] ++ bs [40] ++ s0 ++ bs [41], .step (fun l => eF96 l _ _ _ _ _ _ _) (.neg rfl (.neg rfl (.neg rfl (.neg rfl (.neg rfl (.neg rfl (.neg rfl (.neg rfl (.neg rfl (.neg rfl (.neg rfl (.neg rfl (.neg rfl (.neg rfl (.neg rfl (.pos rfl (.pos rfl (.geti (m := 3) rfl rfl (.getn (m := 3) rfl (.scat ?_ (.geti (m := 0) rfl rfl (.ask t0.sh (.scat ?_ (.scat ?_ (.ret _))))))))))))))))))))))))), fun f b hb => pre_p (by decide) (by decide) rfl ?_ (fun _ _ => .step (fun l => eJ92x1000013 l _ _ _ _ _ _ _ _ _ _) (.neg rfl (.neg rfl (.neg rfl (.neg rfl (.neg rfl (.step (fun l => eJ92x1000025 l _ _ _ _ _ _ _ _ _ _) (.neg rfl (.neg rfl (.neg rfl (.neg rfl (.neg rfl (.neg rfl (.neg rfl (.neg rfl (.ask (byte_p1 (m := 40) rfl (by omega) _ _ ?_) (.ask (all_p t0 .nil (by simp) _ _ ?_) (.ask (byte_p1 (m := 41) rfl (by omega) _ _ ?_) (.ret' ?_))))))))))))))))))) (fun h => ?_), ?_⟩
      any_goals (exact absurd h (by decide))
      all_goals first | (simp only [hk, hg, lst, app_nil, ByteArray.append_assoc]; done) | (simp only [hk, hg, lst, app_nil, ByteArray.append_assoc]; rfl) | (simp only [hk, lst, hg, app_size, bs_size, List.length_cons, List.length_nil] at *; omega)
    · have hk : keyedB 50 = bs [100, 111, 109] := rfl
      have hg : gS [AV.sc (.string (bs [100, 111, 109]))] 0 = bs [100, 111, 109] := rfl
      have hl : ks.length = 1 := by have := hn.ar; unfold arityB kidsS at this; simp at this; omega
      obtain ⟨r0, rfl, v0⟩ := vts1 vs hl
      obtain ⟨s0, t0⟩ := shows W v0 (by omega) (by omega)
      obtain ⟨e0, k0⟩ := t0.closed v0.range.1 v0.range.2 (by omega)
      have z0 := t0.sz
      have y0 := k0.sz
      refine ⟨bs [100, 111, 109] ++ bs [40] ++ s0 ++ bs [41], .step (fun l => eF96 l _ _ _ _ _ _ _) (.neg rfl (.neg rfl (.neg rfl (.neg rfl (.neg rfl (.neg rfl (.neg rfl (.neg rfl (.neg rfl (.neg rfl (.neg rfl (.neg rfl (.neg rfl (.neg rfl (.neg rfl (.pos rfl (.pos rfl (.geti (m := 4) rfl rfl (.getn (m := 4) rfl (.scat ?_ (.geti (m := 0) rfl rfl (.ask t0.sh (.scat ?_ (.scat ?_ (.ret _))))))))))))))))))))))))), fun f b hb => pre_p (by decide) (by decide) rfl ?_ (fun _ _ => .step (fun l => eJ92x1000013 l _ _ _ _ _ _ _ _ _ _) (.neg rfl (.neg rfl (.neg rfl (.neg rfl (.neg rfl (.step (fun l => eJ92x1000025 l _ _ _ _ _ _ _ _ _ _) (.neg rfl (.neg rfl (.neg rfl (.neg rfl (.neg rfl (.neg rfl (.neg rfl (.neg rfl (.ask (byte_p1 (m := 40) rfl (by omega) _ _ ?_) (.ask (all_p t0 .nil (by simp) _ _ ?_) (.ask (byte_p1 (m := 41) rfl (by omega) _ _ ?_) (.ret' ?_))))))))))))))))))) (fun h => ?_), ?_⟩
      any_goals (exact absurd h (by decide))
      all_goals first | (simp only [hk, hg, lst, app_nil, ByteArray.append_assoc]; done) | (simp only [hk, hg, lst, app_nil, ByteArray.append_assoc]; rfl) | (simp only [hk, lst, hg, app_size, bs_size, List.length_cons, List.length_nil] at *; omega)
    · have hk : keyedB 51 = bs [114, 97, 110] := rfl
      have hg : gS [AV.sc (.string (bs [114, 97, 110]))] 0 = bs [114, 97, 110] := rfl
      have hl : ks.length = 1 := by have := hn.ar; unfold arityB kidsS at this; simp at this; omega
      obtain ⟨r0, rfl, v0⟩ := vts1 vs hl
      obtain ⟨s0, t0⟩ := shows W v0 (by omega) (by omega)
      obtain ⟨e0, k0⟩ := t0.closed v0.range.1 v0.range.2 (by omega)
      have z0 := t0.sz
      have y0 := k0.sz
      refine ⟨bs [114, 97, 110] ++ bs [40] ++ s0 ++ bs [41], .step (fun l => eF96 l _ _ _ _ _ _ _) (.neg rfl (.neg rfl (.neg rfl (.neg rfl (.neg rfl (.neg rfl (.neg rfl (.neg rfl (.neg rfl (.neg rfl (.neg rfl (.neg rfl (.neg rfl (.neg rfl (.neg rfl (.pos rfl (.pos rfl (.geti (m := 5) rfl rfl (.getn (m := 5) rfl (.scat ?_ (.geti (m := 0) rfl rfl (.ask t0.sh (.scat ?_ (.scat ?_ (.ret _))))))))))))))))))))))))), fun f b hb => pre_p (by decide) (by decide) rfl ?_ (fun _ _ => .step (fun l => eJ92x1000013 l _ _ _ _ _ _ _ _ _ _) (.neg rfl (.neg rfl (.neg rfl (.neg rfl (.neg rfl (.step (fun l => eJ92x1000025 l _ _ _ _ _ _ _ _ _ _) (.neg rfl (.neg rfl (.neg rfl (.neg rfl (.neg rfl (.neg rfl (.neg rfl (.neg rfl (.ask (byte_p1 (m := 40) rfl (by omega) _ _ ?_) (.ask (all_p t0 .nil (by simp) _ _ ?_) (.ask (byte_p1 (m := 41) rfl (by omega) _ _ ?_) (.ret' ?_))))))))))))))))))) (fun h => ?_), ?_⟩
      any_goals (exact absurd h (by decide))
      all_goals first | (simp only [hk, hg, lst, app_nil, ByteArray.append_assoc]; done) | (simp only [hk, hg, lst, app_nil, ByteArray.append_assoc]; rfl) | (simp only [hk, lst, hg, app_size, bs_size, List.length_cons, List.length_nil] at *; omega)
    · have hl : ks.length = 2 := by
        have := hn.ar
        unfold arityB kidsS at this
        rw [if_neg (by omega), if_neg (by omega), if_neg (by omega), if_pos (by omega)] at this
        have := of_decide_eq_true this
        omega
      obtain ⟨r0, r1, c0, c1, rfl, rfl, v0, v1⟩ := vts2 vs hl
      obtain ⟨s0, t0⟩ := shows W v0 (by omega) (by omega)
      obtain ⟨s1, t1⟩ := shows W v1 (by omega) (by omega)
      obtain ⟨e0, k0⟩ := t0.closed v0.range.1 v0.range.2 (by omega)
      obtain ⟨e1, k1⟩ := t1.closed v1.range.1 v1.range.2 (by omega)
      have y0 := k0.sz
      have y1 := k1.sz
      obtain ⟨g1, g2⟩ := signB_bin hop
      have ref : Ev (fun l => J96x1000042 l [r0, r1] op nm N tk tn ts [r0, r1]) (e0 ++ bs [32] ++ signB op ++ bs [32] ++ e1) := by
        refine .step (fun l => eJ96x1000042 l _ _ _ _ _ _ _ _) (.geti (m := 0) rfl rfl (.ask k0.sh (.scat ?_ (.ask (sign_r hr.1 hr.2) (.scat ?_ (.scat ?_ (.geti (m := 1) rfl rfl (.ask k1.sh (.scat ?_ (.ret _)))))))))) 
        all_goals (simp only [app_size, bs_size, List.length_cons, List.length_nil]; omega)
      refine ⟨e0 ++ bs [32] ++ signB op ++ bs [32] ++ e1, .step (fun l => eF96 l _ _ _ _ _ _ _) ?_, fun f b hb => .step (fun l => eF92 l _ _ _ _ _ _ _ _ _) (.ask (sign_p hr.1 hr.2) (.pos (by rw [g1]; rfl) (.geti (m := 0) rfl rfl (.ask (k0.wr _ _ ?_) (.scat ?_ (.scat ?_ (.ask (str_p _ _ _ ?_) (.geti (m := 1) rfl rfl (.ask (k1.wr _ _ ?_) (.ret' ?_)))))))))), ?_⟩
      · iterate 15 refine .neg (by rw [beq_eq_false_iff_ne]; omega) ?_
        refine .ite (fun h => .neg (decide_eq_false (by have := of_decide_eq_true h; omega)) ref) (fun h => ref)
      all_goals first | (simp only [app_nil, ByteArray.append_assoc]; done) | (simp only [app_size, bs_size, List.length_cons, List.length_nil] at *; omega)
theorem string_p (f : Bool) (b : ByteArray) (h : b.size ≤ 140737488355328) : Ev (fun l => F16 l f b) (b, f, b) := by
  refine .step (fun l => eF16 l _ _) (.ite (fun h1 => .head ⟨by have := of_decide_eq_true h1; omega, Int.le_refl _, by omega⟩ (.ret' ?_)) (fun h1 => ?_))
  · have : b.extract 0 ((b.size : Int)).toNat = b := by rw [Int.toNat_natCast]; exact ByteArray.extract_zero_size
    rw [this]
  · have h1 := of_decide_eq_false h1
    have h0 : b.size = 0 := by omega
    refine .pos (by rw [h0]; rfl) (.ret' ?_)
    have : b = bs [] := ByteArray.ext (Array.ext' (by rw [size_zero h0]))
    rw [this]
theorem formatTerm (op : Int) (nm : ByteArray) (N tk : Int) (tn : ByteArray) (ts ks : Rows) (hk : wtRs ks < 4611686018427387904) (hn : Fits nm) :
    ∃ s : ByteArray, s.size ≤ 1400000 ∧ Ev (fun l => F41 l op nm N tk tn ts ks) s ∧ Ev (fun l => F46 l op nm N tk tn ts ks) s := by
  obtain ⟨b, h1, h2, h3⟩ := validTerm op nm N tk tn ts ks hk hn
  cases b with
  | false => exact ⟨bs [], by decide, .step (fun l => eF41 l _ _ _ _ _ _ _) (.ask h1 (.pos rfl (.ret _))), .step (fun l => eF46 l _ _ _ _ _ _ _) (.ask h2 (.pos rfl (.ret _)))⟩
  | true =>
    obtain ⟨c, v, hc⟩ := h3 rfl
    obtain ⟨s, t⟩ := shows _ v (Nat.lt_succ_self _) hc
    have hz := t.sz
    have hw := t.wr false (bs []) (by rw [bs_size]; simp; omega)
    refine ⟨s, by omega, .step (fun l => eF41 l _ _ _ _ _ _ _) (.ask h1 (.neg rfl (.ask hw (.ask (string_p _ _ ?_) (.ret' ?_))))), .step (fun l => eF46 l _ _ _ _ _ _ _) (.ask h2 (.neg rfl (.ask t.sh (.ret _))))⟩
    · simp only [app_size, bs_size, List.length_nil]; omega
    · exact ByteArray.empty_append
theorem formatType (tk : Int) (tn : ByteArray) (ts : Rows) : ∃ s : ByteArray, s.size ≤ 1400000 ∧ Ev (fun l => F39 l tk tn ts) s ∧ Ev (fun l => F44 l tk tn ts) s := by
  obtain ⟨b, h1, h2, h3⟩ := validType tk tn ts
  cases b with
  | false => exact ⟨bs [], by decide, .step (fun l => eF39 l _ _ _) (.ask h1 (.pos rfl (.ret _))), .step (fun l => eF44 l _ _ _) (.ask h2 (.pos rfl (.ret _)))⟩
  | true =>
    obtain ⟨c, v, hc⟩ := h3 rfl
    obtain ⟨s, hz, q1, q2⟩ := tyText _ v (Nat.lt_succ_self _) hc
    exact ⟨s, by omega, .step (fun l => eF39 l _ _ _) (.ask h1 (.neg rfl (.ask q1 (.ret _)))), .step (fun l => eF44 l _ _ _) (.ask h2 (.neg rfl (.ask q2 (.ret _))))⟩
end Go.AI
end
