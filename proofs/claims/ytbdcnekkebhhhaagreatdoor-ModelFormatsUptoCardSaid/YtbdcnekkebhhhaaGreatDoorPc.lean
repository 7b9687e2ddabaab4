/-
  Texts of projects: lines, loops over rows.
-/
import Derived.Test.YtbdcnekkebhhhaaGreatDoorPb
set_option linter.all false

section
namespace Go.AI
open Go
theorem bext {a b : ByteArray} (h : a.data.toList = b.data.toList) : a = b := ByteArray.ext (Array.ext' h)
def txt : List ByteArray → ByteArray
  | [] => bs []
  | s :: ss => s ++ bs [10] ++ txt ss
theorem txt_app : ∀ (a b : List ByteArray), txt (a ++ b) = txt a ++ txt b
  | [], b => (ByteArray.empty_append).symm
  | s :: a, b => by simp only [List.cons_append, txt, txt_app a b, ByteArray.append_assoc]
theorem txt_len : ∀ (l : List ByteArray), l.length ≤ (txt l).size
  | [] => Nat.zero_le _
  | s :: l => by
    have := txt_len l
    simp only [txt, app_size, bs_size, List.length_cons, List.length_nil]; omega
def rowsL (ls : List ByteArray) : Rows := ls.map fun s => [.sc (.string s)]
theorem rowsL_app (a b : List ByteArray) : rowsL (a ++ b) = rowsL a ++ rowsL b := List.map_append ..
theorem rowsL_len (a : List ByteArray) : (rowsL a).length = a.length := List.length_map ..
def WrE (G : Nat → Bool → ByteArray → Option (Bool × ByteArray)) (t : ByteArray) : Prop := ∀ f b, b.size + t.size ≤ 140737488355328 → ∃ f', Ev (fun l => G l f b) (f', b ++ t)
def RefE (G : Nat → Rows → Option Rows) (ls : List ByteArray) : Prop := ∀ out : Rows, out.length + ls.length ≤ 8796093022208 → Ev (fun l => G l out) (out ++ rowsL ls)
theorem WrE.nil {G : Nat → Bool → ByteArray → Option (Bool × ByteArray)} (h : ∀ f b, Ev (fun l => G l f b) (f, b)) : WrE G (bs []) := fun f b _ => ⟨f, by rw [app_nil]; exact h f b⟩
theorem RefE.nil {G : Nat → Rows → Option Rows} (h : ∀ out, Ev (fun l => G l out) out) : RefE G [] := fun out _ => by
  have : out ++ rowsL [] = out := List.append_nil _
  rw [this]; exact h out
inductive XS (P : List AV → List ByteArray → Prop) : Rows → List ByteArray → Prop
  | nil : XS P [] []
  | cons {r : List AV} {rs : Rows} {s ss : List ByteArray} : P r s → XS P rs ss → XS P (r :: rs) (s ++ ss)
theorem XS.mk {P : List AV → List ByteArray → Prop} : ∀ {rows : Rows}, (∀ r, r ∈ rows → ∃ s, P r s) → ∃ ls, XS P rows ls
  | [], _ => ⟨[], .nil⟩
  | r :: rs, h => by
    obtain ⟨s, hs⟩ := h r (by simp)
    obtain ⟨ss, hss⟩ := XS.mk (rows := rs) fun q hq => h q (by simp [hq])
    exact ⟨s ++ ss, .cons hs hss⟩
theorem XS.size {P : List AV → List ByteArray → Prop} {K : Nat} (hP : ∀ r s, P r s → (txt s).size ≤ K * (wtR r + 1)) : ∀ {rows : Rows} {ls : List ByteArray}, XS P rows ls → (txt ls).size ≤ K * wtRs rows
  | _, _, .nil => Nat.zero_le _
  | _, _, .cons h k => by
    have h1 := hP _ _ h
    have h2 := XS.size hP k
    rw [txt_app, app_size, wtRs, Nat.mul_add]; omega
theorem drop_cons {α : Type} {ks : List α} {i : Nat} {r : α} {rs : List α} (hx : ks.drop i = r :: rs) : i < ks.length ∧ ks[i]? = some r ∧ ks.drop (i + 1) = rs := by
  have hlt : i < ks.length := by
    rcases Nat.lt_or_ge i ks.length with a | a
    · exact a
    · rw [List.drop_eq_nil_of_le a] at hx; cases hx
  refine ⟨hlt, ?_, ?_⟩
  · have : (ks.drop i)[0]? = some r := by rw [hx]; rfl
    rw [List.getElem?_drop] at this; exact this
  · rw [List.drop_eq_getElem_cons hlt] at hx; exact (List.cons.inj hx).2
section
variable {P : List AV → List ByteArray → Prop} {rows : Rows} {J J0 : Nat → Int → Bool → ByteArray → Option (Bool × ByteArray)} {tE : ByteArray}
def StepW (P : List AV → List ByteArray → Prop) (rows : Rows) (J J' : Nat → Int → Bool → ByteArray → Option (Bool × ByteArray)) : Prop :=
  ∀ (i : Nat) (r : List AV) (s : List ByteArray) (f : Bool) (b : ByteArray), rows[i]? = some r → i < rows.length → P r s → b.size + (txt s).size ≤ 140737488355328 →
    ∃ f1, ∀ res : Bool × ByteArray, Ev (fun l => J' l ((i + 1 : Nat) : Int) f1 (b ++ txt s)) res → Ev (fun l => J l (i : Int) f b) res
theorem round_w {J' : Nat → Int → Bool → ByteArray → Option (Bool × ByteArray)} (hstep : StepW P rows J0 J') {i : Nat} {r : List AV} {s ss : List ByteArray} (hg : rows[i]? = some r) (hlt : i < rows.length) (hr : P r s)
    (ih : WrE (fun l f b => J' l ((i + 1 : Nat) : Int) f b) (txt ss ++ tE)) : WrE (fun l f b => J0 l (i : Int) f b) (txt (s ++ ss) ++ tE) := by
  intro f b hb
  rw [txt_app] at hb ⊢
  simp only [app_size] at hb
  obtain ⟨f1, h1⟩ := hstep i r s f b hg hlt hr (by omega)
  obtain ⟨f', h2⟩ := ih f1 (b ++ txt s) (by simp only [app_size]; omega)
  refine ⟨f', ?_⟩
  have e : b ++ (txt s ++ txt ss ++ tE) = b ++ txt s ++ (txt ss ++ tE) := by simp only [ByteArray.append_assoc]
  rw [e]
  exact h1 _ h2
theorem loop_w (hstep : StepW P rows J J) (hend : WrE (fun l f b => J l (rows.length : Int) f b) tE) : ∀ (d : Nat) {ls : List ByteArray} {i : Nat}, rows.length - i = d → i ≤ rows.length → XS P (rows.drop i) ls → WrE (fun l f b => J l (i : Int) f b) (txt ls ++ tE)
  | d, ls, i, hd0, hi, h => by
    generalize hx : rows.drop i = rs at h
    cases h with
    | nil =>
      have : i = rows.length := Nat.le_antisymm hi (List.drop_eq_nil_iff.1 hx)
      subst this
      have e : txt [] ++ tE = tE := ByteArray.empty_append
      rw [e]; exact hend
    | cons hr k =>
      obtain ⟨hlt, hg, hd⟩ := drop_cons hx
      cases d with
      | zero => omega
      | succ d => exact round_w hstep hg hlt hr (loop_w hstep hend d (i := i + 1) (by omega) hlt (by rw [hd]; exact k))
theorem loop_w0 (hstep0 : StepW P rows J0 J) (hend0 : rows = [] → WrE (fun l f b => J0 l ((0 : Nat) : Int) f b) tE) (hstep : StepW P rows J J) (hend : WrE (fun l f b => J l (rows.length : Int) f b) tE) {ls : List ByteArray} (h : XS P rows ls) :
    WrE (fun l f b => J0 l ((0 : Nat) : Int) f b) (txt ls ++ tE) := by
  cases h with
  | nil =>
    have e : txt [] ++ tE = tE := ByteArray.empty_append
    rw [e]; exact hend0 rfl
  | cons hr k => exact round_w hstep0 rfl (by simp) hr (loop_w hstep hend _ (i := 1) rfl (by simp) (by simpa using k))
def StepR (P : List AV → List ByteArray → Prop) (rows : Rows) (J : Nat → Int → Rows → Option Rows) : Prop :=
  ∀ (i : Nat) (r : List AV) (s : List ByteArray) (out res : Rows), rows[i]? = some r → i < rows.length → P r s → out.length + s.length ≤ 8796093022208 →
    Ev (fun l => J l ((i + 1 : Nat) : Int) (out ++ rowsL s)) res → Ev (fun l => J l (i : Int) out) res
theorem loop_r {J : Nat → Int → Rows → Option Rows} {lE : List ByteArray} (hstep : StepR P rows J) (hend : RefE (fun l out => J l (rows.length : Int) out) lE) : ∀ (d : Nat) {ls : List ByteArray} {i : Nat}, rows.length - i = d → i ≤ rows.length → XS P (rows.drop i) ls → RefE (fun l out => J l (i : Int) out) (ls ++ lE)
  | d, ls, i, hd0, hi, h => by
    generalize hx : rows.drop i = rs at h
    cases h with
    | nil =>
      have : i = rows.length := Nat.le_antisymm hi (List.drop_eq_nil_iff.1 hx)
      subst this
      exact hend
    | cons hr k =>
      rename_i r rs s ss
      obtain ⟨hlt, hg, hd⟩ := drop_cons hx
      cases d with
      | zero => omega
      | succ d =>
      have ih := loop_r hstep hend d (i := i + 1) (by omega) hlt (by rw [hd]; exact k)
      intro out hb
      simp only [List.length_append] at hb
      have h1 := ih (out ++ rowsL s) (by simp only [List.length_append, rowsL_len]; omega)
      have e : out ++ rowsL (s ++ ss ++ lE) = out ++ rowsL s ++ rowsL (ss ++ lE) := by
        simp only [rowsL_app, List.append_assoc]
      rw [e]
      exact hstep i r s out _ hg hlt hr (by omega) h1
end
theorem WrE.step {G G' : Nat → Bool → ByteArray → Option (Bool × ByteArray)} {t : ByteArray} (h : ∀ l f b, G (l + 1) f b = G' l f b) (hG : WrE G' t) : WrE G t := fun f b hb =>
  let ⟨f', h1⟩ := hG f b hb
  ⟨f', .step (fun l => h l f b) h1⟩
theorem WrE.seq {A K : Nat → Bool → ByteArray → Option (Bool × ByteArray)} {t1 t2 : ByteArray} (hA : WrE A t1) (hK : WrE K t2) : WrE (fun l f b => ask (A l f b) fun x => K l x.1 x.2) (t1 ++ t2) := fun f b hb => by
  simp only [app_size] at hb
  obtain ⟨f1, h1⟩ := hA f b (by omega)
  obtain ⟨f2, h2⟩ := hK f1 (b ++ t1) (by simp only [app_size]; omega)
  refine ⟨f2, .ask h1 ?_⟩
  rw [← ByteArray.append_assoc]; exact h2
theorem RefE.step {G G' : Nat → Rows → Option Rows} {t : List ByteArray} (h : ∀ l out, G (l + 1) out = G' l out) (hG : RefE G' t) : RefE G t := fun out hb => .step (fun l => h l out) (hG out hb)
theorem sIteF {α : Type} {b : Bool} {x y : Option α} (h : b = false) : sIte b x y = y := by subst h; rfl
theorem sIteT {α : Type} {b : Bool} {x y : Option α} (h : b = true) : sIte b x y = x := by subst h; rfl
theorem txts_cons (a : ByteArray) (rs : Rows) : txts ([.sc (.string a)] :: rs) = a.data.toList :: txts rs := rfl
theorem join_two (x y : List UInt8) (r : List (List UInt8)) (sep : List UInt8) : Lib.join (x :: y :: r) sep = x ++ (sep ++ Lib.join (y :: r) sep) := by
  rw [Lib.join_cons, Lib.join_cons]; simp [Lib.joinTail]
theorem joinB_one (a s : ByteArray) : joinB [[.sc (.string a)]] s = a := by
  unfold joinB
  exact bext (by rw [show txts [[.sc (.string a)]] = [a.data.toList] from rfl, Lib.join_one])
theorem joinB_cons (a : ByteArray) (r : List AV) (rs : Rows) (s : ByteArray) : joinB ([.sc (.string a)] :: r :: rs) s = a ++ (s ++ joinB (r :: rs) s) := by
  unfold joinB
  refine bext ?_
  rw [txts_cons]
  show Lib.join (a.data.toList :: (gS r 0).data.toList :: txts rs) _ = _
  rw [join_two]
  simp [txts]
theorem joinB_size (s : ByteArray) (hs : s.size ≤ 1) : ∀ (rows : Rows), (joinB rows s).size ≤ wtRs rows
  | [] => Nat.zero_le _
  | [r] => by
    have h1 := wt_gS r 0
    have : joinB [r] s = gS r 0 := by
      unfold joinB
      exact bext (by rw [show txts [r] = [(gS r 0).data.toList] from rfl, Lib.join_one])
    rw [this]; simp only [wtRs]; omega
  | r :: r' :: rs => by
    have h1 := wt_gS r 0
    have h2 := joinB_size s hs (r' :: rs)
    have : joinB (r :: r' :: rs) s = gS r 0 ++ (s ++ joinB (r' :: rs) s) := by
      unfold joinB
      refine bext ?_
      show Lib.join ((gS r 0).data.toList :: (gS r' 0).data.toList :: txts rs) _ = _
      rw [join_two]
      simp [txts]
    rw [this, wtRs]
    simp only [app_size]; omega
theorem joinOK_of {rows : Rows} {s : ByteArray} (h1 : rows.length ≤ 140737488355328) (h2 : (joinB rows s).size ≤ 140737488355328) : joinOK rows s = true := decide_eq_true ⟨h1, h2⟩
theorem string_p1 (f : Bool) (b : ByteArray) (h : b.size ≤ 140737488355328) : Ev (fun l => F16v1 l f b) (b, f, b) := by
  refine .step (fun l => eF16v1 l _ _) (.ite (fun h1 => .head ⟨by have := of_decide_eq_true h1; omega, Int.le_refl _, by omega⟩ (.ret' ?_)) (fun h1 => ?_))
  · have : b.extract 0 ((b.size : Int)).toNat = b := by rw [Int.toNat_natCast]; exact ByteArray.extract_zero_size
    rw [this]
  · have h1 := of_decide_eq_false h1
    have h0 : b.size = 0 := by omega
    refine .pos (by rw [h0]; rfl) (.ret' ?_)
    have : b = bs [] := ByteArray.ext (Array.ext' (by rw [size_zero h0]))
    rw [this]
theorem line_p {ind : Int} (hi : ind = 0 ∨ ind = 2 ∨ ind = 4) {ws : Rows} {s : ByteArray} (hs : blanks ind ++ joinB ws (bs [32]) = s) (hl : ws.length ≤ 140737488355328) (f : Bool) (b : ByteArray) (hb : b.size + s.size + 1 ≤ 140737488355328) :
    Ev (fun l => F37 l ind ws f b) (true, b ++ s ++ bs [10]) := by
  subst hs
  simp only [app_size] at hb
  refine .step (fun l => eF37 l _ _ _ _) (.pos ?_ (.ask (str_p1 _ f b ?_) (.pos (joinOK_of hl ?_) (.ask (str_p1 _ _ _ ?_) (.ask (byte_p (m := 10) rfl (by omega) _ _ ?_) (.ret' ?_))))))
  · unfold blankOK
    rw [beqS_iff.2 rfl, Bool.true_and]
    rcases hi with rfl | rfl | rfl <;> rfl
  · omega
  · omega
  · simp only [app_size]; omega
  · simp only [app_size]; omega
  · simp only [ByteArray.append_assoc]; rfl
theorem txt_one (s : ByteArray) : txt [s] = s ++ bs [10] := by simp only [txt, app_nil]
theorem lineE {ind : Int} (hi : ind = 0 ∨ ind = 2 ∨ ind = 4) {ws : Rows} {s : ByteArray} (hs : blanks ind ++ joinB ws (bs [32]) = s) (hl : ws.length ≤ 140737488355328) : WrE (fun l f b => F37 l ind ws f b) (txt [s]) := fun f b hb => by
  rw [txt_one] at hb ⊢
  simp only [app_size, bs_size, List.length_cons, List.length_nil] at hb
  exact ⟨true, by rw [← ByteArray.append_assoc]; exact line_p hi hs hl f b (by omega)⟩
end Go.AI
end

/-
  Texts of projects: rounds of the loops.
-/
section
namespace Go.AI
open Go
set_option linter.all false
theorem appL (a b : ByteArray) : (a ++ b).data.toList = a.data.toList ++ b.data.toList := by simp
theorem bsL (l : List UInt8) : (bs l).data.toList = l := rfl
theorem bl0 : (blanks 0).data.toList = [] := rfl
theorem bl2 : (blanks 2).data.toList = [32, 32] := rfl
theorem bl4 : (blanks 4).data.toList = [32, 32, 32, 32] := rfl
def Tm (op : Int) (nm : ByteArray) (N tk : Int) (tn : ByteArray) (ts ks : Rows) (x : ByteArray) : Prop := x.size ≤ 1400000 ∧ Ev (fun l => F41 l op nm N tk tn ts ks) x ∧ Ev (fun l => F46 l op nm N tk tn ts ks) x
abbrev Tm0 (r : List AV) := Tm (gI r 0) (gS r 1) (gI r 2) (gI r 3) (gS r 4) (gD r 5) (gD r 6)
abbrev Tm1 (r : List AV) := Tm (gI r 1) (gS r 2) (gI r 3) (gI r 4) (gS r 5) (gD r 6) (gD r 7)
abbrev Tm2 (r : List AV) := Tm (gI r 2) (gS r 3) (gI r 4) (gI r 5) (gS r 6) (gD r 7) (gD r 8)
def Ty1 (r : List AV) (x : ByteArray) : Prop := x.size ≤ 1400000 ∧ Ev (fun l => F39 l (gI r 1) (gS r 2) (gD r 3)) x ∧ Ev (fun l => F44 l (gI r 1) (gS r 2) (gD r 3)) x
abbrev Room (n : Nat) : Prop := n ≤ 1099511627776
theorem tm_ex {r : List AV} (h : Room (wtR r)) (op : Int) (i : Nat) (N tk : Int) (tn : ByteArray) (ts : Rows) (j : Nat) : ∃ x, Tm op (gS r i) N tk tn ts (gD r j) x := by
  have h1 := wt_gD r j
  have h2 := wt_gS r i
  exact formatTerm _ _ _ _ _ _ _ (by unfold Room at h; omega) (by unfold Fits Room at *; omega)
theorem ty_ex (r : List AV) : ∃ x, Ty1 r x := formatType _ _ _
def PD (hd mid : ByteArray) (r : List AV) (s : List ByteArray) : Prop := ∃ x, Ty1 r x ∧ s = [hd ++ gS r 0 ++ mid ++ x]
def PT (hd mid : ByteArray) (r : List AV) (s : List ByteArray) : Prop := ∃ x, Tm1 r x ∧ s = [hd ++ gS r 0 ++ mid ++ x]
def clW (w : ByteArray) (r : List AV) : ByteArray := if (gB r 8 && !beqS w (bs [119, 104, 101, 110])) = true then bs [116, 104, 101, 111, 114, 101, 109] else w
def PC (ind w : ByteArray) (r : List AV) (s : List ByteArray) : Prop := ∃ x, Tm1 r x ∧ s = [ind ++ clW w r ++ bs [32] ++ gS r 0 ++ bs [32, 58, 32] ++ x]
def PA (r : List AV) (s : List ByteArray) : Prop := ∃ x, Tm2 r x ∧ s = [bs [32, 32, 32, 32] ++ gS r 0 ++ (if gB r 1 = true then bs [32, 58, 105, 110, 32] else bs [32, 58, 61, 32]) ++ x]
def PV (r : List AV) (s : List ByteArray) : Prop := ∃ x, Tm0 r x ∧ s = [bs [32, 32, 118, 97, 114, 105, 97, 110, 116, 32] ++ x]
def PE (r : List AV) (s : List ByteArray) : Prop := s = [if (gD r 1).length = 0 then bs [32, 32, 115, 101, 116, 32] ++ gS r 0 else bs [32, 32, 101, 110, 117, 109, 32] ++ gS r 0 ++ bs [32, 58, 32] ++ joinB (gD r 1) (bs [32])]
theorem PD_ex (hd mid : ByteArray) (r : List AV) : ∃ s, PD hd mid r s := let ⟨x, h⟩ := ty_ex r; ⟨_, x, h, rfl⟩
theorem PT_ex (hd mid : ByteArray) {r : List AV} (h : Room (wtR r)) : ∃ s, PT hd mid r s := let ⟨x, h⟩ := tm_ex h _ 2 _ _ _ _ 7; ⟨_, x, h, rfl⟩
theorem PC_ex (ind w : ByteArray) {r : List AV} (h : Room (wtR r)) : ∃ s, PC ind w r s := let ⟨x, h⟩ := tm_ex h _ 2 _ _ _ _ 7; ⟨_, x, h, rfl⟩
theorem PA_ex {r : List AV} (h : Room (wtR r)) : ∃ s, PA r s := let ⟨x, h⟩ := tm_ex h _ 3 _ _ _ _ 8; ⟨_, x, h, rfl⟩
theorem PV_ex {r : List AV} (h : Room (wtR r)) : ∃ s, PV r s := let ⟨x, h⟩ := tm_ex h _ 1 _ _ _ _ 6; ⟨_, x, h, rfl⟩
theorem PE_ex (r : List AV) : ∃ s, PE r s := ⟨_, rfl⟩
theorem PD_size {hd mid : ByteArray} (h1 : hd.size ≤ 20) (h2 : mid.size ≤ 20) (r : List AV) (s : List ByteArray) (h : PD hd mid r s) : (txt s).size ≤ 1500000 * (wtR r + 1) := by
  obtain ⟨x, hx, rfl⟩ := h
  have := hx.1
  have := wt_gS r 0
  simp only [txt, app_size, bs_size, List.length_cons, List.length_nil]; omega
theorem PT_size {hd mid : ByteArray} (h1 : hd.size ≤ 20) (h2 : mid.size ≤ 20) (r : List AV) (s : List ByteArray) (h : PT hd mid r s) : (txt s).size ≤ 1500000 * (wtR r + 1) := by
  obtain ⟨x, hx, rfl⟩ := h
  have := hx.1
  have := wt_gS r 0
  simp only [txt, app_size, bs_size, List.length_cons, List.length_nil]; omega
theorem clW_size {w : ByteArray} (h : w.size ≤ 20) (r : List AV) : (clW w r).size ≤ 20 := by
  unfold clW
  split
  · exact by decide
  · exact h
theorem PC_size {ind w : ByteArray} (h1 : ind.size ≤ 20) (h2 : w.size ≤ 20) (r : List AV) (s : List ByteArray) (h : PC ind w r s) : (txt s).size ≤ 1500000 * (wtR r + 1) := by
  obtain ⟨x, hx, rfl⟩ := h
  have := hx.1
  have := wt_gS r 0
  have := clW_size h2 r
  simp only [txt, app_size, bs_size, List.length_cons, List.length_nil]; omega
theorem PA_size (r : List AV) (s : List ByteArray) (h : PA r s) : (txt s).size ≤ 1500000 * (wtR r + 1) := by
  obtain ⟨x, hx, rfl⟩ := h
  have := hx.1
  have := wt_gS r 0
  split <;> (simp only [txt, app_size, bs_size, List.length_cons, List.length_nil]; omega)
theorem PV_size (r : List AV) (s : List ByteArray) (h : PV r s) : (txt s).size ≤ 1500000 * (wtR r + 1) := by
  obtain ⟨x, hx, rfl⟩ := h
  have := hx.1
  simp only [txt, app_size, bs_size, List.length_cons, List.length_nil]; omega
theorem PE_size (r : List AV) (s : List ByteArray) (h : PE r s) : (txt s).size ≤ 1500000 * (wtR r + 1) := by
  obtain rfl := h
  have := wt_gS r 0
  have := wt_gD r 1
  have := joinB_size (bs [32]) (by decide) (gD r 1)
  split <;> (simp only [txt, app_size, bs_size, List.length_cons, List.length_nil]; omega)
theorem st_J42x0v2 {nm : ByteArray} {rf : Rows} {st : Int} {ps gs wt ac : Rows} {rows : Rows} (hl : rows.length ≤ 4611686018427387904) : StepW (PT (bs [32, 32, 32, 32, 97, 110, 121, 32]) (bs [32, 105, 110, 32])) rows (fun l i f b => J42x0v2 l rows rows.length i f b nm rf st ps gs wt ac) (fun l i f b => J42x0v3 l rows rows.length i f nm rf st ps gs wt ac b) := by
  intro i r s f b hg hlt hP hb
  obtain ⟨x, hx, rfl⟩ := hP
  rw [txt_one] at hb
  simp only [app_size, bs_size, List.length_cons, List.length_nil] at hb
  refine ⟨true, fun res hres => ?_⟩
  rw [txt_one, ← ByteArray.append_assoc] at hres
  refine .step (fun l => eJ42x0v2 l _ _ _ _ _ _ _ _ _ _ _ _) (.pos (by simp; omega) (.geti rfl hg (.ask hx.2.1 (.ask (line_p (s := bs [32, 32, 32, 32, 97, 110, 121, 32] ++ gS r 0 ++ bs [32, 105, 110, 32] ++ x) (.inr (.inr rfl)) (by simp only [joinB_cons, joinB_one]; refine bext ?_; simp only [appL, bsL, bl0, bl2, bl4, List.cons_append, List.nil_append, List.append_assoc]) (by simp) f b (by simp only [app_size, bs_size, List.length_cons, List.length_nil]; omega)) ?_))))
  rw [wrap_suc i (by omega)]; exact hres
theorem st_J42x0v3 {nm : ByteArray} {rf : Rows} {st : Int} {ps gs wt ac : Rows} {rows : Rows} (hl : rows.length ≤ 4611686018427387904) : StepW (PT (bs [32, 32, 32, 32, 97, 110, 121, 32]) (bs [32, 105, 110, 32])) rows (fun l i f b => J42x0v3 l rows rows.length i f nm rf st ps gs wt ac b) (fun l i f b => J42x0v3 l rows rows.length i f nm rf st ps gs wt ac b) := by
  intro i r s f b hg hlt hP hb
  obtain ⟨x, hx, rfl⟩ := hP
  rw [txt_one] at hb
  simp only [app_size, bs_size, List.length_cons, List.length_nil] at hb
  refine ⟨true, fun res hres => ?_⟩
  rw [txt_one, ← ByteArray.append_assoc] at hres
  refine .step (fun l => eJ42x0v3 l _ _ _ _ _ _ _ _ _ _ _ _) (.pos (by simp; omega) (.geti rfl hg (.ask hx.2.1 (.ask (line_p (s := bs [32, 32, 32, 32, 97, 110, 121, 32] ++ gS r 0 ++ bs [32, 105, 110, 32] ++ x) (.inr (.inr rfl)) (by simp only [joinB_cons, joinB_one]; refine bext ?_; simp only [appL, bsL, bl0, bl2, bl4, List.cons_append, List.nil_append, List.append_assoc]) (by simp) f b (by simp only [app_size, bs_size, List.length_cons, List.length_nil]; omega)) ?_))))
  rw [wrap_suc i (by omega)]; exact hres
theorem st_J42x8v2 {nm : ByteArray} {rf : Rows} {st : Int} {ps gs wt ac : Rows} {rows : Rows} (hl : rows.length ≤ 4611686018427387904) : StepW (PT (bs [32, 32, 32, 32, 119, 105, 116, 104, 32]) (bs [32, 61, 32])) rows (fun l i f b => J42x8v2 l rows rows.length i f b nm rf st ps gs wt ac) (fun l i f b => J42x8v3 l rows rows.length i f nm rf st ps gs wt ac b) := by
  intro i r s f b hg hlt hP hb
  obtain ⟨x, hx, rfl⟩ := hP
  rw [txt_one] at hb
  simp only [app_size, bs_size, List.length_cons, List.length_nil] at hb
  refine ⟨true, fun res hres => ?_⟩
  rw [txt_one, ← ByteArray.append_assoc] at hres
  refine .step (fun l => eJ42x8v2 l _ _ _ _ _ _ _ _ _ _ _ _) (.pos (by simp; omega) (.geti rfl hg (.ask hx.2.1 (.ask (line_p (s := bs [32, 32, 32, 32, 119, 105, 116, 104, 32] ++ gS r 0 ++ bs [32, 61, 32] ++ x) (.inr (.inr rfl)) (by simp only [joinB_cons, joinB_one]; refine bext ?_; simp only [appL, bsL, bl0, bl2, bl4, List.cons_append, List.nil_append, List.append_assoc]) (by simp) f b (by simp only [app_size, bs_size, List.length_cons, List.length_nil]; omega)) ?_))))
  rw [wrap_suc i (by omega)]; exact hres
theorem st_J42x8v3 {nm : ByteArray} {rf : Rows} {st : Int} {ps gs wt ac : Rows} {rows : Rows} (hl : rows.length ≤ 4611686018427387904) : StepW (PT (bs [32, 32, 32, 32, 119, 105, 116, 104, 32]) (bs [32, 61, 32])) rows (fun l i f b => J42x8v3 l rows rows.length i f nm rf st ps gs wt ac b) (fun l i f b => J42x8v3 l rows rows.length i f nm rf st ps gs wt ac b) := by
  intro i r s f b hg hlt hP hb
  obtain ⟨x, hx, rfl⟩ := hP
  rw [txt_one] at hb
  simp only [app_size, bs_size, List.length_cons, List.length_nil] at hb
  refine ⟨true, fun res hres => ?_⟩
  rw [txt_one, ← ByteArray.append_assoc] at hres
  refine .step (fun l => eJ42x8v3 l _ _ _ _ _ _ _ _ _ _ _ _) (.pos (by simp; omega) (.geti rfl hg (.ask hx.2.1 (.ask (line_p (s := bs [32, 32, 32, 32, 119, 105, 116, 104, 32] ++ gS r 0 ++ bs [32, 61, 32] ++ x) (.inr (.inr rfl)) (by simp only [joinB_cons, joinB_one]; refine bext ?_; simp only [appL, bsL, bl0, bl2, bl4, List.cons_append, List.nil_append, List.append_assoc]) (by simp) f b (by simp only [app_size, bs_size, List.length_cons, List.length_nil]; omega)) ?_))))
  rw [wrap_suc i (by omega)]; exact hres
theorem st_J42x4v2 {nm : ByteArray} {rf : Rows} {st : Int} {ps gs wt ac : Rows} {rows : Rows} (hl : rows.length ≤ 4611686018427387904) : StepW (PC (bs [32, 32, 32, 32]) (bs [119, 104, 101, 110])) rows (fun l i f b => J42x4v2 l rows rows.length i f b nm rf st ps gs wt ac) (fun l i f b => J42x4v3 l rows rows.length i f nm rf st ps gs wt ac b) := by
  intro i r s f b hg hlt hP hb
  obtain ⟨x, hx, rfl⟩ := hP
  have hw : clW (bs [119, 104, 101, 110]) r = bs [119, 104, 101, 110] := by unfold clW; rw [beqS_iff.2 rfl, Bool.not_true, Bool.and_false, if_neg (by simp)]
  rw [hw] at hb ⊢
  rw [txt_one] at hb
  simp only [app_size, bs_size, List.length_cons, List.length_nil] at hb
  refine ⟨true, fun res hres => ?_⟩
  rw [txt_one, ← ByteArray.append_assoc] at hres
  refine .step (fun l => eJ42x4v2 l _ _ _ _ _ _ _ _ _ _ _ _) (.pos (by simp; omega) (.geti rfl hg (.ask hx.2.1 (.ask (line_p (s := bs [32, 32, 32, 32] ++ bs [119, 104, 101, 110] ++ bs [32] ++ gS r 0 ++ bs [32, 58, 32] ++ x) (.inr (.inr rfl)) (by simp only [joinB_cons, joinB_one]; refine bext ?_; simp only [appL, bsL, bl0, bl2, bl4, List.cons_append, List.nil_append, List.append_assoc]) (by simp) f b (by simp only [app_size, bs_size, List.length_cons, List.length_nil]; omega)) ?_))))
  rw [wrap_suc i (by omega)]; exact hres
theorem st_J42x4v3 {nm : ByteArray} {rf : Rows} {st : Int} {ps gs wt ac : Rows} {rows : Rows} (hl : rows.length ≤ 4611686018427387904) : StepW (PC (bs [32, 32, 32, 32]) (bs [119, 104, 101, 110])) rows (fun l i f b => J42x4v3 l rows rows.length i f nm rf st ps gs wt ac b) (fun l i f b => J42x4v3 l rows rows.length i f nm rf st ps gs wt ac b) := by
  intro i r s f b hg hlt hP hb
  obtain ⟨x, hx, rfl⟩ := hP
  have hw : clW (bs [119, 104, 101, 110]) r = bs [119, 104, 101, 110] := by unfold clW; rw [beqS_iff.2 rfl, Bool.not_true, Bool.and_false, if_neg (by simp)]
  rw [hw] at hb ⊢
  rw [txt_one] at hb
  simp only [app_size, bs_size, List.length_cons, List.length_nil] at hb
  refine ⟨true, fun res hres => ?_⟩
  rw [txt_one, ← ByteArray.append_assoc] at hres
  refine .step (fun l => eJ42x4v3 l _ _ _ _ _ _ _ _ _ _ _ _) (.pos (by simp; omega) (.geti rfl hg (.ask hx.2.1 (.ask (line_p (s := bs [32, 32, 32, 32] ++ bs [119, 104, 101, 110] ++ bs [32] ++ gS r 0 ++ bs [32, 58, 32] ++ x) (.inr (.inr rfl)) (by simp only [joinB_cons, joinB_one]; refine bext ?_; simp only [appL, bsL, bl0, bl2, bl4, List.cons_append, List.nil_append, List.append_assoc]) (by simp) f b (by simp only [app_size, bs_size, List.length_cons, List.length_nil]; omega)) ?_))))
  rw [wrap_suc i (by omega)]; exact hres
theorem st_J42x8 {nm : ByteArray} {st : Int} {wt ac x1 x2 x3 : Rows} {rows : Rows} (hl : rows.length ≤ 4611686018427387904) : StepW (PT (bs [32, 32, 32, 32, 119, 105, 116, 104, 32]) (bs [32, 61, 32])) rows (fun l i f b => J42x8 l rows rows.length i f b nm st wt ac x1 x2 x3) (fun l i f b => J42x8v1 l rows rows.length i f nm st wt ac b x1 x2 x3) := by
  intro i r s f b hg hlt hP hb
  obtain ⟨x, hx, rfl⟩ := hP
  rw [txt_one] at hb
  simp only [app_size, bs_size, List.length_cons, List.length_nil] at hb
  refine ⟨true, fun res hres => ?_⟩
  rw [txt_one, ← ByteArray.append_assoc] at hres
  refine .step (fun l => eJ42x8 l _ _ _ _ _ _ _ _ _ _ _ _) (.pos (by simp; omega) (.geti rfl hg (.ask hx.2.1 (.ask (line_p (s := bs [32, 32, 32, 32, 119, 105, 116, 104, 32] ++ gS r 0 ++ bs [32, 61, 32] ++ x) (.inr (.inr rfl)) (by simp only [joinB_cons, joinB_one]; refine bext ?_; simp only [appL, bsL, bl0, bl2, bl4, List.cons_append, List.nil_append, List.append_assoc]) (by simp) f b (by simp only [app_size, bs_size, List.length_cons, List.length_nil]; omega)) ?_))))
  rw [wrap_suc i (by omega)]; exact hres
theorem st_J42x8v1 {nm : ByteArray} {st : Int} {wt ac x1 x2 x3 : Rows} {rows : Rows} (hl : rows.length ≤ 4611686018427387904) : StepW (PT (bs [32, 32, 32, 32, 119, 105, 116, 104, 32]) (bs [32, 61, 32])) rows (fun l i f b => J42x8v1 l rows rows.length i f nm st wt ac b x1 x2 x3) (fun l i f b => J42x8v1 l rows rows.length i f nm st wt ac b x1 x2 x3) := by
  intro i r s f b hg hlt hP hb
  obtain ⟨x, hx, rfl⟩ := hP
  rw [txt_one] at hb
  simp only [app_size, bs_size, List.length_cons, List.length_nil] at hb
  refine ⟨true, fun res hres => ?_⟩
  rw [txt_one, ← ByteArray.append_assoc] at hres
  refine .step (fun l => eJ42x8v1 l _ _ _ _ _ _ _ _ _ _ _ _) (.pos (by simp; omega) (.geti rfl hg (.ask hx.2.1 (.ask (line_p (s := bs [32, 32, 32, 32, 119, 105, 116, 104, 32] ++ gS r 0 ++ bs [32, 61, 32] ++ x) (.inr (.inr rfl)) (by simp only [joinB_cons, joinB_one]; refine bext ?_; simp only [appL, bsL, bl0, bl2, bl4, List.cons_append, List.nil_append, List.append_assoc]) (by simp) f b (by simp only [app_size, bs_size, List.length_cons, List.length_nil]; omega)) ?_))))
  rw [wrap_suc i (by omega)]; exact hres
theorem st_J42x12 {rows : Rows} (hl : rows.length ≤ 4611686018427387904) : StepW (PA) rows (fun l i f b => J42x12 l rows rows.length i f b) (fun l i f b => J42x12v1 l rows rows.length i f b) := by
  intro i r s f b hg hlt hP hb
  obtain ⟨x, hx, rfl⟩ := hP
  refine ⟨true, fun res hres => ?_⟩
  by_cases hc : gB r 1 = true
  · rw [if_pos hc] at hb hres
    rw [txt_one, ← ByteArray.append_assoc] at hres
    rw [txt_one] at hb
    simp only [app_size, bs_size, List.length_cons, List.length_nil] at hb
    refine .step (fun l => eJ42x12 l _ _ _ _ _) (.pos (by simp; omega) (.geti rfl hg (.pos hc (.step (fun l => eJ42x1000022 l _ _ _ _ _ _ _ _ _ _ _ _ _ _ _) (.ask hx.2.1 (.ask (line_p (s := bs [32, 32, 32, 32] ++ gS r 0 ++ bs [32, 58, 105, 110, 32] ++ x) (.inr (.inr rfl)) (by simp only [joinB_cons, joinB_one]; refine bext ?_; simp only [appL, bsL, bl0, bl2, bl4, List.cons_append, List.nil_append, List.append_assoc]) (by simp) f b (by simp only [app_size, bs_size, List.length_cons, List.length_nil]; omega)) ?_))))))
    rw [wrap_suc i (by omega)]; exact hres
  · rw [if_neg hc] at hb hres
    rw [txt_one, ← ByteArray.append_assoc] at hres
    rw [txt_one] at hb
    simp only [app_size, bs_size, List.length_cons, List.length_nil] at hb
    refine .step (fun l => eJ42x12 l _ _ _ _ _) (.pos (by simp; omega) (.geti rfl hg (.neg (by simpa using hc) (.step (fun l => eJ42x1000022 l _ _ _ _ _ _ _ _ _ _ _ _ _ _ _) (.ask hx.2.1 (.ask (line_p (s := bs [32, 32, 32, 32] ++ gS r 0 ++ bs [32, 58, 61, 32] ++ x) (.inr (.inr rfl)) (by simp only [joinB_cons, joinB_one]; refine bext ?_; simp only [appL, bsL, bl0, bl2, bl4, List.cons_append, List.nil_append, List.append_assoc]) (by simp) f b (by simp only [app_size, bs_size, List.length_cons, List.length_nil]; omega)) ?_))))))
    rw [wrap_suc i (by omega)]; exact hres
theorem st_J42x12v1 {rows : Rows} (hl : rows.length ≤ 4611686018427387904) : StepW (PA) rows (fun l i f b => J42x12v1 l rows rows.length i f b) (fun l i f b => J42x12v1 l rows rows.length i f b) := by
  intro i r s f b hg hlt hP hb
  obtain ⟨x, hx, rfl⟩ := hP
  refine ⟨true, fun res hres => ?_⟩
  by_cases hc : gB r 1 = true
  · rw [if_pos hc] at hb hres
    rw [txt_one, ← ByteArray.append_assoc] at hres
    rw [txt_one] at hb
    simp only [app_size, bs_size, List.length_cons, List.length_nil] at hb
    refine .step (fun l => eJ42x12v1 l _ _ _ _ _) (.pos (by simp; omega) (.geti rfl hg (.pos hc (.step (fun l => eJ42x1000022v1 l _ _ _ _ _ _ _ _ _ _ _ _ _ _ _) (.ask hx.2.1 (.ask (line_p (s := bs [32, 32, 32, 32] ++ gS r 0 ++ bs [32, 58, 105, 110, 32] ++ x) (.inr (.inr rfl)) (by simp only [joinB_cons, joinB_one]; refine bext ?_; simp only [appL, bsL, bl0, bl2, bl4, List.cons_append, List.nil_append, List.append_assoc]) (by simp) f b (by simp only [app_size, bs_size, List.length_cons, List.length_nil]; omega)) ?_))))))
    rw [wrap_suc i (by omega)]; exact hres
  · rw [if_neg hc] at hb hres
    rw [txt_one, ← ByteArray.append_assoc] at hres
    rw [txt_one] at hb
    simp only [app_size, bs_size, List.length_cons, List.length_nil] at hb
    refine .step (fun l => eJ42x12v1 l _ _ _ _ _) (.pos (by simp; omega) (.geti rfl hg (.neg (by simpa using hc) (.step (fun l => eJ42x1000022v1 l _ _ _ _ _ _ _ _ _ _ _ _ _ _ _) (.ask hx.2.1 (.ask (line_p (s := bs [32, 32, 32, 32] ++ gS r 0 ++ bs [32, 58, 61, 32] ++ x) (.inr (.inr rfl)) (by simp only [joinB_cons, joinB_one]; refine bext ?_; simp only [appL, bsL, bl0, bl2, bl4, List.cons_append, List.nil_append, List.append_assoc]) (by simp) f b (by simp only [app_size, bs_size, List.length_cons, List.length_nil]; omega)) ?_))))))
    rw [wrap_suc i (by omega)]; exact hres
theorem st_J40x0 {w : ByteArray} (hw : beqS w (bs [119, 104, 101, 110]) = false) {rows : Rows} (hl : rows.length ≤ 4611686018427387904) : StepW (PC (bs [32, 32]) w) rows (fun l i f b => J40x0 l w rows rows.length i f b) (fun l i f b => J40x0v1 l w rows rows.length i f b) := by
  intro i r s f b hg hlt hP hb
  obtain ⟨x, hx, rfl⟩ := hP
  refine ⟨true, fun res hres => ?_⟩
  by_cases hc : gB r 8 = true
  · have hk : clW w r = bs [116, 104, 101, 111, 114, 101, 109] := by unfold clW; rw [hc, hw, Bool.not_false, Bool.and_true, if_pos rfl]
    rw [hk] at hb hres
    rw [txt_one, ← ByteArray.append_assoc] at hres
    rw [txt_one] at hb
    simp only [app_size, bs_size, List.length_cons, List.length_nil] at hb
    refine .step (fun l => eJ40x0 l _ _ _ _ _ _) (.pos (by simp; omega) (.geti rfl hg (.pos hc (.step (fun l => eJ40x1000006 l _ _ _ _ _ _ _ _ _ _ _ _ _ _ _ _) (.ask hx.2.1 (.ask (line_p (s := bs [32, 32] ++ bs [116, 104, 101, 111, 114, 101, 109] ++ bs [32] ++ gS r 0 ++ bs [32, 58, 32] ++ x) (.inr (.inl rfl)) (by simp only [joinB_cons, joinB_one]; refine bext ?_; simp only [appL, bsL, bl0, bl2, bl4, List.cons_append, List.nil_append, List.append_assoc]) (by simp) f b (by simp only [app_size, bs_size, List.length_cons, List.length_nil]; omega)) ?_))))))
    rw [wrap_suc i (by omega)]; exact hres
  · have hc : gB r 8 = false := by simpa using hc
    have hk : clW w r = w := by unfold clW; rw [hc, Bool.false_and, if_neg (by simp)]
    rw [hk] at hb hres
    rw [txt_one, ← ByteArray.append_assoc] at hres
    rw [txt_one] at hb
    simp only [app_size, bs_size, List.length_cons, List.length_nil] at hb
    refine .step (fun l => eJ40x0 l _ _ _ _ _ _) (.pos (by simp; omega) (.geti rfl hg (.neg hc (.step (fun l => eJ40x1000006 l _ _ _ _ _ _ _ _ _ _ _ _ _ _ _ _) (.ask hx.2.1 (.ask (line_p (s := bs [32, 32] ++ w ++ bs [32] ++ gS r 0 ++ bs [32, 58, 32] ++ x) (.inr (.inl rfl)) (by simp only [joinB_cons, joinB_one]; refine bext ?_; simp only [appL, bsL, bl0, bl2, bl4, List.cons_append, List.nil_append, List.append_assoc]) (by simp) f b (by simp only [app_size, bs_size, List.length_cons, List.length_nil]; omega)) ?_))))))
    rw [wrap_suc i (by omega)]; exact hres
theorem st_J40x0v1 {w : ByteArray} (hw : beqS w (bs [119, 104, 101, 110]) = false) {rows : Rows} (hl : rows.length ≤ 4611686018427387904) : StepW (PC (bs [32, 32]) w) rows (fun l i f b => J40x0v1 l w rows rows.length i f b) (fun l i f b => J40x0v1 l w rows rows.length i f b) := by
  intro i r s f b hg hlt hP hb
  obtain ⟨x, hx, rfl⟩ := hP
  refine ⟨true, fun res hres => ?_⟩
  by_cases hc : gB r 8 = true
  · have hk : clW w r = bs [116, 104, 101, 111, 114, 101, 109] := by unfold clW; rw [hc, hw, Bool.not_false, Bool.and_true, if_pos rfl]
    rw [hk] at hb hres
    rw [txt_one, ← ByteArray.append_assoc] at hres
    rw [txt_one] at hb
    simp only [app_size, bs_size, List.length_cons, List.length_nil] at hb
    refine .step (fun l => eJ40x0v1 l _ _ _ _ _ _) (.pos (by simp; omega) (.geti rfl hg (.pos hc (.step (fun l => eJ40x1000006v1 l _ _ _ _ _ _ _ _ _ _ _ _ _ _ _ _) (.ask hx.2.1 (.ask (line_p (s := bs [32, 32] ++ bs [116, 104, 101, 111, 114, 101, 109] ++ bs [32] ++ gS r 0 ++ bs [32, 58, 32] ++ x) (.inr (.inl rfl)) (by simp only [joinB_cons, joinB_one]; refine bext ?_; simp only [appL, bsL, bl0, bl2, bl4, List.cons_append, List.nil_append, List.append_assoc]) (by simp) f b (by simp only [app_size, bs_size, List.length_cons, List.length_nil]; omega)) ?_))))))
    rw [wrap_suc i (by omega)]; exact hres
  · have hc : gB r 8 = false := by simpa using hc
    have hk : clW w r = w := by unfold clW; rw [hc, Bool.false_and, if_neg (by simp)]
    rw [hk] at hb hres
    rw [txt_one, ← ByteArray.append_assoc] at hres
    rw [txt_one] at hb
    simp only [app_size, bs_size, List.length_cons, List.length_nil] at hb
    refine .step (fun l => eJ40x0v1 l _ _ _ _ _ _) (.pos (by simp; omega) (.geti rfl hg (.neg hc (.step (fun l => eJ40x1000006v1 l _ _ _ _ _ _ _ _ _ _ _ _ _ _ _ _) (.ask hx.2.1 (.ask (line_p (s := bs [32, 32] ++ w ++ bs [32] ++ gS r 0 ++ bs [32, 58, 32] ++ x) (.inr (.inl rfl)) (by simp only [joinB_cons, joinB_one]; refine bext ?_; simp only [appL, bsL, bl0, bl2, bl4, List.cons_append, List.nil_append, List.append_assoc]) (by simp) f b (by simp only [app_size, bs_size, List.length_cons, List.length_nil]; omega)) ?_))))))
    rw [wrap_suc i (by omega)]; exact hres
theorem st_J14x4 {a0 : Int} {a1 : ByteArray} {a2 : Rows} {a3 : ByteArray} {a4 a5 a6 a7 a8 a9 : Rows} {a10 : Bool} {a11 a12 a13 : Rows} {rows : Rows} (hl : rows.length ≤ 4611686018427387904) : StepW (PD (bs [32, 32, 99, 111, 110, 115, 116, 97, 110, 116, 32]) (bs [32, 58, 32])) rows (fun l i f b => J14x4 l rows rows.length i f a0 a1 a2 a3 a4 a5 a6 a7 a8 a9 a10 a11 a12 a13 b) (fun l i f b => J14x4 l rows rows.length i f a0 a1 a2 a3 a4 a5 a6 a7 a8 a9 a10 a11 a12 a13 b) := by
  intro i r s f b hg hlt hP hb
  obtain ⟨x, hx, rfl⟩ := hP
  rw [txt_one] at hb
  simp only [app_size, bs_size, List.length_cons, List.length_nil] at hb
  refine ⟨true, fun res hres => ?_⟩
  rw [txt_one, ← ByteArray.append_assoc] at hres
  refine .step (fun l => eJ14x4 l _ _ _ _ _ _ _ _ _ _ _ _ _ _ _ _ _ _ _) (.pos (by simp; omega) (.geti rfl hg (.ask hx.2.1 (.ask (line_p (s := bs [32, 32, 99, 111, 110, 115, 116, 97, 110, 116, 32] ++ gS r 0 ++ bs [32, 58, 32] ++ x) (.inr (.inl rfl)) (by simp only [joinB_cons, joinB_one]; refine bext ?_; simp only [appL, bsL, bl0, bl2, bl4, List.cons_append, List.nil_append, List.append_assoc]) (by simp) f b (by simp only [app_size, bs_size, List.length_cons, List.length_nil]; omega)) ?_))))
  rw [wrap_suc i (by omega)]; exact hres
theorem st_J15x0 {a0 : Int} {a1 : ByteArray} {a2 : Rows} {a3 : ByteArray} {a4 a5 a6 a7 a8 a9 : Rows} {a10 : Bool} {a11 a12 a13 : Rows} {rows : Rows} (hl : rows.length ≤ 4611686018427387904) : StepW (PD (bs [32, 32, 118, 97, 114, 32]) (bs [32, 58, 32])) rows (fun l i f b => J15x0 l rows rows.length i f a0 a1 a2 a3 a4 a5 a6 a7 a8 a9 a10 a11 a12 a13 b) (fun l i f b => J15x0 l rows rows.length i f a0 a1 a2 a3 a4 a5 a6 a7 a8 a9 a10 a11 a12 a13 b) := by
  intro i r s f b hg hlt hP hb
  obtain ⟨x, hx, rfl⟩ := hP
  rw [txt_one] at hb
  simp only [app_size, bs_size, List.length_cons, List.length_nil] at hb
  refine ⟨true, fun res hres => ?_⟩
  rw [txt_one, ← ByteArray.append_assoc] at hres
  refine .step (fun l => eJ15x0 l _ _ _ _ _ _ _ _ _ _ _ _ _ _ _ _ _ _ _) (.pos (by simp; omega) (.geti rfl hg (.ask hx.2.1 (.ask (line_p (s := bs [32, 32, 118, 97, 114, 32] ++ gS r 0 ++ bs [32, 58, 32] ++ x) (.inr (.inl rfl)) (by simp only [joinB_cons, joinB_one]; refine bext ?_; simp only [appL, bsL, bl0, bl2, bl4, List.cons_append, List.nil_append, List.append_assoc]) (by simp) f b (by simp only [app_size, bs_size, List.length_cons, List.length_nil]; omega)) ?_))))
  rw [wrap_suc i (by omega)]; exact hres
theorem st_J15x4 {a0 : Int} {a1 : ByteArray} {a2 : Rows} {a3 : ByteArray} {a4 a5 a6 a7 a8 a9 : Rows} {a10 : Bool} {a11 a12 a13 : Rows} {rows : Rows} (hl : rows.length ≤ 4611686018427387904) : StepW (PV) rows (fun l i f b => J15x4 l rows rows.length i f a0 a1 a2 a3 a4 a5 a6 a7 a8 a9 a10 a11 a12 a13 b) (fun l i f b => J15x4 l rows rows.length i f a0 a1 a2 a3 a4 a5 a6 a7 a8 a9 a10 a11 a12 a13 b) := by
  intro i r s f b hg hlt hP hb
  obtain ⟨x, hx, rfl⟩ := hP
  rw [txt_one] at hb
  simp only [app_size, bs_size, List.length_cons, List.length_nil] at hb
  refine ⟨true, fun res hres => ?_⟩
  rw [txt_one, ← ByteArray.append_assoc] at hres
  refine .step (fun l => eJ15x4 l _ _ _ _ _ _ _ _ _ _ _ _ _ _ _ _ _ _ _) (.pos (by simp; omega) (.geti rfl hg (.ask hx.2.1 (.ask (line_p (s := bs [32, 32, 118, 97, 114, 105, 97, 110, 116, 32] ++ x) (.inr (.inl rfl)) (by simp only [joinB_cons, joinB_one]; refine bext ?_; simp only [appL, bsL, bl0, bl2, bl4, List.cons_append, List.nil_append, List.append_assoc]) (by simp) f b (by simp only [app_size, bs_size, List.length_cons, List.length_nil]; omega)) ?_))))
  rw [wrap_suc i (by omega)]; exact hres
theorem st_J14x0 {a0 : Int} {a1 : ByteArray} {a2 : Rows} {a3 : ByteArray} {a4 a5 a6 a7 a8 a9 : Rows} {a10 : Bool} {a11 a12 a13 : Rows} {rows : Rows} (hm : ∀ r, r ∈ rows → Room (wtR r)) (hl : rows.length ≤ 4611686018427387904) : StepW (PE) rows (fun l i f b => J14x0 l rows rows.length i f a0 a1 a2 a3 a4 a5 a6 a7 a8 a9 a10 a11 a12 a13 b) (fun l i f b => J14x0 l rows rows.length i f a0 a1 a2 a3 a4 a5 a6 a7 a8 a9 a10 a11 a12 a13 b) := by
  intro i r s f b hg hlt hP hb
  obtain rfl := hP
  refine ⟨true, fun res hres => ?_⟩
  by_cases hc : (gD r 1).length = 0
  · rw [if_pos hc] at hb hres
    rw [txt_one, ← ByteArray.append_assoc] at hres
    rw [txt_one] at hb
    simp only [app_size, bs_size, List.length_cons, List.length_nil] at hb
    refine .step (fun l => eJ14x0 l _ _ _ _ _ _ _ _ _ _ _ _ _ _ _ _ _ _ _) (.pos (by simp; omega) (.geti rfl hg (.pos (by simpa using hc) (.ask (line_p (s := bs [32, 32, 115, 101, 116, 32] ++ gS r 0) (.inr (.inl rfl)) (by simp only [joinB_cons, joinB_one]; refine bext ?_; simp only [appL, bsL, bl0, bl2, bl4, List.cons_append, List.nil_append, List.append_assoc]) (by simp) f b (by simp only [app_size, bs_size, List.length_cons, List.length_nil]; omega)) (.step (fun l => eJ14x1000008 l _ _ _ _ _ _ _ _ _ _ _ _ _ _ _ _ _ _ _) ?_)))))
    rw [wrap_suc i (by omega)]; exact hres
  · rw [if_neg hc] at hb hres
    rw [txt_one, ← ByteArray.append_assoc] at hres
    rw [txt_one] at hb
    simp only [app_size, bs_size, List.length_cons, List.length_nil] at hb
    have hroom := hm r (List.mem_of_getElem? hg)
    have hlen : (gD r 1).length ≤ 1099511627776 := Nat.le_trans (wt_len _) (Nat.le_trans (wt_gD r 1) hroom)
    refine .step (fun l => eJ14x0 l _ _ _ _ _ _ _ _ _ _ _ _ _ _ _ _ _ _ _) (.pos (by simp; omega) (.geti rfl hg (.neg (by simpa using hc) (.fits ?_ (.ask (line_p (s := bs [32, 32, 101, 110, 117, 109, 32] ++ gS r 0 ++ bs [32, 58, 32] ++ joinB (gD r 1) (bs [32])) (.inr (.inl rfl)) ?_ ?_ f b (by simp only [app_size, bs_size, List.length_cons, List.length_nil]; omega)) (.step (fun l => eJ14x1000008 l _ _ _ _ _ _ _ _ _ _ _ _ _ _ _ _ _ _ _) ?_))))))
    · simp only [List.length_cons, List.length_nil]; omega
    · cases hns : gD r 1 with
      | nil => rw [hns] at hc; exact absurd rfl hc
      | cons q qs =>
        simp only [List.cons_append, List.nil_append, joinB_cons]; refine bext ?_; simp only [appL, bsL, bl0, bl2, bl4, List.cons_append, List.nil_append, List.append_assoc]
    · simp only [List.length_append, List.length_cons, List.length_nil]; omega
    · rw [wrap_suc i (by omega)]; exact hres
theorem sr_J17x4 {a0 : Int} {a1 : ByteArray} {a2 : Rows} {a3 : ByteArray} {a4 a5 a6 a7 a8 a9 : Rows} {a10 : Bool} {a11 a12 a13 : Rows} {rows : Rows} (hl : rows.length ≤ 4611686018427387904) (hm : ∀ r, r ∈ rows → Room (wtR r)) : StepR (PD (bs [32, 32, 99, 111, 110, 115, 116, 97, 110, 116, 32]) (bs [32, 58, 32])) rows (fun l i out => J17x4 l rows rows.length i a0 a1 a2 a3 a4 a5 a6 a7 a8 a9 a10 a11 a12 a13 out) := by
  intro i r s out res hg hlt hP hb hres
  have hroom := hm r (List.mem_of_getElem? hg)
  have hn0 := wt_gS r 0
  unfold Room at hroom
  obtain ⟨x, hx, rfl⟩ := hP
  have hb : out.length + 1 ≤ 8796093022208 := hb
  have hz := hx.1
  refine .step (fun l => eJ17x4 l _ _ _ _ _ _ _ _ _ _ _ _ _ _ _ _ _ _) (.pos (by simp; omega) (.geti rfl hg (.scat (by first | omega | (simp only [app_size, bs_size, List.length_cons, List.length_nil]; omega)) (.scat (by first | omega | (simp only [app_size, bs_size, List.length_cons, List.length_nil]; omega)) (.ask hx.2.2 (.scat (by first | omega | (simp only [app_size, bs_size, List.length_cons, List.length_nil]; omega)) (.fits (by simp only [List.length_cons, List.length_nil]; omega) ?_)))))))
  rw [wrap_suc i (by omega)]; exact hres
theorem sr_J18x0 {a0 : Int} {a1 : ByteArray} {a2 : Rows} {a3 : ByteArray} {a4 a5 a6 a7 a8 a9 : Rows} {a10 : Bool} {a11 a12 a13 : Rows} {rows : Rows} (hl : rows.length ≤ 4611686018427387904) (hm : ∀ r, r ∈ rows → Room (wtR r)) : StepR (PD (bs [32, 32, 118, 97, 114, 32]) (bs [32, 58, 32])) rows (fun l i out => J18x0 l rows rows.length i a0 a1 a2 a3 a4 a5 a6 a7 a8 a9 a10 a11 a12 a13 out) := by
  intro i r s out res hg hlt hP hb hres
  have hroom := hm r (List.mem_of_getElem? hg)
  have hn0 := wt_gS r 0
  unfold Room at hroom
  obtain ⟨x, hx, rfl⟩ := hP
  have hb : out.length + 1 ≤ 8796093022208 := hb
  have hz := hx.1
  refine .step (fun l => eJ18x0 l _ _ _ _ _ _ _ _ _ _ _ _ _ _ _ _ _ _) (.pos (by simp; omega) (.geti rfl hg (.scat (by first | omega | (simp only [app_size, bs_size, List.length_cons, List.length_nil]; omega)) (.scat (by first | omega | (simp only [app_size, bs_size, List.length_cons, List.length_nil]; omega)) (.ask hx.2.2 (.scat (by first | omega | (simp only [app_size, bs_size, List.length_cons, List.length_nil]; omega)) (.fits (by simp only [List.length_cons, List.length_nil]; omega) ?_)))))))
  rw [wrap_suc i (by omega)]; exact hres
theorem sr_J47x0 {ac rows : Rows} (hl : rows.length ≤ 4611686018427387904) (hm : ∀ r, r ∈ rows → Room (wtR r)) : StepR (PT (bs [32, 32, 32, 32, 119, 105, 116, 104, 32]) (bs [32, 61, 32])) rows (fun l i out => J47x0 l ac rows rows.length i out) := by
  intro i r s out res hg hlt hP hb hres
  have hroom := hm r (List.mem_of_getElem? hg)
  have hn0 := wt_gS r 0
  unfold Room at hroom
  obtain ⟨x, hx, rfl⟩ := hP
  have hb : out.length + 1 ≤ 8796093022208 := hb
  have hz := hx.1
  refine .step (fun l => eJ47x0 l _ _ _ _ _) (.pos (by simp; omega) (.geti rfl hg (.scat (by first | omega | (simp only [app_size, bs_size, List.length_cons, List.length_nil]; omega)) (.scat (by first | omega | (simp only [app_size, bs_size, List.length_cons, List.length_nil]; omega)) (.ask hx.2.2 (.scat (by first | omega | (simp only [app_size, bs_size, List.length_cons, List.length_nil]; omega)) (.fits (by simp only [List.length_cons, List.length_nil]; omega) ?_)))))))
  rw [wrap_suc i (by omega)]; exact hres
theorem sr_J18x12 {c0 : Rows} {c1 c2 : Int} {nm : ByteArray} {rf : Rows} {st : Int} {ps gs wt ac rows : Rows} (hl : rows.length ≤ 4611686018427387904) (hm : ∀ r, r ∈ rows → Room (wtR r)) : StepR (PT (bs [32, 32, 32, 32, 97, 110, 121, 32]) (bs [32, 105, 110, 32])) rows (fun l i out => J18x12 l c0 c1 c2 rows rows.length i out nm rf st ps gs wt ac) := by
  intro i r s out res hg hlt hP hb hres
  have hroom := hm r (List.mem_of_getElem? hg)
  have hn0 := wt_gS r 0
  unfold Room at hroom
  obtain ⟨x, hx, rfl⟩ := hP
  have hb : out.length + 1 ≤ 8796093022208 := hb
  have hz := hx.1
  refine .step (fun l => eJ18x12 l _ _ _ _ _ _ _ _ _ _ _ _ _ _) (.pos (by simp; omega) (.geti rfl hg (.scat (by first | omega | (simp only [app_size, bs_size, List.length_cons, List.length_nil]; omega)) (.scat (by first | omega | (simp only [app_size, bs_size, List.length_cons, List.length_nil]; omega)) (.ask hx.2.2 (.scat (by first | omega | (simp only [app_size, bs_size, List.length_cons, List.length_nil]; omega)) (.fits (by simp only [List.length_cons, List.length_nil]; omega) ?_)))))))
  rw [wrap_suc i (by omega)]; exact hres
theorem sr_J18x4 {a0 : Int} {a1 : ByteArray} {a2 : Rows} {a3 : ByteArray} {a4 a5 a6 a7 a8 a9 : Rows} {a10 : Bool} {a11 a12 a13 : Rows} {rows : Rows} (hl : rows.length ≤ 4611686018427387904) (hm : ∀ r, r ∈ rows → Room (wtR r)) : StepR (PV) rows (fun l i out => J18x4 l rows rows.length i a0 a1 a2 a3 a4 a5 a6 a7 a8 a9 a10 a11 a12 a13 out) := by
  intro i r s out res hg hlt hP hb hres
  have hroom := hm r (List.mem_of_getElem? hg)
  have hn0 := wt_gS r 0
  unfold Room at hroom
  obtain ⟨x, hx, rfl⟩ := hP
  have hb : out.length + 1 ≤ 8796093022208 := hb
  have hz := hx.1
  refine .step (fun l => eJ18x4 l _ _ _ _ _ _ _ _ _ _ _ _ _ _ _ _ _ _) (.pos (by simp; omega) (.geti rfl hg (.ask hx.2.2 (.scat (by first | omega | (simp only [app_size, bs_size, List.length_cons, List.length_nil]; omega)) (.fits (by simp only [List.length_cons, List.length_nil]; omega) ?_)))))
  rw [wrap_suc i (by omega)]; exact hres
theorem sr_J17x0 {a0 : Int} {a1 : ByteArray} {a2 : Rows} {a3 : ByteArray} {a4 a5 a6 a7 a8 a9 : Rows} {a10 : Bool} {a11 a12 a13 : Rows} {rows : Rows} (hl : rows.length ≤ 4611686018427387904) (hm : ∀ r, r ∈ rows → Room (wtR r)) : StepR (PE) rows (fun l i out => J17x0 l rows rows.length i a0 a1 a2 a3 a4 a5 a6 a7 a8 a9 a10 a11 a12 a13 out) := by
  intro i r s out res hg hlt hP hb hres
  have hroom := hm r (List.mem_of_getElem? hg)
  have hn0 := wt_gS r 0
  unfold Room at hroom
  obtain rfl := hP
  have hb : out.length + 1 ≤ 8796093022208 := hb
  by_cases hc : (gD r 1).length = 0
  · rw [if_pos hc] at hres
    refine .step (fun l => eJ17x0 l _ _ _ _ _ _ _ _ _ _ _ _ _ _ _ _ _ _) (.pos (by simp; omega) (.geti rfl hg (.neg (decide_eq_false (by omega)) (.scat (by first | omega | (simp only [app_size, bs_size, List.length_cons, List.length_nil]; omega)) (.fits (by simp only [List.length_cons, List.length_nil]; omega) (.step (fun l => eJ17x1000008 l _ _ _ _ _ _ _ _ _ _ _ _ _ _ _ _ _ _) ?_))))))
    rw [wrap_suc i (by omega)]; exact hres
  · rw [if_neg hc] at hres
    have hj := joinB_size (bs [32]) (by decide) (gD r 1)
    have hlen := wt_len (gD r 1)
    have hgd := wt_gD r 1
    refine .step (fun l => eJ17x0 l _ _ _ _ _ _ _ _ _ _ _ _ _ _ _ _ _ _) (.pos (by simp; omega) (.geti rfl hg (.pos (decide_eq_true (by omega)) (.scat (by first | omega | (simp only [app_size, bs_size, List.length_cons, List.length_nil]; omega)) (.scat (by first | omega | (simp only [app_size, bs_size, List.length_cons, List.length_nil]; omega)) (.pos (joinOK_of (by omega) (by omega)) (.scat (by first | omega | (simp only [app_size, bs_size, List.length_cons, List.length_nil]; omega)) (.fits (by simp only [List.length_cons, List.length_nil]; omega) (.step (fun l => eJ17x1000008 l _ _ _ _ _ _ _ _ _ _ _ _ _ _ _ _ _ _) ?_)))))))))
    rw [wrap_suc i (by omega)]; exact hres
theorem sr_J47x4 {rows : Rows} (hl : rows.length ≤ 4611686018427387904) (hm : ∀ r, r ∈ rows → Room (wtR r)) : StepR (PA) rows (fun l i out => J47x4 l rows rows.length i out) := by
  intro i r s out res hg hlt hP hb hres
  have hroom := hm r (List.mem_of_getElem? hg)
  have hn0 := wt_gS r 0
  unfold Room at hroom
  obtain ⟨x, hx, rfl⟩ := hP
  have hb : out.length + 1 ≤ 8796093022208 := hb
  have hz := hx.1
  by_cases hc : gB r 1 = true
  · rw [if_pos hc] at hres
    refine .step (fun l => eJ47x4 l _ _ _ _) (.pos (by simp; omega) (.geti rfl hg (.pos hc (.step (fun l => eJ47x1000013 l _ _ _ _ _ _ _ _ _ _ _ _ _ _) (.scat (by first | omega | (simp only [app_size, bs_size, List.length_cons, List.length_nil]; omega)) (.scat (by first | omega | (simp only [app_size, bs_size, List.length_cons, List.length_nil]; omega)) (.ask hx.2.2 (.scat (by first | omega | (simp only [app_size, bs_size, List.length_cons, List.length_nil]; omega)) (.fits (by simp only [List.length_cons, List.length_nil]; omega) ?_)))))))))
    rw [wrap_suc i (by omega)]; exact hres
  · rw [if_neg hc] at hres
    refine .step (fun l => eJ47x4 l _ _ _ _) (.pos (by simp; omega) (.geti rfl hg (.neg (by simpa using hc) (.step (fun l => eJ47x1000013 l _ _ _ _ _ _ _ _ _ _ _ _ _ _) (.scat (by first | omega | (simp only [app_size, bs_size, List.length_cons, List.length_nil]; omega)) (.scat (by first | omega | (simp only [app_size, bs_size, List.length_cons, List.length_nil]; omega)) (.ask hx.2.2 (.scat (by first | omega | (simp only [app_size, bs_size, List.length_cons, List.length_nil]; omega)) (.fits (by simp only [List.length_cons, List.length_nil]; omega) ?_)))))))))
    rw [wrap_suc i (by omega)]; exact hres
theorem sr_J45x0 {ind w : ByteArray} (hi : ind.size ≤ 20) (hw : w.size ≤ 20) {rows : Rows} (hl : rows.length ≤ 4611686018427387904) (hm : ∀ r, r ∈ rows → Room (wtR r)) : StepR (PC ind w) rows (fun l i out => J45x0 l ind w rows rows.length i out) := by
  intro i r s out res hg hlt hP hb hres
  have hroom := hm r (List.mem_of_getElem? hg)
  have hn0 := wt_gS r 0
  unfold Room at hroom
  obtain ⟨x, hx, rfl⟩ := hP
  have hb : out.length + 1 ≤ 8796093022208 := hb
  have hz := hx.1
  have hk := clW_size hw r
  cases h8 : gB r 8 with
  | true =>
    cases hb2 : beqS w (bs [119, 104, 101, 110]) with
    | false =>
    have hk : clW w r = bs [116, 104, 101, 111, 114, 101, 109] := by unfold clW; rw [h8, hb2, Bool.not_false, Bool.and_true, if_pos rfl]
    rw [hk] at hres
    refine .step (fun l => eJ45x0 l _ _ _ _ _ _) (.pos (by simp; omega) (.geti rfl hg (.pos h8 (.pos (by rw [hb2]; rfl) (.step (fun l => eJ45x1000008 l _ _ _ _ _ _ _ _ _ _ _ _ _ _ _ _) (.scat (by first | omega | (simp only [app_size, bs_size, List.length_cons, List.length_nil]; omega)) (.scat (by first | omega | (simp only [app_size, bs_size, List.length_cons, List.length_nil]; omega)) (.scat (by first | omega | (simp only [app_size, bs_size, List.length_cons, List.length_nil]; omega)) (.scat (by first | omega | (simp only [app_size, bs_size, List.length_cons, List.length_nil]; omega)) (.ask hx.2.2 (.scat (by first | omega | (simp only [app_size, bs_size, List.length_cons, List.length_nil]; omega)) (.fits (by simp only [List.length_cons, List.length_nil]; omega) ?_))))))))))))
    rw [wrap_suc i (by omega)]; exact hres
    | true =>
    have hk : clW w r = w := by unfold clW; rw [hb2, Bool.not_true, Bool.and_false, if_neg (by simp)]
    rw [hk] at hres
    refine .step (fun l => eJ45x0 l _ _ _ _ _ _) (.pos (by simp; omega) (.geti rfl hg (.pos h8 (.neg (by rw [hb2]; rfl) (.step (fun l => eJ45x1000008 l _ _ _ _ _ _ _ _ _ _ _ _ _ _ _ _) (.scat (by first | omega | (simp only [app_size, bs_size, List.length_cons, List.length_nil]; omega)) (.scat (by first | omega | (simp only [app_size, bs_size, List.length_cons, List.length_nil]; omega)) (.scat (by first | omega | (simp only [app_size, bs_size, List.length_cons, List.length_nil]; omega)) (.scat (by first | omega | (simp only [app_size, bs_size, List.length_cons, List.length_nil]; omega)) (.ask hx.2.2 (.scat (by first | omega | (simp only [app_size, bs_size, List.length_cons, List.length_nil]; omega)) (.fits (by simp only [List.length_cons, List.length_nil]; omega) ?_))))))))))))
    rw [wrap_suc i (by omega)]; exact hres
  | false =>
    have hk : clW w r = w := by unfold clW; rw [h8, Bool.false_and, if_neg (by simp)]
    rw [hk] at hres
    refine .step (fun l => eJ45x0 l _ _ _ _ _ _) (.pos (by simp; omega) (.geti rfl hg (.neg h8 (.step (fun l => eJ45x1000008 l _ _ _ _ _ _ _ _ _ _ _ _ _ _ _ _) (.scat (by first | omega | (simp only [app_size, bs_size, List.length_cons, List.length_nil]; omega)) (.scat (by first | omega | (simp only [app_size, bs_size, List.length_cons, List.length_nil]; omega)) (.scat (by first | omega | (simp only [app_size, bs_size, List.length_cons, List.length_nil]; omega)) (.scat (by first | omega | (simp only [app_size, bs_size, List.length_cons, List.length_nil]; omega)) (.ask hx.2.2 (.scat (by first | omega | (simp only [app_size, bs_size, List.length_cons, List.length_nil]; omega)) (.fits (by simp only [List.length_cons, List.length_nil]; omega) ?_)))))))))))
    rw [wrap_suc i (by omega)]; exact hres
end Go.AI
end
