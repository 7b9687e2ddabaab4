/-
  Texts of projects: program and reference print alike.
-/
import Derived.Test.YtbdcnekkebhhhaaGreatDoorPc
set_option linter.all false

section
namespace Go.AI
open Go
set_option linter.all false
abbrev ind2 : ByteArray := bs [32, 32]
abbrev cAxiom : ByteArray := bs [97, 120, 105, 111, 109]
abbrev cInv : ByteArray := bs [105, 110, 118, 97, 114, 105, 97, 110, 116]
abbrev cWhen : ByteArray := bs [119, 104, 101, 110]
abbrev ind4 : ByteArray := bs [32, 32, 32, 32]
abbrev PAny := PT (bs [32, 32, 32, 32, 97, 110, 121, 32]) (bs [32, 105, 110, 32])
abbrev PWith := PT (bs [32, 32, 32, 32, 119, 105, 116, 104, 32]) (bs [32, 61, 32])
abbrev PConst := PD (bs [32, 32, 99, 111, 110, 115, 116, 97, 110, 116, 32]) (bs [32, 58, 32])
abbrev PVar := PD (bs [32, 32, 118, 97, 114, 32]) (bs [32, 58, 32])
theorem room_mem {rows : Rows} (h : Room (wtRs rows)) : ∀ r, r ∈ rows → Room (wtR r) := fun r hr => by have := wt_mem hr; unfold Room at *; omega
theorem room_len {rows : Rows} (h : Room (wtRs rows)) : rows.length ≤ 4611686018427387904 := by have := wt_len rows; unfold Room at h; omega
theorem nil_len {rows : Rows} (h : rows = []) : decide (((0 : Nat) : Int) < (rows.length : Int)) = false := by subst h; rfl
section
variable {nm : ByteArray} {rf : Rows} {st : Int} {ps gs wt ac : Rows} {l1 l2 l3 l4 : List ByteArray}
theorem acts0 (hl : ac.length ≤ 4611686018427387904) (h : XS PA ac l4) : WrE (fun l f b => J42x12 l ac ac.length ((0 : Nat) : Int) f b) (txt l4 ++ bs []) :=
  loop_w0 (J0 := fun l i f b => J42x12 l ac ac.length i f b) (J := fun l i f b => J42x12v1 l ac ac.length i f b) (st_J42x12 hl)
    (fun e => .nil fun f b => .step (fun l => eJ42x12 l _ _ _ _ _) (.neg (nil_len e) (.ret _))) (st_J42x12v1 hl)
    (.nil fun f b => .step (fun l => eJ42x12v1 l _ _ _ _ _) (.neg (by simp) (.ret _))) h
theorem acts1 (hl : ac.length ≤ 4611686018427387904) (h : XS PA ac l4) : WrE (fun l f b => J42x12v1 l ac ac.length ((0 : Nat) : Int) f b) (txt l4 ++ bs []) :=
  loop_w (J := fun l i f b => J42x12v1 l ac ac.length i f b) (st_J42x12v1 hl) (.nil fun f b => .step (fun l => eJ42x12v1 l _ _ _ _ _) (.neg (by simp) (.ret _))) _ rfl (Nat.zero_le _) h
theorem init_p (hw : wt.length ≤ 4611686018427387904) (hl : ac.length ≤ 4611686018427387904) (h3 : XS PWith wt l3) (h4 : XS PA ac l4) : WrE (fun l f b => F42 l nm st wt ac f b) (txt l3 ++ (txt l4 ++ bs [])) := by
  refine .step (fun l f b => eF42 l _ _ _ _ _ _) (.step (fun l f b => (eJ42x0 l _ _ _ _ _ _ _ _ _ _ _ _).trans (sIteF rfl)) (.step (fun l f b => (eJ42x4 l _ _ _ _ _ _ _ _ _ _ _ _).trans (sIteF rfl)) ?_))
  exact loop_w0 (J0 := fun l i f b => J42x8 l wt wt.length i f b nm st wt ac [] [] []) (J := fun l i f b => J42x8v1 l wt wt.length i f nm st wt ac b [] [] []) (st_J42x8 hw)
    (fun e => .step (fun l f b => (eJ42x8 l _ _ _ _ _ _ _ _ _ _ _ _).trans (sIteF (nil_len e))) (acts0 hl h4)) (st_J42x8v1 hw)
    (.step (fun l f b => (eJ42x8v1 l _ _ _ _ _ _ _ _ _ _ _ _).trans (sIteF (by simp))) (acts1 hl h4)) h3
theorem body_p (hp : ps.length ≤ 4611686018427387904) (hg : gs.length ≤ 4611686018427387904) (hw : wt.length ≤ 4611686018427387904) (hl : ac.length ≤ 4611686018427387904) (h1 : XS PAny ps l1) (h2 : XS (PC ind4 cWhen) gs l2) (h3 : XS PWith wt l3) (h4 : XS PA ac l4) :
    WrE (fun l f b => F42v1 l nm rf st ps gs wt ac f b) (txt l1 ++ (txt l2 ++ (txt l3 ++ (txt l4 ++ bs [])))) := by
  have w3 : WrE (fun l f b => J42x8v3 l wt wt.length ((0 : Nat) : Int) f nm rf st ps gs wt ac b) (txt l3 ++ (txt l4 ++ bs [])) :=
    loop_w (J := fun l i f b => J42x8v3 l wt wt.length i f nm rf st ps gs wt ac b) (st_J42x8v3 hw) (.step (fun l f b => (eJ42x8v3 l _ _ _ _ _ _ _ _ _ _ _ _).trans (sIteF (by simp))) (acts1 hl h4)) _ rfl (Nat.zero_le _) h3
  have w2 : WrE (fun l f b => J42x8v2 l wt wt.length ((0 : Nat) : Int) f b nm rf st ps gs wt ac) (txt l3 ++ (txt l4 ++ bs [])) :=
    loop_w0 (J0 := fun l i f b => J42x8v2 l wt wt.length i f b nm rf st ps gs wt ac) (J := fun l i f b => J42x8v3 l wt wt.length i f nm rf st ps gs wt ac b) (st_J42x8v2 hw)
      (fun e => .step (fun l f b => (eJ42x8v2 l _ _ _ _ _ _ _ _ _ _ _ _).trans (sIteF (nil_len e))) (acts0 hl h4)) (st_J42x8v3 hw)
      (.step (fun l f b => (eJ42x8v3 l _ _ _ _ _ _ _ _ _ _ _ _).trans (sIteF (by simp))) (acts1 hl h4)) h3
  have g3 : WrE (fun l f b => J42x4v3 l gs gs.length ((0 : Nat) : Int) f nm rf st ps gs wt ac b) (txt l2 ++ (txt l3 ++ (txt l4 ++ bs []))) :=
    loop_w (J := fun l i f b => J42x4v3 l gs gs.length i f nm rf st ps gs wt ac b) (st_J42x4v3 hg) (.step (fun l f b => (eJ42x4v3 l _ _ _ _ _ _ _ _ _ _ _ _).trans (sIteF (by simp))) w3) _ rfl (Nat.zero_le _) h2
  have g2 : WrE (fun l f b => J42x4v2 l gs gs.length ((0 : Nat) : Int) f b nm rf st ps gs wt ac) (txt l2 ++ (txt l3 ++ (txt l4 ++ bs []))) :=
    loop_w0 (J0 := fun l i f b => J42x4v2 l gs gs.length i f b nm rf st ps gs wt ac) (J := fun l i f b => J42x4v3 l gs gs.length i f nm rf st ps gs wt ac b) (st_J42x4v2 hg)
      (fun e => .step (fun l f b => (eJ42x4v2 l _ _ _ _ _ _ _ _ _ _ _ _).trans (sIteF (nil_len e))) w2) (st_J42x4v3 hg)
      (.step (fun l f b => (eJ42x4v3 l _ _ _ _ _ _ _ _ _ _ _ _).trans (sIteF (by simp))) w3) h2
  refine .step (fun l f b => eF42v1 l _ _ _ _ _ _ _ _ _) ?_
  exact loop_w0 (J0 := fun l i f b => J42x0v2 l ps ps.length i f b nm rf st ps gs wt ac) (J := fun l i f b => J42x0v3 l ps ps.length i f nm rf st ps gs wt ac b) (st_J42x0v2 hp)
    (fun e => .step (fun l f b => (eJ42x0v2 l _ _ _ _ _ _ _ _ _ _ _ _).trans (sIteF (nil_len e))) g2) (st_J42x0v3 hp)
    (.step (fun l f b => (eJ42x0v3 l _ _ _ _ _ _ _ _ _ _ _ _).trans (sIteF (by simp))) g3) h1
theorem clauses_p {w : ByteArray} (hw : beqS w cWhen = false) {rows : Rows} (hl : rows.length ≤ 4611686018427387904) {ls : List ByteArray} (h : XS (PC ind2 w) rows ls) : WrE (fun l f b => F40 l w rows f b) (txt ls ++ bs []) := by
  refine .step (fun l f b => eF40 l _ _ _ _) ?_
  exact loop_w0 (J0 := fun l i f b => J40x0 l w rows rows.length i f b) (J := fun l i f b => J40x0v1 l w rows rows.length i f b) (st_J40x0 hw hl)
    (fun e => .nil fun f b => .step (fun l => eJ40x0 l _ _ _ _ _ _) (.neg (nil_len e) (.ret _))) (st_J40x0v1 hw hl)
    (.nil fun f b => .step (fun l => eJ40x0v1 l _ _ _ _ _ _) (.neg (by simp) (.ret _))) h
theorem clauses_r {ind w : ByteArray} (hi : ind.size ≤ 20) (hw : w.size ≤ 20) {rows : Rows} (hm : Room (wtRs rows)) {ls : List ByteArray} (h : XS (PC ind w) rows ls) (hn : ls.length ≤ 8796093022208) : Ev (fun l => F45 l ind w rows) (rowsL ls) := by
  have := loop_r (J := fun l i out => J45x0 l ind w rows rows.length i out) (lE := []) (sr_J45x0 hi hw (room_len hm) (room_mem hm)) (.nil fun out => .step (fun l => eJ45x0 l _ _ _ _ _ _) (.neg (by simp) (.ret _))) _ rfl (Nat.zero_le _) h [] (by simpa using hn)
  rw [List.append_nil] at this
  exact .step (fun l => eF45 l _ _ _) this
theorem effects_r (hw : Room (wtRs wt)) (ha : Room (wtRs ac)) (h3 : XS PWith wt l3) (h4 : XS PA ac l4) (hn : l3.length + l4.length ≤ 8796093022208) : Ev (fun l => F47 l wt ac) (rowsL (l3 ++ l4)) := by
  have e4 : RefE (fun l out => J47x4 l ac ac.length ((0 : Nat) : Int) out) (l4 ++ []) :=
    loop_r (J := fun l i out => J47x4 l ac ac.length i out) (sr_J47x4 (room_len ha) (room_mem ha)) (.nil fun out => .step (fun l => eJ47x4 l _ _ _ _) (.neg (by simp) (.ret _))) _ rfl (Nat.zero_le _) h4
  have := loop_r (J := fun l i out => J47x0 l ac wt wt.length i out) (sr_J47x0 (ac := ac) (room_len hw) (room_mem hw)) (.step (fun l out => (eJ47x0 l _ _ _ _ _).trans (sIteF (by simp))) e4) _ rfl (Nat.zero_le _) h3 [] (by simp; omega)
  rw [List.append_nil] at this
  exact .step (fun l => eF47 l _ _) this
end
def listB (w : ByteArray) (ns : Rows) : ByteArray := if ns.length = 0 then bs [] else bs [32] ++ w ++ bs [32] ++ joinB ns (bs [32])
def after (w : ByteArray) (ns : Rows) : Rows := if ns.length = 0 then [] else [[.sc (.string w)]] ++ ns
theorem after_len (w : ByteArray) (ns : Rows) : (after w ns).length ≤ ns.length + 1 := by unfold after; split <;> simp
theorem listB_size (w : ByteArray) (ns : Rows) : (listB w ns).size ≤ w.size + 2 + wtRs ns := by
  have := joinB_size (bs [32]) (by decide) ns
  unfold listB; split
  · rw [bs_size]; simp
  · simp only [app_size, bs_size, List.length_cons, List.length_nil]; omega
theorem list_s {w : ByteArray} (hw : w.size ≤ 100) {ns : Rows} (hm : Room (wtRs ns)) : Ev (fun l => F43 l w ns) (listB w ns) := by
  have h1 := joinB_size (bs [32]) (by decide) ns
  have h2 := wt_len ns
  unfold Room at hm
  unfold listB
  refine .step (fun l => eF43 l _ _) (.ite (fun h => ?_) (fun h => ?_))
  · rw [if_pos (by simpa using h)]; exact .ret _
  · rw [if_neg (by simpa using h)]
    exact .scat (by simp only [app_size, bs_size, List.length_cons, List.length_nil]; omega) (.scat (by simp only [app_size, bs_size, List.length_cons, List.length_nil]; omega) (.pos (joinOK_of (by omega) (by omega)) (.scat (by simp only [app_size, bs_size, List.length_cons, List.length_nil]; omega) (.ret _))))
theorem after_p {w : ByteArray} {ns : Rows} (hm : Room (wtRs ns)) : Ev (fun l => F38 l w ns) (after w ns) := by
  have h2 := wt_len ns
  unfold Room at hm
  unfold after
  refine .step (fun l => eF38 l _ _) (.ite (fun h => ?_) (fun h => ?_))
  · rw [if_pos (by simpa using h)]; exact .ret _
  · rw [if_neg (by simpa using h)]
    exact .fits (by simp only [List.length_cons, List.length_nil]; omega) (.ret _)
theorem head_eq (a b : ByteArray) (w : ByteArray) (ns : Rows) : joinB ([[.sc (.string a)], [.sc (.string b)]] ++ after w ns) (bs [32]) = a ++ (bs [32] ++ (b ++ listB w ns)) := by
  unfold after listB
  cases ns with
  | nil => simp only [List.length_nil, if_pos, List.append_nil, joinB_cons, joinB_one, app_nil]
  | cons q qs =>
    rw [if_neg (by simp), if_neg (by simp)]
    simp only [List.cons_append, List.nil_append, joinB_cons, ByteArray.append_assoc]
theorem head_eq4 (a b c d : ByteArray) (w : ByteArray) (ns : Rows) : joinB (([[.sc (.string a)], [.sc (.string b)]] ++ [[.sc (.string c)], [.sc (.string d)]]) ++ after w ns) (bs [32]) = a ++ (bs [32] ++ (b ++ (bs [32] ++ (c ++ (bs [32] ++ (d ++ listB w ns)))))) := by
  unfold after listB
  cases ns with
  | nil => simp only [List.length_nil, if_pos, List.append_nil, List.cons_append, List.nil_append, joinB_cons, joinB_one, app_nil]
  | cons q qs =>
    rw [if_neg (by simp), if_neg (by simp)]
    simp only [List.cons_append, List.nil_append, joinB_cons, ByteArray.append_assoc]
theorem head_eqs (a b c : ByteArray) (w : ByteArray) (ns : Rows) : joinB (([[.sc (.string a)], [.sc (.string b)]] ++ after w ns) ++ [[.sc (.string c)]]) (bs [32]) = a ++ (bs [32] ++ (b ++ (listB w ns ++ (bs [32] ++ c)))) := by
  unfold after listB
  cases ns with
  | nil => simp only [List.length_nil, if_pos, List.append_nil, List.cons_append, List.nil_append, joinB_cons, joinB_one]; exact bext (by simp)
  | cons q qs =>
    rw [if_neg (by simp), if_neg (by simp)]
    simp only [List.cons_append, List.nil_append, joinB_cons, ByteArray.append_assoc]
    rw [join_end q qs c]
  where
  join_end : ∀ (q : List AV) (qs : Rows) (c : ByteArray), joinB (q :: (qs ++ [[.sc (.string c)]])) (bs [32]) = joinB (q :: qs) (bs [32]) ++ (bs [32] ++ c)
  | q, [], c => by
    unfold joinB
    refine bext ?_
    have e : Lib.join (txts [q]) (bs [32]).data.toList = (gS q 0).data.toList := Lib.join_one _ _
    rw [e]
    show Lib.join [(gS q 0).data.toList, c.data.toList] _ = _
    rw [join_two, Lib.join_one]
    simp
  | q, q' :: qs, c => by
    have ih := join_end q' qs c
    have h1 : ∀ (x : List AV) (xs : Rows), joinB (q :: x :: xs) (bs [32]) = gS q 0 ++ (bs [32] ++ joinB (x :: xs) (bs [32])) := by
      intro x xs
      unfold joinB
      refine bext ?_
      show Lib.join ((gS q 0).data.toList :: (gS x 0).data.toList :: txts xs) _ = _
      rw [join_two]
      simp [txts]
    rw [List.cons_append, h1, h1, ih]
    simp only [ByteArray.append_assoc]
end Go.AI
end

/-
  Texts of projects: events, machines, contexts.
-/
section
namespace Go.AI
open Go
set_option linter.all false
theorem loop_rr {P : List AV → List ByteArray → Prop} {rows : Rows} {J : Nat → Int → Rows → Option Rows} (hstep : StepR P rows J) : ∀ (d : Nat) {ls : List ByteArray} {i : Nat}, rows.length - i = d → i ≤ rows.length → XS P (rows.drop i) ls → ∀ (out res : Rows), out.length + ls.length ≤ 8796093022208 →
    Ev (fun l => J l (rows.length : Int) (out ++ rowsL ls)) res → Ev (fun l => J l (i : Int) out) res
  | d, ls, i, hd0, hi, h, out, res, hb, hres => by
    generalize hx : rows.drop i = rs at h
    cases h with
    | nil =>
      have : i = rows.length := Nat.le_antisymm hi (List.drop_eq_nil_iff.1 hx)
      subst this
      have e : out ++ rowsL [] = out := List.append_nil _
      rw [e] at hres; exact hres
    | cons hr k =>
      rename_i r rs s ss
      obtain ⟨hlt, hg, hd⟩ := drop_cons hx
      cases d with
      | zero => omega
      | succ d =>
      simp only [List.length_append] at hb
      rw [rowsL_app, ← List.append_assoc] at hres
      exact hstep i r s out res hg hlt hr (by omega) (loop_rr hstep d (i := i + 1) (by omega) hlt (by rw [hd]; exact k) (out ++ rowsL s) res (by simp only [List.length_append, rowsL_len]; omega) hres)
abbrev cRef : ByteArray := bs [114, 101, 102, 105, 110, 101, 115]
def stB (st : Int) : ByteArray := if st = 1 then bs [32, 99, 111, 110, 118, 101, 114, 103, 101, 110, 116] else if st = 2 then bs [32, 97, 110, 116, 105, 99, 105, 112, 97, 116, 101, 100] else bs []
def evHead (r : List AV) : ByteArray := bs [32, 32, 101, 118, 101, 110, 116, 32] ++ gS r 0 ++ listB cRef (gD r 1) ++ stB (gI r 2)
def PEv (r : List AV) (ls : List ByteArray) : Prop := ∃ l1 l2 l3 l4, XS PAny (gD r 3) l1 ∧ XS (PC ind4 cWhen) (gD r 4) l2 ∧ XS PWith (gD r 5) l3 ∧ XS PA (gD r 6) l4 ∧ ls = evHead r :: (l1 ++ (l2 ++ (l3 ++ l4)))
theorem room_gD {r : List AV} (h : Room (wtR r)) (j : Nat) : Room (wtRs (gD r j)) := Nat.le_trans (wt_gD r j) h
theorem XS_ex {P : List AV → List ByteArray → Prop} {rows : Rows} (hm : Room (wtRs rows)) (h : ∀ r, Room (wtR r) → ∃ s, P r s) : ∃ ls, XS P rows ls := XS.mk fun r hr => h r (room_mem hm r hr)
theorem PEv_ex {r : List AV} (h : Room (wtR r)) : ∃ s, PEv r s := by
  obtain ⟨l1, h1⟩ := XS_ex (room_gD h 3) fun q hq => PT_ex (bs [32, 32, 32, 32, 97, 110, 121, 32]) (bs [32, 105, 110, 32]) hq
  obtain ⟨l2, h2⟩ := XS_ex (room_gD h 4) fun q hq => PC_ex ind4 cWhen hq
  obtain ⟨l3, h3⟩ := XS_ex (room_gD h 5) fun q hq => PT_ex (bs [32, 32, 32, 32, 119, 105, 116, 104, 32]) (bs [32, 61, 32]) hq
  obtain ⟨l4, h4⟩ := XS_ex (room_gD h 6) fun q hq => PA_ex hq
  exact ⟨_, l1, l2, l3, l4, h1, h2, h3, h4, rfl⟩
theorem stB_size (st : Int) : (stB st).size ≤ 12 := by
  unfold stB
  split
  · decide
  · split <;> decide
theorem PEv_size (r : List AV) (s : List ByteArray) (h : PEv r s) : (txt s).size ≤ 9000000 * (wtR r + 1) := by
  obtain ⟨l1, l2, l3, l4, h1, h2, h3, h4, rfl⟩ := h
  have z1 := h1.size (PT_size (by decide) (by decide))
  have z2 := h2.size (PC_size (by decide) (by decide))
  have z3 := h3.size (PT_size (by decide) (by decide))
  have z4 := h4.size PA_size
  have y3 := wt_gD r 3
  have y4 := wt_gD r 4
  have y5 := wt_gD r 5
  have y6 := wt_gD r 6
  have y0 := wt_gS r 0
  have y1 := wt_gD r 1
  have x1 := listB_size cRef (gD r 1)
  have x2 := stB_size (gI r 2)
  simp only [txt, txt_app, evHead, app_size, bs_size, List.length_cons, List.length_nil] at *; omega
section
variable {rows : Rows}
theorem ev29_p {i : Nat} {nm : ByteArray} {rf : Rows} {st : Int} {ps gs wt ac ws : Rows} {s tB b : ByteArray} {f : Bool} (hs : blanks 2 ++ joinB ws (bs [32]) = s) (hl : ws.length ≤ 140737488355328) (hB : WrE (fun l f b => F42v1 l nm rf st ps gs wt ac f b) tB)
    (hi : i < 4611686018427387904) (hb : b.size + s.size + 1 + tB.size ≤ 140737488355328) :
    ∃ f1, ∀ res : Bool × ByteArray, Ev (fun l => J15x8 l rows rows.length ((i + 1 : Nat) : Int) f1 (b ++ s ++ bs [10] ++ tB)) res → Ev (fun l => J15x1000029 l rows rows.length i f nm rf st ps gs wt ac ws b) res := by
  obtain ⟨f1, h1⟩ := hB true (b ++ s ++ bs [10]) (by first | omega | (simp only [app_size, bs_size, List.length_cons, List.length_nil] at *; omega))
  refine ⟨f1, fun res hres => .step (fun l => eJ15x1000029 l _ _ _ _ _ _ _ _ _ _ _ _ _) (.ask (line_p (.inr (.inl rfl)) hs hl f b (by omega)) (.ask h1 ?_))⟩
  rw [wrap_suc i (by omega)]; exact hres
theorem ev_step (hl : rows.length ≤ 4611686018427387904) (hm : ∀ r, r ∈ rows → Room (wtR r)) : StepW PEv rows (fun l i f b => J15x8 l rows rows.length i f b) (fun l i f b => J15x8 l rows rows.length i f b) := by
  intro i r s f b hg hlt hP hb
  have hroom := hm r (List.mem_of_getElem? hg)
  obtain ⟨l1, l2, l3, l4, h1, h2, h3, h4, rfl⟩ := hP
  have hB := body_p (nm := gS r 0) (rf := gD r 1) (st := gI r 2) (room_len (room_gD hroom 3)) (room_len (room_gD hroom 4)) (room_len (room_gD hroom 5)) (room_len (room_gD hroom 6)) h1 h2 h3 h4
  have e : ∀ x : ByteArray, b ++ txt (x :: (l1 ++ (l2 ++ (l3 ++ l4)))) = b ++ x ++ bs [10] ++ (txt l1 ++ (txt l2 ++ (txt l3 ++ (txt l4 ++ bs [])))) := by
    intro x
    simp only [txt, txt_app, app_nil, ByteArray.append_assoc]
  have hb : b.size + (evHead r).size + 1 + (txt l1 ++ (txt l2 ++ (txt l3 ++ (txt l4 ++ bs [])))).size ≤ 140737488355328 := by
    have := congrArg ByteArray.size (e (evHead r))
    simp only [app_size, bs_size, List.length_cons, List.length_nil] at this hb ⊢; omega
  have hlen : (after cRef (gD r 1)).length ≤ 1099511627777 := by
    have := after_len cRef (gD r 1)
    have := wt_len (gD r 1)
    have := wt_gD r 1
    unfold Room at hroom; omega
  have hlen' : (after (bs [114, 101, 102, 105, 110, 101, 115]) (gD r 1)).length ≤ 1099511627777 := hlen
  rw [e (evHead r)]
  by_cases c1 : gI r 2 = 1
  · obtain ⟨f1, q⟩ := ev29_p (rows := rows) (i := i) (s := evHead r) (f := f) (b := b) (ws := ([[.sc (.string (bs [101, 118, 101, 110, 116]))], [.sc (.string (gS r 0))]] ++ after cRef (gD r 1)) ++ [[.sc (.string (bs [99, 111, 110, 118, 101, 114, 103, 101, 110, 116]))]]) (by
        rw [head_eqs]; unfold evHead stB; rw [if_pos c1]; refine bext ?_; simp only [appL, bsL, bl0, bl2, bl4, List.cons_append, List.nil_append, List.append_assoc, List.append_nil]) (by simp only [List.length_append, List.length_cons, List.length_nil]; omega) hB (by omega) hb
    refine ⟨f1, fun res hres => .step (fun l => eJ15x8 l _ _ _ _ _) (.pos (by simp; omega) (.geti rfl hg (.ask (after_p (room_gD hroom 1)) (.fits (by simp only [List.length_cons, List.length_nil]; omega) (.pos (by rw [c1]; rfl) (.fits (by simp only [List.length_append, List.length_cons, List.length_nil]; omega) (q res hres)))))))⟩
  · by_cases c2 : gI r 2 = 2
    · obtain ⟨f1, q⟩ := ev29_p (rows := rows) (i := i) (s := evHead r) (f := f) (b := b) (ws := ([[.sc (.string (bs [101, 118, 101, 110, 116]))], [.sc (.string (gS r 0))]] ++ after cRef (gD r 1)) ++ [[.sc (.string (bs [97, 110, 116, 105, 99, 105, 112, 97, 116, 101, 100]))]]) (by
        rw [head_eqs]; unfold evHead stB; rw [if_neg c1, if_pos c2]; refine bext ?_; simp only [appL, bsL, bl0, bl2, bl4, List.cons_append, List.nil_append, List.append_assoc, List.append_nil]) (by simp only [List.length_append, List.length_cons, List.length_nil]; omega) hB (by omega) hb
      refine ⟨f1, fun res hres => .step (fun l => eJ15x8 l _ _ _ _ _) (.pos (by simp; omega) (.geti rfl hg (.ask (after_p (room_gD hroom 1)) (.fits (by simp only [List.length_cons, List.length_nil]; omega) (.neg (by simpa using c1) (.pos (by rw [c2]; rfl) (.fits (by simp only [List.length_append, List.length_cons, List.length_nil]; omega) (q res hres))))))))⟩
    · obtain ⟨f1, q⟩ := ev29_p (rows := rows) (i := i) (s := evHead r) (f := f) (b := b) (ws := [[.sc (.string (bs [101, 118, 101, 110, 116]))], [.sc (.string (gS r 0))]] ++ after cRef (gD r 1)) (by
        rw [head_eq]; unfold evHead stB; rw [if_neg c1, if_neg c2]; refine bext ?_; simp only [appL, bsL, bl0, bl2, bl4, List.cons_append, List.nil_append, List.append_assoc, List.append_nil]) (by simp only [List.length_append, List.length_cons, List.length_nil]; omega) hB (by omega) hb
      refine ⟨f1, fun res hres => .step (fun l => eJ15x8 l _ _ _ _ _) (.pos (by simp; omega) (.geti rfl hg (.ask (after_p (room_gD hroom 1)) (.fits (by simp only [List.length_cons, List.length_nil]; omega) (.neg (by simpa using c1) (.neg (by simpa using c2) (q res hres)))))))⟩
theorem ev_stepR (hl : rows.length ≤ 4611686018427387904) (hm : ∀ r, r ∈ rows → Room (wtR r)) : StepR PEv rows (fun l i out => J18x8 l rows rows.length i out) := by
  intro i r s out res hg hlt hP hb hres
  have hroom := hm r (List.mem_of_getElem? hg)
  obtain ⟨l1, l2, l3, l4, h1, h2, h3, h4, rfl⟩ := hP
  simp only [List.length_append, List.length_cons] at hb
  have key : Ev (fun l => J18x1000028 l (evHead r) rows rows.length i out (gS r 0) (gD r 1) (gI r 2) (gD r 3) (gD r 4) (gD r 5) (gD r 6)) res := by
    refine .step (fun l => eJ18x1000028 l _ _ _ _ _ _ _ _ _ _ _ _) (.fits (by simp only [List.length_cons, List.length_nil]; omega) ?_)
    refine loop_rr (J := fun l i2 out => J18x12 l rows rows.length i (gD r 3) (gD r 3).length i2 out (gS r 0) (gD r 1) (gI r 2) (gD r 3) (gD r 4) (gD r 5) (gD r 6)) (sr_J18x12 (room_len (room_gD hroom 3)) (room_mem (room_gD hroom 3))) _ (i := 0) rfl (Nat.zero_le _) h1 _ res (by simp only [List.length_append, List.length_cons, List.length_nil]; omega) ?_
    refine .step (fun l => eJ18x12 l _ _ _ _ _ _ _ _ _ _ _ _ _ _) (.neg (by simp) (.ask (clauses_r (by decide) (by decide) (room_gD hroom 4) h2 (by omega)) (.fits ?_ (.ask (effects_r (room_gD hroom 5) (room_gD hroom 6) h3 h4 (by omega)) (.fits ?_ ?_)))))
    · simp only [List.length_append, List.length_cons, List.length_nil, rowsL_len]; omega
    · simp only [List.length_append, List.length_cons, List.length_nil, rowsL_len]; omega
    · rw [wrap_suc i (by omega)]
      have e : out ++ rowsL (evHead r :: (l1 ++ (l2 ++ (l3 ++ l4)))) = out ++ [[.sc (.string (evHead r))]] ++ rowsL l1 ++ rowsL l2 ++ rowsL (l3 ++ l4) := by
        rw [show evHead r :: (l1 ++ (l2 ++ (l3 ++ l4))) = [evHead r] ++ (l1 ++ (l2 ++ (l3 ++ l4))) from rfl]
        simp only [rowsL_app, List.append_assoc]; rfl
      rw [e] at hres; exact hres
  have x1 : (listB (bs [114, 101, 102, 105, 110, 101, 115]) (gD r 1)).size ≤ 9 + wtRs (gD r 1) := listB_size cRef (gD r 1)
  have y0 := wt_gS r 0
  have y1 := wt_gD r 1
  unfold Room at hroom
  refine .step (fun l => eJ18x8 l _ _ _ _) (.pos (by simp; omega) (.geti rfl hg (.scat (by first | omega | (simp only [app_size, bs_size, List.length_cons, List.length_nil] at *; omega)) (.ask (list_s (by decide) (room_gD hroom 1)) (.scat (by first | omega | (simp only [app_size, bs_size, List.length_cons, List.length_nil] at *; omega)) ?_)))))
  by_cases c1 : gI r 2 = 1
  · refine .pos (by rw [c1]; rfl) (.scat (by first | omega | (simp only [app_size, bs_size, List.length_cons, List.length_nil] at *; omega)) (.step (fun l => eJ18x1000026 l _ _ _ _ _ _ _ _ _ _ _ _) (.neg (by rw [c1]; rfl) ?_)))
    have e : bs [32, 32, 101, 118, 101, 110, 116, 32] ++ gS r 0 ++ listB cRef (gD r 1) ++ bs [32, 99, 111, 110, 118, 101, 114, 103, 101, 110, 116] = evHead r := by unfold evHead stB; rw [if_pos c1]
    rw [e]; exact key
  · refine .neg (by simpa using c1) (.step (fun l => eJ18x1000026 l _ _ _ _ _ _ _ _ _ _ _ _) ?_)
    by_cases c2 : gI r 2 = 2
    · refine .pos (by rw [c2]; rfl) (.scat (by first | omega | (simp only [app_size, bs_size, List.length_cons, List.length_nil] at *; omega)) ?_)
      have e : bs [32, 32, 101, 118, 101, 110, 116, 32] ++ gS r 0 ++ listB cRef (gD r 1) ++ bs [32, 97, 110, 116, 105, 99, 105, 112, 97, 116, 101, 100] = evHead r := by unfold evHead stB; rw [if_neg c1, if_pos c2]
      rw [e]; exact key
    · refine .neg (by simpa using c2) ?_
      have e : bs [32, 32, 101, 118, 101, 110, 116, 32] ++ gS r 0 ++ listB cRef (gD r 1) = evHead r := by unfold evHead stB; rw [if_neg c1, if_neg c2, app_nil]
      rw [e]; exact key
abbrev sEnd : ByteArray := bs [101, 110, 100]
abbrev sLive : ByteArray := bs [32, 32, 108, 105, 118, 101]
abbrev sInit : ByteArray := bs [32, 32, 105, 110, 105, 116]
theorem events_p {le : List ByteArray} (hm : Room (wtRs rows)) (h : XS PEv rows le) : WrE (fun l f b => J15x8 l rows rows.length ((0 : Nat) : Int) f b) (txt le ++ (txt [sEnd] ++ bs [])) :=
  loop_w (J := fun l i f b => J15x8 l rows rows.length i f b) (ev_step (room_len hm) (room_mem hm))
    (.step (fun l f b => (eJ15x8 l _ _ _ _ _).trans (sIteF (by simp))) (.seq (A := fun l f b => F37 l 0 [[.sc (.string sEnd)]] f b) (K := fun l f b => some (f, b)) (lineE (.inl rfl) (by rw [joinB_one]; exact ByteArray.empty_append) (by simp)) (.nil fun f b => .ret _))) _ rfl (Nat.zero_le _) h
theorem events_r {le : List ByteArray} (hm : Room (wtRs rows)) (h : XS PEv rows le) : RefE (fun l out => J18x8 l rows rows.length ((0 : Nat) : Int) out) (le ++ [sEnd]) :=
  loop_r (J := fun l i out => J18x8 l rows rows.length i out) (ev_stepR (room_len hm) (room_mem hm))
    (fun out hb => .step (fun l => (eJ18x8 l _ _ _ _).trans (sIteF (by simp))) (.fits (by simp only [List.length_cons, List.length_nil] at *; omega) (.ret _))) _ rfl (Nat.zero_le _) h
end
section
variable {a0 : Int} {a1 : ByteArray} {a2 : Rows} {a3 : ByteArray} {a4 a5 a6 a7 a8 a9 : Rows} {a10 : Bool} {a11 a12 a13 : Rows}
abbrev cSees : ByteArray := bs [115, 101, 101, 115]
abbrev cExt : ByteArray := bs [101, 120, 116, 101, 110, 100, 115]
def mHead (a1 : ByteArray) (a2 : Rows) (a3 : ByteArray) : ByteArray := bs [109, 97, 99, 104, 105, 110, 101, 32] ++ a1 ++ (if a3.size = 0 then bs [] else bs [32, 114, 101, 102, 105, 110, 101, 115, 32] ++ a3) ++ listB cSees a2
def liveL (b : Bool) : List ByteArray := match b with | true => [sLive] | false => []
def PMa (a1 : ByteArray) (a2 : Rows) (a3 : ByteArray) (a7 a8 a9 : Rows) (a10 : Bool) (a11 a12 a13 : Rows) (ls : List ByteArray) : Prop :=
  ∃ lv li lva l3 l4 le, XS PVar a7 lv ∧ XS (PC ind2 cInv) a8 li ∧ XS PV a9 lva ∧ XS PWith a11 l3 ∧ XS PA a12 l4 ∧ XS PEv a13 le ∧
    ls = [mHead a1 a2 a3] ++ (lv ++ (li ++ (lva ++ (liveL a10 ++ ([sInit] ++ ((l3 ++ l4) ++ (le ++ [sEnd])))))))
def PCx (a1 : ByteArray) (a2 : Rows) (a4 a5 a6 : Rows) (ls : List ByteArray) : Prop :=
  ∃ lc lk la, XS PE a4 lc ∧ XS PConst a5 lk ∧ XS (PC ind2 cAxiom) a6 la ∧ ls = [bs [99, 111, 110, 116, 101, 120, 116, 32] ++ a1 ++ listB cExt a2] ++ (lc ++ (lk ++ (la ++ [sEnd])))
theorem machine_p {ls : List ByteArray} (h2 : Room (wtRs a2)) (h7 : Room (wtRs a7)) (h8 : Room (wtRs a8)) (h9 : Room (wtRs a9)) (h11 : Room (wtRs a11)) (h12 : Room (wtRs a12)) (h13 : Room (wtRs a13)) (h : PMa a1 a2 a3 a7 a8 a9 a10 a11 a12 a13 ls) :
    WrE (fun l f b => F15 l a0 a1 a2 a3 a4 a5 a6 a7 a8 a9 a10 a11 a12 a13 f b) (txt ls) := by
  obtain ⟨lv, li, lva, l3, l4, le, hv, hi, hva, q3, q4, he, rfl⟩ := h
  have w18 : WrE (fun l f b => J15x1000018 l f a0 a1 a2 a3 a4 a5 a6 a7 a8 a9 a10 a11 a12 a13 b) (txt [sInit] ++ ((txt l3 ++ (txt l4 ++ bs [])) ++ (txt le ++ (txt [sEnd] ++ bs [])))) :=
    .step (fun l f b => eJ15x1000018 l _ _ _ _ _ _ _ _ _ _ _ _ _ _ _ _) (.seq (A := fun l f b => F37 l 2 [[.sc (.string (bs [105, 110, 105, 116]))]] f b) (K := fun l f b => _root_.Go.AI.ask (F42 l (bs []) 0 a11 a12 f b) fun x => J15x8 l a13 a13.length ((0 : Nat) : Int) x.1 x.2) (lineE (.inr (.inl rfl)) (by rw [joinB_one]; rfl) (by simp))
      (.seq (A := fun l f b => F42 l (bs []) 0 a11 a12 f b) (K := fun l f b => J15x8 l a13 a13.length ((0 : Nat) : Int) f b) (init_p (room_len h11) (room_len h12) q3 q4) (events_p h13 he)))
  have w4 : WrE (fun l f b => J15x4 l a9 a9.length ((0 : Nat) : Int) f a0 a1 a2 a3 a4 a5 a6 a7 a8 a9 a10 a11 a12 a13 b) (txt lva ++ (txt (liveL a10) ++ (txt [sInit] ++ ((txt l3 ++ (txt l4 ++ bs [])) ++ (txt le ++ (txt [sEnd] ++ bs [])))))) := by
    refine loop_w (J := fun l i f b => J15x4 l a9 a9.length i f a0 a1 a2 a3 a4 a5 a6 a7 a8 a9 a10 a11 a12 a13 b) (st_J15x4 (room_len h9)) (.step (fun l f b => (eJ15x4 l _ _ _ _ _ _ _ _ _ _ _ _ _ _ _ _ _ _ _).trans (sIteF (by simp))) ?_) _ rfl (Nat.zero_le _) hva
    cases a10 with
    | true => exact .seq (A := fun l f b => F37 l 2 [[.sc (.string (bs [108, 105, 118, 101]))]] f b) (K := fun l f b => J15x1000018 l f a0 a1 a2 a3 a4 a5 a6 a7 a8 a9 true a11 a12 a13 b) (lineE (.inr (.inl rfl)) (by rw [joinB_one]; rfl) (by simp)) w18
    | false =>
      have e : ∀ x, txt (liveL false) ++ x = x := fun x => ByteArray.empty_append
      rw [e]; exact w18
  have w0 : WrE (fun l f b => J15x0 l a7 a7.length ((0 : Nat) : Int) f a0 a1 a2 a3 a4 a5 a6 a7 a8 a9 a10 a11 a12 a13 b) (txt lv ++ ((txt li ++ bs []) ++ (txt lva ++ (txt (liveL a10) ++ (txt [sInit] ++ ((txt l3 ++ (txt l4 ++ bs [])) ++ (txt le ++ (txt [sEnd] ++ bs [])))))))) :=
    loop_w (J := fun l i f b => J15x0 l a7 a7.length i f a0 a1 a2 a3 a4 a5 a6 a7 a8 a9 a10 a11 a12 a13 b) (st_J15x0 (room_len h7)) (.step (fun l f b => (eJ15x0 l _ _ _ _ _ _ _ _ _ _ _ _ _ _ _ _ _ _ _).trans (sIteF (by simp)))
      (.seq (A := fun l f b => F40 l cInv a8 f b) (K := fun l f b => J15x4 l a9 a9.length ((0 : Nat) : Int) f a0 a1 a2 a3 a4 a5 a6 a7 a8 a9 a10 a11 a12 a13 b) (clauses_p (by rw [beqS_eq]; decide) (room_len h8) hi) w4)) _ rfl (Nat.zero_le _) hv
  have hal : (after cSees a2).length ≤ 1099511627777 := by
    have := after_len cSees a2
    have := wt_len a2
    unfold Room at h2; omega
  have hal' : (after (bs [115, 101, 101, 115]) a2).length ≤ 1099511627777 := hal
  have wh : ∀ (ws : Rows), ws.length ≤ 4 → blanks 0 ++ joinB (ws ++ after cSees a2) (bs [32]) = mHead a1 a2 a3 → WrE (fun l f b => J15x1000004 l f b a0 a1 a2 a3 a4 a5 a6 a7 a8 a9 a10 a11 a12 a13 ws) (txt [mHead a1 a2 a3] ++ (txt lv ++ ((txt li ++ bs []) ++ (txt lva ++ (txt (liveL a10) ++ (txt [sInit] ++ ((txt l3 ++ (txt l4 ++ bs [])) ++ (txt le ++ (txt [sEnd] ++ bs []))))))))) := by
    intro ws hws hs f b hb
    obtain ⟨f', q⟩ := WrE.seq (A := fun l f b => F37 l 0 (ws ++ after cSees a2) f b) (K := fun l f b => J15x0 l a7 a7.length ((0 : Nat) : Int) f a0 a1 a2 a3 a4 a5 a6 a7 a8 a9 a10 a11 a12 a13 b) (lineE (.inl rfl) hs (by simp only [List.length_append]; omega)) w0 f b hb
    exact ⟨f', .step (fun l => eJ15x1000004 l _ _ _ _ _ _ _ _ _ _ _ _ _ _ _ _ _) (.ask (after_p h2) (.fits (by omega) q))⟩
  have e : txt ([mHead a1 a2 a3] ++ (lv ++ (li ++ (lva ++ (liveL a10 ++ ([sInit] ++ ((l3 ++ l4) ++ (le ++ [sEnd])))))))) = txt [mHead a1 a2 a3] ++ (txt lv ++ ((txt li ++ bs []) ++ (txt lva ++ (txt (liveL a10) ++ (txt [sInit] ++ ((txt l3 ++ (txt l4 ++ bs [])) ++ (txt le ++ (txt [sEnd] ++ bs [])))))))) := by
    simp only [txt_app, app_nil, ByteArray.append_assoc]
  rw [e]
  refine .step (fun l f b => eF15 l _ _ _ _ _ _ _ _ _ _ _ _ _ _ _ _) ?_
  rw [size_bs_nil]
  by_cases c : a3.size = 0
  · intro f b hb
    obtain ⟨f', q⟩ := wh [[.sc (.string (bs [109, 97, 99, 104, 105, 110, 101]))], [.sc (.string a1)]] (by simp) (by rw [head_eq]; unfold mHead; rw [if_pos c]; refine bext ?_; simp only [appL, bsL, bl0, bl2, bl4, List.cons_append, List.nil_append, List.append_assoc, List.append_nil]) f b hb
    exact ⟨f', .neg (by rw [decide_eq_true c]; rfl) q⟩
  · intro f b hb
    obtain ⟨f', q⟩ := wh ([[.sc (.string (bs [109, 97, 99, 104, 105, 110, 101]))], [.sc (.string a1)]] ++ [[.sc (.string cRef)], [.sc (.string a3)]]) (by simp) (by rw [head_eq4]; unfold mHead; rw [if_neg c]; refine bext ?_; simp only [appL, bsL, bl0, bl2, bl4, List.cons_append, List.nil_append, List.append_assoc, List.append_nil]) f b hb
    exact ⟨f', .pos (by rw [decide_eq_false c]; rfl) (.fits (by simp) q)⟩
theorem machine_r {ls : List ByteArray} (h1 : Room a1.size) (h3 : Room a3.size) (h2 : Room (wtRs a2)) (h7 : Room (wtRs a7)) (h8 : Room (wtRs a8)) (h9 : Room (wtRs a9)) (h11 : Room (wtRs a11)) (h12 : Room (wtRs a12)) (h13 : Room (wtRs a13)) (hn : ls.length ≤ 8796093022208) (h : PMa a1 a2 a3 a7 a8 a9 a10 a11 a12 a13 ls) :
    Ev (fun l => F18 l a0 a1 a2 a3 a4 a5 a6 a7 a8 a9 a10 a11 a12 a13) (rowsL ls) := by
  obtain ⟨lv, li, lva, l3, l4, le, hv, hi, hva, q3, q4, he, rfl⟩ := h
  simp only [List.length_append, List.length_cons, List.length_nil] at hn
  have w18 : RefE (fun l out => J18x1000018 l a0 a1 a2 a3 a4 a5 a6 a7 a8 a9 a10 a11 a12 a13 out) ([sInit] ++ ((l3 ++ l4) ++ (le ++ [sEnd]))) := by
    intro out hb
    simp only [List.length_append, List.length_cons, List.length_nil] at hb
    refine .step (fun l => eJ18x1000018 l _ _ _ _ _ _ _ _ _ _ _ _ _ _ _) (.fits (by simp only [List.length_cons, List.length_nil]; omega) (.ask (effects_r h11 h12 q3 q4 (by omega)) (.fits (by simp only [List.length_append, List.length_cons, List.length_nil, rowsL_len]; omega) ?_)))
    have := events_r h13 he (out ++ [[.sc (.string sInit)]] ++ rowsL (l3 ++ l4)) (by simp only [List.length_append, List.length_cons, List.length_nil, rowsL_len]; omega)
    have e : out ++ rowsL ([sInit] ++ ((l3 ++ l4) ++ (le ++ [sEnd]))) = out ++ [[.sc (.string sInit)]] ++ rowsL (l3 ++ l4) ++ rowsL (le ++ [sEnd]) := by
      simp only [rowsL_app, List.append_assoc]; rfl
    rw [e]; exact this
  have w4 : RefE (fun l out => J18x4 l a9 a9.length ((0 : Nat) : Int) a0 a1 a2 a3 a4 a5 a6 a7 a8 a9 a10 a11 a12 a13 out) (lva ++ (liveL a10 ++ ([sInit] ++ ((l3 ++ l4) ++ (le ++ [sEnd]))))) := by
    refine loop_r (J := fun l i out => J18x4 l a9 a9.length i a0 a1 a2 a3 a4 a5 a6 a7 a8 a9 a10 a11 a12 a13 out) (sr_J18x4 (room_len h9) (room_mem h9)) (.step (fun l out => (eJ18x4 l _ _ _ _ _ _ _ _ _ _ _ _ _ _ _ _ _ _).trans (sIteF (by simp))) ?_) _ rfl (Nat.zero_le _) hva
    cases a10 with
    | true =>
      intro out hb
      simp only [liveL, List.length_append, List.length_cons, List.length_nil] at hb
      have := w18 (out ++ [[.sc (.string sLive)]]) (by simp only [List.length_append, List.length_cons, List.length_nil]; omega)
      have e : out ++ rowsL (liveL true ++ ([sInit] ++ ((l3 ++ l4) ++ (le ++ [sEnd])))) = out ++ [[.sc (.string sLive)]] ++ rowsL ([sInit] ++ ((l3 ++ l4) ++ (le ++ [sEnd]))) := by
        rw [rowsL_app, ← List.append_assoc]; rfl
      rw [e]
      exact .fits (by simp only [List.length_cons, List.length_nil]; omega) this
    | false => exact w18
  have w0 : RefE (fun l out => J18x0 l a7 a7.length ((0 : Nat) : Int) a0 a1 a2 a3 a4 a5 a6 a7 a8 a9 a10 a11 a12 a13 out) (lv ++ (li ++ (lva ++ (liveL a10 ++ ([sInit] ++ ((l3 ++ l4) ++ (le ++ [sEnd]))))))) := by
    refine loop_r (J := fun l i out => J18x0 l a7 a7.length i a0 a1 a2 a3 a4 a5 a6 a7 a8 a9 a10 a11 a12 a13 out) (sr_J18x0 (room_len h7) (room_mem h7)) (.step (fun l out => (eJ18x0 l _ _ _ _ _ _ _ _ _ _ _ _ _ _ _ _ _ _).trans (sIteF (by simp))) ?_) _ rfl (Nat.zero_le _) hv
    intro out hb
    simp only [List.length_append, List.length_cons, List.length_nil] at hb
    refine .ask (clauses_r (by decide) (by decide) h8 hi (by omega)) (.fits (by simp only [rowsL_len]; omega) ?_)
    have := w4 (out ++ rowsL li) (by simp only [List.length_append, List.length_cons, List.length_nil, rowsL_len]; omega)
    rw [rowsL_app, ← List.append_assoc]; exact this
  have z2 : (listB (bs [115, 101, 101, 115]) a2).size ≤ 6 + wtRs a2 := listB_size cSees a2
  have wh : ∀ s : ByteArray, s.size ≤ 9223372036854 → s ++ listB cSees a2 = mHead a1 a2 a3 → Ev (fun l => J18x1000004 l s a0 a1 a2 a3 a4 a5 a6 a7 a8 a9 a10 a11 a12 a13) (rowsL ([mHead a1 a2 a3] ++ (lv ++ (li ++ (lva ++ (liveL a10 ++ ([sInit] ++ ((l3 ++ l4) ++ (le ++ [sEnd]))))))))) := by
    intro s hs hm
    unfold Room at h2
    refine .step (fun l => eJ18x1000004 l _ _ _ _ _ _ _ _ _ _ _ _ _ _ _) (.ask (list_s (by decide) h2) (.scat (by first | omega | (simp only [app_size, bs_size, List.length_cons, List.length_nil] at *; omega)) ?_))
    rw [hm, rowsL_app]
    exact w0 [[.sc (.string (mHead a1 a2 a3))]] (by simp only [List.length_append, List.length_cons, List.length_nil]; omega)
  unfold Room at h1 h3
  refine .step (fun l => eF18 l _ _ _ _ _ _ _ _ _ _ _ _ _ _) (.scat (by first | omega | (simp only [app_size, bs_size, List.length_cons, List.length_nil] at *; omega)) ?_)
  rw [size_bs_nil]
  by_cases c : a3.size = 0
  · refine .neg (by rw [decide_eq_true c]; rfl) (wh _ (by simp only [app_size, bs_size, List.length_cons, List.length_nil]; omega) ?_)
    unfold mHead; rw [if_pos c, app_nil]
  · refine .pos (by rw [decide_eq_false c]; rfl) (.scat (by first | omega | (simp only [app_size, bs_size, List.length_cons, List.length_nil] at *; omega)) (.scat (by first | omega | (simp only [app_size, bs_size, List.length_cons, List.length_nil] at *; omega)) (wh _ (by simp only [app_size, bs_size, List.length_cons, List.length_nil]; omega) ?_)))
    unfold mHead; rw [if_neg c]
theorem context_p {ls : List ByteArray} (h2 : Room (wtRs a2)) (h4 : Room (wtRs a4)) (h5 : Room (wtRs a5)) (h6 : Room (wtRs a6)) (h : PCx a1 a2 a4 a5 a6 ls) :
    WrE (fun l f b => F14 l a0 a1 a2 a3 a4 a5 a6 a7 a8 a9 a10 a11 a12 a13 f b) (txt ls) := by
  obtain ⟨lc, lk, la, hc, hk, ha, rfl⟩ := h
  have w4 : WrE (fun l f b => J14x4 l a5 a5.length ((0 : Nat) : Int) f a0 a1 a2 a3 a4 a5 a6 a7 a8 a9 a10 a11 a12 a13 b) (txt lk ++ ((txt la ++ bs []) ++ (txt [sEnd] ++ bs []))) :=
    loop_w (J := fun l i f b => J14x4 l a5 a5.length i f a0 a1 a2 a3 a4 a5 a6 a7 a8 a9 a10 a11 a12 a13 b) (st_J14x4 (room_len h5)) (.step (fun l f b => (eJ14x4 l _ _ _ _ _ _ _ _ _ _ _ _ _ _ _ _ _ _ _).trans (sIteF (by simp)))
      (.seq (A := fun l f b => F40 l cAxiom a6 f b) (K := fun l f b => _root_.Go.AI.ask (F37 l 0 [[.sc (.string sEnd)]] f b) fun x => some (x.1, x.2)) (clauses_p (by rw [beqS_eq]; decide) (room_len h6) ha)
        (.seq (A := fun l f b => F37 l 0 [[.sc (.string sEnd)]] f b) (K := fun l f b => some (f, b)) (lineE (.inl rfl) (by rw [joinB_one]; exact ByteArray.empty_append) (by simp)) (.nil fun f b => .ret _)))) _ rfl (Nat.zero_le _) hk
  have w0 : WrE (fun l f b => J14x0 l a4 a4.length ((0 : Nat) : Int) f a0 a1 a2 a3 a4 a5 a6 a7 a8 a9 a10 a11 a12 a13 b) (txt lc ++ (txt lk ++ ((txt la ++ bs []) ++ (txt [sEnd] ++ bs [])))) :=
    loop_w (J := fun l i f b => J14x0 l a4 a4.length i f a0 a1 a2 a3 a4 a5 a6 a7 a8 a9 a10 a11 a12 a13 b) (st_J14x0 (room_mem h4) (room_len h4)) (.step (fun l f b => (eJ14x0 l _ _ _ _ _ _ _ _ _ _ _ _ _ _ _ _ _ _ _).trans (sIteF (by simp))) w4) _ rfl (Nat.zero_le _) hc
  have hal : (after cExt a2).length ≤ 1099511627777 := by
    have := after_len cExt a2
    have := wt_len a2
    unfold Room at h2; omega
  have hal' : (after (bs [101, 120, 116, 101, 110, 100, 115]) a2).length ≤ 1099511627777 := hal
  have e : txt ([bs [99, 111, 110, 116, 101, 120, 116, 32] ++ a1 ++ listB cExt a2] ++ (lc ++ (lk ++ (la ++ [sEnd])))) = txt [bs [99, 111, 110, 116, 101, 120, 116, 32] ++ a1 ++ listB cExt a2] ++ (txt lc ++ (txt lk ++ ((txt la ++ bs []) ++ (txt [sEnd] ++ bs [])))) := by
    simp only [txt_app, app_nil, ByteArray.append_assoc]
  rw [e]
  intro f b hb
  obtain ⟨f', q⟩ := WrE.seq (A := fun l f b => F37 l 0 ([[.sc (.string (bs [99, 111, 110, 116, 101, 120, 116]))], [.sc (.string a1)]] ++ after cExt a2) f b) (K := fun l f b => J14x0 l a4 a4.length ((0 : Nat) : Int) f a0 a1 a2 a3 a4 a5 a6 a7 a8 a9 a10 a11 a12 a13 b) (lineE (.inl rfl) (by rw [head_eq]; refine bext ?_; simp only [appL, bsL, bl0, bl2, bl4, List.cons_append, List.nil_append, List.append_assoc, List.append_nil]) (by simp only [List.length_append, List.length_cons, List.length_nil]; omega)) w0 f b hb
  exact ⟨f', .step (fun l => eF14 l _ _ _ _ _ _ _ _ _ _ _ _ _ _ _ _) (.ask (after_p h2) (.fits (by simp only [List.length_cons, List.length_nil]; omega) q))⟩
theorem context_r {ls : List ByteArray} (h1 : Room a1.size) (h2 : Room (wtRs a2)) (h4 : Room (wtRs a4)) (h5 : Room (wtRs a5)) (h6 : Room (wtRs a6)) (hn : ls.length ≤ 8796093022208) (h : PCx a1 a2 a4 a5 a6 ls) :
    Ev (fun l => F17 l a0 a1 a2 a3 a4 a5 a6 a7 a8 a9 a10 a11 a12 a13) (rowsL ls) := by
  obtain ⟨lc, lk, la, hc, hk, ha, rfl⟩ := h
  simp only [List.length_append, List.length_cons, List.length_nil] at hn
  have w4 : RefE (fun l out => J17x4 l a5 a5.length ((0 : Nat) : Int) a0 a1 a2 a3 a4 a5 a6 a7 a8 a9 a10 a11 a12 a13 out) (lk ++ (la ++ [sEnd])) := by
    refine loop_r (J := fun l i out => J17x4 l a5 a5.length i a0 a1 a2 a3 a4 a5 a6 a7 a8 a9 a10 a11 a12 a13 out) (sr_J17x4 (room_len h5) (room_mem h5)) (.step (fun l out => (eJ17x4 l _ _ _ _ _ _ _ _ _ _ _ _ _ _ _ _ _ _).trans (sIteF (by simp))) ?_) _ rfl (Nat.zero_le _) hk
    intro out hb
    simp only [List.length_append, List.length_cons, List.length_nil] at hb
    refine .ask (clauses_r (by decide) (by decide) h6 ha (by omega)) (.fits (by simp only [rowsL_len]; omega) (.fits (by simp only [List.length_append, List.length_cons, List.length_nil, rowsL_len]; omega) (.ret' ?_)))
    rw [rowsL_app, ← List.append_assoc]; rfl
  have w0 : RefE (fun l out => J17x0 l a4 a4.length ((0 : Nat) : Int) a0 a1 a2 a3 a4 a5 a6 a7 a8 a9 a10 a11 a12 a13 out) (lc ++ (lk ++ (la ++ [sEnd]))) :=
    loop_r (J := fun l i out => J17x0 l a4 a4.length i a0 a1 a2 a3 a4 a5 a6 a7 a8 a9 a10 a11 a12 a13 out) (sr_J17x0 (room_len h4) (room_mem h4)) (.step (fun l out => (eJ17x0 l _ _ _ _ _ _ _ _ _ _ _ _ _ _ _ _ _ _).trans (sIteF (by simp))) w4) _ rfl (Nat.zero_le _) hc
  have z2 : (listB (bs [101, 120, 116, 101, 110, 100, 115]) a2).size ≤ 9 + wtRs a2 := listB_size cExt a2
  unfold Room at h1 h2
  refine .step (fun l => eF17 l _ _ _ _ _ _ _ _ _ _ _ _ _ _) (.scat (by first | omega | (simp only [app_size, bs_size, List.length_cons, List.length_nil] at *; omega)) (.ask (list_s (by decide) h2) (.scat (by first | omega | (simp only [app_size, bs_size, List.length_cons, List.length_nil] at *; omega)) ?_)))
  rw [rowsL_app]
  exact w0 [[.sc (.string (bs [99, 111, 110, 116, 101, 120, 116, 32] ++ a1 ++ listB cExt a2))]] (by simp only [List.length_append, List.length_cons, List.length_nil]; omega)
end
end Go.AI
end

/-
  Format of a project: program and reference print alike. Small ends.
-/
section
namespace Go.AI
open Go
set_option linter.all false
theorem XS.len {P : List AV → List ByteArray → Prop} {K : Nat} (hP : ∀ r s, P r s → s.length ≤ K * (wtR r + 1)) : ∀ {rows : Rows} {ls : List ByteArray}, XS P rows ls → ls.length ≤ K * wtRs rows
  | _, _, .nil => Nat.zero_le _
  | _, _, .cons h k => by
    have h1 := hP _ _ h
    have h2 := XS.len hP k
    rw [List.length_append, wtRs, Nat.mul_add]; omega
theorem PD_len {hd mid : ByteArray} (r : List AV) (s : List ByteArray) (h : PD hd mid r s) : s.length ≤ 1 * (wtR r + 1) := by obtain ⟨x, _, rfl⟩ := h; simp
theorem PT_len {hd mid : ByteArray} (r : List AV) (s : List ByteArray) (h : PT hd mid r s) : s.length ≤ 1 * (wtR r + 1) := by obtain ⟨x, _, rfl⟩ := h; simp
theorem PC_len {hd mid : ByteArray} (r : List AV) (s : List ByteArray) (h : PC hd mid r s) : s.length ≤ 1 * (wtR r + 1) := by obtain ⟨x, _, rfl⟩ := h; simp
theorem PA_len (r : List AV) (s : List ByteArray) (h : PA r s) : s.length ≤ 1 * (wtR r + 1) := by obtain ⟨x, _, rfl⟩ := h; simp
theorem PV_len (r : List AV) (s : List ByteArray) (h : PV r s) : s.length ≤ 1 * (wtR r + 1) := by obtain ⟨x, _, rfl⟩ := h; simp
theorem PE_len (r : List AV) (s : List ByteArray) (h : PE r s) : s.length ≤ 1 * (wtR r + 1) := by obtain rfl := h; simp
theorem PEv_len (r : List AV) (s : List ByteArray) (h : PEv r s) : s.length ≤ 5 * (wtR r + 1) := by
  obtain ⟨l1, l2, l3, l4, h1, h2, h3, h4, rfl⟩ := h
  have z1 := h1.len PT_len
  have z2 := h2.len PC_len
  have z3 := h3.len PT_len
  have z4 := h4.len PA_len
  have y3 := wt_gD r 3
  have y4 := wt_gD r 4
  have y5 := wt_gD r 5
  have y6 := wt_gD r 6
  simp only [List.length_append, List.length_cons]; omega
def PComp (r : List AV) (ls : List ByteArray) : Prop :=
  if gI r 0 = 1 then PCx (gS r 1) (gD r 2) (gD r 4) (gD r 5) (gD r 6) ls
  else PMa (gS r 1) (gD r 2) (gS r 3) (gD r 7) (gD r 8) (gD r 9) (gB r 10) (gD r 11) (gD r 12) (gD r 13) ls
theorem PComp_ex {r : List AV} (h : Room (wtR r)) : ∃ s, PComp r s := by
  unfold PComp
  split
  · obtain ⟨lc, hc⟩ := XS_ex (room_gD h 4) fun q _ => PE_ex q
    obtain ⟨lk, hk⟩ := XS_ex (room_gD h 5) fun q _ => PD_ex (bs [32, 32, 99, 111, 110, 115, 116, 97, 110, 116, 32]) (bs [32, 58, 32]) q
    obtain ⟨la, ha⟩ := XS_ex (room_gD h 6) fun q hq => PC_ex ind2 cAxiom hq
    exact ⟨_, lc, lk, la, hc, hk, ha, rfl⟩
  · obtain ⟨lv, hv⟩ := XS_ex (room_gD h 7) fun q _ => PD_ex (bs [32, 32, 118, 97, 114, 32]) (bs [32, 58, 32]) q
    obtain ⟨li, hi⟩ := XS_ex (room_gD h 8) fun q hq => PC_ex ind2 cInv hq
    obtain ⟨lva, hva⟩ := XS_ex (room_gD h 9) fun q hq => PV_ex hq
    obtain ⟨l3, h3⟩ := XS_ex (room_gD h 11) fun q hq => PT_ex (bs [32, 32, 32, 32, 119, 105, 116, 104, 32]) (bs [32, 61, 32]) hq
    obtain ⟨l4, h4⟩ := XS_ex (room_gD h 12) fun q hq => PA_ex hq
    obtain ⟨le, he⟩ := XS_ex (room_gD h 13) fun q hq => PEv_ex hq
    exact ⟨_, lv, li, lva, l3, l4, le, hv, hi, hva, h3, h4, he, rfl⟩
theorem liveL_len (b : Bool) : (liveL b).length ≤ 1 := by cases b <;> simp [liveL]
theorem liveL_size (b : Bool) : (txt (liveL b)).size ≤ 10 := by cases b <;> decide
theorem PComp_size (r : List AV) (s : List ByteArray) (h : PComp r s) : (txt s).size ≤ 20000000 * (wtR r + 1) ∧ s.length ≤ 20 * (wtR r + 1) := by
  have y1 := wt_gS r 1
  have y2 := wt_gD r 2
  have y3 := wt_gS r 3
  have y4 := wt_gD r 4
  have y5 := wt_gD r 5
  have y6 := wt_gD r 6
  have y7 := wt_gD r 7
  have y8 := wt_gD r 8
  have y9 := wt_gD r 9
  have y11 := wt_gD r 11
  have y12 := wt_gD r 12
  have y13 := wt_gD r 13
  unfold PComp at h
  split at h
  · obtain ⟨lc, lk, la, hc, hk, ha, rfl⟩ := h
    have z1 := hc.size PE_size
    have z2 := hk.size (PD_size (by decide) (by decide))
    have z3 := ha.size (PC_size (by decide) (by decide))
    have n1 := hc.len PE_len
    have n2 := hk.len PD_len
    have n3 := ha.len PC_len
    have x1 := listB_size cExt (gD r 2)
    constructor
    · simp only [txt, txt_app, app_size, bs_size, List.length_cons, List.length_nil] at *; omega
    · simp only [List.length_append, List.length_cons, List.length_nil]; omega
  · obtain ⟨lv, li, lva, l3, l4, le, hv, hi, hva, h3, h4, he, rfl⟩ := h
    have z1 := hv.size (PD_size (by decide) (by decide))
    have z2 := hi.size (PC_size (by decide) (by decide))
    have z3 := hva.size PV_size
    have z4 := h3.size (PT_size (by decide) (by decide))
    have z5 := h4.size PA_size
    have z6 := he.size PEv_size
    have n1 := hv.len PD_len
    have n2 := hi.len PC_len
    have n3 := hva.len PV_len
    have n4 := h3.len PT_len
    have n5 := h4.len PA_len
    have n6 := he.len PEv_len
    have x1 := listB_size cSees (gD r 2)
    have x2 := liveL_len (gB r 10)
    have x3 := liveL_size (gB r 10)
    have x4 : (mHead (gS r 1) (gD r 2) (gS r 3)).size ≤ 3 * wtR r + 40 := by
      unfold mHead
      split <;> (simp only [app_size, bs_size, List.length_cons, List.length_nil] at *; omega)
    constructor
    · simp only [txt, txt_app, app_size, bs_size, List.length_cons, List.length_nil] at *; omega
    · simp only [List.length_append, List.length_cons, List.length_nil]; omega
theorem room_gS {r : List AV} (h : Room (wtR r)) (j : Nat) : Room (gS r j).size := Nat.le_trans (wt_gS r j) h
section
variable {rows : Rows}
noncomputable abbrev comp6 (l : Nat) (rows : Rows) (i : Int) (f : Bool) (r : List AV) (b : ByteArray) := J6x1000007 l rows rows.length i f (gI r 0) (gS r 1) (gD r 2) (gS r 3) (gD r 4) (gD r 5) (gD r 6) (gD r 7) (gD r 8) (gD r 9) (gB r 10) (gD r 11) (gD r 12) (gD r 13) b
theorem cmp_p {i : Nat} {r : List AV} {ls : List ByteArray} (h : Room (wtR r)) (hP : PComp r ls) (hi : i < 4611686018427387904) (f : Bool) (b : ByteArray) (hb : b.size + (txt ls).size ≤ 140737488355328) {res : ByteArray}
    (hres : ∀ f', Ev (fun l => J6x0 l rows rows.length ((i + 1 : Nat) : Int) f' (b ++ txt ls)) res) : Ev (fun l => comp6 l rows i f r b) res := by
  unfold PComp at hP
  refine .step (fun l => eJ6x1000007 l _ _ _ _ _ _ _ _ _ _ _ _ _ _ _ _ _ _ _) ?_
  rw [wrap_suc i (by omega)]
  split at hP
  · rename_i c
    obtain ⟨f', q⟩ := context_p (a0 := gI r 0) (a3 := gS r 3) (a7 := gD r 7) (a8 := gD r 8) (a9 := gD r 9) (a10 := gB r 10) (a11 := gD r 11) (a12 := gD r 12) (a13 := gD r 13) (room_gD h 2) (room_gD h 4) (room_gD h 5) (room_gD h 6) hP f b hb
    exact .pos (by rw [c]; rfl) (.ask q (hres f'))
  · rename_i c
    obtain ⟨f', q⟩ := machine_p (a0 := gI r 0) (a4 := gD r 4) (a5 := gD r 5) (a6 := gD r 6) (room_gD h 2) (room_gD h 7) (room_gD h 8) (room_gD h 9) (room_gD h 11) (room_gD h 12) (room_gD h 13) hP f b hb
    exact .neg (by simpa using c) (.ask q (hres f'))
noncomputable abbrev comp7 (l : Nat) (rows : Rows) (i : Int) (out : Rows) (r : List AV) := J7x1000007 l rows rows.length i out (gI r 0) (gS r 1) (gD r 2) (gS r 3) (gD r 4) (gD r 5) (gD r 6) (gD r 7) (gD r 8) (gD r 9) (gB r 10) (gD r 11) (gD r 12) (gD r 13)
theorem cmp_r {i : Nat} {r : List AV} {ls : List ByteArray} (h : Room (wtR r)) (hP : PComp r ls) (hi : i < 4611686018427387904) (out : Rows) (hb : out.length + ls.length ≤ 8796093022208) {res : ByteArray}
    (hres : Ev (fun l => J7x0 l rows rows.length ((i + 1 : Nat) : Int) (out ++ rowsL ls)) res) : Ev (fun l => comp7 l rows i out r) res := by
  unfold PComp at hP
  refine .step (fun l => eJ7x1000007 l _ _ _ _ _ _ _ _ _ _ _ _ _ _ _ _ _ _) ?_
  have key : Ev (fun l => J7x1000010 l rows rows.length i (out ++ rowsL ls)) res := .step (fun l => eJ7x1000010 l _ _ _ _) (by rw [wrap_suc i (by omega)]; exact hres)
  split at hP
  · rename_i c
    exact .pos (by rw [c]; rfl) (.ask (context_r (room_gS h 1) (room_gD h 2) (room_gD h 4) (room_gD h 5) (room_gD h 6) (by omega) hP) (.fits (by rw [rowsL_len]; omega) key))
  · rename_i c
    exact .neg (by simpa using c) (.ask (machine_r (room_gS h 1) (room_gS h 3) (room_gD h 2) (room_gD h 7) (room_gD h 8) (room_gD h 9) (room_gD h 11) (room_gD h 12) (room_gD h 13) (by omega) hP) (.fits (by rw [rowsL_len]; omega) key))
def PB (r : List AV) (ls : List ByteArray) : Prop := ∃ l0, PComp r l0 ∧ ls = bs [] :: l0
theorem PB_size (r : List AV) (s : List ByteArray) (h : PB r s) : (txt s).size ≤ 20000001 * (wtR r + 1) := by
  obtain ⟨l0, h0, rfl⟩ := h
  have := (PComp_size r l0 h0).1
  simp only [txt, app_size, bs_size, List.length_cons, List.length_nil]; omega
theorem PB_len (r : List AV) (s : List ByteArray) (h : PB r s) : s.length ≤ 21 * (wtR r + 1) := by
  obtain ⟨l0, h0, rfl⟩ := h
  have := (PComp_size r l0 h0).2
  simp only [List.length_cons]; omega
theorem proj_p (hl : rows.length ≤ 1099511627776) (hm : ∀ r, r ∈ rows → Room (wtR r)) : ∀ (d : Nat) {ls : List ByteArray} {i : Nat}, rows.length - i = d → i ≤ rows.length → 1 ≤ i → XS PB (rows.drop i) ls → ∀ (f : Bool) (b : ByteArray), b.size + (txt ls).size ≤ 140737488355328 →
    Ev (fun l => J6x0 l rows rows.length i f b) (b ++ txt ls)
  | d, ls, i, hd0, hi, h1, h, f, b, hb => by
    generalize hx : rows.drop i = rs at h
    cases h with
    | nil =>
      have : i = rows.length := Nat.le_antisymm hi (List.drop_eq_nil_iff.1 hx)
      subst this
      refine .step (fun l => eJ6x0 l _ _ _ _ _) (.neg (by simp) (.ask (string_p1 f b (by omega)) (.ret' ?_)))
      exact (app_nil b).symm
    | cons hr k =>
      rename_i r rs s ss
      obtain ⟨hlt, hg, hd⟩ := drop_cons hx
      cases d with
      | zero => omega
      | succ d =>
      have hroom := hm r (List.mem_of_getElem? hg)
      obtain ⟨l0, hP, rfl⟩ := hr
      have e : b ++ txt ((bs [] :: l0) ++ ss) = b ++ bs [10] ++ txt l0 ++ txt ss := by
        rw [txt_app]
        simp only [txt, ByteArray.append_assoc]
        rw [show bs [] ++ (bs [10] ++ (txt l0 ++ txt ss)) = bs [10] ++ (txt l0 ++ txt ss) from ByteArray.empty_append]
      have hz := congrArg ByteArray.size e
      rw [e]
      simp only [app_size, bs_size, List.length_cons, List.length_nil] at hz hb
      refine .step (fun l => eJ6x0 l _ _ _ _ _) (.pos (by simp; omega) (.geti rfl hg (.pos (by simp; omega) (.ask (byte_p (m := 10) rfl (by omega) f b (by omega)) (cmp_p hroom hP (by omega) true (b ++ bs [10]) (by simp only [app_size, bs_size, List.length_cons, List.length_nil]; omega) fun f' => ?_)))))
      exact proj_p hl hm d (i := i + 1) (by omega) hlt (by omega) (by rw [hd]; exact k) f' _ (by simp only [app_size, bs_size, List.length_cons, List.length_nil]; omega)
theorem join_txt : ∀ {L : List ByteArray}, L ≠ [] → joinB (rowsL L) (bs [10]) ++ bs [10] = txt L
  | [], h => absurd rfl h
  | [s], _ => by
    rw [show rowsL [s] = [[.sc (.string s)]] from rfl, joinB_one, txt_one]
  | s :: t :: L, _ => by
    rw [show rowsL (s :: t :: L) = [.sc (.string s)] :: [.sc (.string t)] :: rowsL L from rfl, joinB_cons]
    have := join_txt (L := t :: L) (by simp)
    rw [show rowsL (t :: L) = [.sc (.string t)] :: rowsL L from rfl] at this
    rw [txt, ← this]
    simp only [ByteArray.append_assoc]
theorem fin_r {L : List ByteArray} (h : L ≠ []) (hn : L.length ≤ 8796093022208) (hs : (txt L).size ≤ 140737488355328) : Ev (fun l => J7x0 l rows rows.length (rows.length : Int) (rowsL L)) (txt L) := by
  have hj := congrArg ByteArray.size (join_txt h)
  simp only [app_size, bs_size, List.length_cons, List.length_nil] at hj
  refine .step (fun l => eJ7x0 l _ _ _ _) (.neg (by simp) (.pos ?_ (.pos (joinOK_of (by rw [rowsL_len]; omega) (by omega)) (.scat (by simp only [bs_size, List.length_cons, List.length_nil]; omega) (.ret' (join_txt h))))))
  rw [rowsL_len]
  cases L with
  | nil => exact absurd rfl h
  | cons _ _ => simp
theorem proj_r (hl : rows.length ≤ 1099511627776) (hm : ∀ r, r ∈ rows → Room (wtR r)) : ∀ (d : Nat) {ls : List ByteArray} {i : Nat}, rows.length - i = d → i ≤ rows.length → 1 ≤ i → XS PB (rows.drop i) ls → ∀ (L : List ByteArray), L ≠ [] → L.length + ls.length ≤ 8796093022208 → (txt (L ++ ls)).size ≤ 140737488355328 →
    Ev (fun l => J7x0 l rows rows.length i (rowsL L)) (txt (L ++ ls))
  | d, ls, i, hd0, hi, h1, h, L, hL, hn, hs => by
    generalize hx : rows.drop i = rs at h
    cases h with
    | nil =>
      have : i = rows.length := Nat.le_antisymm hi (List.drop_eq_nil_iff.1 hx)
      subst this
      rw [List.append_nil] at hs ⊢
      exact fin_r hL (by simpa using hn) hs
    | cons hr k =>
      rename_i r rs s ss
      obtain ⟨hlt, hg, hd⟩ := drop_cons hx
      cases d with
      | zero => omega
      | succ d =>
      have hroom := hm r (List.mem_of_getElem? hg)
      obtain ⟨l0, hP, rfl⟩ := hr
      simp only [List.length_append, List.length_cons] at hn
      have e : L ++ ((bs [] :: l0) ++ ss) = (L ++ (bs [] :: l0)) ++ ss := by rw [List.append_assoc]
      rw [e] at hs ⊢
      have key := proj_r hl hm d (i := i + 1) (by omega) hlt (by omega) (by rw [hd]; exact k) (L ++ (bs [] :: l0)) (by simp) (by simp only [List.length_append, List.length_cons]; omega) hs
      have e2 : rowsL (L ++ (bs [] :: l0)) = rowsL L ++ [[.sc (.string (bs []))]] ++ rowsL l0 := by
        rw [rowsL_app, List.append_assoc]; rfl
      rw [e2] at key
      refine .step (fun l => eJ7x0 l _ _ _ _) (.pos (by simp; omega) (.geti rfl hg (.pos (by simp; omega) (.fits (by simp only [List.length_cons, List.length_nil, rowsL_len]; omega) (cmp_r hroom hP (by omega) _ (by simp only [List.length_append, List.length_cons, List.length_nil, rowsL_len]; omega) key)))))
end
theorem format_both (rows : Rows) (h : wtRs rows ≤ 2097152) : ∃ s, Ev (fun l => F6 l rows) s ∧ Ev (fun l => F7 l rows) s := by
  have hm : ∀ r, r ∈ rows → Room (wtR r) := room_mem (by unfold Room; omega)
  have hlen := wt_len rows
  cases hr : rows with
  | nil =>
    refine ⟨bs [], .step (fun l => eF6 l _) (.step (fun l => eJ6x0 l _ _ _ _ _) (.neg rfl (.ask (string_p1 _ _ (by decide)) (.ret _)))), .step (fun l => eF7 l _) (.step (fun l => eJ7x0 l _ _ _ _) (.neg rfl (.neg rfl (.ret _))))⟩
  | cons r rs =>
    rw [← hr]
    have hg : rows[0]? = some r := by rw [hr]; rfl
    have hroom := hm r (List.mem_of_getElem? hg)
    obtain ⟨l0, hP⟩ := PComp_ex hroom
    obtain ⟨ls, hX⟩ := XS.mk (P := PB) (rows := rs) fun q hq => by
      obtain ⟨l1, h1⟩ := PComp_ex (hm q (by rw [hr]; exact List.mem_cons_of_mem _ hq))
      exact ⟨_, l1, h1, rfl⟩
    have hz := hX.size PB_size
    have hn := hX.len PB_len
    obtain ⟨hz0, hn0⟩ := PComp_size r l0 hP
    have hw : wtRs rows = wtR r + 1 + wtRs rs := by rw [hr, wtRs]
    have hdrop : rows.drop 1 = rs := by rw [hr]; rfl
    have hpos : 1 ≤ rows.length := by rw [hr]; simp
    have hl0 : l0 ≠ [] := by
      unfold PComp at hP
      split at hP
      · obtain ⟨_, _, _, _, _, _, rfl⟩ := hP; simp
      · obtain ⟨_, _, _, _, _, _, _, _, _, _, _, _, rfl⟩ := hP; simp
    have hs : (txt (l0 ++ ls)).size ≤ 140737488355328 := by rw [txt_app, app_size]; omega
    refine ⟨txt (l0 ++ ls), .step (fun l => eF6 l _) (.step (fun l => eJ6x0 l _ _ _ _ _) (.pos (by simp; omega) (.geti (m := 0) rfl hg (.neg rfl (cmp_p (i := 0) hroom hP (by omega) false (bs []) (by rw [bs_size]; simp; omega) fun f' => ?_))))),
      .step (fun l => eF7 l _) (.step (fun l => eJ7x0 l _ _ _ _) (.pos (by simp; omega) (.geti (m := 0) rfl hg (.neg rfl (cmp_r (i := 0) hroom hP (by omega) [] (by simp; omega) ?_)))))⟩
    · have := proj_p (rows := rows) (by omega) hm _ (i := 1) rfl hpos (by omega) (by rw [hdrop]; exact hX) f' (txt l0) (by rw [txt_app, app_size] at hs; exact hs)
      rw [txt_app]
      have e : bs [] ++ txt l0 = txt l0 := ByteArray.empty_append
      rw [e]; exact this
    · exact proj_r (rows := rows) (by omega) hm _ (i := 1) rfl hpos (by omega) (by rw [hdrop]; exact hX) l0 hl0 (by omega) hs
theorem small_ev {rows : Rows} {i : Nat} (hk : ∀ acc : Int, ∃ b, Ev (fun l => J4x0 l acc rows rows.length ((i + 1 : Nat) : Int)) b) (hi : i < 4611686018427387904) {es : Rows} (he : es.length ≤ 4611686018427387904) :
    ∀ (d j : Nat) (acc : Int), es.length - j = d → ∃ b, Ev (fun l => J4x8 l acc rows rows.length i es es.length j) b
  | 0, j, acc, hd => by
    by_cases c : acc > 4000
    · exact ⟨false, .step (fun l => eJ4x8 l _ _ _ _ _ _ _) (.neg (by simp; omega) (.pos (decide_eq_true c) (.ret _)))⟩
    · obtain ⟨b, h⟩ := hk acc
      exact ⟨b, .step (fun l => eJ4x8 l _ _ _ _ _ _ _) (.neg (by simp; omega) (.neg (decide_eq_false c) (by rw [wrap_suc i (by omega)]; exact h)))⟩
  | d + 1, j, acc, hd => by
    have hj : j < es.length := by omega
    have hg := List.getElem?_eq_getElem hj
    generalize es[j] = r at hg
    have ih := fun acc => small_ev hk hi he d (j + 1) acc (by omega)
    obtain ⟨b, h⟩ := ih (IntKind.i64.wrap (acc + (IntKind.i64.wrap ((IntKind.i64.wrap ((IntKind.i64.wrap ((IntKind.i64.wrap ((IntKind.i64.wrap (1 + (((gD r 1) : List (List AV)).length : Int))) + (((gD r 3) : List (List AV)).length : Int))) + (((gD r 4) : List (List AV)).length : Int))) + (((gD r 5) : List (List AV)).length : Int))) + (((gD r 6) : List (List AV)).length : Int)))))
    by_cases c : IntKind.i64.wrap (acc + (IntKind.i64.wrap ((IntKind.i64.wrap ((IntKind.i64.wrap ((IntKind.i64.wrap ((IntKind.i64.wrap (1 + (((gD r 1) : List (List AV)).length : Int))) + (((gD r 3) : List (List AV)).length : Int))) + (((gD r 4) : List (List AV)).length : Int))) + (((gD r 5) : List (List AV)).length : Int))) + (((gD r 6) : List (List AV)).length : Int)))) > 4000
    · exact ⟨false, .step (fun l => eJ4x8 l _ _ _ _ _ _ _) (.pos (by simp; omega) (.geti rfl hg (.pos (decide_eq_true c) (.ret _))))⟩
    · exact ⟨b, .step (fun l => eJ4x8 l _ _ _ _ _ _ _) (.pos (by simp; omega) (.geti rfl hg (.neg (decide_eq_false c) (by rw [wrap_suc j (by omega)]; exact h))))⟩
theorem small_car {rows : Rows} {i : Nat} {a7 : Int} {a8 : ByteArray} {a9 : Rows} {a10 : ByteArray} {a11 a12 a13 a14 a15 a16 : Rows} {a17 : Bool} {a18 a19 es cs : Rows} (hk : ∀ acc : Int, ∃ b, Ev (fun l => J4x8 l acc rows rows.length i es es.length 0) b) (he : cs.length ≤ 4611686018427387904) :
    ∀ (d j : Nat) (acc : Int), cs.length - j = d → ∃ b, Ev (fun l => J4x4 l acc rows rows.length i cs cs.length j a7 a8 a9 a10 a11 a12 a13 a14 a15 a16 a17 a18 a19 es) b
  | 0, j, acc, hd => by
    obtain ⟨b, h⟩ := hk acc
    exact ⟨b, .step (fun l => eJ4x4 l _ _ _ _ _ _ _ _ _ _ _ _ _ _ _ _ _ _ _ _ _) (.neg (by simp; omega) h)⟩
  | d + 1, j, acc, hd => by
    have hj : j < cs.length := by omega
    have hg := List.getElem?_eq_getElem hj
    generalize cs[j] = r at hg
    obtain ⟨b, h⟩ := small_car (a7 := a7) (a8 := a8) (a9 := a9) (a10 := a10) (a11 := a11) (a12 := a12) (a13 := a13) (a14 := a14) (a15 := a15) (a16 := a16) (a17 := a17) (a18 := a18) (a19 := a19) hk he d (j + 1) (IntKind.i64.wrap (acc + (((gD r 1) : List (List AV)).length : Int))) (by omega)
    exact ⟨b, .step (fun l => eJ4x4 l _ _ _ _ _ _ _ _ _ _ _ _ _ _ _ _ _ _ _ _ _) (.pos (by simp; omega) (.geti rfl hg (by rw [wrap_suc j (by omega)]; exact h)))⟩
theorem small_loop {rows : Rows} (h : Room (wtRs rows)) : ∀ (d i : Nat) (acc : Int), rows.length - i = d → ∃ b, Ev (fun l => J4x0 l acc rows rows.length i) b
  | 0, i, acc, hd => ⟨true, .step (fun l => eJ4x0 l _ _ _ _) (.neg (by simp; omega) (.ret _))⟩
  | d + 1, i, acc, hd => by
    have hlen := room_len h
    have hi : i < rows.length := by omega
    have hg := List.getElem?_eq_getElem hi
    have hroom := room_mem h rows[i] (List.getElem_mem hi)
    generalize rows[i] = r at hg hroom
    have ih := fun acc => small_loop h d (i + 1) acc (by omega)
    have k8 := fun acc => small_ev ih (by omega) (room_len (room_gD hroom 13)) _ 0 acc rfl
    obtain ⟨b, q⟩ := small_car (a7 := gI r 0) (a8 := gS r 1) (a9 := gD r 2) (a10 := gS r 3) (a11 := gD r 4) (a12 := gD r 5) (a13 := gD r 6) (a14 := gD r 7) (a15 := gD r 8) (a16 := gD r 9) (a17 := gB r 10) (a18 := gD r 11) (a19 := gD r 12) (es := gD r 13) k8 (room_len (room_gD hroom 4)) _ 0 _ rfl
    exact ⟨b, .step (fun l => eJ4x0 l _ _ _ _) (.pos (by simp; omega) (.geti rfl hg q))⟩
theorem small_ends (rows : Rows) (h : wtRs rows ≤ 2097152) : ∃ b, Ev (fun l => F4 l rows) b := by
  obtain ⟨b, q⟩ := small_loop (rows := rows) (by unfold Room; omega) _ 0 0 rfl
  exact ⟨b, .step (fun l => eF4 l _) q⟩
end Go.AI
end
