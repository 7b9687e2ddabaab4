/-
  From the reading of the row to the interpreter's data.
-/
import Derived.ChangeArms
import Derived.ProofKit
import GoSem.ClaimJoined
import Derived.Test.YtmlcjnhkphkpiaaGreatDoorProg
import Derived.KernelRfl
import Derived.Test.YtmlcjnhkphkpiaaGreatDoorDat
set_option linter.all false

section
namespace Go.AI
open Go

/-- a world that nobody writes -/
def gw (w : World) : Gh := ⟨fun _ _ => none, fun b i => w.cell? ⟨b, i, none⟩⟩

theorem cell_lt {w : World} {b i : Nat} {u : Value} (hm : w.cell? ⟨b, i, none⟩ = some u) : b < w.heap.size := by
  rcases Nat.lt_or_ge b w.heap.size with a | a
  · exact a
  · exfalso
    have hn : w.heap[b]? = none := Array.getElem?_eq_none a
    unfold World.cell? at hm
    simp [hn] at hm

theorem gw_W (w : World) : W h0 (gw w) w :=
  ⟨fun o x e => (by simp [h0, AHeap.get, Tr.get] at e), fun _ _ _ _ _ e => (by cases e), fun _ _ _ _ _ _ _ _ _ e => (by cases e), fun _ _ _ hm => ⟨hm, cell_lt hm⟩, fun _ _ _ _ _ _ _ _ e => (by cases e)⟩

def light (l : List Nat) : Prop := l.all (· ≤ reachBytes) = true
theorem light_cons {a : Nat} {l : List Nat} : light (a :: l) ↔ a ≤ reachBytes ∧ light l := by simp [light]
theorem light_append {a l : List Nat} : light (a ++ l) ↔ light a ∧ light l := by simp only [light, List.all_append, Bool.and_eq_true]

theorem cell_spot {w : World} {a : Addr} {v : Value} (h : w.cell? a = some v) : a.spot = none := by
  unfold World.cell? at h
  split at h
  · split at h
    · cases h
    · rename_i hs; simpa using hs
  · cases h

theorem add_none {a : Addr} (h : a.spot = none) (n : Nat) : a.add n = ⟨a.block, a.off + n, none⟩ := by
  obtain ⟨b, o, s⟩ := a
  simp only at h; subst h
  unfold Addr.add
  split
  · rename_i e; subst e; rfl
  · rfl

theorem add_spot {a : Addr} {n : Nat} {w : World} {v : Value} (h : w.cell? ((a.add n).add 0) = some v) (hn : n = 0) : a.spot = none := by
  subst hn
  have := cell_spot h
  simpa [Addr.add] using this

section
variable {H : Type} {enc : TypeId × Value → H} {P : Program} {w : World} {sp : Nat → Bool}

theorem weightsAll_get {e : TypeId} : ∀ {l : List (DataW H)}, light (DataW.weightsAll P e l) → ∀ (i : Nat) (d : DataW H), l[i]? = some d → light (d.weights P e)
  | [], _, i, d, h => by simp at h
  | x :: xs, hl, 0, d, h => by
    simp only [DataW.weightsAll, light_append] at hl
    simp at h; subst h; exact hl.1
  | x :: xs, hl, i + 1, d, h => by
    simp only [DataW.weightsAll, light_append] at hl
    exact weightsAll_get hl.2 i d (by simpa using h)

/-- a slice: each element by its own bridge -/
theorem slice_bridge {t e : TypeId} {sz : Nat} {Q : List AV → Prop} (ht : P.underlying t = some (.slice e)) (hc : P.cellsOf e = sz) (hz : 0 < sz) {n : Nat} {cs : List Value} {x : DataW H × List MemPlace}
    (h : DataW.trod enc P w 0 (fun _ => true) true n t cs = some x) (hl : light (x.1.weights P t))
    (hq : ∀ m, m < n → ∀ cs' x', DataW.trod enc P w 0 (fun _ => true) true m e cs' = some x' → light (x'.1.weights P e) → ∃ r, Q r ∧ r.length = sz ∧ heapFrees r = true ∧ VRs (gw w) r cs') :
    ∃ rows v, cs = [v] ∧ VR (gw w) (.isl rows sz) v ∧ (∀ r, r ∈ rows → Q r) ∧ rows.length * P.bytesOf e ≤ reachBytes := by
  rcases DataW.trod_slice ht h with ⟨rfl, rfl⟩ | ⟨a, len, cap, elems, rest, n', rfl, rfl, rfl, hb, hlc, hcm, hlen, hel, hsp, _⟩
  · exact ⟨[], _, rfl, .islNil, by simp, by simp⟩
  · rw [hc] at hel hsp
    simp only [DataW.weights, ht, light_cons, light_append] at hl
    obtain ⟨hl0, hl1, _⟩ := hl
    obtain ⟨hr1, hr2⟩ := hsp rfl
    have hbytes : len * P.bytesOf e ≤ reachBytes := by
      refine Nat.le_trans (Nat.mul_le_mul_right _ ?_) hl0
      simp only [List.length_map]; omega
    -- one element
    have one : ∀ i, i < len → ∃ r cs', Q r ∧ r.length = sz ∧ heapFrees r = true ∧ VRs (gw w) r cs' ∧ cs'.length = sz ∧ ∀ j, j < sz → w.cell? ((a.add (i * sz)).add j) = cs'[j]? := by
      intro i hi
      have h1 := hel i hi
      rw [List.getElem?_eq_getElem (by omega)] at h1
      simp only [Option.bind_eq_some_iff] at h1
      obtain ⟨cs', h1, h2⟩ := h1
      obtain ⟨r, q1, q2, q3, q4⟩ := hq n' (Nat.lt_succ_self _) cs' _ h2 (weightsAll_get hl1 i _ (by simp [List.getElem?_eq_getElem (show i < elems.length by omega)]))
      unfold World.cells? at h1
      rw [if_pos (Nat.zero_le _)] at h1
      exact ⟨r, cs', q1, q2, q3, q4, by simpa using mapM_some_length h1, fun j hj => mapM_some_get h1 j j (by simp [hj])⟩
    have hspot : 0 < cap → a.spot = none := by
      intro h0
      rcases Nat.eq_zero_or_pos len with hz0 | hpos
      · have h1 := hr2 0 (by omega)
        rw [List.getElem?_eq_getElem (by omega)] at h1
        simp only [Option.bind_eq_some_iff] at h1
        obtain ⟨cs', h1, _⟩ := h1
        unfold World.cells? at h1
        rw [if_pos (Nat.zero_le _)] at h1
        have hl' : cs'.length = sz := by simpa using mapM_some_length h1
        have := mapM_some_get h1 0 0 (by simp [hz])
        rw [List.getElem?_eq_getElem (by omega)] at this
        exact add_spot this (by simp [hz0])
      · obtain ⟨r, cs', _, _, _, _, q5, q6⟩ := one 0 hpos
        have := q6 0 hz
        rw [List.getElem?_eq_getElem (by omega)] at this
        exact add_spot this (by simp)
    rcases Nat.eq_zero_or_pos cap with hcap | hcap
    · have e0 : len = 0 := by omega
      subst e0; subst hcap
      exact ⟨[], _, rfl, .islE a, by simp, by simp⟩
    · have hsn := hspot hcap
      have build : ∀ k, k ≤ len → ∃ rows : List (List AV), rows.length = k ∧ (∀ r, r ∈ rows → Q r ∧ r.length = sz ∧ heapFrees r = true) ∧ ∀ i x, rows.flatten[i]? = some x → ∃ v, w.cell? ⟨a.block, a.off + i, none⟩ = some v ∧ VR (gw w) x v := by
        intro k
        induction k with
        | zero => intro _; exact ⟨[], rfl, by simp, by simp⟩
        | succ k ih =>
          intro hk
          obtain ⟨rows, p1, p2, p3⟩ := ih (by omega)
          obtain ⟨r, cs', q1, q2, q3, q4, q5, q6⟩ := one k (by omega)
          refine ⟨rows ++ [r], by simp [p1], ?_, ?_⟩
          · intro r' hr'
            rcases List.mem_append.1 hr' with hr' | hr'
            · exact p2 r' hr'
            · simp at hr'; subst hr'; exact ⟨q1, q2, q3⟩
          · intro i x hx
            have hfl : rows.flatten.length = k * sz := by rw [flat_len (sz := sz) fun r hr => (p2 r hr).2.1, p1]
            rw [List.flatten_append, List.flatten_singleton] at hx
            rcases Nat.lt_or_ge i (k * sz) with hi | hi
            · rw [List.getElem?_append_left (by omega)] at hx
              exact p3 i x hx
            · rw [List.getElem?_append_right (by omega), hfl] at hx
              have hj : i - k * sz < sz := by
                rcases Nat.lt_or_ge (i - k * sz) r.length with hj | hj
                · omega
                · rw [List.getElem?_eq_none hj] at hx; cases hx
              have hcell := q6 (i - k * sz) hj
              rw [List.getElem?_eq_getElem (by omega)] at hcell
              refine ⟨_, ?_, q4.get _ x _ hx (List.getElem?_eq_getElem (by omega))⟩
              have e1 : (⟨a.block, a.off + i, none⟩ : Addr) = ⟨a.block, a.off + k * sz + (i - k * sz), none⟩ := by
                congr 1
                omega
              rw [← hcell, add_none hsn, add_none rfl, e1]
      obtain ⟨rows, p1, p2, p3⟩ := build len (Nat.le_refl _)
      have hl2 : ∀ r, r ∈ rows → r.length = sz := fun r hr => (p2 r hr).2.1
      obtain ⟨b, off, spt⟩ := a
      simp only at hsn; subst hsn
      refine ⟨rows, _, rfl, ?_, fun r hr => (p2 r hr).1, by rw [p1]; exact hbytes⟩
      rw [← p1]
      refine .isl hl2 ?_ (.psl (fun i => (w.cell? ⟨b, off + i, none⟩).getD .nilIface) ?_ ?_ (flat_len hl2) (by omega) (by simp))
      · rw [heapFrees_mem]
        intro x hx
        obtain ⟨r, hr, hxr⟩ := List.mem_flatten.1 hx
        exact heapFrees_mem.1 (p2 r hr).2.2 x hxr
      · intro i x hx
        obtain ⟨v, hv, _⟩ := p3 i x hx
        show w.cell? ⟨b, off + i, none⟩ = some _
        rw [hv]; rfl
      · intro i x hx
        obtain ⟨v, hv, hr⟩ := p3 i x hx
        simp only [hv, Option.getD_some]
        exact hr

theorem ints_bridge {t e : TypeId} (ht : P.underlying t = some (.slice e)) (he : P.underlying e = some (.int .i64)) (hc : P.cellsOf e = 1) (hb : P.bytesOf e = 8) {n : Nat} {cs : List Value} {x : DataW H × List MemPlace}
    (h : DataW.trod enc P w 0 (fun _ => true) true n t cs = some x) (hl : light (x.1.weights P t)) : ∃ (l : List Int) (v : Value), cs = [v] ∧ VR (gw w) (.isl (intRows l) 1) v ∧ l.length * 8 ≤ reachBytes := by
  obtain ⟨rows, v, rfl, hv, hq, hlen⟩ := slice_bridge (Q := fun r => ∃ k : Int, r = [.sc (.int .i64 k)]) ht hc (by decide) h hl (fun m _ cs' x' h' _ => by
    obtain ⟨k, rfl, _, _⟩ := DataW.trod_int he h'
    exact ⟨_, ⟨k, rfl⟩, rfl, rfl, .sc _, trivial⟩)
  rw [hb] at hlen
  have : ∀ rows : List (List AV), (∀ r, r ∈ rows → ∃ k : Int, r = [.sc (.int .i64 k)]) → ∃ l, rows = intRows l := by
    intro rows
    induction rows with
    | nil => intro _; exact ⟨[], rfl⟩
    | cons r rows ih =>
      intro hq
      obtain ⟨k, rfl⟩ := hq _ (List.mem_cons_self ..)
      obtain ⟨l, rfl⟩ := ih fun r hr => hq r (List.mem_cons_of_mem _ hr)
      exact ⟨k :: l, rfl⟩
  obtain ⟨l, rfl⟩ := this rows hq
  rw [intRows_length] at hlen
  exact ⟨l, v, rfl, hv, hlen⟩
end
end Go.AI
end

/-
  From the reading of the row to proofs, steps, terms and types.
-/
section
namespace Go.AI
open Go Go.Proofs

theorem cells3 : Tryz.prog.cellsOf 3 = 1 := by kernel_rfl
theorem cells9 : Tryz.prog.cellsOf 9 = 1 := by kernel_rfl
theorem cells22 : Tryz.prog.cellsOf 22 = 1 := by kernel_rfl
theorem cells23 : Tryz.prog.cellsOf 23 = 1 := by kernel_rfl
theorem cells26 : Tryz.prog.cellsOf 26 = 1 := by kernel_rfl
theorem cells38 : Tryz.prog.cellsOf 38 = 1 := by kernel_rfl
theorem cells25 : Tryz.prog.cellsOf 25 = 6 := by kernel_rfl
theorem cells28 : Tryz.prog.cellsOf 28 = 7 := by kernel_rfl
theorem cells40 : Tryz.prog.cellsOf 40 = 3 := by kernel_rfl
theorem cells49 : Tryz.prog.cellsOf 49 = 7 := by kernel_rfl
theorem bytes3 : Tryz.prog.bytesOf 3 = 8 := by kernel_rfl
theorem bytes28 : Tryz.prog.bytesOf 28 = 128 := by kernel_rfl
theorem bytes40 : Tryz.prog.bytesOf 40 = 48 := by kernel_rfl
theorem bytes49 : Tryz.prog.bytesOf 49 = 104 := by kernel_rfl
theorem reach_le {n : Nat} (h : n ≤ reachBytes) : n ≤ 140737488355328 := Nat.le_trans h (by decide)

theorem len2 {α : Type} {l : List α} (h : l.length = 2) : ∃ a0 a1, l = [a0, a1] := by
  match l, h with
  | [a0, a1], _ => exact ⟨a0, a1, rfl⟩
theorem len3 {α : Type} {l : List α} (h : l.length = 3) : ∃ a0 a1 a2, l = [a0, a1, a2] := by
  match l, h with
  | [a0, a1, a2], _ => exact ⟨a0, a1, a2, rfl⟩
theorem len5 {α : Type} {l : List α} (h : l.length = 5) : ∃ a0 a1 a2 a3 a4, l = [a0, a1, a2, a3, a4] := by
  match l, h with
  | [a0, a1, a2, a3, a4], _ => exact ⟨a0, a1, a2, a3, a4, rfl⟩
theorem len6 {α : Type} {l : List α} (h : l.length = 6) : ∃ a0 a1 a2 a3 a4 a5, l = [a0, a1, a2, a3, a4, a5] := by
  match l, h with
  | [a0, a1, a2, a3, a4, a5], _ => exact ⟨a0, a1, a2, a3, a4, a5, rfl⟩
theorem len7 {α : Type} {l : List α} (h : l.length = 7) : ∃ a0 a1 a2 a3 a4 a5 a6, l = [a0, a1, a2, a3, a4, a5, a6] := by
  match l, h with
  | [a0, a1, a2, a3, a4, a5, a6], _ => exact ⟨a0, a1, a2, a3, a4, a5, a6, rfl⟩
theorem Ty.of_rows : ∀ {rows : List (List AV)}, (∀ r, r ∈ rows → ∃ a : Ty, a.ok ∧ r = a.cells) → ∃ l, Ty.oks l ∧ rows = Ty.rows l
  | [], _ => ⟨[], trivial, rfl⟩
  | r :: rows, h => by
    obtain ⟨a, ha, rfl⟩ := h r (List.mem_cons_self ..)
    obtain ⟨l, hl, rfl⟩ := Ty.of_rows (rows := rows) fun r hr => h r (List.mem_cons_of_mem _ hr)
    exact ⟨a :: l, ⟨ha, hl⟩, rfl⟩
theorem Tm.of_rows : ∀ {rows : List (List AV)}, (∀ r, r ∈ rows → ∃ a : Tm, a.ok ∧ r = a.cells) → ∃ l, Tm.oks l ∧ rows = Tm.rows l
  | [], _ => ⟨[], trivial, rfl⟩
  | r :: rows, h => by
    obtain ⟨a, ha, rfl⟩ := h r (List.mem_cons_self ..)
    obtain ⟨l, hl, rfl⟩ := Tm.of_rows (rows := rows) fun r hr => h r (List.mem_cons_of_mem _ hr)
    exact ⟨a :: l, ⟨ha, hl⟩, rfl⟩
theorem Prf.of_rows : ∀ {rows : List (List AV)}, (∀ r, r ∈ rows → ∃ a : Prf, a.ok ∧ r = a.cells) → ∃ l, Prf.oks l ∧ rows = Prf.rows l
  | [], _ => ⟨[], trivial, rfl⟩
  | r :: rows, h => by
    obtain ⟨a, ha, rfl⟩ := h r (List.mem_cons_self ..)
    obtain ⟨l, hl, rfl⟩ := Prf.of_rows (rows := rows) fun r hr => h r (List.mem_cons_of_mem _ hr)
    exact ⟨a :: l, ⟨ha, hl⟩, rfl⟩

section
variable {H : Type} {enc : TypeId × Value → H} {w : World}

theorem ty_bridge : ∀ (n : Nat) (cs : List Value) (x : DataW H × List MemPlace), DataW.trod enc Tryz.prog w 0 (fun _ => true) true n 40 cs = some x → light (x.1.weights Tryz.prog 40) → ∃ a : Ty, a.ok ∧ VRs (gw w) a.cells cs := by
  intro n
  induction n using Nat.strongRecOn with
  | _ n ih =>
    intro cs x h hl
    obtain ⟨xs, m, rfl, rfl, hlen, hxs, hf⟩ := DataW.trod_struct Tryz.underlying40 h
    rw [cells40] at hlen
    have hxs : xs.length = 3 := hxs
    obtain ⟨v0, v1, v2, rfl⟩ := len3 hlen
    obtain ⟨x0, x1, x2, rfl⟩ := len3 hxs
    have hl : light (DataW.weightsEach Tryz.prog [3, 9, 38] [x0.1, x1.1, x2.1]) := by
      simpa [DataW.weights, Tryz.underlying40] using hl
    simp only [DataW.weightsEach, light_append] at hl
    obtain ⟨hl0, hl1, hl2, _⟩ := hl
    have f0 : DataW.trod enc Tryz.prog w 0 (fun _ => true) true m 3 [v0] = some x0 := by
      have := hf 0 { name := "Kind", type := 3, offset := 0, embedded := false, tag := "", pkgPath := "", byteOffset := 0 } rfl
      rw [cells3] at this
      exact this
    have f1 : DataW.trod enc Tryz.prog w 0 (fun _ => true) true m 9 [v1] = some x1 := by
      have := hf 1 { name := "Name", type := 9, offset := 1, embedded := false, tag := "", pkgPath := "", byteOffset := 8 } rfl
      rw [cells9] at this
      exact this
    have f2 : DataW.trod enc Tryz.prog w 0 (fun _ => true) true m 38 [v2] = some x2 := by
      have := hf 2 { name := "Kids", type := 38, offset := 2, embedded := false, tag := "", pkgPath := "", byteOffset := 24 } rfl
      rw [cells38] at this
      exact this
    obtain ⟨k0, e0, _, _⟩ := DataW.trod_int Tryz.underlying3 f0
    obtain rfl := (List.cons.inj e0).1
    obtain ⟨k1, e1, _, _⟩ := DataW.trod_string Tryz.underlying9 f1
    obtain rfl := (List.cons.inj e1).1
    obtain ⟨rows, vk, ek, hvk, hqk, hbk⟩ := slice_bridge (Q := fun r => ∃ a : Ty, a.ok ∧ r = a.cells) Tryz.underlying38 cells40 (by decide) f2 hl2 (fun j hj cs' x' h' hl' => by
      obtain ⟨a, ha, hv⟩ := ih j (by omega) cs' x' h' hl'
      exact ⟨a.cells, ⟨a, ha, rfl⟩, a.cells_len, frees_of_dat a.cells_dat, hv⟩)
    obtain ⟨l, hol, rfl⟩ := Ty.of_rows hqk
    rw [bytes40, Ty.rows_length] at hbk
    obtain rfl := (List.cons.inj ek).1
    exact ⟨.mk k0 k1 l, ⟨reach_le hbk, hol⟩, .sc _, .sc _, hvk, trivial⟩

theorem tm_bridge : ∀ (n : Nat) (cs : List Value) (x : DataW H × List MemPlace), DataW.trod enc Tryz.prog w 0 (fun _ => true) true n 49 cs = some x → light (x.1.weights Tryz.prog 49) → ∃ a : Tm, a.ok ∧ VRs (gw w) a.cells cs := by
  intro n
  induction n using Nat.strongRecOn with
  | _ n ih =>
    intro cs x h hl
    obtain ⟨xs, m, rfl, rfl, hlen, hxs, hf⟩ := DataW.trod_struct Tryz.underlying49 h
    rw [cells49] at hlen
    have hxs : xs.length = 5 := hxs
    obtain ⟨v0, v1, v2, v3, v4, v5, v6, rfl⟩ := len7 hlen
    obtain ⟨x0, x1, x2, x3, x4, rfl⟩ := len5 hxs
    have hl : light (DataW.weightsEach Tryz.prog [3, 9, 3, 40, 23] [x0.1, x1.1, x2.1, x3.1, x4.1]) := by
      simpa [DataW.weights, Tryz.underlying49] using hl
    simp only [DataW.weightsEach, light_append] at hl
    obtain ⟨hl0, hl1, hl2, hl3, hl4, _⟩ := hl
    have f0 : DataW.trod enc Tryz.prog w 0 (fun _ => true) true m 3 [v0] = some x0 := by
      have := hf 0 { name := "Op", type := 3, offset := 0, embedded := false, tag := "", pkgPath := "", byteOffset := 0 } rfl
      rw [cells3] at this
      exact this
    have f1 : DataW.trod enc Tryz.prog w 0 (fun _ => true) true m 9 [v1] = some x1 := by
      have := hf 1 { name := "Name", type := 9, offset := 1, embedded := false, tag := "", pkgPath := "", byteOffset := 8 } rfl
      rw [cells9] at this
      exact this
    have f2 : DataW.trod enc Tryz.prog w 0 (fun _ => true) true m 3 [v2] = some x2 := by
      have := hf 2 { name := "N", type := 3, offset := 2, embedded := false, tag := "", pkgPath := "", byteOffset := 24 } rfl
      rw [cells3] at this
      exact this
    have f3 : DataW.trod enc Tryz.prog w 0 (fun _ => true) true m 40 [v3, v4, v5] = some x3 := by
      have := hf 3 { name := "T", type := 40, offset := 3, embedded := false, tag := "", pkgPath := "", byteOffset := 32 } rfl
      rw [cells40] at this
      exact this
    have f4 : DataW.trod enc Tryz.prog w 0 (fun _ => true) true m 23 [v6] = some x4 := by
      have := hf 4 { name := "Kids", type := 23, offset := 6, embedded := false, tag := "", pkgPath := "", byteOffset := 80 } rfl
      rw [cells23] at this
      exact this
    obtain ⟨k0, e0, _, _⟩ := DataW.trod_int Tryz.underlying3 f0
    obtain rfl := (List.cons.inj e0).1
    obtain ⟨k1, e1, _, _⟩ := DataW.trod_string Tryz.underlying9 f1
    obtain rfl := (List.cons.inj e1).1
    obtain ⟨k2, e2, _, _⟩ := DataW.trod_int Tryz.underlying3 f2
    obtain rfl := (List.cons.inj e2).1
    obtain ⟨⟨tk, tn, ts⟩, hty, hvt⟩ := ty_bridge _ _ _ f3 hl3
    obtain ⟨rows, vk, ek, hvk, hqk, hbk⟩ := slice_bridge (Q := fun r => ∃ a : Tm, a.ok ∧ r = a.cells) Tryz.underlying23 cells49 (by decide) f4 hl4 (fun j hj cs' x' h' hl' => by
      obtain ⟨a, ha, hv⟩ := ih j (by omega) cs' x' h' hl'
      exact ⟨a.cells, ⟨a, ha, rfl⟩, a.cells_len, frees_of_dat a.cells_dat, hv⟩)
    obtain ⟨l, hol, rfl⟩ := Tm.of_rows hqk
    rw [bytes49, Tm.rows_length] at hbk
    obtain rfl := (List.cons.inj ek).1
    exact ⟨.mk k0 k1 k2 (.mk tk tn ts) l, ⟨hty, reach_le hbk, hol⟩, .sc _, .sc _, .sc _, hvt.1, hvt.2.1, hvt.2.2.1, hvk, trivial⟩

theorem stp_bridge (n : Nat) (cs : List Value) (x : DataW H × List MemPlace) (h : DataW.trod enc Tryz.prog w 0 (fun _ => true) true n 25 cs = some x) (hl : light (x.1.weights Tryz.prog 25)) : ∃ s : Stp, s.ok ∧ VRs (gw w) s.cells cs := by
  obtain ⟨xs, m, rfl, rfl, hlen, hxs, hf⟩ := DataW.trod_struct Tryz.underlying25 h
  rw [cells25] at hlen
  have hxs : xs.length = 6 := hxs
  obtain ⟨v0, v1, v2, v3, v4, v5, rfl⟩ := len6 hlen
  obtain ⟨x0, x1, x2, x3, x4, x5, rfl⟩ := len6 hxs
  have hl : light (DataW.weightsEach Tryz.prog [3, 3, 9, 22, 23, 22] [x0.1, x1.1, x2.1, x3.1, x4.1, x5.1]) := by
    simpa [DataW.weights, Tryz.underlying25] using hl
  simp only [DataW.weightsEach, light_append] at hl
  obtain ⟨hl0, hl1, hl2, hl3, hl4, hl5, _⟩ := hl
  have f0 : DataW.trod enc Tryz.prog w 0 (fun _ => true) true m 3 [v0] = some x0 := by
    have := hf 0 { name := "Rule", type := 3, offset := 0, embedded := false, tag := "", pkgPath := "", byteOffset := 0 } rfl
    rw [cells3] at this
    exact this
  have f1 : DataW.trod enc Tryz.prog w 0 (fun _ => true) true m 3 [v1] = some x1 := by
    have := hf 1 { name := "B", type := 3, offset := 1, embedded := false, tag := "", pkgPath := "", byteOffset := 8 } rfl
    rw [cells3] at this
    exact this
  have f2 : DataW.trod enc Tryz.prog w 0 (fun _ => true) true m 9 [v2] = some x2 := by
    have := hf 2 { name := "Name", type := 9, offset := 2, embedded := false, tag := "", pkgPath := "", byteOffset := 16 } rfl
    rw [cells9] at this
    exact this
  have f3 : DataW.trod enc Tryz.prog w 0 (fun _ => true) true m 22 [v3] = some x3 := by
    have := hf 3 { name := "Path", type := 22, offset := 3, embedded := false, tag := "", pkgPath := "", byteOffset := 32 } rfl
    rw [cells22] at this
    exact this
  have f4 : DataW.trod enc Tryz.prog w 0 (fun _ => true) true m 23 [v4] = some x4 := by
    have := hf 4 { name := "Terms", type := 23, offset := 4, embedded := false, tag := "", pkgPath := "", byteOffset := 56 } rfl
    rw [cells23] at this
    exact this
  have f5 : DataW.trod enc Tryz.prog w 0 (fun _ => true) true m 22 [v5] = some x5 := by
    have := hf 5 { name := "Nums", type := 22, offset := 5, embedded := false, tag := "", pkgPath := "", byteOffset := 80 } rfl
    rw [cells22] at this
    exact this
  obtain ⟨k0, e0, _, _⟩ := DataW.trod_int Tryz.underlying3 f0
  obtain rfl := (List.cons.inj e0).1
  obtain ⟨k1, e1, _, _⟩ := DataW.trod_int Tryz.underlying3 f1
  obtain rfl := (List.cons.inj e1).1
  obtain ⟨k2, e2, _, _⟩ := DataW.trod_string Tryz.underlying9 f2
  obtain rfl := (List.cons.inj e2).1
  obtain ⟨lp, vp', ep, hvp, hbp⟩ := ints_bridge Tryz.underlying22 Tryz.underlying3 cells3 bytes3 f3 hl3
  obtain rfl := (List.cons.inj ep).1
  obtain ⟨rows, vk, ek, hvk, hqk, hbk⟩ := slice_bridge (Q := fun r => ∃ a : Tm, a.ok ∧ r = a.cells) Tryz.underlying23 cells49 (by decide) f4 hl4 (fun j hj cs' x' h' hl' => by
    obtain ⟨a, ha, hv⟩ := tm_bridge _ _ _ h' hl'
    exact ⟨a.cells, ⟨a, ha, rfl⟩, a.cells_len, frees_of_dat a.cells_dat, hv⟩)
  obtain ⟨l, hol, rfl⟩ := Tm.of_rows hqk
  rw [bytes49, Tm.rows_length] at hbk
  obtain rfl := (List.cons.inj ek).1
  obtain ⟨lu, vu', eu, hvu, hbu⟩ := ints_bridge Tryz.underlying22 Tryz.underlying3 cells3 bytes3 f5 hl5
  obtain rfl := (List.cons.inj eu).1
  exact ⟨⟨k0, k1, k2, lp, l, lu⟩, ⟨reach_le hbp, reach_le hbk, hol, reach_le hbu⟩, .sc _, .sc _, .sc _, hvp, hvk, hvu, trivial⟩

theorem prf_bridge : ∀ (n : Nat) (cs : List Value) (x : DataW H × List MemPlace), DataW.trod enc Tryz.prog w 0 (fun _ => true) true n 28 cs = some x → light (x.1.weights Tryz.prog 28) → ∃ a : Prf, a.ok ∧ VRs (gw w) a.cells cs := by
  intro n
  induction n using Nat.strongRecOn with
  | _ n ih =>
    intro cs x h hl
    obtain ⟨xs, m, rfl, rfl, hlen, hxs, hf⟩ := DataW.trod_struct Tryz.underlying28 h
    rw [cells28] at hlen
    have hxs : xs.length = 2 := hxs
    obtain ⟨v0, v1, v2, v3, v4, v5, v6, rfl⟩ := len7 hlen
    obtain ⟨x0, x1, rfl⟩ := len2 hxs
    have hl : light (DataW.weightsEach Tryz.prog [25, 26] [x0.1, x1.1]) := by
      simpa [DataW.weights, Tryz.underlying28] using hl
    simp only [DataW.weightsEach, light_append] at hl
    obtain ⟨hl0, hl1, _⟩ := hl
    have f0 : DataW.trod enc Tryz.prog w 0 (fun _ => true) true m 25 [v0, v1, v2, v3, v4, v5] = some x0 := by
      have := hf 0 { name := "Step", type := 25, offset := 0, embedded := false, tag := "", pkgPath := "", byteOffset := 0 } rfl
      rw [cells25] at this
      exact this
    have f1 : DataW.trod enc Tryz.prog w 0 (fun _ => true) true m 26 [v6] = some x1 := by
      have := hf 1 { name := "Kids", type := 26, offset := 6, embedded := false, tag := "", pkgPath := "", byteOffset := 104 } rfl
      rw [cells26] at this
      exact this
    obtain ⟨⟨r, b, nm, p, ts, u⟩, hs, hvs⟩ := stp_bridge _ _ _ f0 hl0
    obtain ⟨rows, vk, ek, hvk, hqk, hbk⟩ := slice_bridge (Q := fun r => ∃ a : Prf, a.ok ∧ r = a.cells) Tryz.underlying26 cells28 (by decide) f1 hl1 (fun j hj cs' x' h' hl' => by
      obtain ⟨a, ha, hv⟩ := ih j (by omega) cs' x' h' hl'
      exact ⟨a.cells, ⟨a, ha, rfl⟩, a.cells_len, frees_of_dat a.cells_dat, hv⟩)
    obtain ⟨l, hol, rfl⟩ := Prf.of_rows hqk
    rw [bytes28, Prf.rows_length] at hbk
    obtain rfl := (List.cons.inj ek).1
    obtain ⟨z0, z1, z2, z3, z4, z5, _⟩ := hvs
    exact ⟨.mk ⟨r, b, nm, p, ts, u⟩ l, ⟨hs, reach_le hbk, hol⟩, z0, z1, z2, z3, z4, z5, hvk, trivial⟩
end
end Go.AI
end
