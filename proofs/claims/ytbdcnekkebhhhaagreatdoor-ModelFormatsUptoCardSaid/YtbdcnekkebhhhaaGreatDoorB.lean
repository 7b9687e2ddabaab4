/-
  From the reading of a row to data, for every type of plain data.
-/
import Derived.ChangeArms
import Derived.ProofKit
import GoSem.ClaimJoined
import Derived.Test.YtbdcnekkebhhhaaGreatDoorSe
import Derived.Test.YtbdcnekkebhhhaaGreatDoorSa
set_option linter.all false

namespace Go.AI
open Go
set_option linter.all false
theorem wtR_append : ∀ (a b : List AV), wtR (a ++ b) = wtR a + wtR b
  | [], b => by simp [wtR]
  | c :: a, b => by rw [List.cons_append, wtR, wtR_append a b, wtR]; omega
theorem wtRs_snoc : ∀ (a : List (List AV)) (r : List AV), wtRs (a ++ [r]) = wtRs a + (wtR r + 1)
  | [], r => by simp [wtRs]
  | q :: a, r => by rw [List.cons_append, wtRs, wtRs_snoc a r, wtRs]; omega
def gw (w : World) : Gh := ⟨fun _ _ => none, fun b i => w.cell? ⟨b, i, none⟩⟩
theorem cell_lt {w : World} {b i : Nat} {u : Value} (hm : w.cell? ⟨b, i, none⟩ = some u) : b < w.heap.size := by
  rcases Nat.lt_or_ge b w.heap.size with a | a
  · exact a
  · exfalso
    have hn : w.heap[b]? = none := Array.getElem?_eq_none a
    unfold World.cell? at hm
    simp [hn] at hm
theorem gw_W {w : World} (hg : GloOK w) : W h0 (gw w) w :=
  ⟨fun o x e => (by simp [h0, AHeap.get, Tr.get] at e), fun _ _ _ _ _ e => (by cases e), fun _ _ _ _ _ _ _ _ _ e => (by cases e), fun _ _ _ hm => ⟨hm, cell_lt hm⟩, fun _ _ _ _ _ _ _ _ e => (by cases e), fun b cs e => by
    obtain ⟨⟨x, y, h1⟩, h2⟩ := hg b cs e
    refine ⟨⟨x, y, h1⟩, cs[0], ?_⟩
    show w.cell? ⟨b, 0, none⟩ = _
    unfold World.cell?
    simp only [h1]
    simp [h2]⟩
theorem hasCells_of_var {P : Program} {w : World} {n : String} {g : Nat} {cs : Array Value} (hg : P.globalNamed n = some g) (h : w.var? P n = some cs) : HasCells w g cs := by
  unfold World.var? at h
  rw [hg] at h
  simp only [Option.bind_some] at h
  split at h
  · rename_i c x y e
    cases h; exact ⟨x, y, e⟩
  · cases h
theorem cell_spot {w : World} {a : Addr} {v : Value} (h : w.cell? a = some v) : a.spot = none := by
  unfold World.cell? at h
  split at h
  · split at h
    · cases h
    · rename_i hs; simpa using hs
  · cases h
theorem add_none {a : Addr} (h : a.spot = none) (n : Nat) : a.add n = ⟨a.block, a.off + n, none⟩ := by
  obtain ⟨b, o, s⟩ := a
  simp only at h; subst h
  unfold Addr.add
  split
  · rename_i e; subst e; rfl
  · rfl
theorem add_spot {a : Addr} {n : Nat} {w : World} {v : Value} (h : w.cell? ((a.add n).add 0) = some v) (hn : n = 0) : a.spot = none := by
  subst hn
  have := cell_spot h
  simpa [Addr.add] using this
structure Blk (H : Type) where
  blk : DataW H → Nat
  all : List (DataW H) → Nat
  str : ∀ b, blk (.lit (.string b)) = b.length + 1
  lit : ∀ l, 1 ≤ blk (.lit l)
  nil : 1 ≤ blk .nil
  sl : ∀ es sp, all es + 1 ≤ blk (.slice es sp)
  agg : ∀ ps, blk (.agg ps) = all ps + 1
  none : all [] = 0
  cons : ∀ d r, all (d :: r) = blk d + all r
section
variable (P : Program) (S : List TypeId)
def layAll (fs : List Field) : List Lf := (fs.map fun f => lay P f.type).flatten
def fldOK : Nat → List Field → Prop
  | _, [] => True
  | o, f :: fs => f.offset = o ∧ f.type ∈ S ∧ P.cellsOf f.type = (lay P f.type).length ∧ fldOK (o + (lay P f.type).length) fs
def fldB : Nat → List Field → Bool
  | _, [] => true
  | o, f :: fs => Nat.beq f.offset o && (S.contains f.type && (Nat.beq (P.cellsOf f.type) (lay P f.type).length && fldB (o + (lay P f.type).length) fs))
theorem fld_of : ∀ {o : Nat} {fs : List Field}, fldB P S o fs = true → fldOK P S o fs
  | _, [], _ => trivial
  | o, f :: fs, h => by
    unfold fldB at h
    rw [Bool.and_eq_true, Bool.and_eq_true, Bool.and_eq_true] at h
    exact ⟨Nat.eq_of_beq_eq_true h.1, by simpa using h.2.1, Nat.eq_of_beq_eq_true h.2.2.1, fld_of h.2.2.2⟩
def okT (t : TypeId) : Prop :=
  (∃ k, P.underlying t = some (.int k) ∧ lay P t = [.int k]) ∨ (P.underlying t = some .bool ∧ lay P t = [.bool]) ∨ (P.underlying t = some .string ∧ lay P t = [.str]) ∨
  (∃ e, P.underlying t = some (.slice e) ∧ lay P t = [.sl e] ∧ e ∈ S ∧ sizeT P e = some (lay P e).length ∧ 0 < (lay P e).length ∧ P.cellsOf e = (lay P e).length) ∨
  (∃ fs : Array Field, P.underlying t = some (.struct fs) ∧ lay P t = layAll P fs.toList ∧ P.cellsOf t = (lay P t).length ∧ fldOK P S 0 fs.toList)
end
section
variable {H : Type} {enc : TypeId × Value → H} {P : Program} {S : List TypeId} {w : World} {B : Blk H}
theorem rdRow_app {wd : Wd} : ∀ {l1 l2 : List Lf} {a a' b b' : List AV}, RdRow P wd l1 a a' → RdRow P wd l2 b b' → RdRow P wd (l1 ++ l2) (a ++ b) (a' ++ b')
  | _, _, _, _, _, _, .nil, h => h
  | _, _, _, _, _, _, .cons h k, h' => .cons h (rdRow_app k h')
theorem rdRows_snoc {wd : Wd} {l : List Lf} {r r' : List AV} (h : RdRow P wd l r r') : ∀ {a a' : List (List AV)}, RdRows P wd l a a' → RdRows P wd l (a ++ [r]) (a' ++ [r'])
  | _, _, .nil _ => .cons h (.nil _)
  | _, _, .cons h1 k => .cons h1 (rdRows_snoc h k)
theorem rdRow_len {wd : Wd} : ∀ {l : List Lf} {a a' : List AV}, RdRow P wd l a a' → a.length = l.length
  | _, _, _, .nil => rfl
  | _, _, _, .cons _ k => by rw [List.length_cons, List.length_cons, rdRow_len k]
theorem frees_app {a b : List AV} (h1 : heapFrees a = true) (h2 : heapFrees b = true) : heapFrees (a ++ b) = true := by
  rw [heapFrees_mem] at *
  intro x hx
  rcases List.mem_append.1 hx with h | h
  · exact h1 x h
  · exact h2 x h
theorem Blk.snoc (B : Blk H) : ∀ (l : List (DataW H)) (d : DataW H), B.all (l ++ [d]) = B.all l + B.blk d
  | [], d => by rw [List.nil_append, B.cons, B.none]; omega
  | x :: l, d => by rw [List.cons_append, B.cons, B.snoc l d, B.cons]; omega
abbrev BrR (P : Program) (B : Blk H) (w : World) (t : TypeId) (cs : List Value) (d : DataW H) : Prop := ∃ r, RdRow P w00S (lay P t) r r ∧ heapFrees r = true ∧ VRs (gw w) r cs ∧ wtR r + 1 ≤ 2 * B.blk d
theorem br_fields {m : Nat} {cs : List Value} (ih : ∀ t cs (x : DataW H × List MemPlace), t ∈ S → DataW.trod enc P w 0 (fun _ => true) true m t cs = some x → BrR P B w t cs x.1) : ∀ (fs : List Field) (o : Nat) (ys : List (DataW H × List MemPlace)), fldOK P S o fs → ys.length = fs.length →
    (∀ (i : Nat) (f : Field), fs[i]? = some f → DataW.trod enc P w 0 (fun _ => true) true m f.type ((cs.drop f.offset).take (P.cellsOf f.type)) = ys[i]?) →
    ∃ r, RdRow P w00S (layAll P fs) r r ∧ heapFrees r = true ∧ VRs (gw w) r ((cs.drop o).take (layAll P fs).length) ∧ wtR r ≤ 2 * B.all (ys.map (·.1))
  | [], o, ys, _, hl, _ => ⟨[], .nil, rfl, by simp [layAll]; trivial, Nat.zero_le _⟩
  | f :: fs, o, [], _, hl, _ => by simp at hl
  | f :: fs, o, y :: ys, ⟨h1, h2, h3, h4⟩, hl, hf => by
    have hy := hf 0 f rfl
    simp only [List.getElem?_cons_zero] at hy
    obtain ⟨r, q1, q2, q3, q4⟩ := ih _ _ _ h2 hy
    obtain ⟨r', p1, p2, p3, p4⟩ := br_fields ih fs (o + (lay P f.type).length) ys h4 (by simpa using hl) fun i g hg => by simpa using hf (i + 1) g (by simpa using hg)
    refine ⟨r ++ r', ?_, frees_app q2 p2, ?_, ?_⟩
    · exact rdRow_app q1 p1
    · have e : (layAll P (f :: fs)).length = (lay P f.type).length + (layAll P fs).length := by simp [layAll]
      rw [e, List.take_add, List.drop_drop]
      rw [h3, h1] at q3
      exact VRs.append q3 p3
    · rw [wtR_append, List.map_cons, B.cons]; omega
theorem br (hS : ∀ t, t ∈ S → okT P S t) : ∀ (n : Nat) (t : TypeId) (cs : List Value) (x : DataW H × List MemPlace), t ∈ S → DataW.trod enc P w 0 (fun _ => true) true n t cs = some x → BrR P B w t cs x.1 := by
  intro n
  induction n using Nat.strongRecOn with
  | _ n ih =>
  intro t cs x ht h
  rcases hS t ht with ⟨k, hu, hl⟩ | ⟨hu, hl⟩ | ⟨hu, hl⟩ | ⟨e, hu, hl, he, hsz, hpos, hc⟩ | ⟨fs, hu, hl, hc, hfs⟩
  · obtain ⟨m, rfl, rfl, _⟩ := DataW.trod_int hu h
    have := B.lit (.int k m)
    exact ⟨[.sc (.int k m)], by rw [hl]; exact .cons (.int k m) .nil, rfl, ⟨.sc _, trivial⟩, by simp only [wtR, wtA]; omega⟩
  · obtain ⟨b, rfl, rfl⟩ := DataW.trod_bool hu h
    have := B.lit (.bool b)
    exact ⟨[.sc (.bool b)], by rw [hl]; exact .cons (.bool b) .nil, rfl, ⟨.sc _, trivial⟩, by simp only [wtR, wtA]; omega⟩
  · obtain ⟨s, rfl, rfl, _⟩ := DataW.trod_string hu h
    have := B.str s.data.toList
    have e : s.data.toList.length = s.size := by simp
    exact ⟨[.sc (.string s)], by rw [hl]; exact .cons (.str s) .nil, rfl, ⟨.sc _, trivial⟩, by simp only [wtR, wtA]; omega⟩
  · have cell : ∀ rows : List (List AV), RdRows P w00S (lay P e) rows rows → RdRow P w00S (lay P t) [.isl rows (lay P e).length] [.isl rows (lay P e).length] := fun rows hr => by
      rw [hl]; exact .cons (.sl (.isl hsz hpos hr)) .nil
    rcases DataW.trod_slice hu h with ⟨rfl, rfl⟩ | ⟨a, len, cap, elems, rest, n', rfl, rfl, rfl, hb, hlc, hcm, hlen, hel, hsp, _⟩
    · have := B.nil
      exact ⟨[.isl [] _], cell [] (.nil _), rfl, ⟨.islNil, trivial⟩, by simp only [wtR, wtA, wtRs]; omega⟩
    · have hbs := B.sl (elems.map (·.1)) (rest.map (·.1))
      rw [hc] at hel hsp
      generalize hsz' : (lay P e).length = sz at *
      obtain ⟨hr1, hr2⟩ := hsp rfl
      have one : ∀ i, i < len → ∃ r cs', RdRow P w00S (lay P e) r r ∧ heapFrees r = true ∧ VRs (gw w) r cs' ∧ cs'.length = sz ∧ (∀ j, j < sz → w.cell? ((a.add (i * sz)).add j) = cs'[j]?) ∧ ∃ d, elems[i]? = some d ∧ wtR r + 1 ≤ 2 * B.blk d.1 := by
        intro i hi
        have h1 := hel i hi
        rw [List.getElem?_eq_getElem (by omega)] at h1
        simp only [Option.bind_eq_some_iff] at h1
        obtain ⟨cs', h1, h2⟩ := h1
        obtain ⟨r, q1, q3, q4, q5⟩ := ih n' (Nat.lt_succ_self _) e cs' _ he h2
        unfold World.cells? at h1
        rw [if_pos (Nat.zero_le _)] at h1
        exact ⟨r, cs', q1, q3, q4, by simpa using mapM_some_length h1, fun j hj => mapM_some_get h1 j j (by simp [hj]), _, List.getElem?_eq_getElem (by omega), q5⟩
      have hspot : 0 < cap → a.spot = none := by
        intro h0
        rcases Nat.eq_zero_or_pos len with hz0 | hpos'
        · have h1 := hr2 0 (by omega)
          rw [List.getElem?_eq_getElem (by omega)] at h1
          simp only [Option.bind_eq_some_iff] at h1
          obtain ⟨cs', h1, _⟩ := h1
          unfold World.cells? at h1
          rw [if_pos (Nat.zero_le _)] at h1
          have hl' : cs'.length = sz := by simpa using mapM_some_length h1
          have := mapM_some_get h1 0 0 (by simp [hpos])
          rw [List.getElem?_eq_getElem (by omega)] at this
          exact add_spot this (by simp [hz0])
        · obtain ⟨r, cs', _, _, _, q5, q6, _⟩ := one 0 hpos'
          have := q6 0 hpos
          rw [List.getElem?_eq_getElem (by omega)] at this
          exact add_spot this (by simp)
      rcases Nat.eq_zero_or_pos cap with hcap | hcap
      · have e0 : len = 0 := by omega
        subst e0; subst hcap
        exact ⟨[.isl [] _], cell [] (.nil _), rfl, ⟨.islE a, trivial⟩, by simp only [wtR, wtA, wtRs]; omega⟩
      · have hsn := hspot hcap
        have build : ∀ k, k ≤ len → ∃ rows : List (List AV), rows.length = k ∧ RdRows P w00S (lay P e) rows rows ∧ (∀ r, r ∈ rows → r.length = sz ∧ heapFrees r = true) ∧ (∀ i x, rows.flatten[i]? = some x → ∃ v, w.cell? ⟨a.block, a.off + i, none⟩ = some v ∧ VR (gw w) x v) ∧
            wtRs rows ≤ 2 * B.all ((elems.take k).map (·.1)) := by
          intro k
          induction k with
          | zero => intro _; exact ⟨[], rfl, .nil _, by simp, by simp, Nat.zero_le _⟩
          | succ k ih2 =>
            intro hk
            obtain ⟨rows, p1, p0, p2, p3, p4⟩ := ih2 (by omega)
            obtain ⟨r, cs', q1, q3, q4, q5, q6, d, q7, q8⟩ := one k (by omega)
            have q2 : r.length = sz := by rw [rdRow_len q1, hsz']
            refine ⟨rows ++ [r], by simp [p1], rdRows_snoc q1 p0, ?_, ?_, ?_⟩
            · intro r' hr'
              rcases List.mem_append.1 hr' with hr' | hr'
              · exact p2 r' hr'
              · simp at hr'; subst hr'; exact ⟨q2, q3⟩
            · intro i x hx
              have hfl : rows.flatten.length = k * sz := by rw [flat_len (sz := sz) fun r hr => (p2 r hr).1, p1]
              rw [List.flatten_append, List.flatten_singleton] at hx
              rcases Nat.lt_or_ge i (k * sz) with hi | hi
              · rw [List.getElem?_append_left (by omega)] at hx
                exact p3 i x hx
              · rw [List.getElem?_append_right (by omega), hfl] at hx
                have hj : i - k * sz < sz := by
                  rcases Nat.lt_or_ge (i - k * sz) r.length with hj | hj
                  · omega
                  · rw [List.getElem?_eq_none hj] at hx; cases hx
                have hcell := q6 (i - k * sz) hj
                rw [List.getElem?_eq_getElem (by omega)] at hcell
                refine ⟨_, ?_, q4.get _ x _ hx (List.getElem?_eq_getElem (by omega))⟩
                have e1 : (⟨a.block, a.off + i, none⟩ : Addr) = ⟨a.block, a.off + k * sz + (i - k * sz), none⟩ := by
                  congr 1
                  omega
                rw [← hcell, add_none hsn, add_none rfl, e1]
            · have e1 : elems.take (k + 1) = elems.take k ++ [d] := by
                rw [List.take_succ, q7]; rfl
              rw [wtRs_snoc, e1, List.map_append, List.map_cons, List.map_nil, B.snoc]; omega
        obtain ⟨rows, p1, p0, p2, p3, p4⟩ := build len (Nat.le_refl _)
        rw [List.take_of_length_le (by omega)] at p4
        have hl2 : ∀ r, r ∈ rows → r.length = sz := fun r hr => (p2 r hr).1
        obtain ⟨b, off, spt⟩ := a
        simp only at hsn; subst hsn
        refine ⟨[.isl rows sz], cell rows p0, rfl, ⟨?_, trivial⟩, by simp only [wtR, wtA]; omega⟩
        rw [← p1]
        refine .isl hl2 ?_ (.psl (fun i => (w.cell? ⟨b, off + i, none⟩).getD .nilIface) ?_ ?_ (flat_len hl2) (by omega) (by simp))
        · rw [heapFrees_mem]
          intro x hx
          obtain ⟨r, hr, hxr⟩ := List.mem_flatten.1 hx
          exact heapFrees_mem.1 (p2 r hr).2 x hxr
        · intro i x hx
          obtain ⟨v, hv, _⟩ := p3 i x hx
          show w.cell? ⟨b, off + i, none⟩ = some _
          rw [hv]; rfl
        · intro i x hx
          obtain ⟨v, hv, hr⟩ := p3 i x hx
          simp only [hv, Option.getD_some]
          exact hr
  · obtain ⟨xs, m, rfl, rfl, hlen, hxs, hf⟩ := DataW.trod_struct hu h
    obtain ⟨r, q1, q2, q3, q4⟩ := br_fields (B := B) (cs := cs) (fun t cs x => ih m (Nat.lt_succ_self _) t cs x) fs.toList 0 xs hfs (by simpa using hxs) fun i f hi => hf i f (by simpa using hi)
    rw [← hl] at q1 q3
    rw [List.drop_zero, List.take_of_length_le (by omega)] at q3
    have := B.agg (xs.map (·.1))
    exact ⟨r, q1, q2, q3, by show wtR r + 1 ≤ 2 * B.blk (.agg (xs.map (·.1))); omega⟩
end
end Go.AI
