/-
  A part of the proof: R2.
-/
import Derived.Test.YtmlcjnhkphkpiaaGreatDoorRows
import Derived.Test.YtmlcjnhkphkpiaaGreatDoorChecked
import Derived.ProofKit
import Derived.OpenShut
import Derived.LaidMore
import Derived.Lay
import Derived.SevenTiedAt
import Derived.Stop.Joined
import Derived.ReadAgain
import Derived.Test.YtmlcjnhkphkpiaaGreatDoorEx
import Derived.Test.YtmlcjnhkphkpiaaGreatDoorEy
import Derived.Test.YtmlcjnhkphkpiaaGreatDoorGa
set_option linter.all false

namespace Go.Proofs.YtmlcjnhkphkpiaaGreatDoor
open Go.ChangeShapes Go.WideShapes Go.ChangeAt Go.RowKit Go.AI
theorem same_heap {w w' : World} (hold : ∀ b, b < w.heap.size → w'.heap[b]? = w.heap[b]?) {p : MemPlace} (hp : p.block < w.heap.size) : w.sameAt w' p := by
  cases p with
  | cell b off =>
    show w'.cell? _ = w.cell? _
    unfold World.cell?
    rw [hold b hp]
  | map b => exact hold b hp

theorem carryAll {H : Type} {enc : TypeId × Value → H} {P : Program} {w w' : World} {base : Nat} {sp : Nat → Bool} {held : Bool} : ∀ {ts : List TypeId} {vs : List Value} {ds : List (DataW H)} {ps : List MemPlace},
    DataW.TrodAll enc P w base sp held ts vs ds ps → (∀ p ∈ ps, w.sameAt w' p) → DataW.TrodAll enc P w' base sp held ts vs ds ps
  | [], [], [], _, h, _ => h
  | _ :: _, _ :: _, _ :: _, _, ⟨p, q, ⟨n, h1⟩, h2, e⟩, hs => ⟨p, q, ⟨n, DataW.trod_carry n _ _ _ h1 fun x hx => hs x (by rw [e]; exact List.mem_append_left _ hx)⟩, carryAll h2 (fun x hx => hs x (by rw [e]; exact List.mem_append_right _ hx)), e⟩

theorem kept_old {w w' : World} (ho : w'.os = w.os) (hu : w'.output = w.output) (hold : ∀ b, b < w.heap.size → w'.heap[b]? = w.heap[b]?) (may : MemPlace → Prop) : w.keptBut w' may := by
  refine ⟨ho, hu, fun i hi => ?_⟩
  rw [hold i hi]
  split
  · rename_i a b
    cases a.symm.trans b
    exact ⟨rfl, rfl, rfl, fun _ _ => rfl⟩
  · rename_i a b
    cases a.symm.trans b
    exact .inr ⟨rfl, rfl⟩
  · rfl

theorem agg_of {H : Type} {enc : TypeId × Value → H} {w : World} {v : Value} {d : DataW H} {p : List MemPlace} (h : DataW.Trod enc Tryz.prog w 0 (fun _ => true) true 28 v d p) (hl : light (d.weights Tryz.prog 28)) :
    ∃ a : Prf, a.ok ∧ VR (gw w) (.agg a.cells) v := by
  obtain ⟨n, h⟩ := h
  obtain ⟨a, ha, hv⟩ := prf_bridge n _ _ h hl
  refine ⟨a, ha, ?_⟩
  have hlen := hv.length
  rw [a.cells_len] at hlen
  cases v <;> first | exact VR.agg_iff.2 ⟨_, rfl, hv⟩ | simp [Value.cells] at hlen

theorem not_agg {P : Program} {w : World} {base : Nat} {t e : TypeId} {cs : Array Value} (ht : P.underlying t = some (.slice e)) : ¬ Value.okWide P w .any base t (.agg cs) := by
  intro hok
  unfold Value.okWide at hok
  rw [ht] at hok
  unfold Cell.okWide Cell.ok at hok
  rw [ht] at hok
  exact hok

theorem one_cellP {P : Program} {w : World} {base : Nat} {t e : TypeId} {v : Value} (ht : P.underlying t = some (.slice e)) (hok : Value.okWide P w .any base t v) : v.cells.toList = [v] := by
  cases v with
  | agg cs => exact absurd hok (not_agg ht)
  | _ => rfl

theorem one_cell {w : World} {base : Nat} {v : Value} : Value.okWide Tryz.prog w .any base 22 v → v.cells.toList = [v] := one_cellP (P := Tryz.prog) (t := 22) (e := 3) Tryz.underlying22

theorem len_le {n : Nat} (h : n * 8 ≤ 140737488355328) : n ≤ 9223372036854775807 := by omega

set_option maxRecDepth 100000 in
theorem ints_of {H : Type} {enc : TypeId × Value → H} {w : World} {base : Nat} {v : Value} {d : DataW H} {p : List MemPlace} (hok : Value.okWide Tryz.prog w .any base 22 v) (h : DataW.Trod enc Tryz.prog w 0 (fun _ => true) true 22 v d p) (hl : light (d.weights Tryz.prog 22)) :
    ∃ l : List Int, VR (gw w) (.isl (intRows l) 1) v ∧ l.length ≤ 9223372036854775807 := by
  obtain ⟨n, h⟩ := h
  obtain ⟨l, v', e, hv, hb⟩ := ints_bridge Tryz.underlying22 Tryz.underlying3 cells3 bytes3 h hl
  have hb' := len_le (reach_le hb)
  refine ⟨l, ?_, hb'⟩
  have key : v.cells.toList = [v] := one_cell (w := w) (base := base) (v := v) hok
  rw [key] at e
  rw [(List.cons.inj e).1]
  exact hv

/-- the call -/
theorem law_calls {W : World} {v0 v1 v2 : Value} {a b : Prf} {l : List Int} (ha : a.ok) (hb : b.ok) (hl : l.length ≤ 9223372036854775807) (r0 : VR (gw W) (.agg a.cells) v0) (r1 : VR (gw W) (.agg b.cells) v1) (r2 : VR (gw W) (.isl (intRows l) 1) v2) :
    Calls Tryz.prog 3 #[v0, v1, v2] W fun e w' => e = .returned (.bool true) ∧ w'.os = W.os ∧ w'.output = W.output ∧ ∀ b, b < W.heap.size → w'.heap[b]? = W.heap[b]? := by
  refine (c3 progOK a b ha hb l hl h0 (gw W) W [v0, v1, v2] (gw_W W) (fun _ _ _ => rfl) ⟨r0, r1, r2, trivial⟩).mono ?_
  rintro e w' ⟨g', st, _, ho⟩
  refine ⟨?_, st.os, st.out, fun b hb => st.fr b hb fun o v s n e => by cases e⟩
  cases e with
  | returned x => cases ho; rfl
  | panicked _ => exact ho.elim
  | outgrown => exact ho.elim

set_option maxRecDepth 100000 in
theorem lifted (os : Os) (started : os.Started) (H : Type) (enc : TypeId × Value → H) :
    ReturnsInHanded {} Tryz.checked os 3 .any (fun w args => (Rows.proverEqualsSpec.pre enc Tryz.prog Tryz.f3 Rows.proverEqualsRow.domain false w args ∧ laidMetH Tryz.prog Rows.proverEqualsRow.laid w) ∧ sizedMet enc Tryz.prog Tryz.f3 (OpenSpec.ofChange Rows.proverEqualsSpec) false w args)
      (Rows.proverEqualsSpec.post enc Tryz.prog Tryz.f3 false true false false) := by
  refine returnsInHanded_of_change_and (C := Tryz.checked) (X := fun w _ => laidMetH Tryz.prog Rows.proverEqualsRow.laid w) (fun _ _ _ hh h => h.of_heap hh) own started (by kernel_rfl) Tryz.func3
    (ChangeSpec.witness_shaped (enc := enc) (C := Tryz.checked) (os := os) (X := fun w _ => laidMetH Tryz.prog Rows.proverEqualsRow.laid w) false (World.laidAll Tryz.prog os Rows.proverEqualsRow.laid)
      #[.agg #[.int .i64 0, .int .i64 0, .string ⟨#[]⟩, .slice none 0 0, .slice none 0 0, .slice none 0 0, .slice none 0 0], .agg #[.int .i64 0, .int .i64 0, .string ⟨#[]⟩, .slice none 0 0, .slice none 0 0, .slice none 0 0, .slice none 0 0], .slice none 0 0] 8 (World.laidAll_os _ _ _)
      (World.shaped_of_ZipB (by kernel_rfl) (by kernel_rfl)) (by kernel_rfl) (by kernel_rfl) (by kernel_rfl)
      (by rw [MakeChecks.laidMetH_plain _ _ _ (by kernel_rfl)]; exact laidMet_laidAll _ (by kernel_rfl) (by kernel_rfl))) ?_
  intro W base args ds gs before hval0 hW _ hwt _ _
  have hval : ∀ (j : Nat) t v, Tryz.f3.params[j]? = some t → args[j]? = some v → Value.okWide Tryz.prog W .any base t v := hval0
  have hW' := hW
  obtain ⟨p, q, hA0, hV, rfl, _, _⟩ := hW
  have hA : DataW.TrodAll enc Tryz.prog W 0 (fun _ => true) true Tryz.f3.params.toList args.toList ds p := hA0
  rw [Tryz.params3] at hA hval
  obtain ⟨rfl, rfl⟩ := trodVars_none hV
  have hB := hA
  obtain ⟨v0, v1, v2, d0, d1, d2, p0, p1, p2, rfl, rfl, rfl, t0, t1, t2⟩ := trodAll_three hA
  have hwt : light (DataW.weightsEach Tryz.prog (Tryz.f3.params.toList ++ []) [d0, d1, d2]) := hwt
  rw [Tryz.params3] at hwt
  simp only [List.append_nil, DataW.weightsEach, light_append] at hwt
  obtain ⟨l0, l1, l2⟩ := hwt
  obtain ⟨a, ha, r0⟩ := agg_of t0 l0
  obtain ⟨b, hb, r1⟩ := agg_of t1 l1
  obtain ⟨l, r2, hl⟩ := ints_of (hval 2 22 v2 rfl rfl) t2 l2
  refine (law_calls ha hb hl r0 r1 r2).mono ?_
  rintro e W' ⟨rfl, ho, hu, hold⟩
  refine ⟨_, rfl, _, _, _, [], (p0 ++ p1 ++ p2), [], hW', ?_, ?_, rfl, kept_old ho hu hold _, fun h => by cases h⟩
  · exact trodAll_mk1 (shut_bool Tryz.underlying4 _)
  · have hlt : ∀ x ∈ p0 ++ p1 ++ p2, x.block < W.heap.size := fun x hx => hW'.lt x (by simpa using hx)
    have := DataW.TrodAll.respare (spare' := fun b => decide (b < W.heap.size)) (kids_rows laidOut rowed) (slices_full_of Tryz.prog full) (by
      intro t ht
      simp only [List.mem_cons, List.mem_nil_iff, or_false] at ht
      rcases ht with rfl | rfl | rfl
      · exact sizes.1
      · exact sizes.1
      · exact sizes.2) hB (fun x hx => by simpa using hlt x hx)
    have h2 := carryAll this (fun x hx => same_heap hold (hlt x hx))
    show DataW.TrodAll enc Tryz.prog W' 0 _ true Tryz.f3.params.toList _ _ _
    rw [Tryz.params3]
    exact h2


end Go.Proofs.YtmlcjnhkphkpiaaGreatDoor
