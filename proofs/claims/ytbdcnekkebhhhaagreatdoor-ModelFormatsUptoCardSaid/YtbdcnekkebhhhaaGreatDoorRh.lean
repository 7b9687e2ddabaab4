/-
  A part of the proof: R2.
-/
import Derived.Test.YtbdcnekkebhhhaaGreatDoorRows
import Derived.Test.YtbdcnekkebhhhaaGreatDoorChecked
import Derived.Deep.DeepWitnessRowRef
import Derived.Lib.LaidTab
import Derived.ProofKit
import Derived.OpenShut
import Derived.LaidMore
import Derived.Lay
import Derived.SevenTiedAt
import Derived.Stop.Joined
import Derived.ReadAgain
import Derived.KernelRfl
import Derived.Test.YtbdcnekkebhhhaaGreatDoorW
import Derived.Test.YtbdcnekkebhhhaaGreatDoorT
import Derived.Test.YtbdcnekkebhhhaaGreatDoorRg
set_option linter.all false

namespace Go.Proofs.YtbdcnekkebhhhaaGreatDoor
open Go.ChangeShapes Go.WideShapes Go.ChangeAt Go.RowKit Go.AI
set_option linter.all false
theorem same_heap {w w' : World} (hold : ∀ b, b < w.heap.size → w'.heap[b]? = w.heap[b]?) {p : MemPlace} (hp : p.block < w.heap.size) : w.sameAt w' p := by
  cases p with
  | cell b off =>
    show w'.cell? _ = w.cell? _
    unfold World.cell?
    rw [hold b hp]
  | map b => exact hold b hp
theorem carryAll {H : Type} {enc : TypeId × Value → H} {P : Program} {w w' : World} {base : Nat} {sp : Nat → Bool} {held : Bool} : ∀ {ts : List TypeId} {vs : List Value} {ds : List (DataW H)} {ps : List MemPlace},
    DataW.TrodAll enc P w base sp held ts vs ds ps → (∀ p ∈ ps, w.sameAt w' p) → DataW.TrodAll enc P w' base sp held ts vs ds ps
  | [], [], [], _, h, _ => h
  | _ :: _, _ :: _, _ :: _, _, ⟨p, q, ⟨n, h1⟩, h2, e⟩, hs => ⟨p, q, ⟨n, DataW.trod_carry n _ _ _ h1 fun x hx => hs x (by rw [e]; exact List.mem_append_left _ hx)⟩, carryAll h2 (fun x hx => hs x (by rw [e]; exact List.mem_append_right _ hx)), e⟩
theorem kept_old {w w' : World} (ho : w'.os = w.os) (hu : w'.output = w.output) (hold : ∀ b, b < w.heap.size → w'.heap[b]? = w.heap[b]?) (may : MemPlace → Prop) : w.keptBut w' may := by
  refine ⟨ho, hu, fun i hi => ?_⟩
  rw [hold i hi]
  split
  · rename_i a b
    cases a.symm.trans b
    exact ⟨rfl, rfl, rfl, fun _ _ => rfl⟩
  · rename_i a b
    cases a.symm.trans b
    exact .inr ⟨rfl, rfl⟩
  · rfl
def blkOf (H : Type) : Blk H where
  blk := Rows.uptoBulk
  all := Rows.uptoBulkAll
  str := fun b => by simp [Rows.uptoBulk]
  lit := fun l => by cases l <;> simp [Rows.uptoBulk]
  nil := by simp [Rows.uptoBulk]
  sl := fun es sp => by simp only [Rows.uptoBulk]; omega
  agg := fun ps => by simp [Rows.uptoBulk]
  none := by simp [Rows.uptoBulkAll]
  cons := fun d r => by simp [Rows.uptoBulkAll]
set_option maxRecDepth 100000 in
theorem proj_of {H : Type} {enc : TypeId × Value → H} {w : World} {base : Nat} {v : Value} {d : DataW H} {p : List MemPlace} (hok : Value.okWide Tryz.prog w .any base 24 v) (h : DataW.Trod enc Tryz.prog w 0 (fun _ => true) true 24 v d p) (hb : (blkOf H).blk d ≤ 1048576) :
    ∃ rows x, Rd Tryz.prog w00S 37 rows x ∧ wtRs rows ≤ 2097152 ∧ VR (gw w) (.agg [x]) v := by
  obtain ⟨n, h⟩ := h
  obtain ⟨r, q1, q2, q3, q4⟩ := br (B := blkOf H) okS n 24 _ _ (by decide) h
  have hl : lay Tryz.prog 24 = [.sl 37] := by kernel_rfl
  rw [hl] at q1
  cases q1 with
  | cons hc hn =>
    cases hn
    cases hc with
    | sl hd =>
      rename_i rows sz
      have hv : ∃ cs, v = .agg cs := by
        unfold Value.okWide at hok
        rw [Tryz.underlying24] at hok
        obtain ⟨cs, rfl, _⟩ := hok
        exact ⟨cs, rfl⟩
      obtain ⟨cs, rfl⟩ := hv
      refine ⟨rows, _, hd, ?_, VR.agg_iff.2 ⟨cs, rfl, q3⟩⟩
      simp only [wtR, wtA] at q4
      have q4 : _ ≤ 2 * (blkOf H).blk d := q4
      omega
theorem powType : (Tryz.prog.globals[5]?).map (·.type) = some 409 := by kernel_rfl
theorem glo_of {w : World} (h : laidMetH Tryz.prog Rows.modelFormatsUptoRow.laid w) : GloOK w := by
  rw [MakeChecks.laidMetH_plain _ _ _ (by kernel_rfl)] at h
  obtain ⟨ps, h, _⟩ := h
  obtain ⟨_, _, _, _, _, _, _, _, _, _, h, _⟩ := h
  obtain ⟨_, _, _, _, _, _, _, _, _, _, h, _⟩ := h
  obtain ⟨_, _, _, _, _, _, _, _, _, _, h, _⟩ := h
  obtain ⟨_, _, _, _, _, _, _, _, _, _, h, _⟩ := h
  obtain ⟨g, t, cs, fuel, p, q, hg, ht, hv, hd, _, _⟩ := h
  have hg' : Tryz.prog.globalNamed "internal/strconv.uint64pow10" = some 5 := by kernel_rfl
  obtain rfl := Option.some.inj (hg'.symm.trans hg)
  obtain rfl := Option.some.inj (powType.symm.trans ht)
  have hcs := Lib.cells_of_tab (k := .u64) (zs := Lib.pow10Tab) Tryz.underlying409 Tryz.underlying287 (by kernel_rfl) (by kernel_rfl) (p := p) (by rw [hd]; exact congrArg (fun d => some (d, p)) (by kernel_rfl))
  intro b c e
  unfold gloH at e
  split at e
  · cases e
    refine ⟨?_, by decide⟩
    have := hasCells_of_var hg' hv
    have e2 : cs = (Lib.pow10Tab.map fun z => Value.int .u64 z).toArray := Array.ext' (hcs.trans rfl)
    rw [← e2]; exact this
  · cases e
theorem law_calls {W : World} {v : Value} {rows : List (List AV)} {x : AV} (hg : GloOK W) (hd : Rd Tryz.prog w00S 37 rows x) (hw : wtRs rows ≤ 2097152) (r0 : VR (gw W) (.agg [x]) v) :
    Calls Tryz.prog 3 #[v] W fun e w' => e = .returned (.bool true) ∧ w'.os = W.os ∧ w'.output = W.output ∧ ∀ b, b < W.heap.size → w'.heap[b]? = W.heap[b]? := by
  obtain ⟨h', hc⟩ := law_call progOK hd hw
  refine (hc (gw W) W [v] (gw_W hg) (fun _ _ _ => rfl) ⟨r0, trivial⟩).mono ?_
  rintro e w' ⟨g', st, _, ho⟩
  refine ⟨?_, st.os, st.out, fun b hb => st.fr b hb fun o v s n e => by cases e⟩
  cases e with
  | returned x => cases ho; rfl
  | panicked _ => exact ho.elim
  | outgrown => exact ho.elim
set_option maxRecDepth 100000 in
theorem lifted (os : Os) (started : os.Started) (H : Type) (enc : TypeId × Value → H) (G : Stop.Interp) :
    ReturnsInHanded Rows.modelFormatsUptoRow.assume Tryz.checked os 3 .any (Rows.modelFormatsUptoRow.pre enc Tryz.prog Tryz.f3 (Rows.OpenSpec.upto Rows.modelFormatsSpec)) (((Rows.OpenSpec.upto Rows.modelFormatsSpec).at G).post enc Tryz.prog Tryz.f3 Rows.modelFormatsUptoRow.apart Rows.modelFormatsUptoRow.fresh Rows.modelFormatsUptoRow.handsOn Rows.modelFormatsUptoRow.again) := by
  rw [OpenClaim.pre_eq_preRow]
  refine returnsInHanded_of_row (C := Tryz.checked) own started (by kernel_rfl) Tryz.func3
    (witness_row_atRef (enc := enc) (C := Tryz.checked) (os := os) false (World.laidAll Tryz.prog os Rows.modelFormatsUptoRow.laid) #[.agg #[.slice none 0 0]] (World.laidAll_os _ _ _) (by kernel_rfl) (by kernel_rfl) (by kernel_rfl)
      ⟨⟨(OpenSpec.pre_some rfl _ _ _ _).2 ⟨[.agg [.nil]], [], [], DataW.Whole_of_whole (fuel := 8) (x := ([.agg [.nil]], [], [])) (by kernel_rfl), by kernel_rfl, by kernel_rfl⟩, by
        rw [MakeChecks.laidMetH_plain _ _ _ (by kernel_rfl)]; exact laidMet_laidAll _ (by kernel_rfl) (by kernel_rfl)⟩, sizedMet_of_sizedB (fuel := 8) (by kernel_rfl)⟩) ?_
  intro W base args ds gs before hval0 hW _ hcond _ hlaid _ _
  have hval : ∀ (j : Nat) t v, Tryz.f3.params[j]? = some t → args[j]? = some v → Value.okWide Tryz.prog W .any base t v := hval0
  have hW' := hW
  obtain ⟨p, q, hA0, hV, rfl, _, _⟩ := hW
  have hA : DataW.TrodAll enc Tryz.prog W 0 (fun _ => true) true Tryz.f3.params.toList args.toList ds p := hA0
  rw [Tryz.params3] at hA hval
  obtain ⟨rfl, rfl⟩ := trodVars_none hV
  have hB := hA
  obtain ⟨v0, d0, rfl, rfl, t0⟩ := trodAll_one hA
  have hb := hcond Rows.uptoSmall rfl
  have hb : Rows.uptoBulkAll ([d0] ++ []) ≤ 1048576 := of_decide_eq_true hb
  simp only [List.append_nil, Rows.uptoBulkAll] at hb
  obtain ⟨rows, x, hd, hwt, r0⟩ := proj_of (hval 0 24 v0 rfl rfl) t0 (by show Rows.uptoBulk d0 ≤ _; omega)
  refine (law_calls (glo_of hlaid) hd hwt r0).mono ?_
  rintro e W' ⟨rfl, ho, hu, hold⟩
  refine ⟨_, rfl, _, _, _, [], p, [], hW', ?_, ?_, rfl, kept_old ho hu hold _, fun h => by cases h⟩
  · exact trodAll_mk1 (shut_bool Tryz.underlying4 _)
  · have hlt : ∀ x ∈ p, x.block < W.heap.size := fun x hx => hW'.lt x (by simpa using hx)
    have := DataW.TrodAll.respare (spare' := fun b => decide (b < W.heap.size)) (kids_rows laidOut rowed) (slices_full_of Tryz.prog full) (by
      intro t ht
      simp only [List.mem_cons, List.mem_nil_iff, or_false] at ht
      rcases ht with rfl
      exact sizes) hB (fun x hx => by simpa using hlt x hx)
    have h2 := carryAll this (fun x hx => same_heap hold (hlt x hx))
    show DataW.TrodAll enc Tryz.prog W' 0 _ true Tryz.f3.params.toList _ _ _
    rw [Tryz.params3]
    exact h2
end Go.Proofs.YtbdcnekkebhhhaaGreatDoor
