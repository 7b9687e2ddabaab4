/-
  Known calls: what is known is true.
-/
import Derived.Test.YtbdcnekkebhhhaaGreatDoorSi
import Derived.Test.YtbdcnekkebhhhaaGreatDoorKh
import Derived.Test.YtbdcnekkebhhhaaGreatDoorL
set_option linter.all false

namespace Go.AI
open Go Go.Proofs
set_option linter.all false
theorem vrs1 {g : Gh} {x : AV} {vs : List Value} (h : VRs g [x] vs) : ∃ v, vs = [v] ∧ VR g x v := by
  cases vs with
  | nil => exact h.elim
  | cons v vs => cases vs with
    | nil => exact ⟨v, rfl, h.1⟩
    | cons _ _ => exact h.2.elim
theorem vrs2 {g : Gh} {x y : AV} {vs : List Value} (h : VRs g [x, y] vs) : ∃ v u, vs = [v, u] ∧ VR g x v ∧ VR g y u := by
  cases vs with
  | nil => exact h.elim
  | cons v vs =>
    obtain ⟨u, rfl, hu⟩ := vrs1 h.2
    exact ⟨v, u, rfl, h.1, hu⟩
theorem keyed_true (hP : ProgOK Tryz.prog) {n : Int} (hn : keyedOK n = true) (h : AHeap) : CallOK Tryz.prog 206 [.sc (.int .i64 n)] h (.ret (.sc (.string (keyedB n)))) h := by
  have hn := of_decide_eq_true hn
  obtain ⟨m, rfl⟩ : ∃ m : Nat, n = (m : Int) := ⟨n.toNat, by omega⟩
  have hm : m < 57 := by omega
  have := congrArg (·[m]?) run_keyed
  simp only [List.getElem?_map, List.getElem?_range hm, Option.map_some, Option.some.injEq] at this
  exact run_ok hP this rfl h
theorem rep_true (hP : ProgOK Tryz.prog) {s : ByteArray} {n : Int} (hn : blankOK s n = true) (h : AHeap) : CallOK Tryz.prog 88 [.sc (.string s), .sc (.int .i64 n)] h (.ret (.sc (.string (blanks n)))) h := by
  unfold blankOK at hn
  rw [Bool.and_eq_true, Bool.or_eq_true, Bool.or_eq_true, decide_eq_true_eq, decide_eq_true_eq, decide_eq_true_eq] at hn
  have hs : s = bs [32] := by
    have := hn.1
    unfold beqS at this
    rw [beq_iff_eq, bytes_toList, bytes_toList] at this
    exact ByteArray.ext (Array.ext' this)
  subst hs
  have hr := run_rep
  simp only [List.map_cons, List.map_nil, List.cons.injEq, and_true] at hr
  rcases hn.2 with rfl | rfl | rfl
  · exact run_ok hP hr.1 rfl h
  · exact run_ok hP hr.2.1 rfl h
  · exact run_ok hP hr.2.2 rfl h
theorem join_true {x : AV} {s : ByteArray} {l : List ByteArray} {h : AHeap} (hr : rdTexts h x = some l) (h1 : l.length ≤ 140737488355328) (h2 : (Lib.join (l.map (·.data.toList)) s.data.toList).length ≤ 140737488355328) :
    CallOK Tryz.prog 19 [x, .sc (.string s)] h (.ret (.sc (.string (bs (Lib.join (l.map (·.data.toList)) s.data.toList))))) h := by
  refine still_ok fun g w vs hw hv => ?_
  obtain ⟨v, u, rfl, hv1, hv2⟩ := vrs2 hv
  cases hv2
  obtain ⟨a, c, rfl, hlc, hcells⟩ := rdTexts_ok hw hr hv1
  rcases hcells with rfl | ⟨bk, o, rfl, hbk, hc⟩
  · refine (Tryz.strings_Join_none a c s w).mono ?_
    rintro e w' ⟨rfl, rfl⟩
    exact ⟨⟨_, rfl, .sc _⟩, Nat.le_refl _, fun _ _ => rfl, rfl, rfl, rfl⟩
  · refine (Tryz.strings_Join bk o c l s w hc hbk h1 hlc h2).mono ?_
    rintro e w' ⟨rfl, hb⟩
    exact ⟨⟨_, rfl, .sc _⟩, hb.size, hb.block, hb.tape, hb.os, hb.output⟩
theorem itoa_true {n : Int} (hn : itoaOK n = true) (h : AHeap) : CallOK Tryz.prog 210 [.sc (.int .i64 n)] h (.ret (.sc (.string (itoaB n)))) h := by
  have hn := of_decide_eq_true hn
  refine still_ok fun g w vs hw hv => ?_
  obtain ⟨v, rfl, hv1⟩ := vrs1 hv
  cases hv1
  have htab : Lib.TabIs Tryz.prog w "internal/strconv.uint64pow10" .u64 Lib.pow10Tab := by
    obtain ⟨⟨x, y, hx⟩, _⟩ := hw.gl 5 _ rfl
    have hg : Tryz.prog.globalNamed "internal/strconv.uint64pow10" = some 5 := by kernel_rfl
    unfold Lib.TabIs World.var?
    rw [hg]
    simp only [Option.bind_some, hx]
  refine (Tryz.strconv_Itoa n (by omega) (by omega) w htab).mono ?_
  rintro e w' ⟨rfl, k, os, rfl⟩
  refine ⟨⟨_, rfl, .sc _⟩, ?_, ?_, rfl, rfl, rfl⟩
  · show w.heap.size ≤ (w.heap ++ os).size
    simp
  · intro b hb
    show (w.heap ++ os)[b]? = _
    exact Array.getElem?_append_left hb
theorem knTrue (hP : ProgOK Tryz.prog) : KnTrue Tryz.prog := fun f args h v hk => by
  have hk : kAll f args h = some v := hk
  unfold kAll at hk
  split at hk
  · unfold kAwake at hk
    split at hk
    · cases hk; exact awake6 hP h
    · cases hk
  · unfold kJoin at hk
    split at hk
    · split at hk
      · rename_i l hl
        split at hk
        · rename_i hc
          cases hk; exact join_true hl hc.1 hc.2
        · cases hk
      · cases hk
    · cases hk
  · unfold kRepeat at hk
    split at hk
    · split at hk
      · rename_i hc; cases hk; exact rep_true hP hc h
      · cases hk
    · cases hk
  · unfold kKeyed at hk
    split at hk
    · split at hk
      · rename_i hc; cases hk; exact keyed_true hP hc h
      · cases hk
    · cases hk
  · unfold kItoa at hk
    split at hk
    · split at hk
      · rename_i hc; cases hk; exact itoa_true hc h
      · cases hk
    · cases hk
  · cases hk
end Go.AI
