/-
  Known calls of the program: what they answer is what they answer.
-/
import Derived.Test.YtbdcnekkebhhhaaGreatDoorSe
import Derived.Test.YtbdcnekkebhhhaaGreatDoorG
set_option linter.all false

namespace Go.AI
open Go Go.Proofs
set_option linter.all false
set_option maxRecDepth 100000
def kJoin (h : AHeap) : List AV → Option AV
  | [x, .sc (.string s)] => match rdTexts h x with
    | some l => if l.length ≤ 140737488355328 ∧ (Lib.join (l.map (·.data.toList)) s.data.toList).length ≤ 140737488355328 then some (.sc (.string (bs (Lib.join (l.map (·.data.toList)) s.data.toList)))) else none
    | none => none
  | _ => none
def kRepeat : List AV → Option AV
  | [.sc (.string s), .sc (.int .i64 n)] => if blankOK s n = true then some (.sc (.string (blanks n))) else none
  | _ => none
def kKeyed : List AV → Option AV
  | [.sc (.int .i64 n)] => if keyedOK n = true then some (.sc (.string (keyedB n))) else none
  | _ => none
def kItoa : List AV → Option AV
  | [.sc (.int .i64 n)] => if itoaOK n = true then some (.sc (.string (itoaB n))) else none
  | _ => none
def kAwake : List AV → Option AV
  | [] => some (.sc (.bool true))
  | _ => none
def kAll (f : FuncId) (xs : List AV) (h : AHeap) : Option AV := match f with
  | 5 => kAwake xs
  | 19 => kJoin h xs
  | 88 => kRepeat xs
  | 206 => kKeyed xs
  | 210 => kItoa xs
  | _ => none
instance kn6 : Kn := ⟨⟨kAll⟩⟩
theorem lay9 : lay Tryz.prog 9 = [.str] := by kernel_rfl
theorem txts_map (rows : Rows) : (rows.map (gS · 0)).map (·.data.toList) = txts rows := by unfold txts; rw [List.map_map]; rfl
theorem rvs1 {w : Wd} {v : SV} {xs : List AV} (h : RVs Tryz.prog w [v] xs) : ∃ x, xs = [x] ∧ RV Tryz.prog w v x := by
  cases h with
  | cons a b => cases b; exact ⟨_, rfl, a⟩
theorem rvs2 {w : Wd} {v u : SV} {xs : List AV} (h : RVs Tryz.prog w [v, u] xs) : ∃ x y, xs = [x, y] ∧ RV Tryz.prog w v x ∧ RV Tryz.prog w u y := by
  cases h with
  | cons a b => cases b with
    | cons c d => cases d; exact ⟨_, _, rfl, a, c⟩
theorem rv_sc {w : Wd} {v : Value} {x : AV} (h : RV Tryz.prog w (.sc v) x) : x = .sc v := by cases h; rfl
theorem knOK : KnOK Tryz.prog ann where
  none := fun f hf xs h => by
    have hf : knF f = none := hf
    show kAll f xs h = none
    unfold kAll
    unfold knF at hf
    split at hf <;> first | (cases hf; done) | skip
    split <;> first | rfl | (rename_i h1 h2 h3 h4 h5; first | exact absurd rfl h1 | exact absurd rfl h2 | exact absurd rfl h3 | exact absurd rfl h4 | exact absurd rfl h5)
  some := fun f g hf w h xs vals v hg hx hv => by
    have hf : knF f = some g := hf
    unfold knF at hf
    split at hf
    · cases hf
      show ∃ y, kAwake xs = some y ∧ _
      unfold knAwake at hv
      split at hv
      · cases hv; cases hx; exact ⟨_, rfl, .sc rfl⟩
      · cases hv
    · cases hf
      show ∃ y, kJoin h xs = some y ∧ _
      unfold knJoin at hv
      split at hv
      · rename_i rows s
        simp only [Option.some.injEq, Prod.mk.injEq] at hv
        obtain ⟨hok, rfl⟩ := hv
        obtain ⟨x, y, rfl, hx1, hx2⟩ := rvs2 hx
        obtain rfl := rv_sc hx2
        have hd : Rd Tryz.prog w 9 rows x := by cases hx1; assumption
        have hr := rdTexts_of lay9 hg hd
        have hok := of_decide_eq_true hok
        refine ⟨.sc (.string (joinB rows s)), ?_, .sc rfl⟩
        unfold kJoin
        simp only [hr, txts_map]
        rw [if_pos ⟨by simpa using hok.1, hok.2⟩]; rfl
      · cases hv
    · cases hf
      show ∃ y, kRepeat xs = some y ∧ _
      unfold knRepeat at hv
      split at hv
      · rename_i s n
        simp only [Option.some.injEq, Prod.mk.injEq] at hv
        obtain ⟨hok, rfl⟩ := hv
        obtain ⟨x, y, rfl, hx1, hx2⟩ := rvs2 hx
        obtain rfl := rv_sc hx1
        obtain rfl := rv_sc hx2
        exact ⟨_, by unfold kRepeat; simp only [hok, if_true], .sc rfl⟩
      · cases hv
    · cases hf
      show ∃ y, kKeyed xs = some y ∧ _
      unfold knKeyed at hv
      split at hv
      · rename_i n
        simp only [Option.some.injEq, Prod.mk.injEq] at hv
        obtain ⟨hok, rfl⟩ := hv
        obtain ⟨x, rfl, hx1⟩ := rvs1 hx
        obtain rfl := rv_sc hx1
        exact ⟨_, by unfold kKeyed; simp only [hok, if_true], .sc rfl⟩
      · cases hv
    · cases hf
      show ∃ y, kItoa xs = some y ∧ _
      unfold knItoa at hv
      split at hv
      · rename_i n
        simp only [Option.some.injEq, Prod.mk.injEq] at hv
        obtain ⟨hok, rfl⟩ := hv
        obtain ⟨x, rfl, hx1⟩ := rvs1 hx
        obtain rfl := rv_sc hx1
        exact ⟨_, by unfold kItoa; simp only [hok, if_true], .sc rfl⟩
      · cases hv
    · cases hf
noncomputable def runS (f : FuncId) (args : List AV) : Option ByteArray := match (recN Tryz.prog 200).call .normal f args .none h0 with
  | some (.ret (.sc (.string s)), .none, _) => some s
  | _ => none
theorem run_ok (hP : ProgOK Tryz.prog) {f : FuncId} {args : List AV} {s : ByteArray} (hr : runS f args = some s) (ha : heapFrees args = true) (h : AHeap) : CallOK Tryz.prog f args h (.ret (.sc (.string s))) h := by
  unfold runS at hr
  split at hr
  · rename_i s' h1 e
    cases hr
    exact pure_call (n := 1) ((rec_ok hP 200).call _ _ _ _ _ _ e) ha rfl h
  · cases hr
theorem run_keyed : (List.range 57).map (fun i : Nat => runS 206 [.sc (.int .i64 (i : Int))]) = (List.range 57).map fun i : Nat => some (keyedB (i : Int)) := by kernel_rfl
theorem run_rep : [0, 2, 4].map (fun i => runS 88 [.sc (.string (bs [32])), .sc (.int .i64 i)]) = [0, 2, 4].map fun i => some (blanks i) := by kernel_rfl
end Go.AI
