/-
  An abstract interpreter of the model's code: values without addresses, a heap of objects, all answers of the tape at once.
-/
import Derived.Defers
import Derived.Orders
import Derived.Lib.ItoaNum
import Derived.Laws.Sem
import Derived.Laws.World
import Derived.Laws.Cells
import Derived.Laws.Entries
set_option linter.all false

section
namespace Go.AI
inductive Tr (α : Type) where
  | leaf
  | node (l : Tr α) (v : Option α) (r : Tr α)
namespace Tr
variable {α : Type}
def get : Tr α → Nat → Option α
  | .leaf, _ => none
  | .node l v r, n => match n with
    | 0 => v
    | n + 1 => match n % 2 with
      | 0 => get l (n / 2)
      | _ + 1 => get r (n / 2)
def set (x : α) : Nat → Tr α → Nat → Tr α
  | 0, t, _ => t
  | f + 1, .leaf, n => match n with
    | 0 => .node .leaf (some x) .leaf
    | n + 1 => match n % 2 with
      | 0 => .node (set x f .leaf (n / 2)) none .leaf
      | _ + 1 => .node .leaf none (set x f .leaf (n / 2))
  | f + 1, .node l v r, n => match n with
    | 0 => .node l (some x) r
    | n + 1 => match n % 2 with
      | 0 => .node (set x f l (n / 2)) v r
      | _ + 1 => .node l v (set x f r (n / 2))
def put (t : Tr α) (n : Nat) (x : α) : Tr α := set x (n + 1) t n
theorem get_set (x : α) : ∀ (f : Nat) (t : Tr α) (n m : Nat), n < f → get (set x f t n) m = if m = n then some x else get t m := by
  intro f
  induction f with
  | zero => intro t n m h; omega
  | succ f ih =>
    intro t n m h
    cases t with
    | leaf =>
      cases n with
      | zero =>
        cases m with
        | zero => simp [set, get]
        | succ m =>
          simp only [set, get]
          split <;> simp
      | succ n =>
        cases hn : n % 2 with
        | zero =>
          simp only [set, hn]
          cases m with
          | zero => simp [get]
          | succ m =>
            cases hm : m % 2 with
            | zero =>
              simp only [get, hm]
              rw [ih _ _ _ (by omega)]
              simp only [get]
              have : (m / 2 = n / 2) ↔ (m + 1 = n + 1) := by omega
              simp [this]
            | succ k =>
              simp only [get, hm]
              rw [if_neg (by intro e; have : m = n := by omega
                             subst this; omega)]
        | succ k =>
          simp only [set, hn]
          cases m with
          | zero => simp [get]
          | succ m =>
            cases hm : m % 2 with
            | zero =>
              simp only [get, hm]
              rw [if_neg (by intro e; have : m = n := by omega
                             subst this; omega)]
            | succ k' =>
              simp only [get, hm]
              rw [ih _ _ _ (by omega)]
              simp only [get]
              have : (m / 2 = n / 2) ↔ (m + 1 = n + 1) := by omega
              simp [this]
    | node l v r =>
      cases n with
      | zero =>
        cases m with
        | zero => simp [set, get]
        | succ m => simp [set, get]
      | succ n =>
        cases hn : n % 2 with
        | zero =>
          simp only [set, hn]
          cases m with
          | zero => simp [get]
          | succ m =>
            cases hm : m % 2 with
            | zero =>
              simp only [get, hm]
              rw [ih _ _ _ (by omega)]
              have : (m / 2 = n / 2) ↔ (m + 1 = n + 1) := by omega
              simp [this]
            | succ k =>
              simp only [get, hm]
              rw [if_neg (by intro e; have : m = n := by omega
                             subst this; omega)]
        | succ k =>
          simp only [set, hn]
          cases m with
          | zero => simp [get]
          | succ m =>
            cases hm : m % 2 with
            | zero =>
              simp only [get, hm]
              rw [if_neg (by intro e; have : m = n := by omega
                             subst this; omega)]
            | succ k' =>
              simp only [get, hm]
              rw [ih _ _ _ (by omega)]
              have : (m / 2 = n / 2) ↔ (m + 1 = n + 1) := by omega
              simp [this]
theorem get_put (t : Tr α) (n m : Nat) (x : α) : get (put t n x) m = if m = n then some x else get t m :=
  get_set x _ t n m (Nat.lt_succ_self n)
theorem get_put_same (t : Tr α) (n : Nat) (x : α) : get (put t n x) n = some x := by simp [get_put]
theorem get_put_other (t : Tr α) {n m : Nat} (x : α) (h : m ≠ n) : get (put t n x) m = get t m := by simp [get_put, h]
end Tr
inductive AV where
  | unk
  | sc (v : Value)
  | ref (o ver n off : Nat)
  | sl (o ver n off sz len : Nat) (cap : Option Nat)
  | esl
  | pref (cells : List AV)
  | psl (cells : List AV) (sz len : Nat) (cap : Option Nat)
  | isl (rows : List (List AV)) (sz : Nat)
  | map (o : Nat)
  | func (fn : Fn) (first captured : List AV)
  | yld (o : Nat)
  | iface (t : TypeId) (v : AV)
  | agg (cells : List AV)
  | tuple (vs : List AV)
instance : Inhabited AV := ⟨.unk⟩
def undefA : AV := .tuple []
def ofVal : Value → AV
  | .agg cs => .agg (cs.toList.map .sc)
  | .tuple vs => .tuple (vs.toList.map .sc)
  | v => .sc v
def toVal1 : AV → Option Value
  | .sc v => some v
  | .iface t (.sc v) => some (.iface t v)
  | _ => none
def toVals : List AV → Option (List Value)
  | [] => some []
  | x :: xs => match toVal1 x, toVals xs with
    | some v, some vs => some (v :: vs)
    | _, _ => none
def toVal : AV → Option Value
  | .agg cs => (toVals cs).map fun l => .agg l.toArray
  | .tuple vs => (toVals vs).map fun l => .tuple l.toArray
  | v => toVal1 v
def cellOK : AV → Bool
  | .agg _ | .tuple _ | .unk => false
  | .sc (.agg _) | .sc (.tuple _) => false
  | _ => true
def cellsA : AV → List AV
  | .agg cs => cs
  | v => [v]
def peel {α : Type} (P : Program) : Sem α → Option α
  | .pure a => some a
  | .program k => peel P (k P)
  | .mark _ k => peel P k
  | _ => none
inductive ADef where
  | fn (f : Fn) (captured args : List AV)
  | coll (o : Nat)
inductive AObj where
  | cells (ver minv : Nat) (c : List AV) (fz : Nat) (el : TypeId) (ex sh : Bool)
  | map (es : List (AV × AV × Nat)) (clock : Nat)
  | mit (m : Option Nat) (since : Nat) (seen : List Nat) (last : Nat)
  | sit (s : ByteArray) (pos : Nat)
  | loop (st : LoopState) (pend : Option Code) (fn : FuncId) (tn : Nat) (tm : Tr AV) (params : List Tmp) (assign body : Code) (dfr : Nat)
  | dfr (ds : Option (List ADef))
structure AHeap where
  objs : Tr AObj
  next : Nat
  floor : Nat
  wr : List Nat
def addWr (l : List Nat) (floor o : Nat) : List Nat := if o < floor then (if l.contains o then l else o :: l) else l
def addWrs (l : List Nat) (floor : Nat) : List Nat → List Nat
  | [] => l
  | o :: os => addWrs (addWr l floor o) floor os
namespace AHeap
def get (h : AHeap) (o : Nat) : Option AObj := h.objs.get o
def alloc (h : AHeap) (x : AObj) : AHeap := { objs := h.objs.put h.next x, next := h.next + 1, floor := h.floor, wr := h.wr }
def upd (h : AHeap) (o : Nat) (x : AObj) : AHeap := { objs := h.objs.put o x, next := h.next, floor := h.floor, wr := addWr h.wr h.floor o }
def inner (h : AHeap) : AHeap := { objs := h.objs, next := h.next, floor := h.next, wr := [] }
def outer (h h' : AHeap) : AHeap := { objs := h'.objs, next := h'.next, floor := h.floor, wr := addWrs h.wr h.floor h'.wr }
end AHeap
def rdCells (h : AHeap) (o ver n off s : Nat) : Option (List AV) :=
  match h.get o with
  | some (.cells v m c _ _ _ _) => if m ≤ ver ∧ ver ≤ v ∧ off + s ≤ n then some ((c.drop off).take s) else none
  | _ => none
def splice (c : List AV) (off : Nat) (new : List AV) : List AV := c.take off ++ (new ++ c.drop (off + new.length))
def wrCells (h : AHeap) (o ver n off : Nat) (new : List AV) : Option AHeap :=
  match h.get o with
  | some (.cells v m c fz el ex sh) =>
    if ver = v ∧ m ≤ v ∧ off + new.length ≤ n ∧ fz ≤ off ∧ new.all cellOK = true then some (h.upd o (.cells v v (splice c off new) fz el ex sh)) else none
  | _ => none
def rdAt (h : AHeap) (s : Nat) : AV → Option (List AV)
  | .ref o ver n off => rdCells h o ver n off s
  | .pref cells => if s ≤ cells.length then some (cells.take s) else none
  | _ => none
def isAggT (P : Program) (t : TypeId) : Option Bool :=
  match P.underlying t with
  | some (.struct _) | some (.array _ _) => some true
  | some _ => some false
  | none => none
def sizeT (P : Program) (t : TypeId) : Option Nat := (P.info? t).map (·.size)
def bytesT (P : Program) (t : TypeId) : Option Nat := (P.info? t).map (·.bytes)
def zeroT (P : Program) (t : TypeId) : Option AV :=
  match P.info? t with
  | some i => i.zero.map ofVal
  | none => none
def aload (P : Program) (h : AHeap) (t : TypeId) (a : AV) : Option AV :=
  match isAggT P t, sizeT P t with
  | some true, some s => (rdAt h s a).map .agg
  | some false, some _ => match rdAt h 1 a with
    | some [v] => some v
    | _ => none
  | _, _ => none
def astore (P : Program) (h : AHeap) (t : TypeId) (a v : AV) : Option AHeap :=
  match sizeT P t, a with
  | some s, .ref o ver n off => if (cellsA v).length = s then wrCells h o ver n off (cellsA v) else none
  | _, _ => none
def anew (h : AHeap) (t : TypeId) (cells : List AV) : AHeap × AV :=
  (h.alloc (.cells 0 0 cells 0 t true false), .ref h.next 0 cells.length 0)
def apart (P : Program) (t : TypeId) (cs : List AV) (off : Nat) : Option AV :=
  match isAggT P t, sizeT P t with
  | some true, some s => some (.agg ((cs.drop off).take s))
  | some false, some _ => (cs.drop off).head?
  | _, _ => none
def afill (place : Nat → Option (Nat × Nat)) (cells : List AV) : List (Nat × AV) → Option (List AV)
  | [] => some cells
  | (i, v) :: rest =>
    match place i with
    | none => none
    | some (off, size) =>
      if (cellsA v).length = size ∧ off + (cellsA v).length ≤ cells.length ∧ (cellsA v).all cellOK = true then afill place (splice cells off (cellsA v)) rest
      else none
def zerosA (z : List AV) : Nat → List AV
  | 0 => []
  | n + 1 => z ++ zerosA z n
inductive ANext where
  | val (v : AV)
  | skip
  | enter (f : FuncId) (args : List AV)
  | round (l : Nat) (args : List AV)
  | defer (d : ADef)
  | panic (v : AV)
  | recov
def val (h : AHeap) (v : Option AV) : Option (ANext × AHeap) := v.map fun v => (.val v, h)
def intOfA : AV → Option Int
  | .sc (.int _ n) => some n
  | _ => none
def natOfA (x : AV) : Option Nat :=
  match x with
  | .sc (.int _ n) => if 0 ≤ n then some n.toNat else none
  | _ => none
def optNat : Option AV → Nat → Option Nat
  | none, d => some d
  | some x, _ => natOfA x
def capOf : Option Nat → Nat → Nat
  | some c, _ => c
  | none, len => len
def forceL {α β : Type} : List α → (List α → β) → β
  | [], k => k []
  | x :: xs, k => forceL xs fun ys => k (x :: ys)
theorem forceL_eq {α β : Type} : ∀ (l : List α) (k : List α → β), forceL l k = k l
  | [], _ => rfl
  | x :: xs, k => by rw [forceL, forceL_eq xs]
def aslice (P : Program) (t : TypeId) (x : AV) (lo hi mx : Option AV) : Option AV :=
  match P.underlying t with
  | some (.slice e) =>
    match sizeT P e, x with
    | some s, .sl o ver n off sz len cap =>
      match optNat lo 0, optNat hi len, mx.map natOfA with
      | some l, some h, none =>
        match cap with
        | some c => if s = sz ∧ l ≤ h ∧ h ≤ c ∧ off + h * sz ≤ n then
            some (.sl o ver n (if c = l then off else off + l * sz) sz (h - l) (some (c - l))) else none
        | none => if s = sz ∧ l ≤ h ∧ h ≤ len then
            (if l = 0 then some (.sl o ver n off sz h none)
             else if l < len then some (.sl o ver n (off + l * sz) sz (h - l) none) else some .esl) else none
      | some l, some h, some (some m) =>
        if s = sz ∧ l ≤ h ∧ h ≤ m ∧ m ≤ capOf cap len ∧ off + h * sz ≤ n ∧ hi.isSome then
          some (.sl o ver n (if m = l then off else off + l * sz) sz (h - l) (some (m - l))) else none
      | _, _, _ => none
    | some s, .psl cells sz len cap =>
      match optNat lo 0, optNat hi len, mx.map natOfA with
      | some l, some h, none =>
        match cap with
        | some c => if s = sz ∧ l ≤ h ∧ h ≤ len ∧ len ≤ c then
            some (.psl (if c = l then [] else (cells.drop (l * sz)).take ((h - l) * sz)) sz (h - l) (some (c - l))) else none
        | none => if s = sz ∧ l ≤ h ∧ h ≤ len then
            (if l < len ∨ l = 0 then some (.psl ((cells.drop (l * sz)).take ((h - l) * sz)) sz (h - l) none) else some .esl) else none
      | some l, some h, some (some m) =>
        if s = sz ∧ l ≤ h ∧ h ≤ m ∧ m ≤ len ∧ hi.isSome then
          some (.psl (if m = l then [] else (cells.drop (l * sz)).take ((h - l) * sz)) sz (h - l) (some (m - l))) else none
      | _, _, _ => none
    | some s, .isl rows sz =>
      match optNat lo 0, optNat hi rows.length, mx with
      | some l, some h, none => if s = sz ∧ l ≤ h ∧ h ≤ rows.length then some (.isl ((rows.drop l).take (h - l)) sz) else none
      | some l, some h, some y => (match natOfA y with
        | some m => if s = sz ∧ l ≤ h ∧ h ≤ m ∧ m ≤ rows.length ∧ hi.isSome then some (.isl ((rows.drop l).take (h - l)) sz) else none
        | none => none)
      | _, _, _ => none
    | some _, .esl =>
      match optNat lo 0, optNat hi 0, mx with
      | some 0, some 0, none => some .esl
      | _, _, _ => none
    | some _, .sc (.slice none 0 0) =>
      match optNat lo 0, optNat hi 0, mx.map natOfA with
      | some 0, some 0, none => some (.sc (.slice none 0 0))
      | some 0, some 0, some (some 0) => if hi.isSome then some (.sc (.slice none 0 0)) else none
      | _, _, _ => none
    | _, _ => none
  | some .string =>
    match x, optNat lo 0, mx with
    | .sc (.string v), some l, none => (match optNat hi v.size with
      | some h => if l ≤ h ∧ h ≤ v.size then forceL ((v.data.toList.drop l).take (h - l)) fun b => some (.sc (.string ⟨⟨b⟩⟩)) else none
      | none => none)
    | _, _, _ => none
  | _ => none
def aindexAddr (P : Program) (t : TypeId) (x i : AV) : Option AV :=
  match P.underlying t, natOfA i with
  | some (.slice e), some i =>
    match sizeT P e, x with
    | some s, .sl o ver n off sz len _ => if s = sz ∧ i < len then some (.ref o ver n (off + i * sz)) else none
    | some s, .psl cells sz len _ => if s = sz ∧ i < len then some (.pref (cells.drop (i * sz))) else none
    | some s, .isl rows sz => if s = sz then (match rows[i]? with
      | some r => some (.pref r)
      | none => none) else none
    | _, _ => none
  | some (.array len e), some i =>
    match sizeT P e, x with
    | some s, .ref o ver n off => if i < len then some (.ref o ver n (off + i * s)) else none
    | some s, .pref cells => if i < len then some (.pref (cells.drop (i * s))) else none
    | _, _ => none
  | _, _ => none
def afieldAddr (P : Program) (t : TypeId) (x : AV) (f : Nat) : Option AV :=
  match P.underlying t with
  | some (.struct fields) =>
    match fields[f]? with
    | some fd =>
      match sizeT P fd.type, x with
      | some (_ + 1), .ref o ver n off => some (.ref o ver n (off + fd.offset))
      | some (_ + 1), .pref cells => some (.pref (cells.drop fd.offset))
      | _, _ => none
    | none => none
  | _ => none
def afield (P : Program) (t : TypeId) (x : AV) (f : Nat) : Option AV :=
  match P.underlying t, x with
  | some (.struct fields), .agg cs =>
    match fields[f]? with
    | some fd => apart P fd.type cs fd.offset
    | none => none
  | _, _ => none
def aindex (P : Program) (t : TypeId) (x i : AV) : Option AV :=
  match P.underlying t, x with
  | some (.array len e), .agg cs =>
    match natOfA i, sizeT P e with
    | some i, some s => if i < len then apart P e cs (i * s) else none
    | _, _ => none
  | some .string, .sc (.string s) =>
    match natOfA i with
    | some i => match s[i]? with
      | some b => some (.sc (.int .u8 b.toNat))
      | none => none
    | none => none
  | _, _ => none
def abuild (P : Program) (t : TypeId) (parts : List (Nat × AV)) : Option AV :=
  match P.info? t, P.underlying t with
  | some it, some (.array _ e) =>
    match it.zero, P.info? e with
    | some z, some ie => (afill (fun i => some (i * ie.size, ie.size)) (cellsA (ofVal z)) parts).map .agg
    | _, _ => none
  | some it, some (.struct fields) =>
    match it.zero, fields.toList.mapM (fun f => (P.info? f.type).map fun i => (f.offset, i.size)) with
    | some z, some places => (afill (fun i => places[i]?) (cellsA (ofVal z)) parts).map .agg
    | _, _ => none
  | _, _ => none
def abuildSlice (P : Program) (h : AHeap) (t : TypeId) (len : Nat) (parts : List (Nat × AV)) : Option (AV × AHeap) :=
  match P.underlying t with
  | some (.slice e) =>
    match sizeT P e, zeroT P e with
    | some s, some z =>
      if len * s ≤ 16777216 ∧ (cellsA z).length = s then
        match afill (fun i => some (i * s, s)) (zerosA (cellsA z) len) parts with
        | some cells => if cells.all cellOK then some (.sl h.next 0 cells.length 0 s len (some len), h.alloc (.cells 0 0 cells 0 e true false)) else none
        | none => none
      else none
    | _, _ => none
  | _ => none
def amakeSlice (P : Program) (h : AHeap) (t : TypeId) (l c : AV) : Option (AV × AHeap) :=
  match P.underlying t, natOfA l, natOfA c with
  | some (.slice e), some l, some c =>
    match sizeT P e, zeroT P e, bytesT P e with
    | some s, some z, some by_ =>
      if l ≤ c ∧ by_ * c ≤ 281474976710656 ∧ c < 9223372036854775808 ∧ (cellsA z).length = s then
        some (.sl h.next 0 (c * s) 0 s l (some c), h.alloc (.cells 0 0 (zerosA (cellsA z) c) 0 e true false))
      else none
    | _, _, _ => none
  | _, _, _ => none
def firstA (h : AHeap) (s n : Nat) : AV → Option (List AV)
  | .sl o ver m off sz len _ => if s = sz ∧ n ≤ len then rdCells h o ver m off (n * s) else none
  | .psl cells sz len _ => if s = sz ∧ n ≤ len ∧ n * s ≤ cells.length then some (cells.take (n * s)) else none
  | .isl rows sz => if s = sz ∧ n ≤ rows.length then some (rows.take n).flatten else none
  | .esl => if n = 0 then some [] else none
  | .sc (.slice none 0 0) => if n = 0 then some [] else none
  | .sc (.string b) => if s = 1 ∧ n ≤ b.size then some ((b.data.toList.take n).map fun b => .sc (.int .u8 b.toNat)) else none
  | _ => none
def lenA : AV → Option Nat
  | .sl _ _ _ _ _ len _ => some len
  | .psl _ _ len _ => some len
  | .isl rows _ => some rows.length
  | .esl => some 0
  | .sc (.slice none 0 0) => some 0
  | .sc (.string b) => some b.size
  | _ => none
def isInt : TypeDesc → Bool
  | .int _ => true
  | _ => false
def aappend (P : Program) (h : AHeap) (st xt : TypeId) (x y : AV) : Option (AV × AHeap) :=
  match P.underlying st, P.underlying xt, lenA y with
  | some (.slice e), some xd, some n =>
    if isInt xd = true then none else
    match sizeT P e, bytesT P e, zeroT P e with
    | some s, some by_, some z =>
      if (cellsA z).length ≠ s ∨ s = 0 then none else
      match firstA h s n y with
      | none => none
      | some new =>
        if !(new.all cellOK) then none else
        match x with
        | .sc (.slice none 0 0) =>
          if n = 0 then some (x, h)
          else if 0 < by_ ∧ n * by_ ≤ 140737488355328 then
            some (.sl h.next 0 (n * s) 0 s n none, h.alloc (.cells 0 0 new 0 e false false))
          else none
        | .sl o ver m off sz len cap =>
          if sz ≠ s then none else
          match cap with
          | some c =>
            if len + n ≤ c then
              (if n = 0 then some (x, h) else
               match wrCells h o ver m (off + len * s) new with
               | some h' => some (.sl o ver m off sz (len + n) (some c), h')
               | none => none)
            else if 0 < by_ ∧ (len + n) * by_ ≤ 140737488355328 then
              match rdCells h o ver m off (len * s) with
              | some old => some (.sl h.next 0 ((len + n) * s) 0 s (len + n) none, h.alloc (.cells 0 0 (old ++ new) 0 e false false))
              | none => none
            else none
          | none =>
            if n = 0 then some (x, h) else
            match h.get o with
            | some (.cells v mv c fz el _ sh) =>
              if ver = v ∧ mv ≤ v ∧ off = 0 ∧ len * s ≤ m ∧ fz ≤ len * s ∧ el = e ∧ 0 < by_ ∧ (len + n) * by_ ≤ 140737488355328 then
                some (.sl o (v + 1) ((len + n) * s) 0 s (len + n) none,
                  h.upd o (.cells (v + 1) (if len * s = c.length then mv else v + 1) (c.take (len * s) ++ new) fz el false sh))
              else none
            | _ => none
        | .psl cells sz len (some c) =>
          if sz ≠ s ∨ cells.length ≠ len * s then none else
          if n = 0 then some (x, h)
          else if c < len + n ∧ 0 < by_ ∧ (len + n) * by_ ≤ 140737488355328 then
            some (.sl h.next 0 ((len + n) * s) 0 s (len + n) none, h.alloc (.cells 0 0 (cells ++ new) 0 e false false))
          else none
        | .psl _ _ _ none => if n = 0 then some (x, h) else none
        | .isl _ _ => if n = 0 then some (x, h) else none
        | .esl => if n = 0 then some (x, h) else none
        | _ => none
    | _, _, _ => none
  | _, _, _ => none
def aappendZ (P : Program) (h : AHeap) (st xt : TypeId) (x y : AV) : Option (AV × AHeap) :=
  match P.underlying st, P.underlying xt, x, y with
  | some (.slice e), some (.int _), .sc (.slice none 0 0), .sc (.int .i64 n) =>
    match sizeT P e, bytesT P e, zeroT P e with
    | some s, some by_, some z =>
      if 0 < n ∧ n < 9223372036854775808 ∧ s ≠ 0 ∧ (cellsA z).length = s ∧ (cellsA z).all cellOK = true ∧ 0 < by_ ∧ n.toNat * by_ ≤ 140737488355328 then
        some (.sl h.next 0 (n.toNat * s) 0 s n.toNat none, h.alloc (.cells 0 0 (zerosA (cellsA z) n.toNat) 0 e false false))
      else none
    | _, _, _ => none
  | _, _, _, _ => none
def aappend2 (P : Program) (h : AHeap) (st xt : TypeId) (x y : AV) : Option (AV × AHeap) :=
  match aappend P h st xt x y with
  | some r => some r
  | none => aappendZ P h st xt x y
theorem aappend2_of {P : Program} {h : AHeap} {st xt : TypeId} {x y : AV} {r : AV × AHeap} (e : aappend P h st xt x y = some r) : aappend2 P h st xt x y = some r := by
  unfold aappend2; rw [e]
def acopy (P : Program) (h : AHeap) (dt : TypeId) (x y : AV) : Option (AV × AHeap) :=
  match P.underlying dt, lenA x, lenA y with
  | some (.slice e), some dl, some n0 =>
    match sizeT P e with
    | some s =>
      match firstA h s (Nat.min n0 dl) y, x with
      | some new, .sl o ver m off sz _ _ => if sz = s ∧ new.length = Nat.min n0 dl * s then
          (wrCells h o ver m off new).map fun h' => (.sc (goInt (Nat.min n0 dl)), h') else none
      | _, _ => none
    | none => none
  | _, _, _ => none
def sameKey : Value → Value → Option Bool
  | .int k a, .int k' b => if k = k' then some (a == b) else none
  | .string a, .string b => some (a == b)
  | .bool a, .bool b => some (a == b)
  | _, _ => none
def keyKind : TypeDesc → Value → Bool
  | .int _, .int _ _ => true
  | .string, .string _ => true
  | .bool, .bool _ => true
  | _, _ => false
def findA (k : Value) : List (AV × AV × Nat) → Nat → Option (Option (Nat × AV × Nat))
  | [], _ => some none
  | (.sc q, v, b) :: es, i =>
    match sameKey k q with
    | some true => some (some (i, v, b))
    | some false => findA k es (i + 1)
    | none => none
  | _ :: _, _ => none
def lookIn (h : AHeap) (kv : Value) : AV → Option (Option (Nat × AV × Nat))
  | .sc (.map none) => some none
  | .map o => match h.get o with
    | some (.map es _) => findA kv es 0
    | _ => none
  | _ => none
def alookup (P : Program) (h : AHeap) (t : TypeId) (x k : AV) (ok : Bool) : Option AV :=
  match P.underlying t, k with
  | some (.map kt e), .sc kv =>
    match P.underlying kt, zeroT P e with
    | some kd, some z =>
      if !keyKind kd kv then none else
      match lookIn h kv x with
      | some (some (_, v, _)) => some (if ok then .tuple [v, .sc (.bool true)] else v)
      | some none => some (if ok then .tuple [z, .sc (.bool false)] else z)
      | none => none
    | _, _ => none
  | _, _ => none
def amapUpdate (P : Program) (h : AHeap) (t : TypeId) (x k v : AV) : Option AHeap :=
  match P.underlying t, k, x with
  | some (.map kt _), .sc kv, .map o =>
    match P.underlying kt, h.get o with
    | some kd, some (.map es clock) =>
      if !keyKind kd kv then none else
      match findA kv es 0 with
      | some (some (i, _, b)) => some (h.upd o (.map (es.set i (.sc kv, v, b)) clock))
      | some none => some (h.upd o (.map (es ++ [(.sc kv, v, clock)]) (clock + 1)))
      | none => none
    | _, _ => none
  | _, _, _ => none
def adelete (P : Program) (h : AHeap) (t : TypeId) (x k : AV) : Option AHeap :=
  match P.underlying t, k, x with
  | some (.map kt _), .sc kv, .map o =>
    match P.underlying kt, h.get o with
    | some kd, some (.map es clock) =>
      if !keyKind kd kv then none else
      match findA kv es 0 with
      | some (some (i, _, _)) => some (h.upd o (.map (es.eraseIdx i) clock))
      | some none => some h
      | none => none
    | _, _ => none
  | _, _, _ => none
def nilType : TypeDesc → AV → Bool
  | .pointer _, .ref .. | .pointer _, .pref _ => true
  | .slice _, .sl .. | .slice _, .esl | .slice _, .psl .. => true
  | .slice _, .isl (_ :: _) _ => true
  | .map _ _, .map _ => true
  | .func _ _ _, .func .. | .func _ _ _, .yld _ => true
  | .interface _, .iface .. => true
  | _, _ => false
def nilOf : TypeDesc → AV → Bool
  | .pointer _, .sc (.pointer none) => true
  | .slice _, .sc (.slice none _ _) => true
  | .map _ _, .sc (.map none) => true
  | .func _ _ _, .sc .nilFunc => true
  | .interface _, .sc .nilIface => true
  | _, _ => false
def aeq (P : Program) (t : TypeId) (x y : AV) : Option Bool :=
  match P.underlying t with
  | some d =>
    if nilType d x && nilOf d y || nilType d y && nilOf d x then some false else
    match d, x, y with
    | .pointer e, .ref o v _ off, .ref o' v' _ off' => if o = o' ∧ v = v' ∧ sizeT P e ≠ some 0 ∧ (sizeT P e).isSome then some (off == off') else none
    | .interface _, .iface a _, .iface b _ => if a ≠ b then some false else none
    | .interface _, .iface a _, .sc (.iface b _) => if a ≠ b then some false else none
    | .interface _, .sc (.iface a _), .iface b _ => if a ≠ b then some false else none
    | _, _, _ => none
  | none => none
def abin (P : Program) (op : BinOp) (t : TypeId) (xo yo : Operand) (x y : AV) : Option AV :=
  match toVal x, toVal y with
  | some a, some b => (peel P (do eqGuard op t xo yo a b; binOp op t a b)).map ofVal
  | _, _ =>
    match op with
    | .eql => (aeq P t x y).map fun b => .sc (.bool b)
    | .neq => (aeq P t x y).map fun b => .sc (.bool (!b))
    | _ => none
def bytesOfA : List AV → Option (List UInt8)
  | [] => some []
  | .sc (.int .u8 n) :: xs => (bytesOfA xs).map (UInt8.ofNat n.toNat :: ·)
  | _ :: _ => none
def isSl : AV → Bool
  | .sl .. | .psl .. | .isl .. | .esl => true
  | .sc (.slice none 0 0) => true
  | _ => false
def aconvert (P : Program) (h : AHeap) (src dst : TypeId) (x : AV) : Option (AV × AHeap) :=
  match P.underlying src, P.underlying dst with
  | some (.slice e), some .string =>
    match P.underlying e, lenA x, isSl x with
    | some (.int .u8), some n, true =>
      match firstA h 1 n x with
      | some l => (bytesOfA l).map fun b => (.sc (.string ⟨b.toArray⟩), h)
      | none => none
    | _, _, _ => none
  | some .string, some (.slice e) =>
    match P.underlying e, x with
    | some (.int .u8), .sc (.string b) =>
      if b.size ≤ 140737488355328 then some (.sl h.next 0 b.size 0 1 b.size none, h.alloc (.cells 0 0 (b.data.toList.map fun b => .sc (.int .u8 b.toNat)) 0 e false true)) else none
    | _, _ => none
  | some (.pointer t), some .unsafePointer =>
    match x, sizeT P t with
    | .ref o ver n off, some (_ + 1) => match rdCells h o ver n off 1 with
      | some _ => some (x, h)
      | none => none
    | .sc (.pointer none), _ => some (x, h)
    | _, _ => none
  | some .unsafePointer, some .unsafePointer => match x with
    | .ref .. => some (x, h)
    | .sc (.pointer none) => some (x, h)
    | _ => none
  | some .unsafePointer, some (.pointer u) =>
    match x, sizeT P u with
    | .ref o ver n off, some (_ + 1) => match rdCells h o ver n off 1, h.get o with
      | some _, some (.cells _ _ c _ el true _) => if liesAt P P.depth el (c.length / P.cellsOf el) off u 1 then some (x, h) else none
      | _, _ => none
    | .sc (.pointer none), _ => some (x, h)
    | _, _ => none
  | some _, some _ =>
    match toVal x with
    | some v => (peel P (convert src dst v)).map fun v => (ofVal v, h)
    | none => none
  | _, _ => none
def innerA : AV → Option (TypeId × AV)
  | .iface t v => some (t, v)
  | .sc (.iface t v) => some (t, ofVal v)
  | _ => none
def failsA (P : Program) (asserted : TypeId) (ok : Bool) : Option AV :=
  if ok then (zeroT P asserted).map fun z => .tuple [z, .sc (.bool false)] else none
def aassert (P : Program) (x : AV) (asserted : TypeId) (ok : Bool) : Option AV :=
  match P.underlying asserted with
  | some (.interface want) =>
    match innerA x with
    | some (t, _) =>
      match P.info? t with
      | some i => match Instr.missingMethod want i.methods with
        | none => some (if ok then .tuple [x, .sc (.bool true)] else x)
        | some _ => failsA P asserted ok
      | none => none
    | none => match x with
      | .sc .nilIface => failsA P asserted ok
      | _ => none
  | some _ =>
    match innerA x with
    | some (t, v) => if t = asserted then some (if ok then .tuple [v, .sc (.bool true)] else v) else failsA P asserted ok
    | none => match x with
      | .sc .nilIface => failsA P asserted ok
      | _ => none
  | none => none
def extArgs : List AV → Option (List Value)
  | [] => some []
  | x :: xs => match toVal x, extArgs xs with
    | some v, some vs => some (v :: vs)
    | _, _ => none
def extKind (fn : Func) : Nat :=
  if fn.name = "internal/abi.NoEscape" ∧ fn.origin = "" then 1 else if fn.name = "internal/bytealg.MakeNoZero" ∧ fn.origin = "" then 2 else 0
def aspecial (P : Program) (h : AHeap) (fn : Func) (args : List AV) : Option (ANext × AHeap) :=
  match extKind fn, args with
  | 1, [x] => some (.val x, h)
  | 2, [.sc (.int .i64 n)] =>
    match fn.resultTypes[0]? with
    | some t => match P.underlying t with
      | some (.slice e) => if 0 ≤ n ∧ n ≤ 1099511627776 then some (.val (.sl h.next 0 0 0 1 n.toNat none), h.alloc (.cells 0 0 [] 0 e false false)) else none
      | _ => none
    | none => none
  | _, _ => none
def acallFunc (P : Program) (h : AHeap) (f : FuncId) (args : List AV) : Option (ANext × AHeap) :=
  match P.funcs[f]? with
  | none => none
  | some fn =>
    match fn.body with
    | some _ => some (.enter f args, h)
    | none =>
      match extKind fn with
      | _ + 1 => aspecial P h fn args
      | 0 =>
        match extArgs args with
        | some vs => match peel P (callFunc f vs.toArray) with
          | some (.value v) => some (.val (ofVal v), h)
          | _ => none
        | none => none
def ainvoke (P : Program) (h : AHeap) (fn : Fn) (captured args : List AV) : Option (ANext × AHeap) :=
  match fn with
  | .func f => acallFunc P h f (args ++ captured)
  | _ => none
def aunsafeString (P : Program) (h : AHeap) (pt : TypeId) (p n : AV) : Option (AV × AHeap) :=
  match p, natOfA n with
  | .sc (.pointer none), some 0 => some (.sc (.string .empty), h)
  | .ref o ver m off, some (n + 1) =>
    match P.underlying pt, h.get o with
    | some (.pointer u), some (.cells v m' c fz el ex false) =>
      if ver = v ∧ m' ≤ v ∧ el = u ∧ sizeT P u = some 1 ∧ n + 1 ≤ 9223372036854775807 then
        match rdCells h o ver m off (n + 1) with
        | some l => (bytesOfA l).map fun b => (.sc (.string ⟨b.toArray⟩), h.upd o (.cells v v c (max fz (off + (n + 1))) el ex false))
        | none => none
      else none
    | _, _ => none
  | _, _ => none
def alen (P : Program) (h : AHeap) (t : TypeId) (x : AV) : Option Nat :=
  match P.underlying t with
  | some (.slice _) => if isSl x then lenA x else none
  | some .string => match x with
    | .sc (.string s) => some s.size
    | _ => none
  | some (.array n _) => some n
  | some (.map _ _) => match x with
    | .sc (.map none) => some 0
    | .map o => match h.get o with
      | some (.map es _) => some es.length
      | _ => none
    | _ => none
  | _ => none
def acap (P : Program) (t : TypeId) (x : AV) : Option Nat :=
  match P.underlying t, x with
  | some (.slice _), .sl _ _ _ _ _ _ (some c) => some c
  | some (.slice _), .psl _ _ _ (some c) => some c
  | some (.slice _), .sc (.slice none 0 0) => some 0
  | _, _ => none
def abuiltin (P : Program) (h : AHeap) (b : Builtin) (ats : Array TypeId) (ty : TypeId) (args : List AV) : Option (ANext × AHeap) :=
  let hv (r : Option (AV × AHeap)) : Option (ANext × AHeap) := r.map fun (v, h) => (.val v, h)
  match b, args with
  | .append, [x, y] =>
    match ats[0]?, ats[1]? with
    | some st, some xt => hv (aappend2 P h st xt x y)
    | _, _ => none
  | .copy, [x, y] =>
    match ats[0]? with
    | some dt => hv (acopy P h dt x y)
    | none => none
  | .len, [x] =>
    match ats[0]? with
    | some t => val h ((alen P h t x).map fun n => .sc (goInt n))
    | none => none
  | .cap, [x] =>
    match ats[0]? with
    | some t => val h ((acap P t x).map fun n => .sc (goInt n))
    | none => none
  | .delete, [m, k] =>
    match ats[0]? with
    | some t => (adelete P h t m k).map fun h => (.val undefA, h)
    | none => none
  | .clear, [m] =>
    match m, ats[0]?.bind P.underlying with
    | .map o, some _ => match h.get o with
      | some (.map _ clock) => some (.val undefA, h.upd o (.map [] clock))
      | _ => none
    | _, _ => none
  | .panic, [x] =>
    match x with
    | .iface t v => some (.panic (.iface t v), h)
    | .sc (.iface t v) => some (.panic (.sc (.iface t v)), h)
    | _ => none
  | .recover, [] => some (.recov, h)
  | .min, _ | .max, _ =>
    match extArgs args with
    | some vs => match peel P (builtin b ats ty #[] vs.toArray) with
      | some (.value v) => some (.val (ofVal v), h)
      | _ => none
    | none => none
  | .unsafeSliceData, [x] =>
    match x with
    | .sc (.slice none 0 0) => some (.val (.sc (.pointer none)), h)
    | .sl o ver n off _ len cap => if 0 < len ∨ 0 < capOf cap 0 then some (.val (.ref o ver n off), h) else none
    | _ => none
  | .unsafeString, [p, n] =>
    match ats[0]? with
    | some pt => (aunsafeString P h pt p n).map fun (v, h) => (.val v, h)
    | none => none
  | _, _ => none
def fnOf : AV → Option (Fn × List AV × List AV)
  | .func fn a c => some (fn, a, c)
  | .sc (.func fn a c) => some (fn, a.toList.map .sc, c.toList.map .sc)
  | _ => none
def acall (P : Program) (h : AHeap) (ρ : Operand → AV) (c : Call) (ty : TypeId) : Option (ANext × AHeap) :=
  let args := c.args.toList.map ρ
  match c.callee with
  | .builtin b => abuiltin P h b c.argTypes ty args
  | .invoke _ _ => none
  | .value f =>
    match ρ f with
    | .yld l => some (.round l args, h)
    | x => match fnOf x with
      | some (fn, first, captured) => ainvoke P h fn captured (first ++ args)
      | none => none
def adefer (h : AHeap) (ρ : Operand → AV) (c : Call) : Option (ANext × AHeap) :=
  match c.callee with
  | .value f =>
    match fnOf (ρ f) with
    | some (fn, first, captured) => some (.defer (.fn fn captured (first ++ c.args.toList.map ρ)), h)
    | none => none
  | _ => none
def aop (P : Program) (ρ : Operand → AV) (o : Oper) (h : AHeap) : Option (ANext × AHeap) :=
  let hv (r : Option (AV × AHeap)) : Option (ANext × AHeap) := r.map fun (v, h) => (.val v, h)
  match o.op with
  | .move x | .assign x => some (.val (ρ x), h)
  | .pick c a b => match ρ c with
    | .sc (.bool t) => some (.val (if t then ρ a else ρ b), h)
    | _ => none
  | .alloc e => match zeroT P e with
    | some z => if (cellsA z).all cellOK then some (.val (anew h e (cellsA z)).2, (anew h e (cellsA z)).1) else none
    | none => none
  | .box e x => if (cellsA (ρ x)).all cellOK then some (.val (anew h e (cellsA (ρ x))).2, (anew h e (cellsA (ρ x))).1) else none
  | .build t parts => val h (abuild P t (parts.toList.map fun (i, x) => (i, ρ x)))
  | .buildSlice t len parts => hv (abuildSlice P h t len (parts.toList.map fun (i, x) => (i, ρ x)))
  | .load t a => val h (aload P h t (ρ a))
  | .store t a x => (astore P h t (ρ a) (ρ x)).map fun h => (.skip, h)
  | .nilCheck x => match ρ x with
    | .ref .. | .pref _ => some (.val (ρ x), h)
    | .func (.func f) a c => some (.val (.func (.func f) a c), h)
    | .yld l => some (.val (.yld l), h)
    | .sc (.func (.func f) a c) => some (.val (.sc (.func (.func f) a c)), h)
    | .iface t v => some (.val (.iface t v), h)
    | _ => none
  | .binOp op t x y _ => val h (abin P op t x y (ρ x) (ρ y))
  | .unOp op _ x => match toVal (ρ x) with
    | some v => val h ((peel P (Op.unary op v)).map ofVal)
    | none => none
  | .convert s d x => hv (aconvert P h s d (ρ x))
  | .makeInterface t x => match P.underlying t with
    | some (.interface _) => none
    | some _ => some (.val (.iface t (ρ x)), h)
    | none => none
  | .makeFunc fn first captured => some (.val (.func fn (first.toList.map ρ) (captured.toList.map ρ)), h)
  | .makeMap t r =>
    match r, P.underlying t with
    | none, _ => some (.val (.map h.next), h.alloc (.map [] 0))
    | some x, some (.map _ _) => match ρ x with
      | .sc (.int _ _) => some (.val (.map h.next), h.alloc (.map [] 0))
      | _ => none
    | _, _ => none
  | .makeSlice t l c => hv (amakeSlice P h t (ρ l) (ρ c))
  | .slice t x lo hi mx => val h (aslice P t (ρ x) (lo.map ρ) (hi.map ρ) (mx.map ρ))
  | .fieldAddr s x f => val h (afieldAddr P s (ρ x) f)
  | .field t x f => val h (afield P t (ρ x) f)
  | .indexAddr t x i => val h (aindexAddr P t (ρ x) (ρ i))
  | .index t x i => val h (aindex P t (ρ x) (ρ i))
  | .lookup t x i ok => val h (alookup P h t (ρ x) (ρ i) ok)
  | .mapUpdate t m k x | .insert t m k x => (amapUpdate P h t (ρ m) (ρ k) (ρ x)).map fun h => (.skip, h)
  | .range t x => match P.underlying t, ρ x with
    | some .string, .sc (.string s) => some (.val (.ref h.next 0 0 0), h.alloc (.sit s 0))
    | some (.map _ _), .sc (.map none) => some (.val (.ref h.next 0 0 0), h.alloc (.mit none 0 [] 0))
    | some (.map _ _), .map m => match h.get m with
      | some (.map _ clock) => some (.val (.ref h.next 0 0 0), h.alloc (.mit (some m) clock [] clock))
      | _ => none
    | _, _ => none
  | .next it true => match ρ it with
    | .ref o 0 0 0 => match h.get o with
      | some (.sit s pos) =>
        if pos < s.size then
          some (.val (.tuple [.sc (.bool true), .sc (goInt pos), .sc (.int .i32 (Utf8.decode s pos).1)]), h.upd o (.sit s (pos + (Utf8.decode s pos).2)))
        else some (.val (.tuple [.sc (.bool false)]), h)
      | _ => none
    | _ => none
  | .next it false => match ρ it with
    | .ref o 0 0 0 => match h.get o with
      | some (.mit none _ _ _) => some (.val (.tuple [.sc (.bool false)]), h)
      | some (.mit (some m) since seen last) => match h.get m with
        | some (.map es clock) =>
          if !seen.isEmpty && !es.isEmpty && es.all (fun e => decide (last ≤ e.2.2)) then none else
          match es.filter (fun e => !seen.contains e.2.2) with
          | [] => some (.val (.tuple [.sc (.bool false)]), h)
          | [e] => if e.2.2 < since then
              some (.val (.tuple [.sc (.bool true), e.1, e.2.1]), h.upd o (.mit (some m) since (seen ++ [e.2.2]) clock)) else none
          | _ => none
        | _ => none
      | _ => none
    | _ => none
  | .typeAssert x _ a ok => val h (aassert P (ρ x) a ok)
  | .extract t i => match ρ t with
    | .tuple vs => val h vs[i]?
    | _ => none
  | .call c => acall P h ρ c o.type
  | .defer c => adefer h ρ c
  | .panic x => match ρ x with
    | .iface t v => some (.panic (.iface t v), h)
    | .sc (.iface t v) => some (.panic (.sc (.iface t v)), h)
    | _ => none
  | _ => none
inductive AMode where
  | none
  | ret
  | pan (v : AV) (recovered : Bool)
inductive AEx where
  | normal
  | exit (id : Nat)
  | ret
  | panic (v : AV)
structure ASt where
  tm : Tr AV
  df : List ADef
  cm : AMode
  h : AHeap
structure Ctx where
  fn : FuncId
  tn : Nat
  kind : CallKind
  round : Option Nat
inductive AOut where
  | ret (v : AV)
  | pan (v : AV)
structure Rec where
  call : CallKind → FuncId → List AV → AMode → AHeap → Option (AOut × AMode × AHeap)
  loop : Code → Ctx → ASt → Option (AEx × ASt)
  round : Nat → List AV → AHeap → Option (AOut × AHeap)
def ev (tm : Tr AV) : Operand → AV
  | .tmp t => match tm.get t with
    | some v => v
    | none => .unk
  | .const v => ofVal v
  | .global g => .sc (.pointer (some ⟨g, 0, none⟩))
  | .func f => .sc (.func (.func f) #[] #[])
def ASt.put (st : ASt) (tn : Nat) (dst : Option Tmp) (v : AV) : Option ASt :=
  match dst with
  | some d => if d < tn then some { st with tm := st.tm.put d v } else none
  | none => some st
def wantedA (ops : Array Oper) (o : Oper) (tm : Tr AV) : Option Bool :=
  match o.guard with
  | none => some true
  | some (j, want) =>
    match (ops[j]?).bind (·.dst) with
    | some d => match tm.get d with
      | some (.sc (.bool b)) => some (b == want)
      | some (.tuple _) => some false
      | _ => none
    | none => none
inductive ORes where
  | val (v : AV) (cm : AMode) (h : AHeap)
  | dfr (d : ADef) (h : AHeap)
  | pan (v : AV) (h : AHeap)
def opRun (P : Program) (R : Rec) (cx : Ctx) (ρ : Operand → AV) (o : Oper) (cm : AMode) (h : AHeap) : Option ORes :=
  match aop P ρ o h with
  | some (.val v, h) => some (.val v cm h)
  | some (.skip, h) => some (.val undefA cm h)
  | some (.defer d, h) => if cx.round.isSome then none else some (.dfr d h)
  | some (.enter f args, h) =>
    match R.call .normal f args .none h with
    | some (.ret v, _, h) => some (.val v cm h)
    | some (.pan v, _, h) => some (.pan v h)
    | none => none
  | some (.round l args, h) =>
    match R.round l args h with
    | some (.ret v, h) => some (.val v cm h)
    | some (.pan v, h) => some (.pan v h)
    | none => none
  | some (.panic v, h) => some (.pan v h)
  | some (.recov, h) =>
    match cx.kind, cx.round, cm with
    | .deferred, none, .pan v false => some (.val v (.pan v true) h)
    | .deferred, none, .ret => some (.val (.sc .nilIface) .ret h)
    | _, _, _ => none
  | none => none
def stepOp (P : Program) (R : Rec) (cx : Ctx) (ops : Array Oper) (o : Oper) (st : ASt) : Option (AEx × ASt) :=
  match wantedA ops o st.tm with
  | some true =>
    match opRun P R cx (ev st.tm) o st.cm st.h with
    | some (.val v cm h) => ({ st with cm, h }.put cx.tn o.dst v).map fun st => (.normal, st)
    | some (.dfr d h) => ({ st with h, df := d :: st.df }.put cx.tn o.dst undefA).map fun st => (.normal, st)
    | some (.pan v h) => some (.panic v, { st with h })
    | none => none
  | some false => (st.put cx.tn o.dst undefA).map fun st => (.normal, st)
  | none => none
def runOps (P : Program) (R : Rec) (cx : Ctx) (ops : Array Oper) : List Oper → ASt → Option (AEx × ASt)
  | [], st => some (.normal, st)
  | o :: rest, st =>
    match stepOp P R cx ops o st with
    | some (.normal, st) => runOps P R cx ops rest st
    | r => r
def isA : Op → Bool
  | .alloc _ | .box .. | .buildSlice .. | .makeSlice .. | .makeMap .. => true
  | _ => false
def isF : Op → Bool
  | .move _ | .assign _ | .pick .. | .build .. | .load .. | .nilCheck _ | .binOp .. | .unOp .. | .convert .. | .makeInterface .. | .makeFunc .. | .slice ..
  | .fieldAddr .. | .field .. | .indexAddr .. | .index .. | .lookup .. | .typeAssert .. | .extract .. => true
  | .call { callee := .builtin b, .. } => (match b with
    | .len | .cap | .min | .max | .unsafeSliceData => true
    | _ => false)
  | _ => false
def idsA : AV → List Nat
  | .ref o _ _ _ => [o]
  | .sl o _ _ _ _ _ _ => [o]
  | .map o => [o]
  | _ => []
def tmpsOf (o : Oper) : List Tmp := o.op.operands.toList.filterMap fun | .tmp t => some t | _ => none
def ancs : List Oper → List Nat → List Nat
  | [], acc => acc
  | o :: rest, acc => ancs rest (acc ++ [o.after.foldl (fun s e => if Region.binds .any e then s ||| 2 ^ e.on ||| acc.getD e.on 0 else s) 0])
def drawStatic (ops : Array Oper) : Bool :=
  let l := ops.toList
  let b := ancs l []
  let idx := l.zipIdx
  idx.all fun (o, i) =>
    let bi := b.getD i 0
    (o.after.all fun e => !Region.binds .any e || decide (e.on < i)) &&
    (match o.guard with | none => true | some (j, _) => bi.testBit j) &&
    (idx.all fun (q, k) =>
      (match q.dst with
       | some d => (k == i || o.dst != some d) && (!(tmpsOf o).contains d || bi.testBit k || (b.getD k 0).testBit i)
       | none => true) &&
      (!(decide (k < i)) || isA o.op || isF o.op || isA q.op || isF q.op || bi.testBit k))
structure Book where
  es : List (Nat × List Nat)
  fs : List (Nat × List Nat)
def bookOK (b : List Nat) (k : Book) : Bool :=
  k.fs.all fun (i, ids) => k.es.all fun (j, wr) =>
    (b.getD i 0).testBit j || (b.getD j 0).testBit i || ids.all fun o => !wr.contains o
def evo (ts : List Tmp) (tm : Tr AV) : Operand → AV
  | .tmp t => if ts.contains t then ev tm (.tmp t) else .unk
  | x => ev tm x
def onlyA (h : AHeap) : List Nat → Tr AObj
  | [] => .leaf
  | o :: os => if o < h.next then (match h.get o with
    | some x => (onlyA h os).put o x
    | none => onlyA h os) else onlyA h os
def looksA : Op → Bool
  | .load .. | .lookup .. | .convert .. | .call _ => true
  | _ => false
def lookIds (o : Oper) (tm : Tr AV) : List Nat := if looksA o.op then (tmpsOf o).flatMap fun t => idsA (ev tm (.tmp t)) else []
def runDraw (P : Program) (R : Rec) (cx : Ctx) (ops : Array Oper) : List Oper → (i aid : Nat) → Book → ASt → Option (Book × ASt)
  | [], _, _, k, st => some (k, st)
  | o :: rest, i, aid, k, st =>
    match wantedA ops o st.tm with
    | some false =>
      match st.put cx.tn o.dst undefA with
      | some st => runDraw P R cx ops rest (i + 1) (if isA o.op then aid + 1 else aid) k st
      | none => none
    | some true =>
      if isA o.op then
        match aop P (evo (tmpsOf o) st.tm) o { objs := .leaf, next := aid, floor := 0, wr := [] } with
        | some (.val v, h) =>
          match h.get aid with
          | some x =>
            if h.next = aid + 1 then
              match { st with h := { st.h with objs := st.h.objs.put aid x } }.put cx.tn o.dst v with
              | some st => runDraw P R cx ops rest (i + 1) (aid + 1) k st
              | none => none
            else none
          | none => none
        | _ => none
      else if isF o.op then
        match aop P (evo (tmpsOf o) st.tm) o { st.h with objs := onlyA st.h (lookIds o st.tm) } with
        | some (.val v, h') =>
          if h'.next = st.h.next then
            match st.put cx.tn o.dst v with
            | some st' => runDraw P R cx ops rest (i + 1) aid { k with fs := (i, lookIds o st.tm) :: k.fs } st'
            | none => none
          else none
        | _ => none
      else
        match opRun P R cx (evo (tmpsOf o) st.tm) o .none st.h.inner with
        | some (.val v _ h) =>
          match { st with h := st.h.outer h }.put cx.tn o.dst v with
          | some st' => runDraw P R cx ops rest (i + 1) aid { k with es := (i, h.wr) :: k.es } st'
          | none => none
        | _ => none
    | none => none
def countA : List Oper → Nat
  | [] => 0
  | o :: rest => if isA o.op then countA rest + 1 else countA rest
def noneA (h : AHeap) : Nat → Nat → Bool
  | 0, _ => true
  | n + 1, o => (h.get o).isNone && noneA h n (o + 1)
def evalDraw (P : Program) (R : Rec) (cx : Ctx) (ops : Array Oper) (st : ASt) : Option (AEx × ASt) :=
  if drawStatic ops && noneA st.h (countA ops.toList) st.h.next then
    match runDraw P R cx ops ops.toList 0 st.h.next { es := [], fs := [] } { st with h := { st.h with next := st.h.next + countA ops.toList } } with
    | some (k, st) => if bookOK (ancs ops.toList []) k then some (.normal, st) else none
    | none => none
  else none
def evalCode (P : Program) (R : Rec) (cx : Ctx) : Code → ASt → Option (AEx × ASt)
  | .skip, st => some (.normal, st)
  | .label _, st => some (.normal, st)
  | .region _ ops draw, st => if draw then evalDraw P R cx ops st else runOps P R cx ops ops.toList st
  | .seq a b, st =>
    match evalCode P R cx a st with
    | some (.normal, st) => evalCode P R cx b st
    | r => r
  | .cond c a b, st =>
    match ev st.tm c with
    | .sc (.bool true) => evalCode P R cx a st
    | .sc (.bool false) => evalCode P R cx b st
    | _ => none
  | .block id body, st =>
    match evalCode P R cx body st with
    | some (.exit id', st') => if id' = id then some (.normal, st') else some (.exit id', st')
    | r => r
  | .loop body, st => R.loop body cx st
  | .exit id, st => some (.exit id, st)
  | .scope body, st => evalCode P R cx body st
  | .goto _, _ => none
  | .ret, st => some (.ret, st)
  | .refuse _, _ => none
  | .rangeFunc f params assign body, st =>
    match cx.round with
    | some _ => none
    | none =>
      let d := st.h.next
      let l := d + 1
      let h := (st.h.alloc (.dfr (some []))).alloc (.loop .ready none cx.fn cx.tn st.tm params.toList assign body d)
      match fnOf (ev st.tm f) with
      | some (.func g, first, captured) =>
        match acallFunc P h g (first ++ [.yld l] ++ captured) with
        | some (.enter g args, h) =>
          match R.call .normal g args .none h with
          | some (.ret _, _, h) =>
            match h.get l with
            | some (.loop s pend fn tn tm ps a b dd) =>
              if s == .busy then none else
              let st := { st with h := h.upd l (.loop .exhausted pend fn tn tm ps a b dd), df := .coll d :: st.df }
              match pend with
              | none => some (.normal, st)
              | some (.exit id) => some (.exit id, st)
              | some .ret => some (.ret, st)
              | some _ => none
            | _ => none
          | some (.pan v, _, h) => some (.panic v, { st with h, df := .coll d :: st.df })
          | none => none
        | _ => none
      | _ => none
def resultsA (P : Program) (fn : Func) (tm : Tr AV) (h : AHeap) : List ResultVar → Option (List AV)
  | [] => some []
  | .tmp t :: rs => match resultsA P fn tm h rs with
    | some vs => some (ev tm (.tmp t) :: vs)
    | none => none
  | .cell a t :: rs => match aload P h t (ev tm (.tmp a)), resultsA P fn tm h rs with
    | some v, some vs => some (v :: vs)
    | _, _ => none
def retA (P : Program) (fn : Func) (tm : Tr AV) (h : AHeap) : Option AV :=
  match resultsA P fn tm h fn.results.toList with
  | some [v] => some v
  | some vs => some (.tuple vs)
  | none => none
def leaveA (P : Program) (R : Rec) (fn : Func) (tm : Tr AV) : List ADef → AMode → AHeap → Option (AOut × AHeap)
  | [], .ret, h => (retA P fn tm h).map fun v => (.ret v, h)
  | [], .pan v false, h => some (.pan v, h)
  | [], _, _ => none
  | .coll d :: ds, m, h =>
    match h.get d with
    | some (.dfr (some [])) => leaveA P R fn tm ds m (h.upd d (.dfr none))
    | _ => none
  | .fn (.func f) captured args :: ds, m, h =>
    match acallFunc P h f (args ++ captured) with
    | some (.enter f' args', h) =>
      match R.call .deferred f' args' m h with
      | some (.ret _, .pan _ true, h) => leaveA P R fn tm ds .ret h
      | some (.ret _, .pan v false, h) => leaveA P R fn tm ds (.pan v false) h
      | some (.ret _, .ret, h) => leaveA P R fn tm ds .ret h
      | _ => none
    | _ => none
  | _, _, _ => none
mutual
def heapFree : AV → Bool
  | .sc _ | .unk => true
  | .ref .. | .sl .. | .map _ | .yld _ => false
  | .esl => true
  | .pref cs => heapFrees cs
  | .psl cs _ _ _ => heapFrees cs
  | .isl _ _ => true
  | .func _ a c => heapFrees a && heapFrees c
  | .iface _ v => heapFree v
  | .agg cs => heapFrees cs
  | .tuple vs => heapFrees vs
def heapFrees : List AV → Bool
  | [] => true
  | x :: xs => heapFree x && heapFrees xs
end
def putArgs : List AV → Nat → Tr AV → Tr AV
  | [], _, t => t
  | x :: xs, i, t => putArgs xs (i + 1) (t.put i x)
def outFree : AOut → Bool
  | .ret v => heapFree v
  | .pan v => heapFree v
def endCall (kind : CallKind) (h : AHeap) (cm : AMode) (r : Option (AOut × AHeap)) : Option (AOut × AMode × AHeap) :=
  match r with
  | some (o, h') => if kind = .normal ∧ h'.wr.isEmpty = true ∧ outFree o = true then some (o, cm, h) else some (o, cm, h.outer h')
  | none => none
def stepCall (P : Program) (R : Rec) (kind : CallKind) (f : FuncId) (args : List AV) (cm : AMode) (h : AHeap) : Option (AOut × AMode × AHeap) :=
  match P.funcs[f]? with
  | some fn =>
    match fn.body with
    | some code =>
      match evalCode P R { fn := f, tn := max fn.ntmps args.length, kind, round := none } code { tm := putArgs args 0 .leaf, df := [], cm, h := h.inner } with
      | some (.normal, st) => endCall kind h st.cm (leaveA P R fn st.tm st.df .ret st.h)
      | some (.ret, st) => endCall kind h st.cm (leaveA P R fn st.tm st.df .ret st.h)
      | some (.panic v, st) => endCall kind h st.cm (leaveA P R fn st.tm st.df (.pan v false) st.h)
      | _ => none
    | none => none
  | none => none
def putParams (tn : Nat) : List Tmp → List AV → Tr AV → Option (Tr AV)
  | [], [], t => some t
  | p :: ps, x :: xs, t => if p < tn then putParams tn ps xs (t.put p x) else none
  | _, _, _ => none
def endRoundA (l : Nat) (jump : Option Code) (h : AHeap) : Option (AOut × AHeap) :=
  match h.get l with
  | some (.loop _ _ fn tn tm ps assign body dd) =>
    some (.ret (.sc (.bool jump.isNone)), h.upd l (.loop (if jump.isNone then .ready else .done) jump fn tn tm ps assign body dd))
  | _ => none
def stepRound (P : Program) (R : Rec) (l : Nat) (args : List AV) (h : AHeap) : Option (AOut × AHeap) :=
  match h.get l with
  | some (.loop _ _ fn tn tm ps assign body _) =>
    match putParams tn ps args tm with
    | none => none
    | some tm' =>
      let cx : Ctx := { fn, tn, kind := .normal, round := some l }
      match evalCode P R cx assign { tm := tm', df := [], cm := .none, h } with
      | some (.normal, st) =>
        match st.h.get l with
        | some (.loop .ready p fn' tn' tm' ps' assign' body' dd') =>
          match evalCode P R cx body { st with h := st.h.upd l (.loop .busy p fn' tn' tm' ps' assign' body' dd') } with
          | some (.normal, st) => endRoundA l none st.h
          | some (.ret, st) => endRoundA l (some .ret) st.h
          | some (.exit id, st) => endRoundA l (some (.exit id)) st.h
          | some (.panic v, st) => match st.df, P.funcs[fn]? with
            | [], some _ => some (.pan v, st.h)
            | _, _ => none
          | none => none
        | _ => none
      | _ => none
  | _ => none
def stepLoop (P : Program) (R : Rec) (body : Code) (cx : Ctx) (st : ASt) : Option (AEx × ASt) :=
  match evalCode P R cx body st with
  | some (.normal, st) => R.loop body cx st
  | r => r
def Rec.zero : Rec := { call := fun _ _ _ _ _ => none, loop := fun _ _ _ => none, round := fun _ _ _ => none }
def Rec.succ (P : Program) (R : Rec) : Rec := { call := stepCall P R, loop := stepLoop P R, round := stepRound P R }
def recN (P : Program) : Nat → Rec
  | 0 => Rec.zero
  | n + 1 => Rec.succ P (recN P n)
def h0 : AHeap := { objs := .leaf, next := 0, floor := 0, wr := [] }
end Go.AI
end

/-
  What an abstract state of AiDefs says of a world of the model.
-/
section
namespace Go.AI
structure Gh where
  B : Nat → Nat → Option (Nat × Nat × Nat)
  M : Nat → Nat → Option Value
structure Gh.Le (g g' : Gh) : Prop where
  b : ∀ o v x, g.B o v = some x → g'.B o v = some x
  m : ∀ b i v, g.M b i = some v → g'.M b i = some v
theorem Gh.Le.refl (g : Gh) : g.Le g := ⟨fun _ _ _ h => h, fun _ _ _ h => h⟩
theorem Gh.Le.trans {a b c : Gh} (h : a.Le b) (h' : b.Le c) : a.Le c := ⟨fun o v x e => h'.b o v x (h.b o v x e), fun o v x e => h'.m o v x (h.m o v x e)⟩
inductive VR (g : Gh) : AV → Value → Prop where
  | unk (v : Value) : VR g .unk v
  | sc (v : Value) : VR g (.sc v) v
  | ref {o ver n off b s : Nat} : g.B o ver = some (b, s, n) → VR g (.ref o ver n off) (.pointer (some ⟨b, off, none⟩))
  | sl {o ver n off sz len b s c : Nat} {cap : Option Nat} : g.B o ver = some (b, s, n) → off + c * sz ≤ s → len ≤ c → (∀ k, cap = some k → c = k) →
      VR g (.sl o ver n off sz len cap) (.slice (some ⟨b, off, none⟩) len c)
  | esl (a : Addr) (c : Nat) : VR g .esl (.slice (some a) 0 c)
  | pref {cells : List AV} {b off : Nat} (f : Nat → Value) : (∀ (i : Nat) (x : AV), cells[i]? = some x → g.M b (off + i) = some (f i)) →
      (∀ (i : Nat) (x : AV), cells[i]? = some x → VR g x (f i)) → VR g (.pref cells) (.pointer (some ⟨b, off, none⟩))
  | psl {cells : List AV} {sz len b off c : Nat} {cap : Option Nat} (f : Nat → Value) : (∀ (i : Nat) (x : AV), cells[i]? = some x → g.M b (off + i) = some (f i)) →
      (∀ (i : Nat) (x : AV), cells[i]? = some x → VR g x (f i)) → cells.length = len * sz → len ≤ c → (∀ k, cap = some k → c = k) →
      VR g (.psl cells sz len cap) (.slice (some ⟨b, off, none⟩) len c)
  | islNil {sz : Nat} : VR g (.isl [] sz) (.slice none 0 0)
  | islE {sz : Nat} (a : Addr) : VR g (.isl [] sz) (.slice (some a) 0 0)
  | isl {rows : List (List AV)} {sz b off c : Nat} : (∀ r, r ∈ rows → r.length = sz) → heapFrees rows.flatten = true → VR g (.psl rows.flatten sz rows.length (some c)) (.slice (some ⟨b, off, none⟩) rows.length c) →
      VR g (.isl rows sz) (.slice (some ⟨b, off, none⟩) rows.length c)
  | map {o b s n : Nat} : g.B o 0 = some (b, s, n) → VR g (.map o) (.map (some b))
  | func {fn : Fn} {a c : List AV} {a' c' : Array Value} : a.length = a'.size → (∀ (i : Nat) (x : AV) (v : Value), a[i]? = some x → a'[i]? = some v → VR g x v) →
      c.length = c'.size → (∀ (i : Nat) (x : AV) (v : Value), c[i]? = some x → c'[i]? = some v → VR g x v) → VR g (.func fn a c) (.func fn a' c')
  | yld {o b s n : Nat} : g.B o 0 = some (b, s, n) → VR g (.yld o) (.func (.yield b) #[] #[])
  | iface {t : TypeId} {x : AV} {v : Value} : VR g x v → VR g (.iface t x) (.iface t v)
  | agg {a : List AV} {a' : Array Value} : a.length = a'.size → (∀ (i : Nat) (x : AV) (v : Value), a[i]? = some x → a'[i]? = some v → VR g x v) → VR g (.agg a) (.agg a')
  | tuple {a : List AV} {a' : Array Value} : a.length = a'.size → (∀ (i : Nat) (x : AV) (v : Value), a[i]? = some x → a'[i]? = some v → VR g x v) → VR g (.tuple a) (.tuple a')
theorem flat_len {sz : Nat} : ∀ {rows : List (List AV)}, (∀ r, r ∈ rows → r.length = sz) → rows.flatten.length = rows.length * sz
  | [], _ => by simp
  | r :: rows, h => by
    have h1 := h r (by simp)
    have h2 := flat_len (rows := rows) fun q hq => h q (by simp [hq])
    simp only [List.flatten_cons, List.length_append, List.length_cons, h1, h2, Nat.add_mul]; omega
theorem flat_drop {sz : Nat} : ∀ {rows : List (List AV)} (l : Nat), (∀ r, r ∈ rows → r.length = sz) → (rows.drop l).flatten = rows.flatten.drop (l * sz)
  | rows, 0, _ => by simp
  | [], l + 1, _ => by simp
  | r :: rows, l + 1, h => by
    have h1 := h r (by simp)
    have h2 := flat_drop (rows := rows) l fun q hq => h q (by simp [hq])
    have e : (l + 1) * sz = r.length + l * sz := by rw [h1, Nat.add_mul]; omega
    rw [List.drop_succ_cons, h2, List.flatten_cons, e, List.drop_append]
    simp
theorem flat_take {sz : Nat} : ∀ {rows : List (List AV)} (l : Nat), (∀ r, r ∈ rows → r.length = sz) → (rows.take l).flatten = rows.flatten.take (l * sz)
  | rows, 0, _ => by simp
  | [], l + 1, _ => by simp
  | r :: rows, l + 1, h => by
    have h1 := h r (by simp)
    have h2 := flat_take (rows := rows) l fun q hq => h q (by simp [hq])
    have e : (l + 1) * sz = r.length + l * sz := by rw [h1, Nat.add_mul]; omega
    rw [List.take_succ_cons, List.flatten_cons, h2, List.flatten_cons, e, List.take_append]
    simp [List.take_of_length_le]
theorem flat_sub {sz : Nat} {rows : List (List AV)} (l k : Nat) (h : ∀ r, r ∈ rows → r.length = sz) : ((rows.drop l).take k).flatten = (rows.flatten.drop (l * sz)).take (k * sz) := by
  rw [flat_take k fun r hr => h r (List.mem_of_mem_drop hr), flat_drop l h]
theorem flat_get {sz : Nat} {rows : List (List AV)} {i : Nat} {r : List AV} (h : ∀ r, r ∈ rows → r.length = sz) (hi : rows[i]? = some r) : (rows.flatten.drop (i * sz)).take sz = r := by
  have e := flat_sub i 1 h
  rw [Nat.one_mul] at e
  have hlt : i < rows.length := by
    rcases Nat.lt_or_ge i rows.length with a | a
    · exact a
    · rw [List.getElem?_eq_none a] at hi; cases hi
  have : (rows.drop i).take 1 = [r] := by
    rw [List.drop_eq_getElem_cons hlt]
    simp only [List.take_succ_cons, List.take_zero]
    rw [List.getElem?_eq_getElem hlt] at hi
    simpa using hi
  rw [← e, this]; simp
theorem flat_getElem? {sz : Nat} {rows : List (List AV)} {i j : Nat} {r : List AV} {x : AV} (h : ∀ r, r ∈ rows → r.length = sz) (hi : rows[i]? = some r) (hx : r[j]? = some x) : rows.flatten[i * sz + j]? = some x := by
  rw [← flat_get h hi] at hx
  rw [List.getElem?_take] at hx
  split at hx
  · rwa [List.getElem?_drop] at hx
  · cases hx
theorem heapFrees_append : ∀ {xs ys : List AV}, heapFrees xs = true → heapFrees ys = true → heapFrees (xs ++ ys) = true
  | [], _, _, h => h
  | x :: xs, ys, h, h' => by simp [heapFrees] at h ⊢; exact ⟨h.1, heapFrees_append h.2 h'⟩
theorem heapFrees_mem : ∀ {xs : List AV}, heapFrees xs = true ↔ ∀ x, x ∈ xs → heapFree x = true
  | [] => by simp [heapFrees]
  | y :: ys => by simp [heapFrees, heapFrees_mem (xs := ys)]
theorem heapFrees_sub {xs ys : List AV} (h : heapFrees xs = true) (hs : ∀ y, y ∈ ys → y ∈ xs) : heapFrees ys = true :=
  heapFrees_mem.2 fun y hy => heapFrees_mem.1 h y (hs y hy)
theorem VR.mono {g g' : Gh} (hl : g.Le g') {x : AV} {v : Value} (h : VR g x v) : VR g' x v := by
  induction h with
  | unk v => exact .unk v
  | sc v => exact .sc v
  | ref h => exact .ref (hl.b _ _ _ h)
  | sl h a b c => exact .sl (hl.b _ _ _ h) a b c
  | esl a c => exact .esl a c
  | pref f h _ ih => exact .pref f (fun i x e => hl.m _ _ _ (h i x e)) ih
  | psl f h _ a b c ih => exact .psl f (fun i x e => hl.m _ _ _ (h i x e)) ih a b c
  | islNil => exact .islNil
  | islE a => exact .islE a
  | isl h h' _ ih => exact .isl h h' ih
  | map h => exact .map (hl.b _ _ _ h)
  | func h1 _ h2 _ ih1 ih2 => exact .func h1 ih1 h2 ih2
  | yld h => exact .yld (hl.b _ _ _ h)
  | iface _ ih => exact .iface ih
  | agg h _ ih => exact .agg h ih
  | tuple h _ ih => exact .tuple h ih
def VRs (g : Gh) : List AV → List Value → Prop
  | [], [] => True
  | x :: xs, v :: vs => VR g x v ∧ VRs g xs vs
  | _, _ => False
theorem VRs.mono {g g' : Gh} (hl : g.Le g') : ∀ {xs : List AV} {vs : List Value}, VRs g xs vs → VRs g' xs vs
  | [], [], _ => trivial
  | _ :: _, _ :: _, h => ⟨h.1.mono hl, VRs.mono hl h.2⟩
  | [], _ :: _, h => h.elim
  | _ :: _, [], h => h.elim
theorem VRs.length {g : Gh} : ∀ {xs : List AV} {vs : List Value}, VRs g xs vs → xs.length = vs.length
  | [], [], _ => rfl
  | _ :: _, _ :: _, h => by simp [VRs.length h.2]
  | [], _ :: _, h => h.elim
  | _ :: _, [], h => h.elim
theorem VRs.get {g : Gh} : ∀ {xs : List AV} {vs : List Value}, VRs g xs vs → ∀ (i : Nat) (x : AV) (v : Value), xs[i]? = some x → vs[i]? = some v → VR g x v
  | [], [], _, i, x, v, h, _ => by simp at h
  | x :: xs, v :: vs, h, 0, x', v', h1, h2 => by simp at h1 h2; subst h1; subst h2; exact h.1
  | x :: xs, v :: vs, h, i + 1, x', v', h1, h2 => by simp at h1 h2; exact VRs.get h.2 i x' v' h1 h2
  | [], _ :: _, h, _, _, _, _, _ => h.elim
  | _ :: _, [], h, _, _, _, _, _ => h.elim
theorem VRs.of {g : Gh} : ∀ {xs : List AV} {vs : List Value}, xs.length = vs.length → (∀ (i : Nat) (x : AV) (v : Value), xs[i]? = some x → vs[i]? = some v → VR g x v) → VRs g xs vs
  | [], [], _, _ => trivial
  | x :: xs, v :: vs, hl, h => ⟨h 0 x v (by simp) (by simp), VRs.of (by simpa using hl) (fun i x v h1 h2 => h (i + 1) x v (by simpa using h1) (by simpa using h2))⟩
  | [], _ :: _, hl, _ => by simp at hl
  | _ :: _, [], hl, _ => by simp at hl
theorem VRs.append {g : Gh} : ∀ {xs ys : List AV} {vs us : List Value}, VRs g xs vs → VRs g ys us → VRs g (xs ++ ys) (vs ++ us)
  | [], _, [], _, _, h => h
  | _ :: _, _, _ :: _, _, h, h' => ⟨h.1, VRs.append h.2 h'⟩
  | [], _, _ :: _, _, h, _ => h.elim
  | _ :: _, _, [], _, h, _ => h.elim
theorem VRs.take {g : Gh} : ∀ {xs : List AV} {vs : List Value} (n : Nat), VRs g xs vs → VRs g (xs.take n) (vs.take n)
  | _, _, 0, _ => by simp [VRs]
  | [], [], n + 1, _ => by simp [VRs]
  | _ :: _, _ :: _, n + 1, h => by simpa using ⟨h.1, VRs.take n h.2⟩
  | [], _ :: _, _ + 1, h => h.elim
  | _ :: _, [], _ + 1, h => h.elim
theorem VRs.drop {g : Gh} : ∀ {xs : List AV} {vs : List Value} (n : Nat), VRs g xs vs → VRs g (xs.drop n) (vs.drop n)
  | xs, vs, 0, h => by simpa using h
  | [], [], n + 1, _ => by simp [VRs]
  | _ :: _, _ :: _, n + 1, h => by simpa using VRs.drop n h.2
  | [], _ :: _, _ + 1, h => h.elim
  | _ :: _, [], _ + 1, h => h.elim
theorem VRs.scs {g : Gh} : ∀ (vs : List Value), VRs g (vs.map .sc) vs
  | [] => trivial
  | v :: vs => ⟨.sc v, VRs.scs vs⟩
theorem VRs.map {g : Gh} {α : Type} (f : α → AV) (f' : α → Value) (h : ∀ a, VR g (f a) (f' a)) : ∀ (l : List α), VRs g (l.map f) (l.map f')
  | [] => trivial
  | a :: l => ⟨h a, VRs.map f f' h l⟩
theorem VR.agg_iff {g : Gh} {a : List AV} {v : Value} : VR g (.agg a) v ↔ ∃ cs : Array Value, v = .agg cs ∧ VRs g a cs.toList := by
  constructor
  · intro h
    cases h with
    | agg hl h => exact ⟨_, rfl, VRs.of (by simpa using hl) (fun i x v h1 h2 => h i x v h1 (by simpa using h2))⟩
  · rintro ⟨cs, rfl, h⟩
    exact .agg (by simpa using h.length) (fun i x v h1 h2 => h.get i x v h1 (by simpa using h2))
theorem VR.tuple_iff {g : Gh} {a : List AV} {v : Value} : VR g (.tuple a) v ↔ ∃ cs : Array Value, v = .tuple cs ∧ VRs g a cs.toList := by
  constructor
  · intro h
    cases h with
    | tuple hl h => exact ⟨_, rfl, VRs.of (by simpa using hl) (fun i x v h1 h2 => h i x v h1 (by simpa using h2))⟩
  · rintro ⟨cs, rfl, h⟩
    exact .tuple (by simpa using h.length) (fun i x v h1 h2 => h.get i x v h1 (by simpa using h2))
theorem VR.func_iff {g : Gh} {fn : Fn} {a c : List AV} {v : Value} : VR g (.func fn a c) v ↔ ∃ a' c' : Array Value, v = .func fn a' c' ∧ VRs g a a'.toList ∧ VRs g c c'.toList := by
  constructor
  · intro h
    cases h with
    | func h1 h2 h3 h4 =>
      exact ⟨_, _, rfl, VRs.of (by simpa using h1) (fun i x v e1 e2 => h2 i x v e1 (by simpa using e2)), VRs.of (by simpa using h3) (fun i x v e1 e2 => h4 i x v e1 (by simpa using e2))⟩
  · rintro ⟨a', c', rfl, h, h'⟩
    exact .func (by simpa using h.length) (fun i x v e1 e2 => h.get i x v e1 (by simpa using e2)) (by simpa using h'.length) (fun i x v e1 e2 => h'.get i x v e1 (by simpa using e2))
theorem VR.ofVal {g : Gh} (v : Value) : VR g (ofVal v) v := by
  cases v with
  | agg cs => exact VR.agg_iff.2 ⟨cs, rfl, VRs.scs _⟩
  | tuple cs => exact VR.tuple_iff.2 ⟨cs, rfl, VRs.scs _⟩
  | _ => exact .sc _
theorem toVal1_eq {g : Gh} {x : AV} {u v : Value} (h : toVal1 x = some u) (hr : VR g x v) : v = u := by
  unfold toVal1 at h
  split at h
  · cases hr; simpa using h
  · cases hr with
    | iface hr => cases hr; simpa using h
  · cases h
theorem toVals_eq {g : Gh} : ∀ {xs : List AV} {us vs : List Value}, toVals xs = some us → VRs g xs vs → vs = us
  | [], us, [], h, _ => by simpa [toVals] using h
  | x :: xs, us, v :: vs, h, hr => by
    simp only [toVals] at h
    split at h
    · rename_i a as h1 h2
      simp only [Option.some.injEq] at h
      rw [← h, toVal1_eq h1 hr.1, toVals_eq h2 hr.2]
    · cases h
  | [], _, _ :: _, _, hr => hr.elim
  | _ :: _, _, [], _, hr => hr.elim
theorem toVal_eq {g : Gh} {x : AV} {u v : Value} (h : toVal x = some u) (hr : VR g x v) : v = u := by
  unfold toVal at h
  split at h
  · obtain ⟨cs, rfl, hc⟩ := VR.agg_iff.1 hr
    cases ht : toVals _ with
    | none => rw [ht] at h; cases h
    | some l =>
      rw [ht] at h
      have := toVals_eq ht hc
      simp at h
      rw [← h, ← this]
  · obtain ⟨cs, rfl, hc⟩ := VR.tuple_iff.1 hr
    cases ht : toVals _ with
    | none => rw [ht] at h; cases h
    | some l =>
      rw [ht] at h
      have := toVals_eq ht hc
      simp at h
      rw [← h, ← this]
  · exact toVal1_eq h hr
theorem extArgs_eq {g : Gh} : ∀ {xs : List AV} {us vs : List Value}, extArgs xs = some us → VRs g xs vs → vs = us
  | [], us, [], h, _ => by simpa [extArgs] using h
  | x :: xs, us, v :: vs, h, hr => by
    simp only [extArgs] at h
    split at h
    · rename_i a as h1 h2
      simp only [Option.some.injEq] at h
      rw [← h, toVal_eq h1 hr.1, extArgs_eq h2 hr.2]
    · cases h
  | [], _, _ :: _, _, hr => hr.elim
  | _ :: _, _, [], _, hr => hr.elim
theorem peel_run {α : Type} {P : Program} : ∀ {s : Sem α} {a : α}, peel P s = some a → ∀ w, s.run P w = .ok a w
  | .pure a, b, h, w => by simp [peel] at h; simp [Sem.run, h]
  | .program k, b, h, w => by simp only [peel] at h; simp only [Sem.run]; exact peel_run h w
  | .mark m k, b, h, w => by simp only [peel] at h; simp only [Sem.run]; exact peel_run h w
  | .load _ _ _, b, h, w => by simp [peel] at h
  | .store _ _ _ _, b, h, w => by simp [peel] at h
  | .new _ _, b, h, w => by simp [peel] at h
  | .shape _ _, b, h, w => by simp [peel] at h
  | .freeze _ _ _, b, h, w => by simp [peel] at h
  | .frozen _ _, b, h, w => by simp [peel] at h
  | .getObj _ _, b, h, w => by simp [peel] at h
  | .setObj _ _ _, b, h, w => by simp [peel] at h
  | .choose _ _, b, h, w => by simp [peel] at h
  | .sys _ _, b, h, w => by simp [peel] at h
  | .halt _, b, h, w => by simp [peel] at h
end Go.AI
end

/-
  The package variables that the program lays: nobody writes them. Here: the powers of ten.
-/
section
namespace Go.AI
def gloH (b : Nat) : Option (Array Value) := match b with
  | 5 => some (Lib.pow10Tab.map fun z => Value.int .u64 z).toArray
  | _ => none
def HasCells (w : World) (b : Nat) (cs : Array Value) : Prop := ∃ x y, w.heap[b]? = some (.cells cs x y)
def GloOK (w : World) : Prop := ∀ b cs, gloH b = some cs → HasCells w b cs ∧ 0 < cs.size
end Go.AI
end

/-
  An abstract heap and a world; steps of both.
-/
section
namespace Go.AI
def TR (g : Gh) (tm : Tr AV) (tmps : Array Value) : Prop := ∀ t x, tm.get t = some x → ∃ v, tmps[t]? = some v ∧ VR g x v
theorem TR.mono {g g' : Gh} (hl : g.Le g') {tm : Tr AV} {tmps : Array Value} (h : TR g tm tmps) : TR g' tm tmps :=
  fun t x e => let ⟨v, a, b⟩ := h t x e; ⟨v, a, b.mono hl⟩
def EntR (g : Gh) : List (AV × AV × Nat) → List MapEntry → Prop
  | [], [] => True
  | (k, v, b) :: es, e :: ces => VR g k e.key ∧ VR g v e.val ∧ e.born = b ∧ EntR g es ces
  | _, _ => False
theorem EntR.mono {g g' : Gh} (hl : g.Le g') : ∀ {es : List (AV × AV × Nat)} {ces : List MapEntry}, EntR g es ces → EntR g' es ces
  | [], [], _ => trivial
  | (_, _, _) :: _, _ :: _, h => ⟨h.1.mono hl, h.2.1.mono hl, h.2.2.1, EntR.mono hl h.2.2.2⟩
  | [], _ :: _, h => h.elim
  | (_, _, _) :: _, [], h => h.elim
structure CellsOK (g : Gh) (w : World) (b s n : Nat) (content : List AV) (fz : Nat) (el : TypeId) (ex sh : Bool) (c : Array Value) (f : Nat × Nat) : Prop where
  here : w.heap[b]? = some (.cells c el f)
  size : c.size = s
  le : n ≤ content.length
  les : n ≤ s
  exact : ex = true → s = content.length
  free : ∀ i, i < s → f.1 ≤ i → i < f.2 → i < fz
  plain : sh = false → f.1 = f.2 ∨ f.2 ≤ fz
  cell : ∀ i x, i < n → content[i]? = some x → ∃ v, c[i]? = some v ∧ VR g x v
def OR (g : Gh) (w : World) (o : Nat) : AObj → Prop
  | .cells ver minv c fz el ex sh => (∀ v, ver < v → g.B o v = none) ∧ ∀ v, minv ≤ v → v ≤ ver → ∀ b s n, g.B o v = some (b, s, n) → (v = ver → n = c.length) ∧ ∃ cs f, CellsOK g w b s n c fz el ex sh cs f
  | .map es clock => ∀ b s n, g.B o 0 = some (b, s, n) → ∃ ces : Array MapEntry, w.heap[b]? = some (.map ces clock) ∧ EntR g es ces.toList
  | .sit s pos => ∀ b k n, g.B o 0 = some (b, k, n) → w.heap[b]? = some (.stringIter s pos)
  | .mit m since seen last => ∀ b k n, g.B o 0 = some (b, k, n) → ∃ mb, w.heap[b]? = some (.mapIter mb since seen.toArray last) ∧
      (match m with | none => mb = none | some o' => ∃ b' s' n', g.B o' 0 = some (b', s', n') ∧ mb = some b')
  | .loop st pend fn tn tm ps assign body dd => ∀ b s n, g.B o 0 = some (b, s, n) → ∃ tmps db s' n',
      w.heap[b]? = some (.loop { state := st, pending := pend, fn, tmps, params := ps.toArray, assign, body, defers := db }) ∧ tmps.size = tn ∧ TR g tm tmps ∧ g.B dd 0 = some (db, s', n')
  | .dfr ds => ∀ b s n, g.B o 0 = some (b, s, n) → match ds with
      | some [] => w.heap[b]? = some (.deferred (some []))
      | none => w.heap[b]? = some (.deferred none)
      | _ => False
theorem OR.move {g g' : Gh} {w w' : World} {o : Nat} {x : AObj} (hl : g.Le g') (hb : ∀ v y, g'.B o v = some y → g.B o v = some y)
    (hw : ∀ v b s n, g.B o v = some (b, s, n) → w'.heap[b]? = w.heap[b]?) (h : OR g w o x) : OR g' w' o x := by
  cases x with
  | cells ver minv c fz el ex sh =>
    refine ⟨fun v hv => ?_, ?_⟩
    · cases e : g'.B o v with
      | none => rfl
      | some y => have := hb _ _ e; rw [h.1 v hv] at this; cases this
    intro v h1 h2 b s n e
    have e' := hb _ _ e
    obtain ⟨hn, cs, f, hc⟩ := h.2 v h1 h2 b s n e'
    exact ⟨hn, cs, f, ⟨(hw _ _ _ _ e').trans hc.here, hc.size, hc.le, hc.les, hc.exact, hc.free, hc.plain, fun i x hi hx => let ⟨v, a, b⟩ := hc.cell i x hi hx; ⟨v, a, b.mono hl⟩⟩⟩
  | map es clock =>
    intro b s n e
    have e' := hb _ _ e
    obtain ⟨ces, h1, h2⟩ := h b s n e'
    exact ⟨ces, (hw _ _ _ _ e').trans h1, h2.mono hl⟩
  | sit s pos =>
    intro b k n e
    have e' := hb _ _ e
    exact (hw _ _ _ _ e').trans (h b k n e')
  | mit m since seen last =>
    intro b k n e
    have e' := hb _ _ e
    obtain ⟨mb, h1, h2⟩ := h b k n e'
    refine ⟨mb, (hw _ _ _ _ e').trans h1, ?_⟩
    cases m with
    | none => exact h2
    | some o' => obtain ⟨b', s', n', h3, h4⟩ := h2; exact ⟨b', s', n', hl.b _ _ _ h3, h4⟩
  | loop st pend fn tn tm ps assign body dd =>
    intro b s n e
    have e' := hb _ _ e
    obtain ⟨tmps, db, s', n', h1, h2, h3, h4⟩ := h b s n e'
    exact ⟨tmps, db, s', n', (hw _ _ _ _ e').trans h1, h2, h3.mono hl, hl.b _ _ _ h4⟩
  | dfr ds =>
    intro b s n e
    have e' := hb _ _ e
    have := h b s n e'
    cases ds with
    | none => exact (hw _ _ _ _ e').trans this
    | some l => cases l with
      | nil => exact (hw _ _ _ _ e').trans this
      | cons _ _ => exact this.elim
structure W (h : AHeap) (g : Gh) (w : World) : Prop where
  obj : ∀ o x, h.get o = some x → OR g w o x
  bnd : ∀ o v b s n, g.B o v = some (b, s, n) → b < w.heap.size
  inj : ∀ o v o' v' b s n s' n', g.B o v = some (b, s, n) → g.B o' v' = some (b, s', n') → o = o'
  ro : ∀ b i v, g.M b i = some v → w.cell? ⟨b, i, none⟩ = some v ∧ b < w.heap.size
  dis : ∀ b i u, g.M b i = some u → ∀ o v s n, g.B o v ≠ some (b, s, n)
  gl : ∀ b cs, gloH b = some cs → HasCells w b cs ∧ ∃ u, g.M b 0 = some u
theorem W.glMove {h : AHeap} {g g' : Gh} {w w' : World} (hw : W h g w) (hold : ∀ b u, g.M b 0 = some u → w'.heap[b]? = w.heap[b]?) (hm : ∀ b i v, g.M b i = some v → g'.M b i = some v) :
    ∀ b cs, gloH b = some cs → HasCells w' b cs ∧ ∃ u, g'.M b 0 = some u := fun b cs e =>
  let ⟨⟨x, y, h1⟩, u, hu⟩ := hw.gl b cs e
  ⟨⟨x, y, (hold b u hu).trans h1⟩, u, hm b 0 u hu⟩
def Fresh (h : AHeap) (g : Gh) : Prop := ∀ o, h.next ≤ o → ∀ v, g.B o v = none
structure Step (h : AHeap) (g : Gh) (w : World) (h' : AHeap) (g' : Gh) (w' : World) : Prop where
  le : g.Le g'
  nxt : h.next ≤ h'.next
  flo : h'.floor = h.floor
  wr : ∀ o, o ∈ h.wr → o ∈ h'.wr
  keep : ∀ o, o < h.floor → o < h.next → o ∉ h'.wr → h'.get o = h.get o
  ph : ∀ o, o < h.next → (∀ v, g.B o v = none) → h'.get o = h.get o
  gone : ∀ o, o < h.next → h.get o = none → h'.get o = none
  newB : ∀ o v x, g'.B o v = some x → g.B o v = some x ∨ (h.next ≤ o ∧ o < h'.next) ∨ (h.get o ≠ none ∧ ∃ v', g.B o v' ≠ none)
  size : w.heap.size ≤ w'.heap.size
  old : ∀ o v b s n, g'.B o v = some (b, s, n) → b < w.heap.size → ∃ v' s' n', g.B o v' = some (b, s', n')
  fr : ∀ b, b < w.heap.size → (∀ o v s n, g.B o v = some (b, s, n) → (o < h.floor ∧ o ∉ h'.wr) ∨ h.get o = none) → w'.heap[b]? = w.heap[b]?
  tape : w'.tape = w.tape
  os : w'.os = w.os
  out : w'.output = w.output
  newM : ∀ b i v, g'.M b i = some v → g.M b i = some v ∨ w.heap.size ≤ b := by exact fun _ _ _ h => Or.inl h
theorem Step.refl (h : AHeap) (g : Gh) (w : World) : Step h g w h g w where
  le := .refl g
  nxt := Nat.le_refl _
  flo := rfl
  wr := fun _ h => h
  keep := fun _ _ _ _ => rfl
  ph := fun _ _ _ => rfl
  gone := fun _ _ h => h
  newB := fun _ _ _ h => .inl h
  size := Nat.le_refl _
  old := fun _ v b s n h _ => ⟨v, s, n, h⟩
  fr := fun _ _ _ => rfl
  tape := rfl
  os := rfl
  out := rfl
theorem Step.trans {h h' h'' : AHeap} {g g' g'' : Gh} {w w' w'' : World} (hf : Fresh h g) (a : Step h g w h' g' w') (b : Step h' g' w' h'' g'' w'') : Step h g w h'' g'' w'' where
  le := a.le.trans b.le
  nxt := Nat.le_trans a.nxt b.nxt
  flo := b.flo.trans a.flo
  wr := fun o ho => b.wr o (a.wr o ho)
  keep := fun o h1 h2 h3 => by
    rw [b.keep o (a.flo ▸ h1) (Nat.lt_of_lt_of_le h2 a.nxt) h3]
    exact a.keep o h1 h2 fun h4 => h3 (b.wr o h4)
  ph := fun o h1 h2 => by
    have : ∀ v, g'.B o v = none := by
      intro v
      cases hv : g'.B o v with
      | none => rfl
      | some x =>
        rcases a.newB o v x hv with h3 | ⟨h3, _⟩ | ⟨_, v', h3⟩
        · rw [h2] at h3; cases h3
        · omega
        · exact absurd (h2 v') h3
    rw [b.ph o (Nat.lt_of_lt_of_le h1 a.nxt) this]
    exact a.ph o h1 h2
  gone := fun o h1 h2 => b.gone o (Nat.lt_of_lt_of_le h1 a.nxt) (a.gone o h1 h2)
  newB := fun o v x hx => by
    rcases b.newB o v x hx with h1 | ⟨h1, h2⟩ | ⟨h1, v', h2⟩
    · rcases a.newB o v x h1 with h3 | ⟨h3, h4⟩ | h3
      · exact .inl h3
      · exact .inr (.inl ⟨h3, Nat.lt_of_lt_of_le h4 b.nxt⟩)
      · exact .inr (.inr h3)
    · exact .inr (.inl ⟨Nat.le_trans a.nxt h1, h2⟩)
    · cases hv : g'.B o v' with
      | none => exact absurd hv h2
      | some y =>
        rcases a.newB o v' y hv with h3 | ⟨h3, h4⟩ | h3
        · by_cases hlt : o < h.next
          · refine .inr (.inr ⟨fun h5 => h1 (a.gone o hlt h5), v', by rw [h3]; simp⟩)
          · have := hf o (Nat.le_of_not_lt hlt) v'
            rw [this] at h3; cases h3
        · exact .inr (.inl ⟨h3, Nat.lt_of_lt_of_le h4 b.nxt⟩)
        · exact .inr (.inr h3)
  size := Nat.le_trans a.size b.size
  old := fun o v bb s n h1 h2 => by
    obtain ⟨v', s', n', h3⟩ := b.old o v bb s n h1 (Nat.lt_of_lt_of_le h2 a.size)
    exact a.old o v' bb s' n' h3 h2
  fr := fun bb h1 h2 => by
    rw [b.fr bb (Nat.lt_of_lt_of_le h1 a.size) ?_]
    · refine a.fr bb h1 fun o v s n h3 => ?_
      rcases h2 o v s n h3 with ⟨h4, h5⟩ | h4
      · exact .inl ⟨h4, fun h6 => h5 (b.wr o h6)⟩
      · exact .inr h4
    · intro o v s n h3
      obtain ⟨v', s', n', h4⟩ := a.old o v bb s n h3 h1
      rcases h2 o v' s' n' h4 with ⟨h5, h6⟩ | h5
      · exact .inl ⟨a.flo ▸ h5, h6⟩
      · by_cases hlt : o < h.next
        · exact .inr (a.gone o hlt h5)
        · have := hf o (Nat.le_of_not_lt hlt) v'
          rw [this] at h4; cases h4
  tape := b.tape.trans a.tape
  os := b.os.trans a.os
  out := b.out.trans a.out
  newM := fun bb i v hm => by
    rcases b.newM bb i v hm with h1 | h1
    · exact a.newM bb i v h1
    · exact .inr (Nat.le_trans a.size h1)
theorem Fresh.step {h h' : AHeap} {g g' : Gh} {w w' : World} (hf : Fresh h g) (a : Step h g w h' g' w') : Fresh h' g' := by
  intro o ho v
  cases hv : g'.B o v with
  | none => rfl
  | some x =>
    rcases a.newB o v x hv with h1 | ⟨_, h1⟩ | ⟨_, v', h1⟩
    · rw [hf o (Nat.le_trans a.nxt ho) v] at h1; cases h1
    · omega
    · exact absurd (hf o (Nat.le_trans a.nxt ho) v') h1
theorem W.same {h : AHeap} {g : Gh} {w w' : World} (hw : W h g w) (hs : w.heap.size ≤ w'.heap.size) (hb : ∀ b, b < w.heap.size → w'.heap[b]? = w.heap[b]?) : W h g w' where
  obj := fun o x hx => (hw.obj o x hx).move (.refl g) (fun _ _ e => e) (fun v b s n e => hb b (hw.bnd o v b s n e))
  bnd := fun o v b s n e => Nat.lt_of_lt_of_le (hw.bnd o v b s n e) hs
  inj := hw.inj
  ro := fun b i v e => by
    obtain ⟨h1, h2⟩ := hw.ro b i v e
    refine ⟨?_, Nat.lt_of_lt_of_le h2 hs⟩
    rw [← h1]; unfold World.cell?; simp only [hb b h2]
  dis := hw.dis
  gl := hw.glMove (fun b u e => hb b (hw.ro b 0 u e).2) (fun _ _ _ e => e)
def drewW (w : World) (n : Nat) : World := { w with drawn := n }
theorem W.drew {h : AHeap} {g : Gh} {w : World} (hw : W h g w) (n : Nat) : W h g { w with drawn := n } :=
  hw.same (Nat.le_refl _) fun _ _ => rfl
theorem Step.drew (h : AHeap) (g : Gh) (w : World) (n : Nat) : Step h g w h g { w with drawn := n } :=
  { Step.refl h g w with size := Nat.le_refl _, fr := fun _ _ _ => rfl, tape := rfl, os := rfl, out := rfl, newM := fun _ _ _ h => Or.inl h }
end Go.AI
end

/-
  Allocating, writing and growing objects.
-/
section
namespace Go.AI
def Gh.setB (g : Gh) (o v : Nat) (x : Nat × Nat × Nat) : Gh := { B := fun o' v' => if o' = o ∧ v' = v then some x else g.B o' v', M := g.M }
theorem Gh.setB_le {g : Gh} {o v : Nat} {x : Nat × Nat × Nat} (h : g.B o v = none) : g.Le (g.setB o v x) where
  b := fun o' v' y e => by
    unfold Gh.setB; dsimp only
    split
    · rename_i hc; rw [hc.1, hc.2, h] at e; cases e
    · exact e
  m := fun _ _ _ e => e
theorem Gh.setB_same (g : Gh) (o v : Nat) (x : Nat × Nat × Nat) : (g.setB o v x).B o v = some x := by simp [Gh.setB]
theorem Gh.setB_cases {g : Gh} {o v o' v' : Nat} {x y : Nat × Nat × Nat} (h : (g.setB o v x).B o' v' = some y) : (o' = o ∧ v' = v ∧ y = x) ∨ g.B o' v' = some y := by
  unfold Gh.setB at h; dsimp only at h
  split at h
  · rename_i hc; exact .inl ⟨hc.1, hc.2, by simpa using h.symm⟩
  · exact .inr h
abbrev pushW (w : World) (ob : Obj) : World := w.alloc ob
def setW (w : World) (b : Nat) (ob : Obj) : World := { w with heap := w.heap.setIfInBounds b ob }
theorem pushW_old {w : World} {ob : Obj} {b : Nat} (h : b < w.heap.size) : (pushW w ob).heap[b]? = w.heap[b]? := by
  show (w.heap.push ob)[b]? = _
  rw [Array.getElem?_push, if_neg (Nat.ne_of_lt h)]
theorem pushW_new (w : World) (ob : Obj) : (pushW w ob).heap[w.heap.size]? = some ob := by
  show (w.heap.push ob)[w.heap.size]? = _
  rw [Array.getElem?_push, if_pos rfl]
theorem pushW_size (w : World) (ob : Obj) : (pushW w ob).heap.size = w.heap.size + 1 := by simp [pushW]
theorem setW_other {w : World} {ob : Obj} {b b' : Nat} (h : b' ≠ b) : (setW w b ob).heap[b']? = w.heap[b']? := by
  simp [setW, Array.getElem?_setIfInBounds_ne (Ne.symm h)]
theorem setW_same {w : World} {ob : Obj} {b : Nat} (h : b < w.heap.size) : (setW w b ob).heap[b]? = some ob := by
  simp [setW, h]
theorem setW_size (w : World) (b : Nat) (ob : Obj) : (setW w b ob).heap.size = w.heap.size := by simp [setW]
theorem AHeap.get_alloc (h : AHeap) (x : AObj) (o : Nat) : (h.alloc x).get o = if o = h.next then some x else h.get o := Tr.get_put _ _ _ _
theorem AHeap.get_upd (h : AHeap) (p : Nat) (x : AObj) (o : Nat) : (h.upd p x).get o = if o = p then some x else h.get o := Tr.get_put _ _ _ _
theorem mem_addWr {l : List Nat} {floor o p : Nat} (h : o ∈ l) : o ∈ addWr l floor p := by
  unfold addWr; split
  · split
    · exact h
    · exact List.mem_cons_of_mem _ h
  · exact h
theorem mem_addWr_self {l : List Nat} {floor o : Nat} (h : o < floor) : o ∈ addWr l floor o := by
  unfold addWr; rw [if_pos h]; split
  · rename_i hc; simpa using hc
  · exact List.mem_cons_self ..
theorem alloc_ok {h : AHeap} {g : Gh} {w w' : World} {x : AObj} {ob : Obj} {s n : Nat} (hw : W h g w) (hf : ∀ v, g.B h.next v = none)
    (hw' : w' = pushW w ob)
    (ho : OR (g.setB h.next 0 (w.heap.size, s, n)) w' h.next x) :
    W (h.alloc x) (g.setB h.next 0 (w.heap.size, s, n)) w' ∧ Step h g w (h.alloc x) (g.setB h.next 0 (w.heap.size, s, n)) w' := by
  have hle : g.Le (g.setB h.next 0 (w.heap.size, s, n)) := Gh.setB_le (hf 0)
  have hold : ∀ b, b < w.heap.size → w'.heap[b]? = w.heap[b]? := fun b hb => by rw [hw']; exact pushW_old hb
  have hsz : w'.heap.size = w.heap.size + 1 := by rw [hw']; exact pushW_size _ _
  refine ⟨⟨?_, ?_, ?_, ?_, ?_, hw.glMove (fun b' u e => hold b' (hw.ro b' 0 u e).2) (fun _ _ _ e => e)⟩, ⟨hle, ?_, rfl, fun _ h => h, ?_, ?_, ?_, ?_, by omega, ?_, fun b hb _ => hold b hb, by rw [hw']; rfl, by rw [hw']; rfl, by rw [hw']; rfl, fun _ _ _ h => Or.inl h⟩⟩
  · intro o y hy
    rw [AHeap.get_alloc] at hy
    split at hy
    · rename_i e; subst e; simp at hy; subst hy; exact ho
    · rename_i e
      refine (hw.obj o y hy).move hle ?_ ?_
      · intro v z hz
        rcases Gh.setB_cases hz with ⟨e', _⟩ | hz
        · exact absurd e' e
        · exact hz
      · intro v b s n hb; exact hold b (hw.bnd o v b s n hb)
  · intro o v b s' n' hb
    rcases Gh.setB_cases hb with ⟨_, _, e⟩ | hb
    · simp at e; omega
    · have := hw.bnd o v b s' n' hb; omega
  · intro o v o' v' b s1 n1 s2 n2 h1 h2
    rcases Gh.setB_cases h1 with ⟨e1, _, e1'⟩ | h1 <;> rcases Gh.setB_cases h2 with ⟨e2, _, e2'⟩ | h2
    · rw [e1, e2]
    · simp at e1'; have := hw.bnd o' v' b s2 n2 h2; omega
    · simp at e2'; have := hw.bnd o v b s1 n1 h1; omega
    · exact hw.inj o v o' v' b s1 n1 s2 n2 h1 h2
  · intro b i v hm
    obtain ⟨h1, h2⟩ := hw.ro b i v hm
    refine ⟨?_, by omega⟩
    rw [← h1]; unfold World.cell?; simp only [hold b h2]
  · intro b i u hm o v s' n' hb
    rcases Gh.setB_cases hb with ⟨_, _, e⟩ | hb
    · have := (hw.ro b i u hm).2; simp at e; omega
    · exact hw.dis b i u hm o v s' n' hb
  · simp [AHeap.alloc]
  · intro o _ h2 _; rw [AHeap.get_alloc, if_neg (by omega)]
  · intro o h1 _; rw [AHeap.get_alloc, if_neg (by omega)]
  · intro o h1 h2; rw [AHeap.get_alloc, if_neg (by omega)]; exact h2
  · intro o v y hy
    rcases Gh.setB_cases hy with ⟨e, _, _⟩ | hy
    · exact .inr (.inl ⟨by omega, by simp [AHeap.alloc]; omega⟩)
    · exact .inl hy
  · intro o v b s' n' hb hlt
    rcases Gh.setB_cases hb with ⟨_, _, e⟩ | hb
    · simp at e; omega
    · exact ⟨v, s', n', hb⟩
theorem upd_ok {h : AHeap} {g : Gh} {w w' : World} {o v b s n : Nat} {x x' : AObj} {ob : Obj} (hw : W h g w) (hx : h.get o = some x)
    (hb : g.B o v = some (b, s, n)) (hw' : w' = setW w b ob) (ho : OR g w' o x') : W (h.upd o x') g w' ∧ Step h g w (h.upd o x') g w' := by
  have hold : ∀ b', b' ≠ b → w'.heap[b']? = w.heap[b']? := fun b' hb' => by rw [hw']; exact setW_other hb'
  have hsz : w'.heap.size = w.heap.size := by rw [hw']; exact setW_size _ _ _
  refine ⟨⟨?_, ?_, hw.inj, ?_, hw.dis, hw.glMove (fun b' u e => hold b' (fun e' => hw.dis b' 0 u e o v s n (e' ▸ hb))) (fun _ _ _ e => e)⟩, ⟨.refl g, Nat.le_refl _, rfl, fun _ h => mem_addWr h, ?_, ?_, ?_, fun _ _ _ h => .inl h, by omega, fun o v b s n h _ => ⟨v, s, n, h⟩, ?_, by rw [hw']; rfl, by rw [hw']; rfl, by rw [hw']; rfl, fun _ _ _ h => Or.inl h⟩⟩
  · intro o' y hy
    rw [AHeap.get_upd] at hy
    split at hy
    · rename_i e; subst e; simp at hy; subst hy; exact ho
    · rename_i e
      refine (hw.obj o' y hy).move (.refl g) (fun _ _ h => h) ?_
      intro v' b' s' n' hb'
      exact hold b' fun e' => e (by subst e'; exact hw.inj o' v' o v b' s' n' s n hb' hb)
  · intro o' v' b' s' n' hb'; rw [hsz]; exact hw.bnd o' v' b' s' n' hb'
  · intro b' i u hm
    obtain ⟨h1, h2⟩ := hw.ro b' i u hm
    refine ⟨?_, by omega⟩
    rw [← h1]; unfold World.cell?
    simp only [hold b' (fun e => hw.dis b' i u hm o v s n (e ▸ hb))]
  · intro o' h1 _ h2
    rw [AHeap.get_upd, if_neg]
    intro e; subst e
    exact h2 (mem_addWr_self h1)
  · intro o' _ h1
    rw [AHeap.get_upd, if_neg]
    intro e; subst e; rw [h1 v] at hb; cases hb
  · intro o' _ h1
    rw [AHeap.get_upd, if_neg]
    · exact h1
    · intro e; subst e; rw [hx] at h1; cases h1
  · intro b' _ h1
    by_cases e : b' = b
    · subst e
      rcases h1 o v s n hb with ⟨h2, h3⟩ | h2
      · exact absurd (mem_addWr_self h2) h3
      · rw [hx] at h2; cases h2
    · exact hold b' e
theorem newver_ok {h : AHeap} {g : Gh} {w w' : World} {o v0 nv b0 s0 n0 s n : Nat} {x x' : AObj} {ob : Obj} (hw : W h g w) (hx : h.get o = some x)
    (hb : g.B o v0 = some (b0, s0, n0)) (hn : g.B o nv = none) (hw' : w' = pushW w ob)
    (ho : OR (g.setB o nv (w.heap.size, s, n)) w' o x') :
    W (h.upd o x') (g.setB o nv (w.heap.size, s, n)) w' ∧ Step h g w (h.upd o x') (g.setB o nv (w.heap.size, s, n)) w' := by
  have hle : g.Le (g.setB o nv (w.heap.size, s, n)) := Gh.setB_le hn
  have hold : ∀ b, b < w.heap.size → w'.heap[b]? = w.heap[b]? := fun b hb => by rw [hw']; exact pushW_old hb
  have hsz : w'.heap.size = w.heap.size + 1 := by rw [hw']; exact pushW_size _ _
  refine ⟨⟨?_, ?_, ?_, ?_, ?_, hw.glMove (fun b' u e => hold b' (hw.ro b' 0 u e).2) (fun _ _ _ e => e)⟩, ⟨hle, Nat.le_refl _, rfl, fun _ h => mem_addWr h, ?_, ?_, ?_, ?_, by omega, ?_, fun b hb _ => hold b hb, by rw [hw']; rfl, by rw [hw']; rfl, by rw [hw']; rfl, fun _ _ _ h => Or.inl h⟩⟩
  · intro o' y hy
    rw [AHeap.get_upd] at hy
    split at hy
    · rename_i e; subst e; simp at hy; subst hy; exact ho
    · rename_i e
      refine (hw.obj o' y hy).move hle ?_ ?_
      · intro v z hz
        rcases Gh.setB_cases hz with ⟨e', _⟩ | hz
        · exact absurd e' e
        · exact hz
      · intro v b s n hb; exact hold b (hw.bnd o' v b s n hb)
  · intro o' v b s' n' hb'
    rcases Gh.setB_cases hb' with ⟨_, _, e⟩ | hb'
    · simp at e; omega
    · have := hw.bnd o' v b s' n' hb'; omega
  · intro o1 v1 o2 v2 b s1 n1 s2 n2 h1 h2
    rcases Gh.setB_cases h1 with ⟨e1, _, e1'⟩ | h1 <;> rcases Gh.setB_cases h2 with ⟨e2, _, e2'⟩ | h2
    · rw [e1, e2]
    · simp at e1'; have := hw.bnd o2 v2 b s2 n2 h2; omega
    · simp at e2'; have := hw.bnd o1 v1 b s1 n1 h1; omega
    · exact hw.inj o1 v1 o2 v2 b s1 n1 s2 n2 h1 h2
  · intro b i v hm
    obtain ⟨h1, h2⟩ := hw.ro b i v hm
    refine ⟨?_, by omega⟩
    rw [← h1]; unfold World.cell?; simp only [hold b h2]
  · intro b i u hm o' v s' n' hb'
    rcases Gh.setB_cases hb' with ⟨_, _, e⟩ | hb'
    · have := (hw.ro b i u hm).2; simp at e; omega
    · exact hw.dis b i u hm o' v s' n' hb'
  · intro o' h1 _ h2
    rw [AHeap.get_upd, if_neg]
    intro e; subst e
    exact h2 (mem_addWr_self h1)
  · intro o' _ h1
    rw [AHeap.get_upd, if_neg]
    intro e; subst e; rw [h1 v0] at hb; cases hb
  · intro o' _ h1
    rw [AHeap.get_upd, if_neg]
    · exact h1
    · intro e; subst e; rw [hx] at h1; cases h1
  · intro o' v y hy
    rcases Gh.setB_cases hy with ⟨e, _, _⟩ | hy
    · subst e; exact .inr (.inr ⟨by rw [hx]; simp, v0, by rw [hb]; simp⟩)
    · exact .inl hy
  · intro o' v b s' n' hb' hlt
    rcases Gh.setB_cases hb' with ⟨_, _, e⟩ | hb'
    · simp at e; omega
    · exact ⟨v, s', n', hb'⟩
theorem samever_ok {h : AHeap} {g : Gh} {w w' : World} {o v0 nv b s0 n0 s n : Nat} {x x' : AObj} {ob : Obj} (hw : W h g w) (hx : h.get o = some x)
    (hb : g.B o v0 = some (b, s0, n0)) (hn : g.B o nv = none) (hw' : w' = setW w b ob)
    (ho : OR (g.setB o nv (b, s, n)) w' o x') :
    W (h.upd o x') (g.setB o nv (b, s, n)) w' ∧ Step h g w (h.upd o x') (g.setB o nv (b, s, n)) w' := by
  have hle : g.Le (g.setB o nv (b, s, n)) := Gh.setB_le hn
  have hold : ∀ b', b' ≠ b → w'.heap[b']? = w.heap[b']? := fun b' hb' => by rw [hw']; exact setW_other hb'
  have hsz : w'.heap.size = w.heap.size := by rw [hw']; exact setW_size _ _ _
  refine ⟨⟨?_, ?_, ?_, ?_, ?_, hw.glMove (fun b' u e => hold b' (fun e' => hw.dis b' 0 u e o v0 s0 n0 (e' ▸ hb))) (fun _ _ _ e => e)⟩, ⟨hle, Nat.le_refl _, rfl, fun _ h => mem_addWr h, ?_, ?_, ?_, ?_, by omega, ?_, ?_, by rw [hw']; rfl, by rw [hw']; rfl, by rw [hw']; rfl, fun _ _ _ h => Or.inl h⟩⟩
  · intro o' y hy
    rw [AHeap.get_upd] at hy
    split at hy
    · rename_i e; subst e; simp at hy; subst hy; exact ho
    · rename_i e
      refine (hw.obj o' y hy).move hle ?_ ?_
      · intro v z hz
        rcases Gh.setB_cases hz with ⟨e', _⟩ | hz
        · exact absurd e' e
        · exact hz
      · intro v' b' s' n' hb'
        exact hold b' fun e' => e (by subst e'; exact hw.inj o' v' o v0 b' s' n' s0 n0 hb' hb)
  · intro o' v b' s' n' hb'
    rw [hsz]
    rcases Gh.setB_cases hb' with ⟨_, _, e⟩ | hb'
    · simp at e; rw [e.1]; exact hw.bnd o v0 b s0 n0 hb
    · exact hw.bnd o' v b' s' n' hb'
  · intro o1 v1 o2 v2 b' s1 n1 s2 n2 h1 h2
    rcases Gh.setB_cases h1 with ⟨e1, _, e1'⟩ | h1 <;> rcases Gh.setB_cases h2 with ⟨e2, _, e2'⟩ | h2
    · rw [e1, e2]
    · simp at e1'; rw [e1'.1] at h2; rw [e1]; exact hw.inj o v0 o2 v2 b s0 n0 s2 n2 hb h2
    · simp at e2'; rw [e2'.1] at h1; rw [e2]; exact hw.inj o1 v1 o v0 b s1 n1 s0 n0 h1 hb
    · exact hw.inj o1 v1 o2 v2 b' s1 n1 s2 n2 h1 h2
  · intro b' i u hm
    obtain ⟨h1, h2⟩ := hw.ro b' i u hm
    refine ⟨?_, by omega⟩
    rw [← h1]; unfold World.cell?
    simp only [hold b' (fun e => hw.dis b' i u hm o v0 s0 n0 (e ▸ hb))]
  · intro b' i u hm o' v s' n' hb'
    rcases Gh.setB_cases hb' with ⟨_, _, e⟩ | hb'
    · simp at e; rw [e.1] at hm; exact hw.dis b i u hm o v0 s0 n0 hb
    · exact hw.dis b' i u hm o' v s' n' hb'
  · intro o' h1 _ h2
    rw [AHeap.get_upd, if_neg]
    intro e; subst e
    exact h2 (mem_addWr_self h1)
  · intro o' _ h1
    rw [AHeap.get_upd, if_neg]
    intro e; subst e; rw [h1 v0] at hb; cases hb
  · intro o' _ h1
    rw [AHeap.get_upd, if_neg]
    · exact h1
    · intro e; subst e; rw [hx] at h1; cases h1
  · intro o' v y hy
    rcases Gh.setB_cases hy with ⟨e, _, _⟩ | hy
    · subst e; exact .inr (.inr ⟨by rw [hx]; simp, v0, by rw [hb]; simp⟩)
    · exact .inl hy
  · intro o' v b' s' n' hb' _
    rcases Gh.setB_cases hb' with ⟨e1, _, e⟩ | hb'
    · simp at e; subst e1; rw [e.1]; exact ⟨v0, s0, n0, hb⟩
    · exact ⟨v, s', n', hb'⟩
  · intro b' _ h1
    by_cases e : b' = b
    · subst e
      rcases h1 o v0 s0 n0 hb with ⟨h2, h3⟩ | h2
      · exact absurd (mem_addWr_self h2) h3
      · rw [hx] at h2; cases h2
    · exact hold b' e
end Go.AI
end

/-
  Reading and writing cells.
-/
section
namespace Go.AI
theorem cell_of {w : World} {b i : Nat} {c : Array Value} {el : TypeId} {f : Nat × Nat} (h : w.heap[b]? = some (.cells c el f)) : w.cell? ⟨b, i, none⟩ = c[i]? := by
  unfold World.cell?; simp [h]
theorem frozen_of {w : World} {b i : Nat} {c : Array Value} {el : TypeId} {f : Nat × Nat} (h : w.heap[b]? = some (.cells c el f)) : w.frozen? ⟨b, i, none⟩ = (decide (f.1 ≤ i) && decide (i < f.2)) := by
  unfold World.frozen?; simp [h]
theorem getD_drop_take {α : Type} (l : List α) (a s i : Nat) (hi : i < s) : ((l.drop a).take s)[i]? = l[a + i]? := by
  rw [List.getElem?_take, if_pos hi, List.getElem?_drop]
theorem rdCells_ok {h : AHeap} {g : Gh} {w : World} {o ver n off s b sz : Nat} {cs : List AV} (hw : W h g w) (hr : rdCells h o ver n off s = some cs)
    (hb : g.B o ver = some (b, sz, n)) : ∃ vs : List Value, VRs g cs vs ∧ vs.length = s ∧ (∀ (j : Nat) (v : Value), vs[j]? = some v → w.cell? ⟨b, off + j, none⟩ = some v) ∧ off + s ≤ n ∧ n ≤ sz := by
  unfold rdCells at hr
  split at hr
  · rename_i v m c fz el ex sh hx
    split at hr
    · rename_i hc
      obtain ⟨h1, h2, h3⟩ := hc
      simp only [Option.some.injEq] at hr
      subst hr
      obtain ⟨_, ca, f, hk⟩ := (hw.obj o _ hx).2 ver h1 h2 b sz n hb
      refine ⟨(ca.toList.drop off).take s, ?_, ?_, ?_, h3, hk.les⟩
      · refine VRs.of ?_ ?_
        · simp only [List.length_take, List.length_drop, Array.length_toList]
          have := hk.le; have := hk.les; have := hk.size
          omega
        · intro i x v' hx' hv'
          by_cases hi : i < s
          · rw [getD_drop_take _ _ _ _ hi] at hx' hv'
            obtain ⟨u, hu, hr⟩ := hk.cell (off + i) x (by omega) hx'
            rw [Array.getElem?_toList, hu] at hv'
            simp at hv'; subst hv'; exact hr
          · rw [List.getElem?_take, if_neg hi] at hx'; cases hx'
      · simp only [List.length_take, List.length_drop, Array.length_toList]
        have := hk.les; have := hk.size
        omega
      · intro j u hu
        by_cases hi : j < s
        · rw [getD_drop_take _ _ _ _ hi, Array.getElem?_toList] at hu
          rw [cell_of hk.here]; exact hu
        · rw [List.getElem?_take, if_neg hi] at hu; cases hu
    · cases hr
  · cases hr
theorem rdAt_ok {h : AHeap} {g : Gh} {w : World} {s : Nat} {x : AV} {v : Value} {cs : List AV} (hw : W h g w) (hr : rdAt h s x = some cs) (hx : VR g x v) :
    ∃ a : Addr, v = .pointer (some a) ∧ a.spot = none ∧ ∃ vs : List Value, VRs g cs vs ∧ vs.length = s ∧ (∀ (j : Nat) (u : Value), vs[j]? = some u → w.cell? ⟨a.block, a.off + j, none⟩ = some u) := by
  unfold rdAt at hr
  split at hr
  · cases hx with
    | ref hb =>
      obtain ⟨vs, h1, h2, h3, _⟩ := rdCells_ok hw hr hb
      exact ⟨_, rfl, rfl, vs, h1, h2, h3⟩
  · rename_i cells
    split at hr
    · rename_i hs
      simp only [Option.some.injEq] at hr
      subst hr
      cases hx with
      | pref f h1 h2 =>
        rename_i b off
        refine ⟨_, rfl, rfl, (List.range s).map f, ?_, by simp, ?_⟩
        · refine VRs.of (by simp [Nat.min_eq_left hs]) ?_
          intro i x v hx hv
          by_cases hi : i < s
          · rw [List.getElem?_take, if_pos hi] at hx
            simp [hi] at hv
            rw [← hv]; exact h2 i x hx
          · rw [List.getElem?_take, if_neg hi] at hx; cases hx
        · intro j u hu
          by_cases hj : j < s
          · simp [hj] at hu
            have hlt : j < cells.length := by omega
            have := h1 j cells[j] (by simp [hlt])
            rw [← hu]; exact (hw.ro _ _ _ this).1
          · simp [hj] at hu
    · cases hr
  · cases hr
theorem add_eq (a : Addr) (n : Nat) (h : a.spot = none) : a.add n = ⟨a.block, a.off + n, none⟩ := by
  cases a with
  | mk b o s =>
    simp at h; subst h
    unfold Addr.add
    split
    · rename_i e; simp [e]
    · rfl
section
variable {P : Program}
theorem run_isAgg {t : TypeId} {b : Bool} (h : isAggT P t = some b) (w : World) : (isAgg t).run P w = .ok b w := by
  unfold isAggT at h
  unfold isAgg
  cases hu : P.underlying t with
  | none => rw [hu] at h; cases h
  | some d =>
    rw [hu] at h
    simp only [Sem.run_bind, run_underlying hu, Result.andThen_ok]
    cases d <;> simp_all
theorem run_typeInfo {t : TypeId} {i : TypeInfo} (h : P.info? t = some i) (w : World) : (typeInfo t).run P w = .ok i w := by
  unfold typeInfo; simp [h]
theorem run_sizeOf {t : TypeId} {s : Nat} (h : sizeT P t = some s) (w : World) : (sizeOf t).run P w = .ok s w := by
  unfold sizeT at h
  cases hi : P.info? t with
  | none => rw [hi] at h; cases h
  | some i =>
    rw [hi] at h; simp at h
    unfold sizeOf
    simp only [Sem.run_bind, run_typeInfo hi, Result.andThen_ok, Sem.run_pure, h]
theorem bytesT_info {t : TypeId} {s : Nat} (h : bytesT P t = some s) : ∃ i, P.info? t = some i ∧ i.bytes = s := by
  unfold bytesT at h
  cases hi : P.info? t with
  | none => rw [hi] at h; cases h
  | some i => rw [hi] at h; simp at h; exact ⟨i, rfl, h⟩
theorem run_zeroValue {t : TypeId} {z : AV} (h : zeroT P t = some z) (w : World) : ∃ v, (zeroValue t).run P w = .ok v w ∧ z = ofVal v := by
  unfold zeroT at h
  cases hi : P.info? t with
  | none => rw [hi] at h; cases h
  | some i =>
    rw [hi] at h
    cases hz : i.zero with
    | none => simp [hz] at h
    | some v =>
      simp [hz] at h
      refine ⟨v, ?_, h.symm⟩
      unfold zeroValue
      simp only [Sem.run_bind, run_typeInfo hi, Result.andThen_ok, hz, Sem.run_pure]
theorem aload_ok {h : AHeap} {g : Gh} {w : World} {t : TypeId} {x y : AV} {v : Value} (hw : W h g w) (hr : aload P h t x = some y) (hx : VR g x v) :
    ∃ u, (Instr.loadAt t v).run P w = .ok u w ∧ VR g y u := by
  unfold aload at hr
  split at hr
  · rename_i s ha hs
    cases hrd : rdAt h s x with
    | none => rw [hrd] at hr; cases hr
    | some cs =>
      rw [hrd] at hr; simp at hr; subst hr
      obtain ⟨a, rfl, hsp, vs, h1, h2, h3⟩ := rdAt_ok hw hrd hx
      have hl : (loadCells a s).run P w = .ok vs.toArray w := by
        rw [← h2]
        exact run_loadCells_list w a vs (fun j v hv => by rw [add_eq a j hsp]; exact h3 j v hv)
      refine ⟨.agg vs.toArray, ?_, VR.agg_iff.2 ⟨_, rfl, by simpa using h1⟩⟩
      unfold Instr.loadAt Instr.sureAddr loadVar
      simp only [Sem.run_bind, Sem.run_pure, Result.andThen_ok, run_isAgg ha, if_true, run_sizeOf hs, hl]
  · rename_i s ha hs
    split at hr
    · rename_i y' hrd
      simp only [Option.some.injEq] at hr; subst hr
      obtain ⟨a, rfl, hsp, vs, h1, h2, h3⟩ := rdAt_ok hw hrd hx
      match vs, h1, h2, h3 with
      | [u], h1, _, h3 =>
        refine ⟨u, ?_, h1.1⟩
        have := h3 0 u (by simp)
        have ha' : a = ⟨a.block, a.off + 0, none⟩ := by cases a; simp at hsp; simp [hsp]
        unfold Instr.loadAt Instr.sureAddr loadVar
        simp only [Sem.run_bind, Sem.run_pure, Result.andThen_ok, run_isAgg ha, Bool.false_eq_true, if_false, run_load]
        rw [ha', this]
    · cases hr
  · cases hr
end
end Go.AI
end

/-
  Writing cells.
-/
section
namespace Go.AI
theorem setW_id {w : World} {b : Nat} {ob : Obj} (h : w.heap[b]? = some ob) : setW w b ob = w := by
  unfold setW
  have : w.heap.setIfInBounds b ob = w.heap := by
    apply Array.ext_getElem?
    intro i
    by_cases e : b = i
    · subst e
      have hlt : b < w.heap.size := by
        rcases Nat.lt_or_ge b w.heap.size with h' | h'
        · exact h'
        · rw [Array.getElem?_eq_none h'] at h; cases h
      rw [Array.getElem?_setIfInBounds_self_of_lt hlt, h]
    · rw [Array.getElem?_setIfInBounds_ne e]
  rw [this]
theorem setW_setW (w : World) (b : Nat) (x y : Obj) : setW (setW w b x) b y = setW w b y := by
  unfold setW; simp
theorem lt_of_heap {w : World} {b : Nat} {ob : Obj} (h : w.heap[b]? = some ob) : b < w.heap.size := by
  rcases Nat.lt_or_ge b w.heap.size with h' | h'
  · exact h'
  · rw [Array.getElem?_eq_none h'] at h; cases h
theorem setCell_eq {w : World} {b i : Nat} {c : Array Value} {el : TypeId} {f : Nat × Nat} (v : Value) (h : w.heap[b]? = some (.cells c el f)) :
    w.setCell ⟨b, i, none⟩ v = setW w b (.cells (c.setIfInBounds i v) el f) := by
  unfold World.setCell setW
  congr 1
  apply Array.ext_getElem?
  intro j
  have hlt := lt_of_heap h
  by_cases e : b = j
  · subst e
    rw [Array.getElem?_modify, h, Array.getElem?_setIfInBounds_self_of_lt hlt]
    simp
  · rw [Array.getElem?_setIfInBounds_ne e, Array.getElem?_modify, if_neg e]
theorem cellOK_one {g : Gh} {x : AV} {v : Value} (h : cellOK x = true) (hr : VR g x v) : v.oneCell' = true := by
  cases hr <;> simp_all [cellOK, Value.oneCell']
  split at h <;> simp_all
theorem cellsOK_one {g : Gh} : ∀ {xs : List AV} {vs : List Value}, xs.all cellOK = true → VRs g xs vs → ∀ v ∈ vs, v.oneCell' = true
  | [], [], _, _ => by simp
  | x :: xs, v :: vs, h, hr => by
    simp only [List.all_cons, Bool.and_eq_true] at h
    intro u hu
    rcases List.mem_cons.1 hu with rfl | hu
    · exact cellOK_one h.1 hr.1
    · exact cellsOK_one h.2 hr.2 u hu
  | [], _ :: _, _, hr => hr.elim
  | _ :: _, [], _, hr => hr.elim
theorem run_storeCells {P : Program} {b off : Nat} {el : TypeId} {f : Nat × Nat} : ∀ (vs : List Value) (i : Nat) (c : Array Value) (w : World),
    w.heap[b]? = some (.cells c el f) → off + i + vs.length ≤ c.size → (∀ j, off + i ≤ j → j < off + i + vs.length → ¬ (f.1 ≤ j ∧ j < f.2)) → (∀ v ∈ vs, v.oneCell' = true) →
    ∃ c' : Array Value, (storeCells ⟨b, off, none⟩ vs i).run P w = .ok () (setW w b (.cells c' el f)) ∧ c'.size = c.size ∧
      ∀ j : Nat, c'[j]? = if off + i ≤ j ∧ j < off + i + vs.length then vs[j - (off + i)]? else c[j]? := by
  intro vs
  induction vs with
  | nil =>
    intro i c w h _ _ _
    refine ⟨c, ?_, rfl, ?_⟩
    · rw [setW_id h]; rfl
    · intro j; rw [if_neg (by simp)]
  | cons v vs ih =>
    intro i c w h hs hf ho
    have hs' : off + i + (vs.length + 1) ≤ c.size := hs
    have hcell : w.cell? ⟨b, off + i, none⟩ = c[off + i]? := cell_of h
    have hlt : off + i < c.size := by omega
    have hfz : w.frozen? ⟨b, off + i, none⟩ = false := by
      rw [frozen_of h]
      have := hf (off + i) (Nat.le_refl _) (by simp)
      simpa using this
    have h2 : (setW w b (.cells (c.setIfInBounds (off + i) v) el f)).heap[b]? = some (.cells (c.setIfInBounds (off + i) v) el f) := setW_same (lt_of_heap h)
    obtain ⟨c', hr, hsz, hc⟩ := ih (i + 1) _ _ h2 (by simp; omega) (fun j h1 h2 => hf j (by omega) (by simp; omega)) (fun u hu => ho u (List.mem_cons_of_mem _ hu))
    refine ⟨c', ?_, by simpa using hsz, ?_⟩
    · simp only [storeCells, Sem.run_bind]
      rw [add_eq _ _ rfl, run_store _ _ _ _ _ (ho v (List.mem_cons_self ..))]
      simp only [hcell]
      rw [Array.getElem?_eq_getElem hlt]
      simp only [hfz, Bool.false_eq_true, if_false, Result.andThen_ok]
      rw [setCell_eq v h, hr, setW_setW]
    · intro j
      rw [hc j]
      by_cases h3 : off + i = j
      · subst h3
        rw [if_neg (by omega), if_pos (by simp)]
        simp [hlt]
      · rw [Array.getElem?_setIfInBounds_ne h3]
        by_cases h4 : off + (i + 1) ≤ j ∧ j < off + (i + 1) + vs.length
        · rw [if_pos h4, if_pos (by simp; omega)]
          have : j - (off + i) = (j - (off + (i + 1))) + 1 := by omega
          rw [this]; simp
        · rw [if_neg h4, if_neg (by simp; omega)]
theorem splice_get (c : List AV) (off : Nat) (new : List AV) (h : off + new.length ≤ c.length) (j : Nat) :
    (splice c off new)[j]? = if off ≤ j ∧ j < off + new.length then new[j - off]? else c[j]? := by
  unfold splice
  have hl : (c.take off).length = off := by simp; omega
  by_cases h1 : j < off
  · rw [if_neg (by omega), List.getElem?_append_left (by omega), List.getElem?_take, if_pos h1]
  · rw [List.getElem?_append_right (by omega), hl]
    by_cases h2 : j < off + new.length
    · rw [if_pos (by omega), List.getElem?_append_left (by omega)]
    · rw [if_neg (by omega), List.getElem?_append_right (by omega), List.getElem?_drop]
      congr 1; omega
theorem splice_length (c : List AV) (off : Nat) (new : List AV) (h : off + new.length ≤ c.length) : (splice c off new).length = c.length := by
  unfold splice; simp; omega
theorem wrCells_ok {P : Program} {h h' : AHeap} {g : Gh} {w : World} {o ver n off b s : Nat} {new : List AV} {vs : List Value} (hw : W h g w)
    (hr : wrCells h o ver n off new = some h') (hb : g.B o ver = some (b, s, n)) (hv : VRs g new vs) :
    ∃ w', (storeCells ⟨b, off, none⟩ vs 0).run P w = .ok () w' ∧ W h' g w' ∧ Step h g w h' g w' := by
  unfold wrCells at hr
  split at hr
  · rename_i v m c fz el ex sh hx
    split at hr
    · rename_i hc
      obtain ⟨rfl, h1, h2, h3, h4⟩ := hc
      simp only [Option.some.injEq] at hr
      subst hr
      obtain ⟨hn0, ca, f, hk⟩ := (hw.obj o _ hx).2 ver h1 (Nat.le_refl _) b s n hb
      · have hn := hn0 rfl
        have hlen := hv.length
        obtain ⟨c', hrun, hsz, hc'⟩ := run_storeCells (P := P) (off := off) vs 0 ca w hk.here (by have := hk.les; have := hk.size; omega)
          (fun j h5 h6 h7 => by have := hk.free j (by have := hk.les; omega) h7.1 h7.2; omega) (cellsOK_one h4 hv)
        refine ⟨_, hrun, ?_⟩
        refine upd_ok hw hx hb rfl ⟨(hw.obj o _ hx).1, ?_⟩
        intro v' h5 h6 b' s' n' hb'
        obtain rfl : v' = ver := by omega
        rw [hb] at hb'
        simp only [Option.some.injEq, Prod.mk.injEq] at hb'
        obtain ⟨rfl, rfl, rfl⟩ := hb'
        refine ⟨fun _ => by rw [splice_length _ _ _ (by omega)]; exact hn, c', f, ?_⟩
        refine ⟨setW_same (lt_of_heap hk.here), by rw [hsz]; exact hk.size, by rw [splice_length _ _ _ (by omega)]; omega, hk.les, fun he => by rw [splice_length _ _ _ (by omega)]; exact hk.exact he, hk.free, hk.plain, ?_⟩
        intro i x hi hx'
        rw [splice_get _ _ _ (by omega)] at hx'
        rw [hc' i]
        simp only [Nat.add_zero]
        by_cases h7 : off ≤ i ∧ i < off + new.length
        · rw [if_pos h7] at hx'
          rw [if_pos (by omega)]
          have : i - off < vs.length := by omega
          refine ⟨vs[i - off], by simp [this], hv.get _ _ _ hx' (by simp [this])⟩
        · rw [if_neg h7] at hx'
          rw [if_neg (by omega)]
          exact hk.cell i x hi hx'
    · cases hr
  · cases hr
end Go.AI
end
