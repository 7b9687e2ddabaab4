/-
  A symbolic interpreter over data: slices that are data or the function's own, boxes; written by continuations.
-/
import Derived.Lib.Join
import Derived.Lib.ItoaNum
import Derived.Test.YtbdcnekkebhhhaaGreatDoorAa
set_option linter.all false

section
namespace Go.AI
inductive Lf where
  | int (k : IntKind)
  | bool
  | str
  | sl (t : TypeId)
  | no
def repL : Nat → List Lf → List Lf
  | 0, _ => []
  | n + 1, l => l ++ repL n l
mutual
def layN (P : Program) : Nat → TypeId → List Lf
  | 0, _ => [.no]
  | n + 1, t => match P.underlying t with
    | some (.int k) => [.int k]
    | some .bool => [.bool]
    | some .string => [.str]
    | some (.slice e) => [.sl e]
    | some (.array m e) => repL m (layN P n e)
    | some (.struct fs) => layFs P n (fs.toList.map (·.type))
    | _ => [.no]
def layFs (P : Program) : Nat → List TypeId → List Lf
  | 0, _ => [.no]
  | _, [] => []
  | n + 1, t :: ts => layN P n t ++ layFs P n ts
end
def lay (P : Program) (t : TypeId) : List Lf := layN P 40 t
def gI (r : List AV) (j : Nat) : Int := match r[j]? with
  | some (.sc (.int _ n)) => n
  | _ => 0
def gB (r : List AV) (j : Nat) : Bool := match r[j]? with
  | some (.sc (.bool b)) => b
  | _ => false
def gS (r : List AV) (j : Nat) : ByteArray := match r[j]? with
  | some (.sc (.string s)) => s
  | _ => .empty
def gD (r : List AV) (j : Nat) : List (List AV) := match r[j]? with
  | some (.isl l _) => l
  | _ => []
inductive SV where
  | unk
  | sc (v : Value)
  | agg (cs : List SV)
  /-- a slice of data: its elements' type, its elements -/
  | dl (t : TypeId) (rows : List (List AV))
  /-- a slice of the function's own -/
  | own (i : Nat)
  /-- a pointer into a box -/
  | ref (i off : Nat)
  /-- a pointer into an element of a slice of the function's own -/
  | eref (i k off : Nat)
  /-- a pointer into an element of a slice of data -/
  | prow (t : TypeId) (row : List AV) (off : Nat)
  /-- a pointer to the first byte of a slice of bytes -/
  | bref (i : Nat)
  /-- this, or nil -/
  | opt (b : Bool) (v : SV)
  | fn (f : FuncId) (caps : List SV)
  | tup (vs : List SV)
  | ifc (t : TypeId) (v : SV)
instance : Inhabited SV := ⟨.unk⟩
inductive SOb where
  | box (t : TypeId) (cs : List SV)
  | arr (t : TypeId) (rows : List (List AV)) (lent : Bool)
  | byt (s : ByteArray) (t : TypeId)
  | gone
structure SSt where
  tm : Tr SV
  ob : Tr SOb
  nx : Nat
  al : List (Tmp × Tmp)
def plainV : Value → Bool
  | .agg _ | .tuple _ => false
  | _ => true
def ofC (v : Value) : SV := match plainV v with
  | true => .sc v
  | false => .unk
def ofV : Value → SV
  | .agg cs => .agg (cs.toList.map ofC)
  | .tuple vs => .tup (vs.toList.map ofC)
  | .func (.func f) a c => (match a.toList, c.toList with
    | [], [] => .fn f []
    | _, _ => .sc (.func (.func f) a c))
  | v => .sc v
def evS (tm : Tr SV) : Operand → SV
  | .tmp t => match tm.get t with
    | some v => v
    | none => .unk
  | .const v => ofV v
  | .global _ => .unk
  | .func f => .fn f []
def okC : SV → Bool
  | .unk | .agg _ | .tup _ => false
  | .sc v => (match v with
    | .agg _ | .tuple _ => false
    | _ => true)
  | .opt _ v => okC v
  | _ => true
def okCs : List SV → Bool
  | [] => true
  | v :: vs => okC v && okCs vs
def cellsS : SV → List SV
  | .agg cs => cs
  | v => [v]
def leafS (l : Lf) (r : List AV) (j : Nat) : SV := match l with
  | .int k => .sc (.int k (gI r j))
  | .bool => .sc (.bool (gB r j))
  | .str => .sc (.string (gS r j))
  | .sl t => .dl t (gD r j)
  | .no => .unk
def leafsS (r : List AV) : List Lf → Nat → List SV
  | [], _ => []
  | l :: ls, j => leafS l r j :: leafsS r ls (j + 1)
def sIte {α : Type} (b : Bool) (x y : Option α) : Option α := match b with
  | true => x
  | false => y
def getn {α β : Type} (l : List α) (n : Nat) (k : α → Option β) : Option β := match l[n]? with
  | some x => k x
  | none => none
def geti {α β : Type} (l : List α) (n : Int) (k : α → Option β) : Option β := match decide (0 ≤ n) with
  | true => (match l[n.toNat]? with
    | some x => k x
    | none => none)
  | false => none
def gets {β : Type} (s : ByteArray) (n : Int) (k : Int → Option β) : Option β := match decide (0 ≤ n) with
  | true => (match s[n.toNat]? with
    | some x => k x.toNat
    | none => none)
  | false => none
def fits {β : Type} (n b : Nat) (k : Option β) : Option β := match decide (n * b ≤ 140737488355328) with
  | true => k
  | false => none
def ask {α β : Type} (x : Option α) (k : α → Option β) : Option β := match x with
  | some a => k a
  | none => none
section
variable {ρ : Type} (P : Program)
def cellOf (ob : Tr SOb) (l : Lf) (v : SV) : Option AV := match l, v with
  | .int k, .sc (.int k' n) => if k = k' then some (.sc (.int k n)) else none
  | .bool, .sc (.bool b) => some (.sc (.bool b))
  | .str, .sc (.string s) => some (.sc (.string s))
  | .sl t, .dl t' r => if t = t' then (sizeT P t).map fun sz => .isl r sz else none
  | .sl t, .sc (.slice none 0 0) => (sizeT P t).map fun sz => .isl [] sz
  | .sl t, .own i => match ob.get i with
    | some (.arr t' r _) => if t = t' then (sizeT P t).map fun sz => .isl r sz else none
    | _ => none
  | _, _ => none
def rowOf (ob : Tr SOb) : List Lf → List SV → Option (List AV)
  | [], [] => some []
  | l :: ls, v :: vs => match cellOf P ob l v, rowOf ob ls vs with
    | some c, some cs => some (c :: cs)
    | _, _ => none
  | _, _ => none
def lend (ob : Tr SOb) : List SV → Tr SOb
  | [] => ob
  | .own i :: vs => match ob.get i with
    | some (.arr t r _) => lend (ob.put i (.arr t r true)) vs
    | _ => lend ob vs
  | _ :: vs => lend ob vs
def bytesRow (s : ByteArray) : List (List AV) := s.data.toList.map fun b => [.sc (.int .u8 b.toNat)]
def asData (ob : Tr SOb) (t : TypeId) : SV → Option (List (List AV))
  | .dl t' r => if t = t' then some r else none
  | .sc (.slice none 0 0) => some []
  | .own i => match ob.get i with
    | some (.arr t' r _) => if t = t' then some r else none
    | _ => none
  | _ => none
def loadS (st : SSt) (t : TypeId) (a : SV) (k : SV → Option ρ) : Option ρ :=
  match isAggT P t, sizeT P t, a with
  | some g, some s, .ref i off => match st.ob.get i with
    | some (.box _ cs) => if off + s ≤ cs.length then (match g with
      | true => k (.agg ((cs.drop off).take s))
      | false => match cs[off]? with
        | some v => k v
        | none => none) else none
    | _ => none
  | some g, some s, .prow t' row off => if off + s ≤ (lay P t').length then (match g with
      | true => k (.agg (((leafsS row (lay P t') 0).drop off).take s))
      | false => match (lay P t')[off]? with
        | some l => k (leafS l row off)
        | none => none) else none
  | some g, some s, .eref i j off => match st.ob.get i with
    | some (.arr t' rows _) => getn rows j fun row => if off + s ≤ (lay P t').length then (match g with
        | true => k (.agg (((leafsS row (lay P t') 0).drop off).take s))
        | false => match (lay P t')[off]? with
          | some l => k (leafS l row off)
          | none => none) else none
    | _ => none
  | _, _, _ => none
def spliceS (c : List SV) (off : Nat) (new : List SV) : List SV := c.take off ++ (new ++ c.drop (off + new.length))
def storeS (st : SSt) (t : TypeId) (a v : SV) (k : SSt → Option ρ) : Option ρ :=
  match sizeT P t, a with
  | some s, .ref i off => match st.ob.get i with
    | some (.box t' cs) => if (cellsS v).length = s ∧ off + s ≤ cs.length ∧ okCs (cellsS v) = true then k { st with ob := st.ob.put i (.box t' (spliceS cs off (cellsS v))) } else none
    | _ => none
  | some s, .eref i j off => match (lend st.ob (cellsS v)).get i with
    | some (.arr t' rows false) => getn rows j fun row => if (cellsS v).length = s ∧ off + s ≤ (lay P t').length then
          (match rowOf P st.ob (((lay P t').drop off).take s) (cellsS v) with
           | some new => k { st with ob := (lend st.ob (cellsS v)).put i (.arr t' (rows.set j (splice row off new)) false) }
           | none => none) else none
    | _ => none
  | _, _ => none
def den0 : SV → Option AV
  | .sc v => some (.sc v)
  | .agg cs => (cs.mapM fun (x : SV) => match x with | SV.sc v => some (AV.sc v) | _ => none).map AV.agg
  | _ => none
def newOb (st : SSt) (x : SOb) (k : Nat → SSt → Option ρ) : Option ρ := k st.nx { st with ob := st.ob.put st.nx x, nx := st.nx + 1 }
def fieldAddrS (t : TypeId) (x : SV) (f : Nat) : Option SV :=
  match P.underlying t with
  | some (.struct fields) => match fields[f]? with
    | some fd => match sizeT P fd.type, x with
      | some (_ + 1), .ref i off => some (.ref i (off + fd.offset))
      | some (_ + 1), .prow t r off => some (.prow t r (off + fd.offset))
      | some (_ + 1), .eref i j off => some (.eref i j (off + fd.offset))
      | _, _ => none
    | none => none
  | _ => none
def fieldS (t : TypeId) (x : SV) (f : Nat) : Option SV :=
  match P.underlying t, x with
  | some (.struct fields), .agg cs => match fields[f]? with
    | some fd => match isAggT P fd.type, sizeT P fd.type with
      | some true, some s => if fd.offset + s ≤ cs.length then some (.agg ((cs.drop fd.offset).take s)) else none
      | some false, some _ => cs[fd.offset]?
      | _, _ => none
    | none => none
  | _, _ => none
def fillS (place : Nat → Option (Nat × Nat)) (cells : List SV) : List (Nat × SV) → Option (List SV)
  | [] => some cells
  | (i, v) :: rest => match place i with
    | none => none
    | some (off, size) => if (cellsS v).length = size ∧ off + size ≤ cells.length ∧ okCs (cellsS v) = true then fillS place (spliceS cells off (cellsS v)) rest else none
def buildS (t : TypeId) (parts : List (Nat × SV)) : Option SV :=
  match P.info? t, P.underlying t with
  | some it, some (.struct fields) => match it.zero, fields.toList.mapM (fun f => (P.info? f.type).map fun i => (f.offset, i.size)) with
    | some z, some places => (fillS (fun i => places[i]?) (cellsS (ofV z)) parts).map .agg
    | _, _ => none
  | some it, some (.array _ e) => match it.zero, P.info? e with
    | some z, some ie => (fillS (fun i => some (i * ie.size, ie.size)) (cellsS (ofV z)) parts).map .agg
    | _, _ => none
  | _, _ => none
def zerosS (z : List SV) : Nat → List SV
  | 0 => []
  | n + 1 => z ++ zerosS z n
def rowsOf (ob : Tr SOb) (ls : List Lf) (s : Nat) : Nat → List SV → Option (List (List AV))
  | 0, _ => some []
  | n + 1, cs => match rowOf P ob ls (cs.take s), rowsOf ob ls s n (cs.drop s) with
    | some r, some rs => some (r :: rs)
    | _, _ => none
def idxA (el : TypeId) (len : Nat) (cs : List SV) (n : Int) (k : SV → Option ρ) : Option ρ := match sizeT P el, isAggT P el with
  | some s, some g => (match Nat.beq s (lay P el).length, rowsOf P .leaf (lay P el) s len cs with
    | true, some rows => geti rows n fun r => (match g with
      | true => k (.agg (leafsS r (lay P el) 0))
      | false => match lay P el with
        | [l] => k (leafS l r 0)
        | _ => none)
    | _, _ => none)
  | _, _ => none
def goodT (P : Program) (t : TypeId) : Bool := match sizeT P t, zeroT P t with
  | some s, some z => Nat.beq s (lay P t).length && Nat.blt 0 s && Nat.beq (cellsA z).length s
  | _, _ => false
def isByte (P : Program) (t : TypeId) : Bool := match P.underlying t with
  | some (.int .u8) => true
  | _ => false
def byt1 {β : Type} (n : Int) (k : UInt8 → Option β) : Option β := match decide (0 ≤ n ∧ n < 256) with
  | true => k (UInt8.ofNat n.toNat)
  | false => none
def bytesK : List SV → (List UInt8 → Option ρ) → Option ρ
  | [], k => k []
  | .sc (.int .u8 n) :: xs, k => byt1 n fun b => bytesK xs fun bs => k (b :: bs)
  | _, _ => none
def buildSliceS (st : SSt) (t : TypeId) (len : Nat) (parts : List (Nat × SV)) (k : SV → SSt → Option ρ) : Option ρ :=
  match P.underlying t with
  | some (.slice e) => match sizeT P e, zeroT P e with
    | some s, some z => if len * s ≤ 16777216 ∧ (cellsA z).length = s then
        (match P.info? e with
        | some ie => match ie.zero with
          | some z => match fillS (fun i => some (i * s, s)) (zerosS (cellsS (ofV z)) len) parts with
            | some cells => match isByte P e with
              | true => (match Nat.beq s 1 with
                | true => bytesK cells fun b => match b with
                  | [] => none
                  | b :: bs => newOb st (.byt ⟨⟨b :: bs⟩⟩ e) fun i st => k (.own i) st
                | false => none)
              | false => match goodT P e with
                | true => (match rowsOf P st.ob (lay P e) s len cells with
                  | some rows => newOb { st with ob := lend st.ob cells } (.arr e rows false) fun i st => k (.own i) st
                  | none => none)
                | false => none
            | none => none
          | none => none
        | none => none) else none
    | _, _ => none
  | _ => none
def addB (ob : Tr SOb) : SV → Option ByteArray
  | .sc (.string s) => some s
  | .own j => match ob.get j with
    | some (.byt s _) => some s
    | _ => none
  | .sc (.slice none 0 0) => some .empty
  | _ => none
def appendS (st : SSt) (e : TypeId) (x y : SV) (k : SV → SSt → Option ρ) : Option ρ :=
  match goodT P e, bytesT P e with
  | true, some (by_ + 1) =>
    match isByte P e with
    | true => (match sizeT P e with
      | some 1 =>
        (match addB st.ob y with
        | none => none
        | some new => match x with
          | .sc (.slice none 0 0) => fits new.size (by_ + 1) (newOb st (.byt new e) fun i st => k (.own i) st)
          | .own i => (match st.ob.get i with
            | some (.byt s t) => if t = e then fits (s.size + new.size) (by_ + 1) (newOb { st with ob := st.ob.put i .gone } (.byt (s ++ new) e) fun i st => k (.own i) st) else none
            | _ => none)
          | _ => none)
      | _ => none)
    | false =>
      match asData st.ob e y with
      | none => none
      | some new => match x with
        | .sc (.slice none 0 0) => fits new.length (by_ + 1) (newOb { st with ob := lend st.ob [y] } (.arr e new false) fun i st => k (.own i) st)
        | .own i => (match (lend st.ob [y]).get i with
          | some (.arr t rows lent) => if t = e then fits (rows.length + new.length) (by_ + 1) (newOb { st with ob := (lend st.ob [y]).put i .gone } (.arr e (rows ++ new) lent) fun i st => k (.own i) st) else none
          | _ => none)
        | _ => none
  | _, _ => none
def lenS (st : SSt) : SV → Option Int
  | .sc (.slice none 0 0) => some 0
  | .dl _ r => some r.length
  | .own i => match st.ob.get i with
    | some (.arr _ r _) => some r.length
    | some (.byt s _) => some s.size
    | _ => none
  | .sc (.string s) => some s.size
  | _ => none
def isStrS : SV → Bool
  | .sc (.string _) => true
  | _ => false
def intS : SV → Option Int
  | .sc (.int _ n) => some n
  | _ => none
def indexAddrS (st : SSt) (t : TypeId) (x i : SV) (k : SV → Option ρ) : Option ρ :=
  match P.underlying t, i with
  | some (.slice e), .sc (.int _ n) => match x with
    | .dl t' rows => if t' = e then geti rows n fun r => k (.prow e r 0) else none
    | .own j => match st.ob.get j with
      | some (.arr t' rows _) => if t' = e then geti rows n fun _ => k (.eref j n.toNat 0) else none
      | _ => none
    | _ => none
  | some (.array len e), .sc (.int _ n) => match sizeT P e, x with
    | some s, .ref j off => if 0 ≤ n ∧ n.toNat < len then k (.ref j (off + n.toNat * s)) else none
    | _, _ => none
  | _, _ => none
def subl {α β : Type} (l : List α) (lo hi : Int) (k : List α → Option β) : Option β := match decide (0 ≤ lo ∧ lo ≤ hi ∧ hi ≤ l.length) with
  | true => k ((l.drop lo.toNat).take (hi.toNat - lo.toNat))
  | false => none
def subs {β : Type} (s : ByteArray) (lo hi : Int) (k : ByteArray → Option β) : Option β := match decide (0 ≤ lo ∧ lo ≤ hi ∧ hi ≤ s.size) with
  | true => k (s.extract lo.toNat hi.toNat)
  | false => none
def head {β : Type} (s : ByteArray) (n : Int) (k : ByteArray → Option β) : Option β := match decide (0 < n ∧ n ≤ s.size ∧ n ≤ 9223372036854775807) with
  | true => k (s.extract 0 n.toNat)
  | false => none
def sliceS (st : SSt) (t : TypeId) (x : SV) (lo hi mx : Option SV) (k : SV → SSt → Option ρ) : Option ρ :=
  match (match lo with | none => some (0 : Int) | some v => intS v) with
  | none => none
  | some l => match (match hi with | none => lenS st x | some v => intS v) with
    | none => none
    | some h => match mx with
      | some _ => none
      | none => match P.underlying t, x with
        | some (.slice e), .dl t' rows => if t' = e ∧ (sizeT P e).isSome = true then subl rows l h fun r => k (.dl e r) st else none
        | some (.slice e), .own j => (match st.ob.get j with
          | some (.arr t' rows _) => if t' = e ∧ (sizeT P e).isSome = true then subl rows l h fun r => k (.dl e r) { st with ob := lend st.ob [x] } else none
          | _ => none)
        | some .string, .sc (.string s) => subs s l h fun r => k (.sc (.string r)) st
        | _, _ => none
def eqS (t : TypeId) (x y : SV) : Option Bool :=
  match P.underlying t, x, y with
  | some (.slice _), .dl _ r, .sc (.slice none 0 0) => match r with
    | _ :: _ => some false
    | [] => none
  | some (.pointer _), .ref _ _, .sc (.pointer none) => some false
  | some (.pointer _), .opt b (.ref _ _), .sc (.pointer none) => some !b
  | some (.pointer e), .ref i o, .ref j o' => match sizeT P e, Nat.beq i j with
    | some (_ + 1), true => some (o == o')
    | _, _ => none
  | _, _, _ => none
def scat {β : Type} (a b : ByteArray) (k : ByteArray → Option β) : Option β := match decide (((a.size + b.size : Nat) : Int) > IntKind.i64.max) with
  | true => none
  | false => k (a ++ b)
def beqS (a b : ByteArray) : Bool := a.toList == b.toList
def ltS (a b : ByteArray) : Bool := Op.bytesLess a.toList b.toList
def intK (op : BinOp) (kd : IntKind) (a b : Int) (k : SV → Option ρ) : Option ρ :=
  match op with
  | .add => k (.sc (.int kd (kd.wrap (a + b))))
  | .sub => k (.sc (.int kd (kd.wrap (a - b))))
  | .mul => k (.sc (.int kd (kd.wrap (a * b))))
  | .quo => match decide (b = 0) with
    | true => none
    | false => k (.sc (.int kd (kd.wrap (a.tdiv b))))
  | .rem => match decide (b = 0) with
    | true => none
    | false => k (.sc (.int kd (a.tmod b)))
  | .eql => k (.sc (.bool (a == b)))
  | .neq => k (.sc (.bool (a != b)))
  | .lss => k (.sc (.bool (decide (a < b))))
  | .leq => k (.sc (.bool (decide (a ≤ b))))
  | .gtr => k (.sc (.bool (decide (a > b))))
  | .geq => k (.sc (.bool (decide (a ≥ b))))
  | _ => none
def strK (op : BinOp) (a b : ByteArray) (k : SV → Option ρ) : Option ρ :=
  match op with
  | .add => scat a b fun s => k (.sc (.string s))
  | .eql => k (.sc (.bool (beqS a b)))
  | .neq => k (.sc (.bool !(beqS a b)))
  | .lss => k (.sc (.bool (ltS a b)))
  | .leq => k (.sc (.bool (ltS a b || beqS a b)))
  | .gtr => k (.sc (.bool !(ltS a b || beqS a b)))
  | .geq => k (.sc (.bool !(ltS a b)))
  | _ => none
def binK (op : BinOp) (t : TypeId) (x y : SV) (k : SV → Option ρ) : Option ρ :=
  match x, y with
  | .sc (.int kd a), .sc (.int kd' b) => if kd = kd' then intK op kd a b k else none
  | .sc (.string a), .sc (.string b) => strK op a b k
  | .sc (.bool a), .sc (.bool b) => (match op, P.underlying t with
    | .eql, some .bool => k (.sc (.bool (a == b)))
    | .neq, some .bool => k (.sc (.bool !(a == b)))
    | _, _ => none)
  | .opt b (.ref i o), .ref j o' => sIte b (match op, eqS P t (.ref i o) (.ref j o') with
    | .eql, some b => k (.sc (.bool b))
    | .neq, some b => k (.sc (.bool !b))
    | _, _ => none) none
  | x, y => match op with
    | .eql => (match eqS P t x y with
      | some b => k (.sc (.bool b))
      | none => none)
    | .neq => (match eqS P t x y with
      | some b => k (.sc (.bool !b))
      | none => none)
    | _ => none
inductive LT where
  | int | bool | str | rows
abbrev LT.ty : LT → Type
  | .int => Int
  | .bool => Bool
  | .str => ByteArray
  | .rows => List (List AV)
def RT : List LT → Type
  | [] => Unit
  | [a] => a.ty
  | a :: b :: l => a.ty × RT (b :: l)
inductive Sh where
  | int (k : IntKind)
  | bool
  | str
  | dl (t : TypeId)
  | own (t : TypeId) (lent : Bool)
  | byt (t : TypeId)
  | opt (v : SV)
  | cst (v : SV)
  | unk
def Sh.lt : Sh → Option LT
  | .int _ => some .int
  | .bool => some .bool
  | .str => some .str
  | .dl _ => some .rows
  | .own _ _ => some .rows
  | .byt _ => some .str
  | .opt _ => some .bool
  | .cst _ => none
  | .unk => none
def ltsOf : List Sh → List LT
  | [] => []
  | s :: ss => match s.lt with
    | some a => a :: ltsOf ss
    | none => ltsOf ss
def RT.cons {a : LT} : {l : List LT} → a.ty → RT l → RT (a :: l)
  | [], x, _ => x
  | _ :: _, x, y => (x, y)
def RT.head {a : LT} : {l : List LT} → RT (a :: l) → a.ty
  | [], x => x
  | _ :: _, x => x.1
def RT.tail {a : LT} : {l : List LT} → RT (a :: l) → RT l
  | [], _ => ()
  | _ :: _, x => x.2
def eqv : SV → SV → Bool
  | .ref i o, .ref j o' => Nat.beq i j && Nat.beq o o'
  | .fn f [], .fn g [] => Nat.beq f g
  | .sc (.pointer none), .sc (.pointer none) => true
  | .sc .nilIface, .sc .nilIface => true
  | .sc .nilFunc, .sc .nilFunc => true
  | .unk, .unk => true
  | _, _ => false
def encB (ob : Tr SOb) (t : TypeId) : SV → Option ByteArray
  | .sc (.slice none 0 0) => some .empty
  | .own i => match ob.get i with
    | some (.byt s t') => if t' = t then some s else none
    | _ => none
  | _ => none
def freeOwn (ob : Tr SOb) (lent : Bool) : SV → Bool
  | .sc (.slice none 0 0) => true
  | .own i => match ob.get i with
    | some (.arr _ _ l) => lent || !l
    | some (.byt _ _) => true
    | _ => false
  | _ => false
def encs (ob : Tr SOb) : (shs : List Sh) → List SV → Option (RT (ltsOf shs))
  | [], [] => some ()
  | .int k :: ss, .sc (.int k' n) :: vs => if k = k' then (encs ob ss vs).map fun r => RT.cons (a := .int) n r else none
  | .bool :: ss, .sc (.bool b) :: vs => (encs ob ss vs).map fun r => RT.cons (a := .bool) b r
  | .str :: ss, .sc (.string s) :: vs => (encs ob ss vs).map fun r => RT.cons (a := .str) s r
  | .dl t :: ss, v :: vs => match asData ob t v, encs ob ss vs with
    | some x, some r => some (RT.cons (a := .rows) x r)
    | _, _ => none
  | .own t lent :: ss, v :: vs => match freeOwn ob lent v && goodT P t && !isByte P t, asData ob t v, encs ob ss vs with
    | true, some x, some r => some (RT.cons (a := .rows) x r)
    | _, _, _ => none
  | .byt t :: ss, v :: vs => match isByte P t, encB ob t v, encs ob ss vs with
    | true, some x, some r => some (RT.cons (a := .str) x r)
    | _, _, _ => none
  | .opt w :: ss, .opt b v :: vs => match eqv v w with
    | true => (encs ob ss vs).map fun r => RT.cons (a := .bool) b r
    | false => none
  | .opt _ :: ss, .sc (.pointer none) :: vs => (encs ob ss vs).map fun r => RT.cons (a := .bool) false r
  | .opt w :: ss, .ref i o :: vs => match eqv (.ref i o) w with
    | true => (encs ob ss vs).map fun r => RT.cons (a := .bool) true r
    | false => none
  | .cst w :: ss, v :: vs => match eqv v w with
    | true => encs ob ss vs
    | false => none
  | .unk :: ss, _ :: vs => encs ob ss vs
  | _, _ => none
def decs : (shs : List Sh) → RT (ltsOf shs) → SSt → List SV × SSt
  | [], _, st => ([], st)
  | .int k :: ss, r, st => let p := decs ss (RT.tail (a := .int) r) st; (.sc (.int k (RT.head (a := .int) r)) :: p.1, p.2)
  | .bool :: ss, r, st => let p := decs ss (RT.tail (a := .bool) r) st; (.sc (.bool (RT.head (a := .bool) r)) :: p.1, p.2)
  | .str :: ss, r, st => let p := decs ss (RT.tail (a := .str) r) st; (.sc (.string (RT.head (a := .str) r)) :: p.1, p.2)
  | .dl t :: ss, r, st => let p := decs ss (RT.tail (a := .rows) r) st; (.dl t (RT.head (a := .rows) r) :: p.1, p.2)
  | .own t l :: ss, r, st => let p := decs ss (RT.tail (a := .rows) r) { st with ob := st.ob.put st.nx (.arr t (RT.head (a := .rows) r) l), nx := st.nx + 1 }; (.own st.nx :: p.1, p.2)
  | .byt t :: ss, r, st => let p := decs ss (RT.tail (a := .str) r) { st with ob := st.ob.put st.nx (.byt (RT.head (a := .str) r) t), nx := st.nx + 1 }; (.own st.nx :: p.1, p.2)
  | .opt w :: ss, r, st => let p := decs ss (RT.tail (a := .bool) r) st; (.opt (RT.head (a := .bool) r) w :: p.1, p.2)
  | .cst w :: ss, r, st => let p := decs ss r st; (w :: p.1, p.2)
  | .unk :: ss, r, st => let p := decs ss r st; (.unk :: p.1, p.2)
structure SRec where
  call : (f : FuncId) → (args : List SV) → (obs : List SOb) → (shs : List Sh) → Option (RT (ltsOf shs))
  jump : (f : FuncId) → (key : Nat) → (shs : List Sh) → (nb : Nat) → (tms : List SV) → (obs : List SOb) → Option (RT (ltsOf shs))
structure Ann where
  cut : FuncId → Nat → Option (List (Tmp × Nat × TypeId))
  own : FuncId → Nat
  bx : TypeId → Nat
  kn : FuncId → Option (List SV → Option (Bool × SV))
mutual
def idsV : SV → List Nat
  | .ref i _ => [i]
  | .own i => [i]
  | .eref i _ _ => [i]
  | .bref i => [i]
  | .opt _ v => idsV v
  | .fn _ cs => idsVs cs
  | .agg cs => idsVs cs
  | .tup cs => idsVs cs
  | .ifc _ v => idsV v
  | _ => []
def idsVs : List SV → List Nat
  | [] => []
  | v :: vs => idsV v ++ idsVs vs
end
def idsO : SOb → List Nat
  | .box _ cs => idsVs cs
  | _ => []
def hasN : List Nat → Nat → Bool
  | [], _ => false
  | y :: ys, x => Nat.beq x y || hasN ys x
def idx : List Nat → Nat → Option Nat
  | [], _ => none
  | y :: ys, x => match Nat.beq x y with
    | true => some 0
    | false => (idx ys x).map (· + 1)
def gather (ob : Tr SOb) : Nat → List Nat → List Nat → List Nat
  | 0, _, acc => acc
  | _, [], acc => acc
  | n + 1, i :: is, acc => match hasN acc i with
    | true => gather ob n is acc
    | false => gather ob n (is ++ (match ob.get i with
      | some x => idsO x
      | none => [])) (acc ++ [i])
mutual
def renV (L : List Nat) : SV → SV
  | .ref i o => (match idx L i with
    | some j => .ref j o
    | none => .unk)
  | .own i => (match idx L i with
    | some j => .own j
    | none => .unk)
  | .opt b v => .opt b (renV L v)
  | .fn f cs => .fn f (renVs L cs)
  | .agg cs => .agg (renVs L cs)
  | .tup cs => .tup (renVs L cs)
  | .ifc t v => .ifc t (renV L v)
  | .eref _ _ _ => .unk
  | .bref _ => .unk
  | v => v
def renVs (L : List Nat) : List SV → List SV
  | [] => []
  | v :: vs => renV L v :: renVs L vs
end
def frz (ob : Tr SOb) : SV → SV
  | .own i => match ob.get i with
    | some (.arr t r _) => .dl t r
    | _ => .unk
  | v => v
def frzA (ob : Tr SOb) : SV → SV
  | .agg cs => .agg (cs.map (frz ob))
  | v => frz ob v
section
variable (A : Ann)
def newOwn (st : SSt) (e : TypeId) : SV × SSt := match isByte P e, goodT P e with
  | true, _ => (.own st.nx, { st with ob := st.ob.put st.nx (.byt .empty e), nx := st.nx + 1 })
  | false, true => (.own st.nx, { st with ob := st.ob.put st.nx (.arr e [] false), nx := st.nx + 1 })
  | false, false => (.unk, st)
def cellIn (m : Nat) (i : Nat) (l : Lf) (v : SV) (st : SSt) : SV × SSt := match l, v with
  | .sl e, .sc (.slice none 0 0) => (match m with
    | 1 => (.dl e [], st)
    | _ => newOwn P st e)
  | .sl _, .own j => (match m with
    | 1 => (frz st.ob (.own j), { st with ob := lend st.ob [.own j] })
    | _ => (v, st))
  | .no, .sc (.pointer none) => (match m with
    | 2 => (.opt false (.ref i 0), st)
    | _ => (v, st))
  | .no, .ref j o => (match m with
    | 2 => (.opt true (.ref j o), st)
    | _ => (v, st))
  | _, v => (v, st)
def boxIn (m : Nat) (i : Nat) : List Lf → List SV → SSt → List SV × SSt
  | l :: ls, v :: vs, st => ((cellIn P m i l v st).1 :: (boxIn m i ls vs (cellIn P m i l v st).2).1, (boxIn m i ls vs (cellIn P m i l v st).2).2)
  | _, vs, st => (vs, st)
def boxesIn : List Nat → SSt → SSt
  | [], st => st
  | i :: is, st => match st.ob.get i with
    | some (.box t cs) =>
      let p := boxIn P (A.bx t) i (lay P t) cs st
      boxesIn is (match okCs p.1 with
        | true => { p.2 with ob := p.2.ob.put i (.box t p.1) }
        | false => p.2)
    | _ => boxesIn is st
def obsOf (ob : Tr SOb) (L : List Nat) : List Nat → List SOb
  | [] => []
  | i :: is => (match ob.get i with
    | some (.box t cs) => .box t (renVs L cs)
    | some x => x
    | none => .gone) :: obsOf ob L is
def nodup : List Nat → Bool
  | [] => true
  | x :: xs => !hasN xs x && nodup xs
def ownsV : SV → List Nat
  | .own i => [i]
  | _ => []
def ownsO : List SOb → List Nat
  | [] => []
  | .box _ cs :: os => cs.flatMap ownsV ++ ownsO os
  | _ :: os => ownsO os
def okObs : List SOb → Bool
  | [] => true
  | .box _ cs :: os => okCs cs && okObs os
  | _ :: os => okObs os
def noGone : List SOb → Bool
  | [] => true
  | .gone :: _ => false
  | _ :: os => noGone os
def canonS (st : SSt) (vals : List SV) (pre : List Nat) : Option (List SV × List SOb × List Nat × SSt) :=
  let st2 := boxesIn P A (gather st.ob 200 (pre ++ idsVs vals) []) st
  let L := gather st2.ob 200 (pre ++ idsVs vals) []
  let obs := obsOf st2.ob L L
  match nodup L && okObs obs with
  | true => some (renVs L vals, obs, L, st2)
  | false => none
def isPre : List Nat → List Nat → Bool
  | [], _ => true
  | _, [] => false
  | x :: xs, y :: ys => Nat.beq x y && isPre xs ys
def knownSh : List Sh → Bool
  | [] => true
  | .unk :: _ => false
  | _ :: ss => knownSh ss
def shV (obs : List SOb) : SV → Sh
  | .sc (.int k _) => .int k
  | .sc (.bool _) => .bool
  | .sc (.string _) => .str
  | .dl t _ => .dl t
  | .own i => match obs[i]? with
    | some (.arr t _ l) => .own t l
    | some (.byt _ t) => .byt t
    | _ => .unk
  | .opt _ v => .opt v
  | .ref i o => .cst (.ref i o)
  | .fn f [] => .cst (.fn f [])
  | .sc v => .cst (.sc v)
  | _ => .unk
def shBoxes (obs : List SOb) : List SOb → List Sh
  | [] => []
  | .box _ cs :: os => cs.map (shV obs) ++ shBoxes obs os
  | _ :: os => shBoxes obs os
def shLeafs (m : Nat) : List Lf → List Sh
  | [] => []
  | .int k :: ls => .int k :: shLeafs m ls
  | .bool :: ls => .bool :: shLeafs m ls
  | .str :: ls => .str :: shLeafs m ls
  | .sl t :: ls => (match m with
    | 0 => .dl t
    | m + 1 => match isByte P t with
      | true => .byt t
      | false => .own t (Nat.beq m 0)) :: shLeafs m ls
  | .no :: ls => .unk :: shLeafs m ls
def shRes (m : Nat) : List TypeId → List Sh
  | [] => []
  | t :: ts => shLeafs P m (lay P t) ++ shRes m ts
def resVals : List TypeId → List SV → List SV
  | [], _ => []
  | t :: ts, vs =>
    let n := (lay P t).length
    (match isAggT P t with
     | some true => .agg (vs.take n)
     | _ => (vs.take n).headD .unk) :: resVals ts (vs.drop n)
def goneAll (ob : Tr SOb) : List Nat → Tr SOb
  | [] => ob
  | i :: is => goneAll (ob.put i .gone) is
def backS : List Nat → List SOb → List SV → Tr SOb → Tr SOb
  | i :: is, .box t cs :: os, vs, ob => backS is os (vs.drop cs.length) (ob.put i (.box t (vs.take cs.length)))
  | _ :: is, _ :: os, vs, ob => backS is os vs ob
  | _, _, _, ob => ob
mutual
def unrenV (L : List Nat) : SV → SV
  | .ref i o => (match L[i]? with
    | some j => .ref j o
    | none => .unk)
  | .opt b v => .opt b (unrenV L v)
  | .fn f cs => .fn f (unrenVs L cs)
  | v => v
def unrenVs (L : List Nat) : List SV → List SV
  | [] => []
  | v :: vs => unrenV L v :: unrenVs L vs
end
def callS (R : SRec) (st : SSt) (f : FuncId) (args : List SV) (k : SV → SSt → Option ρ) : Option ρ :=
  match P.funcs[f]? with
  | none => none
  | some fn => match A.kn f with
   | some g => (match g (args.map (frzA st.ob)) with
    | some (b, v) => sIte b (k v { st with ob := lend st.ob (args.flatMap cellsS) }) none
    | none => none)
   | none => match canonS P A { st with ob := lend st.ob (args.flatMap cellsS) } (args.map (frzA st.ob)) [] with
    | none => none
    | some (vals, obs, L, st2) => match knownSh (shBoxes obs obs) && noGone obs with
      | false => none
      | true =>
        ask (R.call f vals obs (shRes P (A.own f) fn.resultTypes.toList ++ shBoxes obs obs)) fun r =>
          let p := decs (shRes P (A.own f) fn.resultTypes.toList ++ shBoxes obs obs) r { st2 with ob := goneAll st2.ob L }
          let n := (shRes P (A.own f) fn.resultTypes.toList).length
          let us := unrenVs L p.1
          match okCs (us.drop n) with
          | false => none
          | true => k (match resVals P fn.resultTypes.toList (us.take n) with
            | [v] => v
            | vs => .tup vs) { p.2 with ob := backS L obs (us.drop n) p.2.ob }
def cut1 (m : Nat) (e : TypeId) (v : SV) (st : SSt) : SV × SSt := match m, v with
  | 2, .sc (.slice none 0 0) => newOwn P st e
  | 1, .sc (.slice none 0 0) => (.dl e [], st)
  | 1, .own i => (frz st.ob (.own i), { st with ob := lend st.ob [.own i] })
  | _, v => (v, st)
def cutIn (tm : Tr SV) : List (Tmp × Nat × TypeId) → SSt → List SV × SSt
  | [], st => ([], st)
  | (t, m, e) :: ts, st => ((cut1 P m e (evS tm (.tmp t)) st).1 :: (cutIn tm ts (cut1 P m e (evS tm (.tmp t)) st).2).1, (cutIn tm ts (cut1 P m e (evS tm (.tmp t)) st).2).2)
def upto : Nat → List Nat
  | 0 => []
  | n + 1 => upto n ++ [n]
def jumpS (R : SRec) (f : FuncId) (key : Nat) (shs : List Sh) (nb : Nat) (st : SSt) : Option (RT (ltsOf shs)) :=
  match A.cut f key with
  | none => none
  | some ts =>
    let p := cutIn P st.tm ts st
    match canonS P A p.2 p.1 (upto nb) with
    | none => none
    | some (vals, obs, L, _) => match isPre (upto nb) L with
      | true => R.jump f key shs nb vals obs
      | false => none
def optS (st : SSt) : Option Operand → Option SV
  | none => none
  | some o => some (evS st.tm o)
def builtinS (st : SSt) (b : Builtin) (ats : Array TypeId) (args : List SV) (k : SV → SSt → Option ρ) : Option ρ :=
  match b, args with
  | .append, [x, y] => match ats[0]?, ats[1]? with
    | some t, some t' => match P.underlying t, P.underlying t' with
      | some (.slice e), some (.slice _) => appendS P st e x y k
      | some (.slice e), some .string => appendS P st e x y k
      | _, _ => none
    | _, _ => none
  | .len, [x] => match lenS st x, ats[0]? with
    | some n, some t => (match P.underlying t, isStrS x with
      | some (.slice _), false => k (.sc (.int .i64 n)) st
      | some .string, true => k (.sc (.int .i64 n)) st
      | _, _ => none)
    | _, _ => none
  | .unsafeSliceData, [.own i] => match st.ob.get i with
    | some (.byt s _) => sIte (decide (0 < s.size)) (k (.bref i) st) (k (.sc (.pointer none)) st)
    | _ => none
  | .unsafeSliceData, [.sc (.slice none 0 0)] => k (.sc (.pointer none)) st
  | .unsafeString, [.sc (.pointer none), .sc (.int _ n)] => sIte (n == 0) (match ats[0]? with
    | some _ => k (.sc (.string .empty)) st
    | none => none) none
  | .unsafeString, [.bref i, .sc (.int _ n)] => match st.ob.get i, ats[0]? with
    | some (.byt s t), some pt => match P.underlying pt with
      | some (.pointer u) => match sizeT P u with
        | some 1 => if t = u then head s n fun r => k (.sc (.string r)) st else none
        | _ => none
      | _ => none
    | _, _ => none
  | _, _ => none
def undefS : SV → Bool
  | .tup [] => true
  | _ => false
def anyUndef (tm : Tr SV) : List Operand → Bool
  | [] => false
  | x :: xs => undefS (evS tm x) || anyUndef tm xs
def opS1 (R : SRec) (o : Oper) (st : SSt) (k : SV → SSt → Option ρ) : Option ρ :=
  let e := evS st.tm
  match o.op with
  | .alloc t => match P.info? t with
    | some i => match i.zero with
      | some z => (match okCs (cellsS (ofV z)) with
        | true => newOb st (.box t (cellsS (ofV z))) fun i st => k (.ref i 0) st
        | false => none)
      | none => none
    | none => none
  | .box t x => match okCs (cellsS (e x)) with
    | true => newOb st (.box t (cellsS (e x))) fun i st => k (.ref i 0) st
    | false => none
  | .build t parts => match buildS P t (parts.toList.map fun (i, x) => (i, e x)) with
    | some v => k v st
    | none => none
  | .buildSlice t len parts => buildSliceS P st t len (parts.toList.map fun (i, x) => (i, e x)) k
  | .load t a => loadS P st t (e a) fun v => k v st
  | .store t a x => storeS P st t (e a) (e x) fun st => k (.tup []) st
  | .nilCheck x => match e x with
    | .ref i o => k (.ref i o) st
    | .eref i j o => k (.eref i j o) st
    | .prow t r o => k (.prow t r o) st
    | .fn f cs => k (.fn f cs) st
    | .opt b (.ref i o) => sIte b (k (.ref i o) st) none
    | _ => none
  | .binOp op t x y _ => binK P op t (e x) (e y) fun v => k v st
  | .unOp op _ x => match op, e x with
    | .not, .sc (.bool b) => k (.sc (.bool !b)) st
    | .neg, .sc (.int kd n) => k (.sc (.int kd (kd.wrap (0 - n)))) st
    | _, _ => none
  | .convert s d x => match e x with
    | .sc (.int _ n) => (match P.underlying s, P.underlying d with
      | some (.int _), some (.int kd) => k (.sc (.int kd (kd.wrap n))) st
      | _, _ => none)
    | .sc (.string v) => (match P.underlying s, P.underlying d with
      | some .string, some .string => k (.sc (.string v)) st
      | _, _ => none)
    | .sc (.pointer none) => (match P.underlying s, P.underlying d with
      | some (.pointer _), some .unsafePointer => k (.sc (.pointer none)) st
      | some .unsafePointer, some .unsafePointer => k (.sc (.pointer none)) st
      | some .unsafePointer, some (.pointer _) => k (.sc (.pointer none)) st
      | _, _ => none)
    | .ref i o => (match st.ob.get i, P.underlying s, P.underlying d with
      | some (.box _ cs), some (.pointer t), some .unsafePointer => (match sizeT P t with
        | some (_ + 1) => if o + 1 ≤ cs.length then k (.ref i o) st else none
        | _ => none)
      | some (.box t cs), some .unsafePointer, some (.pointer u) => (match sizeT P u with
        | some (_ + 1) => if o + 1 ≤ cs.length then (match liesAt P P.depth t (cs.length / P.cellsOf t) o u 1 with
          | true => k (.ref i o) st
          | false => none) else none
        | _ => none)
      | _, _, _ => none)
    | .own i => (match P.underlying s, P.underlying d, st.ob.get i with
      | some (.slice e), some .string, some (.byt b _) => (match isByte P e with
        | true => k (.sc (.string b)) st
        | false => none)
      | _, _, _ => none)
    | _ => none
  | .makeInterface t x => match P.underlying t with
    | some (.interface _) => none
    | some _ => k (.ifc t (e x)) st
    | none => none
  | .makeFunc fn first caps => match fn, first.toList with
    | .func f, [] => k (.fn f (caps.toList.map e)) st
    | _, _ => none
  | .slice t x lo hi mx => sliceS P st t (e x) (optS st lo) (optS st hi) (optS st mx) k
  | .fieldAddr t x f => match fieldAddrS P t (e x) f with
    | some v => k v st
    | none => none
  | .field t x f => match fieldS P t (e x) f with
    | some v => k v st
    | none => none
  | .indexAddr t x i => indexAddrS P st t (e x) (e i) fun v => k v st
  | .index t x i => match P.underlying t, e x, e i with
    | some .string, .sc (.string s), .sc (.int _ n) => gets s n fun b => k (.sc (.int .u8 b)) st
    | some (.array len el), .agg cs, .sc (.int _ n) => idxA P el len cs n fun v => k v st
    | _, _, _ => none
  | .extract t i => match e t with
    | .tup vs => match vs[i]? with
      | some v => k v st
      | none => none
    | _ => none
  | .call c => match c.callee with
    | .builtin b => builtinS P st b c.argTypes (c.args.toList.map e) k
    | .invoke _ _ => none
    | .value f => match e f with
      | .fn f caps => (match P.funcs[f]? with
        | some fn => (match fn.body with
          | some _ => callS P A R st f (c.args.toList.map e ++ caps) k
          | none => match extKind fn, c.args.toList.map e ++ caps with
            | 1, [x] => k x st
            | _, _ => none)
        | none => none)
      | _ => none
  | _ => none
def refine (d : Tmp) (t : Bool) : List (Tmp × Tmp) → Tr SV → Tr SV
  | [], tm => tm
  | (x, y) :: l, tm => match Nat.beq y d with
    | true => refine d t l (tm.put x (.sc (.bool t)))
    | false => match Nat.beq x d with
      | true => refine d t l (tm.put y (.sc (.bool t)))
      | false => refine d t l tm
def known (st : SSt) (d : Tmp) (t : Bool) : SSt := { st with tm := refine d t st.al (st.tm.put d (.sc (.bool t))) }
def dropAl (d : Tmp) : List (Tmp × Tmp) → List (Tmp × Tmp)
  | [] => []
  | (x, y) :: l => match Nat.beq x d || Nat.beq y d with
    | true => dropAl d l
    | false => (x, y) :: dropAl d l
def putS (st : SSt) (dst : Option Tmp) (v : SV) : SSt := match dst with
  | some d => { st with tm := st.tm.put d v, al := dropAl d st.al }
  | none => st
def moveS (st : SSt) (dst : Option Tmp) (x : Operand) : SSt :=
  let v := evS st.tm x
  let st1 := putS st dst v
  match dst, x, v with
  | some d, .tmp s, .sc (.bool _) => match Nat.beq d s with
    | true => st1
    | false => { st1 with al := (d, s) :: st1.al }
  | _, _, _ => st1
def opS (R : SRec) (o : Oper) (st : SSt) (k : SSt → Option ρ) : Option ρ :=
  match o.op with
  | .move x | .assign x => k (moveS st o.dst x)
  | .pick c a b => match c with
    | .tmp d => match st.tm.get d with
      | some (.sc (.bool t)) => sIte t (k (moveS (known st d true) o.dst a)) (k (moveS (known st d false) o.dst b))
      | _ => none
    | .const (.bool t) => k (moveS st o.dst (match t with | true => a | false => b))
    | _ => none
  | _ => match anyUndef st.tm o.op.operands.toList with
    | true => none
    | false => opS1 P A R o st fun v st => k (putS st o.dst v)
def guardS (ops : Array Oper) (o : Oper) (st : SSt) (run : SSt → Option ρ) (skip : SSt → Option ρ) : Option ρ :=
  match o.guard with
  | none => run st
  | some (j, want) => match (ops[j]?).bind (·.dst) with
    | some d => match st.tm.get d with
      | some (.sc (.bool b)) => (match want with
        | true => sIte b (run (known st d true)) (skip (known st d false))
        | false => sIte b (skip (known st d true)) (run (known st d false)))
      | some (.tup []) => skip st
      | _ => none
    | none => none
def opsS (R : SRec) (ops : Array Oper) : List Oper → SSt → (SSt → Option ρ) → Option ρ
  | [], st, k => k { st with al := [] }
  | o :: rest, st, k => guardS ops o st (fun st => opS P A R o st fun st => opsS R ops rest st k) (fun st => opsS R ops rest (putS st o.dst (.tup [])) k)
def pureCall (st : SSt) (o : Oper) : Bool := match o.op with
  | .call c => (match c.callee with
    | .value f => (match evS st.tm f with
      | .fn _ caps => (match idsVs ((c.args.toList.map (evS st.tm) ++ caps).map (frzA st.ob)) with
        | [] => true
        | _ => false)
      | _ => false)
    | _ => false)
  | _ => false
def opsD (R : SRec) (ops : Array Oper) : List Oper → Nat → List Nat → List Nat → SSt → (List Nat → List Nat → SSt → Option ρ) → Option ρ
  | [], _, es, fs, st, k => k es fs { st with al := [] }
  | o :: rest, i, es, fs, st, k => guardS ops o st
      (fun st => opS P A R o st fun st' => opsD R ops rest (i + 1) (match isA o.op || isF o.op || pureCall st o with
        | true => es
        | false => i :: es) (match isF o.op && looksA o.op with
        | true => i :: fs
        | false => fs) st' k)
      (fun st => opsD R ops rest (i + 1) es fs (putS st o.dst (.tup [])) k)
def bookS (b : List Nat) (fs es : List Nat) : Bool := fs.all fun i => es.all fun j => (b.getD i 0).testBit j || (b.getD j 0).testBit i
def regS (R : SRec) (ops : Array Oper) (draw : Bool) (st : SSt) (k : SSt → Option ρ) : Option ρ := match draw with
  | false => opsS P A R ops ops.toList st k
  | true => opsD P A R ops ops.toList 0 [] [] st fun es fs st => match drawStatic ops && (match es with
      | [] => true
      | _ => bookS (ancs ops.toList []) fs es) with
    | true => k st
    | false => none
end
inductive SEx where
  | normal
  | exit (id : Nat)
  | ret
def keyIn (key : Nat) : Code → Bool
  | .seq a b => keyIn key a || keyIn key b
  | .cond _ a b => keyIn key a || keyIn key b
  | .block id b => Nat.beq (key / 2) id || keyIn key b
  | .loop b => keyIn key b
  | .scope b => keyIn key b
  | .region id _ _ => Nat.beq key (1000000 + id)
  | _ => false
def cntKey (key : Nat) : Code → Nat
  | .seq a b => cntKey key a + cntKey key b
  | .cond _ a b => cntKey key a + cntKey key b
  | .block id b => (match Nat.beq (key / 2) id with
    | true => 1
    | false => 0) + cntKey key b
  | .loop b => cntKey key b
  | .scope b => cntKey key b
  | .region id _ _ => (match Nat.beq key (1000000 + id) with
    | true => 1
    | false => 0)
  | _ => 0
def tmsOK (n : Nat) : Code → Bool
  | .seq a b => tmsOK n a && tmsOK n b
  | .cond _ a b => tmsOK n a && tmsOK n b
  | .block _ b => tmsOK n b
  | .loop b => tmsOK n b
  | .scope b => tmsOK n b
  | .region _ ops _ => ops.toList.all fun o => match o.dst with
    | some d => Nat.blt d n
    | none => true
  | _ => true
section
variable (A : Ann) (R : SRec) (f : FuncId) (shs : List Sh) (nb : Nat)
def codeS (bid : Option Nat) : Code → SSt → (SEx → SSt → Option (RT (ltsOf shs))) → Option (RT (ltsOf shs))
  | .skip, st, k => k .normal st
  | .label _, st, k => k .normal st
  | .region id ops draw, st, k => match A.cut f (1000000 + id) with
    | some _ => jumpS P A R f (1000000 + id) shs nb st
    | none => regS P A R ops draw st fun st => k .normal st
  | .seq a b, st, k => codeS none a st fun ex st => match ex with
    | .normal => codeS none b st k
    | ex => k ex st
  | .cond c a b, st, k => match evS st.tm c with
    | .sc (.bool t) => sIte t (codeS none a st k) (codeS none b st k)
    | _ => none
  | .block id body, st, k => codeS (some id) body st fun ex st => match (match ex with
      | .exit id' => Nat.beq id' id
      | .normal => true
      | .ret => false) with
    | true => (match A.cut f (2 * id + 1) with
      | some _ => jumpS P A R f (2 * id + 1) shs nb st
      | none => k .normal st)
    | false => k ex st
  | .loop _, st, _ => match bid with
    | some i => jumpS P A R f (2 * i) shs nb st
    | none => none
  | .exit id, st, k => k (.exit id) st
  | .scope body, st, k => codeS none body st k
  | .ret, st, k => k .ret st
  | _, _, _ => none
def fromS (key : Nat) (bid : Option Nat) : Code → SSt → (SEx → SSt → Option (RT (ltsOf shs))) → Option (RT (ltsOf shs))
  | .seq a b, st, k => match keyIn key a with
    | true => fromS key none a st fun ex st => match ex with
      | .normal => codeS P A R f shs nb none b st k
      | ex => k ex st
    | false => fromS key none b st k
  | .cond _ a b, st, k => match keyIn key a with
    | true => fromS key none a st k
    | false => fromS key none b st k
  | .block id body, st, k => match Nat.beq key (2 * id + 1) with
    | true => k .normal st
    | false => fromS key (some id) body st fun ex st => match (match ex with
        | .exit id' => Nat.beq id' id
        | .normal => true
        | .ret => false) with
      | true => (match A.cut f (2 * id + 1) with
        | some _ => jumpS P A R f (2 * id + 1) shs nb st
        | none => k .normal st)
      | false => k ex st
  | .loop body, st, k => match (match bid with
      | some i => Nat.beq key (2 * i)
      | none => false) with
    | true => codeS P A R f shs nb none body st fun ex st => match ex with
      | .normal => jumpS P A R f key shs nb st
      | ex => k ex st
    | false => fromS key none body st fun ex st => match ex with
      | .normal => (match bid with
        | some i => jumpS P A R f (2 * i) shs nb st
        | none => none)
      | ex => k ex st
  | .scope body, st, k => fromS key none body st k
  | .region _ ops draw, st, k => regS P A R ops draw st fun st => k .normal st
  | _, _, _ => none
def resVs (P : Program) (st : SSt) : List ResultVar → Option (List SV)
  | [] => some []
  | .tmp t :: rs => (resVs P st rs).map fun vs => evS st.tm (.tmp t) :: vs
  | .cell a t :: rs => match loadS P st t (evS st.tm (.tmp a)) some, resVs P st rs with
    | some v, some vs => some (v :: vs)
    | _, _ => none
def boxCells (ob : Tr SOb) : List Nat → List SV
  | [] => []
  | i :: is => match ob.get i with
    | some (.box _ cs) => cs ++ boxCells ob is
    | _ => boxCells ob is
def resLeafs (P : Program) : List TypeId → List SV → List SV
  | t :: ts, v :: vs => (match isAggT P t with
    | some true => cellsS v
    | _ => [v]) ++ resLeafs P ts vs
  | _, _ => []
def okRes (P : Program) : List TypeId → List SV → Bool
  | [], [] => true
  | t :: ts, v :: vs => (match isAggT P t, v with
    | some true, .agg cs => Nat.beq cs.length (lay P t).length
    | some true, _ => false
    | _, .agg _ => false
    | _, _ => Nat.beq (lay P t).length 1) && okRes P ts vs
  | _, _ => false
def finS (fn : Func) (ex : SEx) (st : SSt) : Option (RT (ltsOf shs)) :=
  match ex with
  | .exit _ => none
  | _ => match resVs P st fn.results.toList with
    | some vs =>
      let cs := resLeafs P fn.resultTypes.toList vs ++ boxCells st.ob (upto nb)
      match nodup (cs.flatMap ownsV) && okRes P fn.resultTypes.toList vs with
      | true => encs P st.ob shs cs
      | false => none
    | none => none
end
def putList {α : Type} : List α → Nat → Tr α → Tr α
  | [], _, t => t
  | x :: xs, i, t => putList xs (i + 1) (t.put i x)
def putTms (ts : List (Tmp × Nat × TypeId)) (vs : List SV) : Tr SV := match ts, vs with
  | (_, _) :: ts, .unk :: vs => putTms ts vs
  | (t, _) :: ts, v :: vs => (putTms ts vs).put t v
  | _, _ => .leaf
def recS (A : Ann) : Nat → SRec
  | 0 => ⟨fun _ _ _ _ => none, fun _ _ _ _ _ _ => none⟩
  | n + 1 => ⟨fun f args obs shs => match P.funcs[f]? with
    | some fn => match fn.body with
      | some code => match tmsOK fn.ntmps code && (A.kn f).isNone with
        | true => codeS P A (recS A n) f shs obs.length none code ⟨putList args 0 .leaf, putList obs 0 .leaf, obs.length, []⟩ (finS P shs obs.length fn)
        | false => none
      | none => none
    | none => none,
    fun f key shs nb tms obs => match P.funcs[f]? with
    | some fn => match fn.body with
      | some code => match A.cut f key with
        | some ts => (match tmsOK fn.ntmps code && Nat.beq (cntKey key code) 1 with
          | true => fromS P A (recS A n) f shs nb key none code ⟨putTms ts tms, putList obs 0 .leaf, obs.length, []⟩ (finS P shs nb fn)
          | false => none)
        | none => none
      | none => none
    | none => none⟩
end
end Go.AI
end

/-
  Known calls of the program: Join, Repeat of a blank, Itoa, keyed.
-/
section
namespace Go.AI
open Go
abbrev Rows := List (List AV)
abbrev bs (l : List UInt8) : ByteArray := ⟨⟨l⟩⟩
def txts (rows : Rows) : List (List UInt8) := rows.map fun r => (gS r 0).data.toList
def joinB (rows : Rows) (s : ByteArray) : ByteArray := bs (Lib.join (txts rows) s.data.toList)
def joinOK (rows : Rows) (s : ByteArray) : Bool := decide (rows.length ≤ 140737488355328 ∧ (Lib.join (txts rows) s.data.toList).length ≤ 140737488355328)
def knJoin : List SV → Option (Bool × SV)
  | [.dl 9 rows, .sc (.string s)] => some (joinOK rows s, .sc (.string (joinB rows s)))
  | _ => none
def blanks (n : Int) : ByteArray := bs (List.replicate n.toNat 32)
def blankOK (s : ByteArray) (n : Int) : Bool := beqS s (bs [32]) && (decide (n = 0) || (decide (n = 2) || decide (n = 4)))
def knRepeat : List SV → Option (Bool × SV)
  | [.sc (.string s), .sc (.int .i64 n)] => some (blankOK s n, .sc (.string (blanks n)))
  | _ => none
def itoaB (n : Int) : ByteArray := bs (Lib.itoa n)
def itoaOK (n : Int) : Bool := decide (0 ≤ n ∧ n ≤ 9223372036854775807)
def knItoa : List SV → Option (Bool × SV)
  | [.sc (.int .i64 n)] => some (itoaOK n, .sc (.string (itoaB n)))
  | _ => none
def keyedB (n : Int) : ByteArray :=
  if n = 1 then bs [116, 114, 117, 101] else
  if n = 2 then bs [102, 97, 108, 115, 101] else
  if n = 8 then bs [102, 111, 114, 97, 108, 108, 32] else
  if n = 9 then bs [101, 120, 105, 115, 116, 115, 32] else
  if n = 56 then bs [102, 117, 110, 32] else
  if n = 46 then bs [80, 79, 87] else
  if n = 47 then bs [99, 97, 114, 100] else
  if n = 48 then bs [109, 105, 110] else
  if n = 49 then bs [109, 97, 120] else
  if n = 50 then bs [100, 111, 109] else
  if n = 51 then bs [114, 97, 110] else
  bs []
def keyedOK (n : Int) : Bool := decide (0 ≤ n ∧ n < 57)
def knKeyed : List SV → Option (Bool × SV)
  | [.sc (.int .i64 n)] => some (keyedOK n, .sc (.string (keyedB n)))
  | _ => none
def knAwake : List SV → Option (Bool × SV)
  | [] => some (true, .sc (.bool true))
  | _ => none
def knF (f : FuncId) : Option (List SV → Option (Bool × SV)) := match f with
  | 5 => some knAwake
  | 19 => some knJoin
  | 88 => some knRepeat
  | 206 => some knKeyed
  | 210 => some knItoa
  | _ => none
end Go.AI
end

/-
  How much data lies in rows.
-/
section
namespace Go.AI
mutual
def wtA : AV → Nat
  | .sc (.string s) => s.size + 1
  | .isl rows _ => wtRs rows + 1
  | _ => 1
def wtR : List AV → Nat
  | [] => 0
  | c :: r => wtA c + wtR r
def wtRs : List (List AV) → Nat
  | [] => 0
  | r :: rs => wtR r + 1 + wtRs rs
end
end Go.AI
end
