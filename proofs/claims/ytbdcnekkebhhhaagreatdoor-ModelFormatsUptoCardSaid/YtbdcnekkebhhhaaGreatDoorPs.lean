/-
  The signs of operators.
-/
import Derived.KernelRfl
import Derived.Test.YtbdcnekkebhhhaaGreatDoorG
import Derived.Test.YtbdcnekkebhhhaaGreatDoorPa
set_option linter.all false

namespace Go.AI
open Go
def signB (op : Int) : ByteArray :=
  if op = 4 then bs [38] else
  if op = 5 then bs [111, 114] else
  if op = 6 then bs [61, 62] else
  if op = 7 then bs [60, 61, 62] else
  if op = 10 then bs [61] else
  if op = 11 then bs [47, 61] else
  if op = 12 then bs [60] else
  if op = 13 then bs [60, 61] else
  if op = 14 then bs [62] else
  if op = 15 then bs [62, 61] else
  if op = 16 then bs [105, 110] else
  if op = 17 then bs [110, 111, 116, 105, 110] else
  if op = 18 then bs [115, 117, 98] else
  if op = 22 then bs [43] else
  if op = 23 then bs [45] else
  if op = 24 then bs [42] else
  if op = 25 then bs [47] else
  if op = 26 then bs [109, 111, 100] else
  if op = 27 then bs [124, 45, 62] else
  if op = 30 then bs [46, 46] else
  if op = 31 then bs [92, 47] else
  if op = 32 then bs [47, 92] else
  if op = 33 then bs [92] else
  if op = 34 then bs [62, 60] else
  if op = 35 then bs [60, 43] else
  if op = 36 then bs [59] else
  if op = 37 then bs [60, 124] else
  if op = 38 then bs [60, 60, 124] else
  if op = 39 then bs [124, 62] else
  if op = 40 then bs [124, 62, 62] else
  if op = 41 then bs [60, 45, 62] else
  if op = 42 then bs [43, 45, 62] else
  if op = 43 then bs [45, 45, 62] else
  if op = 44 then bs [62, 45, 62] else
  if op = 45 then bs [62, 45, 62, 62] else
  bs []
theorem sp1 (n : Nat) : F204 (n + 40) 1 = some (bs []) := by kernel_rfl
theorem sr1 (n : Nat) : F215 (n + 10) 1 = some (bs []) := by kernel_rfl
theorem sp2 (n : Nat) : F204 (n + 40) 2 = some (bs []) := by kernel_rfl
theorem sr2 (n : Nat) : F215 (n + 10) 2 = some (bs []) := by kernel_rfl
theorem sp3 (n : Nat) : F204 (n + 40) 3 = some (bs []) := by kernel_rfl
theorem sr3 (n : Nat) : F215 (n + 10) 3 = some (bs []) := by kernel_rfl
theorem sp4 (n : Nat) : F204 (n + 40) 4 = some (bs [38]) := by kernel_rfl
theorem sr4 (n : Nat) : F215 (n + 10) 4 = some (bs [38]) := by kernel_rfl
theorem sp5 (n : Nat) : F204 (n + 40) 5 = some (bs [111, 114]) := by kernel_rfl
theorem sr5 (n : Nat) : F215 (n + 10) 5 = some (bs [111, 114]) := by kernel_rfl
theorem sp6 (n : Nat) : F204 (n + 40) 6 = some (bs [61, 62]) := by kernel_rfl
theorem sr6 (n : Nat) : F215 (n + 10) 6 = some (bs [61, 62]) := by kernel_rfl
theorem sp7 (n : Nat) : F204 (n + 40) 7 = some (bs [60, 61, 62]) := by kernel_rfl
theorem sr7 (n : Nat) : F215 (n + 10) 7 = some (bs [60, 61, 62]) := by kernel_rfl
theorem sp8 (n : Nat) : F204 (n + 40) 8 = some (bs []) := by kernel_rfl
theorem sr8 (n : Nat) : F215 (n + 10) 8 = some (bs []) := by kernel_rfl
theorem sp9 (n : Nat) : F204 (n + 40) 9 = some (bs []) := by kernel_rfl
theorem sr9 (n : Nat) : F215 (n + 10) 9 = some (bs []) := by kernel_rfl
theorem sp10 (n : Nat) : F204 (n + 40) 10 = some (bs [61]) := by kernel_rfl
theorem sr10 (n : Nat) : F215 (n + 10) 10 = some (bs [61]) := by kernel_rfl
theorem sp11 (n : Nat) : F204 (n + 40) 11 = some (bs [47, 61]) := by kernel_rfl
theorem sr11 (n : Nat) : F215 (n + 10) 11 = some (bs [47, 61]) := by kernel_rfl
theorem sp12 (n : Nat) : F204 (n + 40) 12 = some (bs [60]) := by kernel_rfl
theorem sr12 (n : Nat) : F215 (n + 10) 12 = some (bs [60]) := by kernel_rfl
theorem sp13 (n : Nat) : F204 (n + 40) 13 = some (bs [60, 61]) := by kernel_rfl
theorem sr13 (n : Nat) : F215 (n + 10) 13 = some (bs [60, 61]) := by kernel_rfl
theorem sp14 (n : Nat) : F204 (n + 40) 14 = some (bs [62]) := by kernel_rfl
theorem sr14 (n : Nat) : F215 (n + 10) 14 = some (bs [62]) := by kernel_rfl
theorem sp15 (n : Nat) : F204 (n + 40) 15 = some (bs [62, 61]) := by kernel_rfl
theorem sr15 (n : Nat) : F215 (n + 10) 15 = some (bs [62, 61]) := by kernel_rfl
theorem sp16 (n : Nat) : F204 (n + 40) 16 = some (bs [105, 110]) := by kernel_rfl
theorem sr16 (n : Nat) : F215 (n + 10) 16 = some (bs [105, 110]) := by kernel_rfl
theorem sp17 (n : Nat) : F204 (n + 40) 17 = some (bs [110, 111, 116, 105, 110]) := by kernel_rfl
theorem sr17 (n : Nat) : F215 (n + 10) 17 = some (bs [110, 111, 116, 105, 110]) := by kernel_rfl
theorem sp18 (n : Nat) : F204 (n + 40) 18 = some (bs [115, 117, 98]) := by kernel_rfl
theorem sr18 (n : Nat) : F215 (n + 10) 18 = some (bs [115, 117, 98]) := by kernel_rfl
theorem sp19 (n : Nat) : F204 (n + 40) 19 = some (bs []) := by kernel_rfl
theorem sr19 (n : Nat) : F215 (n + 10) 19 = some (bs []) := by kernel_rfl
theorem sp20 (n : Nat) : F204 (n + 40) 20 = some (bs []) := by kernel_rfl
theorem sr20 (n : Nat) : F215 (n + 10) 20 = some (bs []) := by kernel_rfl
theorem sp21 (n : Nat) : F204 (n + 40) 21 = some (bs []) := by kernel_rfl
theorem sr21 (n : Nat) : F215 (n + 10) 21 = some (bs []) := by kernel_rfl
theorem sp22 (n : Nat) : F204 (n + 40) 22 = some (bs [43]) := by kernel_rfl
theorem sr22 (n : Nat) : F215 (n + 10) 22 = some (bs [43]) := by kernel_rfl
theorem sp23 (n : Nat) : F204 (n + 40) 23 = some (bs [45]) := by kernel_rfl
theorem sr23 (n : Nat) : F215 (n + 10) 23 = some (bs [45]) := by kernel_rfl
theorem sp24 (n : Nat) : F204 (n + 40) 24 = some (bs [42]) := by kernel_rfl
theorem sr24 (n : Nat) : F215 (n + 10) 24 = some (bs [42]) := by kernel_rfl
theorem sp25 (n : Nat) : F204 (n + 40) 25 = some (bs [47]) := by kernel_rfl
theorem sr25 (n : Nat) : F215 (n + 10) 25 = some (bs [47]) := by kernel_rfl
theorem sp26 (n : Nat) : F204 (n + 40) 26 = some (bs [109, 111, 100]) := by kernel_rfl
theorem sr26 (n : Nat) : F215 (n + 10) 26 = some (bs [109, 111, 100]) := by kernel_rfl
theorem sp27 (n : Nat) : F204 (n + 40) 27 = some (bs [124, 45, 62]) := by kernel_rfl
theorem sr27 (n : Nat) : F215 (n + 10) 27 = some (bs [124, 45, 62]) := by kernel_rfl
theorem sp28 (n : Nat) : F204 (n + 40) 28 = some (bs []) := by kernel_rfl
theorem sr28 (n : Nat) : F215 (n + 10) 28 = some (bs []) := by kernel_rfl
theorem sp29 (n : Nat) : F204 (n + 40) 29 = some (bs []) := by kernel_rfl
theorem sr29 (n : Nat) : F215 (n + 10) 29 = some (bs []) := by kernel_rfl
theorem sp30 (n : Nat) : F204 (n + 40) 30 = some (bs [46, 46]) := by kernel_rfl
theorem sr30 (n : Nat) : F215 (n + 10) 30 = some (bs [46, 46]) := by kernel_rfl
theorem sp31 (n : Nat) : F204 (n + 40) 31 = some (bs [92, 47]) := by kernel_rfl
theorem sr31 (n : Nat) : F215 (n + 10) 31 = some (bs [92, 47]) := by kernel_rfl
theorem sp32 (n : Nat) : F204 (n + 40) 32 = some (bs [47, 92]) := by kernel_rfl
theorem sr32 (n : Nat) : F215 (n + 10) 32 = some (bs [47, 92]) := by kernel_rfl
theorem sp33 (n : Nat) : F204 (n + 40) 33 = some (bs [92]) := by kernel_rfl
theorem sr33 (n : Nat) : F215 (n + 10) 33 = some (bs [92]) := by kernel_rfl
theorem sp34 (n : Nat) : F204 (n + 40) 34 = some (bs [62, 60]) := by kernel_rfl
theorem sr34 (n : Nat) : F215 (n + 10) 34 = some (bs [62, 60]) := by kernel_rfl
theorem sp35 (n : Nat) : F204 (n + 40) 35 = some (bs [60, 43]) := by kernel_rfl
theorem sr35 (n : Nat) : F215 (n + 10) 35 = some (bs [60, 43]) := by kernel_rfl
theorem sp36 (n : Nat) : F204 (n + 40) 36 = some (bs [59]) := by kernel_rfl
theorem sr36 (n : Nat) : F215 (n + 10) 36 = some (bs [59]) := by kernel_rfl
theorem sp37 (n : Nat) : F204 (n + 40) 37 = some (bs [60, 124]) := by kernel_rfl
theorem sr37 (n : Nat) : F215 (n + 10) 37 = some (bs [60, 124]) := by kernel_rfl
theorem sp38 (n : Nat) : F204 (n + 40) 38 = some (bs [60, 60, 124]) := by kernel_rfl
theorem sr38 (n : Nat) : F215 (n + 10) 38 = some (bs [60, 60, 124]) := by kernel_rfl
theorem sp39 (n : Nat) : F204 (n + 40) 39 = some (bs [124, 62]) := by kernel_rfl
theorem sr39 (n : Nat) : F215 (n + 10) 39 = some (bs [124, 62]) := by kernel_rfl
theorem sp40 (n : Nat) : F204 (n + 40) 40 = some (bs [124, 62, 62]) := by kernel_rfl
theorem sr40 (n : Nat) : F215 (n + 10) 40 = some (bs [124, 62, 62]) := by kernel_rfl
theorem sp41 (n : Nat) : F204 (n + 40) 41 = some (bs [60, 45, 62]) := by kernel_rfl
theorem sr41 (n : Nat) : F215 (n + 10) 41 = some (bs [60, 45, 62]) := by kernel_rfl
theorem sp42 (n : Nat) : F204 (n + 40) 42 = some (bs [43, 45, 62]) := by kernel_rfl
theorem sr42 (n : Nat) : F215 (n + 10) 42 = some (bs [43, 45, 62]) := by kernel_rfl
theorem sp43 (n : Nat) : F204 (n + 40) 43 = some (bs [45, 45, 62]) := by kernel_rfl
theorem sr43 (n : Nat) : F215 (n + 10) 43 = some (bs [45, 45, 62]) := by kernel_rfl
theorem sp44 (n : Nat) : F204 (n + 40) 44 = some (bs [62, 45, 62]) := by kernel_rfl
theorem sr44 (n : Nat) : F215 (n + 10) 44 = some (bs [62, 45, 62]) := by kernel_rfl
theorem sp45 (n : Nat) : F204 (n + 40) 45 = some (bs [62, 45, 62, 62]) := by kernel_rfl
theorem sr45 (n : Nat) : F215 (n + 10) 45 = some (bs [62, 45, 62, 62]) := by kernel_rfl
theorem sp46 (n : Nat) : F204 (n + 40) 46 = some (bs []) := by kernel_rfl
theorem sr46 (n : Nat) : F215 (n + 10) 46 = some (bs []) := by kernel_rfl
theorem sp47 (n : Nat) : F204 (n + 40) 47 = some (bs []) := by kernel_rfl
theorem sr47 (n : Nat) : F215 (n + 10) 47 = some (bs []) := by kernel_rfl
theorem sp48 (n : Nat) : F204 (n + 40) 48 = some (bs []) := by kernel_rfl
theorem sr48 (n : Nat) : F215 (n + 10) 48 = some (bs []) := by kernel_rfl
theorem sp49 (n : Nat) : F204 (n + 40) 49 = some (bs []) := by kernel_rfl
theorem sr49 (n : Nat) : F215 (n + 10) 49 = some (bs []) := by kernel_rfl
theorem sp50 (n : Nat) : F204 (n + 40) 50 = some (bs []) := by kernel_rfl
theorem sr50 (n : Nat) : F215 (n + 10) 50 = some (bs []) := by kernel_rfl
theorem sp51 (n : Nat) : F204 (n + 40) 51 = some (bs []) := by kernel_rfl
theorem sr51 (n : Nat) : F215 (n + 10) 51 = some (bs []) := by kernel_rfl
theorem sp52 (n : Nat) : F204 (n + 40) 52 = some (bs []) := by kernel_rfl
theorem sr52 (n : Nat) : F215 (n + 10) 52 = some (bs []) := by kernel_rfl
theorem sp53 (n : Nat) : F204 (n + 40) 53 = some (bs []) := by kernel_rfl
theorem sr53 (n : Nat) : F215 (n + 10) 53 = some (bs []) := by kernel_rfl
theorem sp54 (n : Nat) : F204 (n + 40) 54 = some (bs []) := by kernel_rfl
theorem sr54 (n : Nat) : F215 (n + 10) 54 = some (bs []) := by kernel_rfl
theorem sp55 (n : Nat) : F204 (n + 40) 55 = some (bs []) := by kernel_rfl
theorem sr55 (n : Nat) : F215 (n + 10) 55 = some (bs []) := by kernel_rfl
theorem sp56 (n : Nat) : F204 (n + 40) 56 = some (bs []) := by kernel_rfl
theorem sr56 (n : Nat) : F215 (n + 10) 56 = some (bs []) := by kernel_rfl
theorem ops {op : Int} (h : 1 ≤ op) (h' : op ≤ 56) : op = 1 ∨ op = 2 ∨ op = 3 ∨ op = 4 ∨ op = 5 ∨ op = 6 ∨ op = 7 ∨ op = 8 ∨ op = 9 ∨ op = 10 ∨ op = 11 ∨ op = 12 ∨ op = 13 ∨ op = 14 ∨ op = 15 ∨ op = 16 ∨ op = 17 ∨ op = 18 ∨ op = 19 ∨ op = 20 ∨ op = 21 ∨ op = 22 ∨ op = 23 ∨ op = 24 ∨ op = 25 ∨ op = 26 ∨ op = 27 ∨ op = 28 ∨ op = 29 ∨ op = 30 ∨ op = 31 ∨ op = 32 ∨ op = 33 ∨ op = 34 ∨ op = 35 ∨ op = 36 ∨ op = 37 ∨ op = 38 ∨ op = 39 ∨ op = 40 ∨ op = 41 ∨ op = 42 ∨ op = 43 ∨ op = 44 ∨ op = 45 ∨ op = 46 ∨ op = 47 ∨ op = 48 ∨ op = 49 ∨ op = 50 ∨ op = 51 ∨ op = 52 ∨ op = 53 ∨ op = 54 ∨ op = 55 ∨ op = 56 := by omega
theorem sign_p {op : Int} (h : 1 ≤ op) (h' : op ≤ 56) : Ev (fun n => F204 n op) (signB op) := by
  rcases ops h h' with rfl | rfl | rfl | rfl | rfl | rfl | rfl | rfl | rfl | rfl | rfl | rfl | rfl | rfl | rfl | rfl | rfl | rfl | rfl | rfl | rfl | rfl | rfl | rfl | rfl | rfl | rfl | rfl | rfl | rfl | rfl | rfl | rfl | rfl | rfl | rfl | rfl | rfl | rfl | rfl | rfl | rfl | rfl | rfl | rfl | rfl | rfl | rfl | rfl | rfl | rfl | rfl | rfl | rfl | rfl | rfl
  · exact .const 40 sp1
  · exact .const 40 sp2
  · exact .const 40 sp3
  · exact .const 40 sp4
  · exact .const 40 sp5
  · exact .const 40 sp6
  · exact .const 40 sp7
  · exact .const 40 sp8
  · exact .const 40 sp9
  · exact .const 40 sp10
  · exact .const 40 sp11
  · exact .const 40 sp12
  · exact .const 40 sp13
  · exact .const 40 sp14
  · exact .const 40 sp15
  · exact .const 40 sp16
  · exact .const 40 sp17
  · exact .const 40 sp18
  · exact .const 40 sp19
  · exact .const 40 sp20
  · exact .const 40 sp21
  · exact .const 40 sp22
  · exact .const 40 sp23
  · exact .const 40 sp24
  · exact .const 40 sp25
  · exact .const 40 sp26
  · exact .const 40 sp27
  · exact .const 40 sp28
  · exact .const 40 sp29
  · exact .const 40 sp30
  · exact .const 40 sp31
  · exact .const 40 sp32
  · exact .const 40 sp33
  · exact .const 40 sp34
  · exact .const 40 sp35
  · exact .const 40 sp36
  · exact .const 40 sp37
  · exact .const 40 sp38
  · exact .const 40 sp39
  · exact .const 40 sp40
  · exact .const 40 sp41
  · exact .const 40 sp42
  · exact .const 40 sp43
  · exact .const 40 sp44
  · exact .const 40 sp45
  · exact .const 40 sp46
  · exact .const 40 sp47
  · exact .const 40 sp48
  · exact .const 40 sp49
  · exact .const 40 sp50
  · exact .const 40 sp51
  · exact .const 40 sp52
  · exact .const 40 sp53
  · exact .const 40 sp54
  · exact .const 40 sp55
  · exact .const 40 sp56
theorem sign_r {op : Int} (h : 1 ≤ op) (h' : op ≤ 56) : Ev (fun n => F215 n op) (signB op) := by
  rcases ops h h' with rfl | rfl | rfl | rfl | rfl | rfl | rfl | rfl | rfl | rfl | rfl | rfl | rfl | rfl | rfl | rfl | rfl | rfl | rfl | rfl | rfl | rfl | rfl | rfl | rfl | rfl | rfl | rfl | rfl | rfl | rfl | rfl | rfl | rfl | rfl | rfl | rfl | rfl | rfl | rfl | rfl | rfl | rfl | rfl | rfl | rfl | rfl | rfl | rfl | rfl | rfl | rfl | rfl | rfl | rfl | rfl
  · exact .const 10 sr1
  · exact .const 10 sr2
  · exact .const 10 sr3
  · exact .const 10 sr4
  · exact .const 10 sr5
  · exact .const 10 sr6
  · exact .const 10 sr7
  · exact .const 10 sr8
  · exact .const 10 sr9
  · exact .const 10 sr10
  · exact .const 10 sr11
  · exact .const 10 sr12
  · exact .const 10 sr13
  · exact .const 10 sr14
  · exact .const 10 sr15
  · exact .const 10 sr16
  · exact .const 10 sr17
  · exact .const 10 sr18
  · exact .const 10 sr19
  · exact .const 10 sr20
  · exact .const 10 sr21
  · exact .const 10 sr22
  · exact .const 10 sr23
  · exact .const 10 sr24
  · exact .const 10 sr25
  · exact .const 10 sr26
  · exact .const 10 sr27
  · exact .const 10 sr28
  · exact .const 10 sr29
  · exact .const 10 sr30
  · exact .const 10 sr31
  · exact .const 10 sr32
  · exact .const 10 sr33
  · exact .const 10 sr34
  · exact .const 10 sr35
  · exact .const 10 sr36
  · exact .const 10 sr37
  · exact .const 10 sr38
  · exact .const 10 sr39
  · exact .const 10 sr40
  · exact .const 10 sr41
  · exact .const 10 sr42
  · exact .const 10 sr43
  · exact .const 10 sr44
  · exact .const 10 sr45
  · exact .const 10 sr46
  · exact .const 10 sr47
  · exact .const 10 sr48
  · exact .const 10 sr49
  · exact .const 10 sr50
  · exact .const 10 sr51
  · exact .const 10 sr52
  · exact .const 10 sr53
  · exact .const 10 sr54
  · exact .const 10 sr55
  · exact .const 10 sr56
end Go.AI
