/-
  A part of the proof: TE1.
-/
import Derived.Test.YtidicphjlgjajaaGreatDoorRows
import Derived.LaidByTextLater
import Derived.SevenTiedAt
import Derived.Test.YtidicphjlgjajaaGreatDoorTa
set_option linter.all false

namespace Go.Proofs.YtidicphjlgjajaaGreatDoor
open Go
set_option linter.all false
def M5:MemPlace->Nat|.cell b off=>Nat.succ (Nat.add (Nat.mul b 65536) off)|.map b=>Nat.mul b 65536
def uZ(k:Nat):List Nat->Bool|[]=>true|j::js=>cond (Nat.beq k j) false (uZ k js)
def AJ:List Nat->Bool|[]=>true|k::ks=>cond (uZ k ks) (AJ ks) false
theorem Ha{k:Nat}:∀{js:List Nat},uZ k js=true->k∉js
 |[],_=>by simp
 |j::js,h=>by
  unfold uZ at h
  cases hb:Nat.beq k j with
  |true=>rw[hb]at h;cases h
  |false=>
   rw[hb]at h
   have:=Ha (js:=js) h
   have b:k≠j:=λe=>by rw[e,Nat.beq_refl]at hb;cases hb
   simp[b,this]
theorem HJ:∀{ks:List Nat},AJ ks=true->ks.Nodup|[],_=>List.nodup_nil|k::ks,h=>by unfold AJ at h;cases hb:uZ k ks with|false=>rw[hb]at h;cases h|true=>rw[hb]at h;exact List.nodup_cons.2 ⟨Ha hb,HJ h⟩
theorem KW:∀{ps:List MemPlace},(ps.map M5).Nodup->ps.Nodup|[],_=>List.nodup_nil|p::ps,h=>by rw[List.map_cons,List.nodup_cons]at h;exact List.nodup_cons.2 ⟨λhm=>h.1 (List.mem_map_of_mem hm),KW h.2⟩
theorem t2a(os:Os)(tape:Tape):(DataW.laidRun Tryz.prog (varsWorld Tryz.prog 400 (varsId Tryz.prog) os tape).memory 8 (mD.map (·.1))).map (λx=>AJ (x.2.map M5))=some true:=by kernel_rfl
end Go.Proofs.YtidicphjlgjajaaGreatDoor
