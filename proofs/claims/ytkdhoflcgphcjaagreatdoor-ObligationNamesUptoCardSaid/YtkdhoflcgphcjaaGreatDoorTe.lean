/- A part of the proof. -/
import Derived.Test.YtkdhoflcgphcjaaGreatDoorTa
set_option linter.all false

namespace Go.Proofs.YtkdhoflcgphcjaaGreatDoor
open Go
def keyP:MemPlace->Nat|.cell b off=>Nat.succ (Nat.add (Nat.mul b 65536) off)|.map b=>Nat.mul b 65536
def freshN(k:Nat):List Nat->Bool|[]=>true|j::js=>cond (Nat.beq k j) false (freshN k js)
def nodN:List Nat->Bool|[]=>true|k::ks=>cond (freshN k ks) (nodN ks) false
theorem freshN_spec{k:Nat}:∀{js:List Nat},freshN k js=true->k∉js
 |[],_=>by simp
 |j::js,h=>by
  unfold freshN at h
  cases hb:Nat.beq k j with
  |true=>rw[hb]at h;cases h
  |false=>
   rw[hb]at h
   have:=freshN_spec (js:=js) h
   have hne:k≠j:=λe=>by rw[e,Nat.beq_refl]at hb;cases hb
   simp[hne,this]
theorem nodN_spec:∀{ks:List Nat},nodN ks=true->ks.Nodup|[],_=>List.nodup_nil|k::ks,h=>by unfold nodN at h;cases hb:freshN k ks with|false=>rw[hb]at h;cases h|true=>rw[hb]at h;exact List.nodup_cons.2 ⟨freshN_spec hb,nodN_spec h⟩
theorem nod_of:∀{ps:List MemPlace},(ps.map keyP).Nodup->ps.Nodup|[],_=>List.nodup_nil|p::ps,h=>by rw[List.map_cons,List.nodup_cons]at h;exact List.nodup_cons.2 ⟨λhm=>h.1 (List.mem_map_of_mem hm),nod_of h.2⟩
theorem t2a(os:Os)(tape:Tape):(DataW.laidRun Tryz.prog (varsWorld Tryz.prog 400 (varsId Tryz.prog) os tape).memory 8 (lst6.map (·.1))).map (λx=>nodN (x.2.map keyP))=some true:=by kernel_rfl
end Go.Proofs.YtkdhoflcgphcjaaGreatDoor
