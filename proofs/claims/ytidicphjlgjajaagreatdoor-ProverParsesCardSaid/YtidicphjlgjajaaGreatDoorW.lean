/-
  A part of the proof: KnD.
-/
import Derived.Test.YtidicphjlgjajaaGreatDoorQe
import Derived.Test.YtidicphjlgjajaaGreatDoorKt
set_option linter.all false

namespace Go.AI
open Go Go.Proofs
set_option linter.all false
theorem S2(hP:cZ Tryz.prog)(s:ByteArray):∃h',dq Tryz.prog 3 [.sc (.string s)] h0 (.ret (.sc (.bool true))) h':=by obtain⟨n0,hn⟩:=Rr s;have hr:(eb Tryz.prog BF n0).call 3 [.sc (.string s)] [] [.bool] []=some true:=hn n0 (ak _);exact RE hP (VN hP) aal hr rfl (.cons (.sc rfl) .nil) (t:=4) (λfn hf=>by rw[Tryz.func3]at hf;cases hf;kernel_rfl) (by kernel_rfl)
def gw(w:World):Gh:=⟨λ_ _=>none,λb i=>w.cell? ⟨b,i,none⟩⟩
theorem UB{w:World}{b i:Nat}{u:Value}(hm:w.cell? ⟨b,i,none⟩=some u):b<w.heap.size:=by
 rcases Nat.lt_or_ge b w.heap.size with a|a
 .exact a
 .exfalso;have hn:w.heap[b]?=none:=Array.getElem?_eq_none a;unfold World.cell? at hm;simp[hn]at hm
theorem aam{w:World}(hg:te w):W h0 (gw w) w:=⟨λo x e=>(by simp[h0,AHeap.get,Tr.get]at e),λ_ _ _ _ _ e=>(by cases e),λ_ _ _ _ _ _ _ _ _ e=>(by cases e),λ_ _ _ hm=>⟨hm,UB hm⟩,λ_ _ _ _ _ _ _ _ e=>(by cases e),λb p e=>by obtain⟨cs,x,y,h1,h2,h3⟩:=hg b p e;refine⟨⟨cs,x,y,h1,h2,h3⟩,cs[0],?_⟩;show w.cell? ⟨b,0,none⟩=_;unfold World.cell?;simp only[h1];simp[h2]⟩
theorem B9{P:Program}{w:World}{n:String}{g:Nat}{cs:Array Value}{p:Array Value->Prop}(hg:P.globalNamed n=some g)(h:w.var? P n=some cs)(hs:0<cs.size)(hp:p cs):rV w g p:=by
 unfold World.var? at h
 rw[hg]at h
 simp only[Option.bind_some]at h
 split at h
 .rename_i c x y e;cases h;exact⟨_,x,y,e,hs,hp⟩
 .cases h
theorem Pc{w:World}{b:Nat}{v:Value}{p:Array Value->Prop}(h:w.cell? ⟨b,0,none⟩=some v)(hp:∀cs,cs[0]?=some v->p cs):rV w b p:=by
 unfold World.cell? at h
 split at h
 .rename_i c x y e
  have h:c[0]?=some v:=by simpa using h
  refine⟨c,x,y,e,?_,hp c h⟩
  rcases Nat.eq_zero_or_pos c.size with q|q
  .rw[Array.getElem?_eq_none (by omega)]at h;cases h
  .exact q
 .cases h
theorem xG{cs:Array Value}{t:TypeId}{p:Value}(h:cs.toList=[.iface t p]):0<cs.size/\∃v,cs[0]?=some v/\(v=.nilIface\/∃t p,v=.iface t p):=by have e:cs=#[.iface t p]:=Array.ext' h;subst e;exact⟨Nat.succ_pos _,_,rfl,.inr ⟨_,_,rfl⟩⟩
theorem RU(hP:cZ Tryz.prog){W:World}{s:ByteArray}(hg:te W):Calls Tryz.prog 3 #[.string s] W λe w'=>e=.returned (.bool true)/\w'.os=W.os/\w'.output=W.output/\∀b,b<W.heap.size->w'.heap[b]?=W.heap[b]?:=by obtain⟨h',hc⟩:=S2 hP s;refine(hc (gw W) W [.string s] (aam hg) (λ_ _ _=>rfl) ⟨.sc _,trivial⟩).mono ?_;rintro e w'⟨g',st,_,ho⟩;refine⟨?_,st.os,st.out,λb hb=>st.fr b hb λo v s n e=>by cases e⟩;cases e with|returned x=>cases ho;rfl|panicked _=>exact ho.elim|outgrown=>exact ho.elim
end Go.AI
