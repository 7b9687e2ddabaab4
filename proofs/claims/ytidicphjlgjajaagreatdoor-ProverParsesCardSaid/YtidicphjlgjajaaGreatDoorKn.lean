/-
  A part of the proof: KnB.
-/
import Derived.Test.YtidicphjlgjajaaGreatDoorSe
import Derived.Test.YtidicphjlgjajaaGreatDoorG
set_option linter.all false

namespace Go.AI
open Go Go.Proofs
set_option linter.all false
set_option maxRecDepth 100000
abbrev Br:TypeId:=246
def OX(l:List ByteArray)(s:ByteArray):Bool:=decide (l.length<=140737488355328/\(Lib.join (l.map (·.data.toList)) s.data.toList).length<=140737488355328)
def yes(b:Bool)(y:AV):Option AV:=if b=true then some y else none
def AF(h:AHeap):List AV->Option AV
 |[x,.sc (.string s)]=>match uY h x with|some l=>yes (OX l s) (.sc (.string (bs (Lib.join (l.map (·.data.toList)) s.data.toList))))|none=>none
 |_=>none
def KR:List AV->Option AV|[.sc (.string s),.sc (.int .i64 n)]=>yes (sk s n) (.sc (.string (oG s n)))|_=>none
def L6:List AV->Option AV|[.sc (.int .i64 n)]=>yes (yC n) (.sc (.string (dt n)))|_=>none
def MY:List AV->Option AV|[.sc (.int .i64 n)]=>yes (ny n) (.sc (.string (aY n)))|_=>none
def L7:List AV->Option AV|[.sc (.string s),.sc (.string p)]=>yes (sn s p) (.aG (splitB s p) 1)|_=>none
def NV:List AV->Option AV|[.sc (.string s),.sc (.string p)]=>yes (zV s) (.tuple [.sc (.string (lI s p)),.sc (.string (nN s p)),.sc (.bool (tw s p))])|_=>none
def MZ:List AV->Option AV|[.sc (.string s),.sc (.string p)]=>yes (u6 p) (.sc (.string (oU s)))|_=>none
def M0:List AV->Option AV|[.sc (.string s),.sc (.string p)]=>some (.sc (.bool (qK s p)))|_=>none
def M1:List AV->Option AV|[.sc (.string s)]=>yes (sI s) (.tuple [.sc (.int .i64 (fp s)),if gR s=true then .iface Br .aO else .sc .nilIface])|_=>none
def M3:List AV->Option AV|[.sl o ad n off sz len cap]=>some (.sl o ad n off sz len (some len))|[.sc (.slice none 0 0)]=>some (.sc (.slice none 0 0))|_=>none
def L8:List AV->Option AV|[]=>some (.sc (.bool true))|_=>none
def tM(f:FuncId)(xs:List AV)(h:AHeap):Option AV:=match f with|4=>L8 xs|67=>AF h xs|26=>KR xs|175=>L6 xs|65=>MY xs|46=>L7 xs|15=>NV xs|16=>MZ xs|62=>M0 xs|97=>M1 xs|112=>M3 xs|_=>none
instance knP:Kn:=⟨⟨tM⟩⟩
theorem tN:lay Tryz.prog 9=[.str]:=by kernel_rfl
theorem Xy:bB Tryz.prog 9=some 1:=by kernel_rfl
theorem aak:lay Tryz.prog 3=[.int .i64]:=by kernel_rfl
theorem JH(rows:Rows):(rows.map (gS . 0)).map (·.data.toList)=o8 rows:=by unfold o8;rw[List.map_map];rfl
theorem NW{w:Wd}{v:SV}{xs:List AV}(h:aC Tryz.prog w [v] xs):∃x,xs=[x]/\RV Tryz.prog w v x:=by cases h with|cons a b=>cases b;exact⟨_,rfl,a⟩
theorem NX{w:Wd}{v u:SV}{xs:List AV}(h:aC Tryz.prog w [v,u] xs):∃x y,xs=[x,y]/\RV Tryz.prog w v x/\RV Tryz.prog w u y:=by cases h with|cons a b=>cases b with|cons c d=>cases d;exact⟨_,_,rfl,a,c⟩
theorem AG{w:Wd}{v:Value}{x:AV}(h:RV Tryz.prog w (.sc v) x):x=.sc v:=by cases h;rfl
theorem AH{w:Wd}{v:Value}{xs:List AV}(h:aC Tryz.prog w [.sc v] xs):xs=[.sc v]:=by obtain⟨x,rfl,h1⟩:=NW h;rw[AG h1]
theorem wg{w:Wd}{v u:Value}{xs:List AV}(h:aC Tryz.prog w [.sc v,.sc u] xs):xs=[.sc v,.sc u]:=by obtain⟨x,y,rfl,h1,h2⟩:=NX h;rw[AG h1,AG h2]
theorem oO{b:Bool}{y:AV}(h:b=true):yes b y=some y:=if_pos h
theorem oP{b:Bool}{y v:AV}(h:yes b y=some v):b=true/\v=y:=by
 unfold yes at h
 split at h
 .cases h;exact⟨by assumption,rfl⟩
 .cases h
theorem aal:po Tryz.prog BF where
 none:=λf hf xs h=>by
  have hf:wU f=none:=hf
  show tM f xs h=none
  unfold tM
  unfold wU at hf
  split at hf<;>first|(cases hf;done)|skip
  split<;>first|rfl|exact absurd rfl ‹_›
 some:=λf g hf w h xs cB v hg hx hv=>by
  have hf:wU f=some g:=hf
  show∃y,tM f xs h=some y/\_
  unfold wU at hf
  split at hf<;>cases hf
  .unfold JO at hv
   split at hv
   .cases hv;cases hx;exact⟨_,rfl,.sc rfl⟩
   .cases hv
  .unfold KX at hv
   split at hv
   .rename_i rows s
    simp only[ab,an]at hv
    obtain⟨aS,rfl⟩:=hv
    obtain⟨x,y,rfl,l,m⟩:=NX hx
    obtain rfl:=AG m
    have hd:Rd Tryz.prog w 9 rows x:=by cases l;assumption
    have hr:=QS tN hg hd
    refine⟨.sc (.string (nI rows s)),?_,.sc rfl⟩
    show AF h [x,.sc (.string s)]=some (.sc (.string (nI rows s)))
    unfold AF
    simp only[hr]
    refine(oO ?_).trans ?_
    .unfold OX;rw[JH,List.length_map];exact aS
    .rw[JH];rfl
   .cases hv
  .unfold Ix at hv
   split at hv
   .simp only[ab,an]at hv;obtain⟨aS,rfl⟩:=hv;rw[wg hx];exact⟨_,oO aS,.sc rfl⟩
   .cases hv
  .unfold JM at hv
   split at hv
   .simp only[ab,an]at hv;obtain⟨aS,rfl⟩:=hv;rw[AH hx];exact⟨_,oO aS,.sc rfl⟩
   .cases hv
  .unfold KY at hv
   split at hv
   .simp only[ab,an]at hv;obtain⟨aS,rfl⟩:=hv;rw[AH hx];exact⟨_,oO aS,.sc rfl⟩
   .cases hv
  .unfold JN at hv
   split at hv
   .rename_i s p
    simp only[ab,an]at hv
    obtain⟨aS,rfl⟩:=hv
    rw[wg hx]
    refine⟨_,oO aS,.dl ?_⟩
    have e:(1:Nat)=(lay Tryz.prog 9).length:=by rw[tN];rfl
    rw[e];refine .aG (by rw[Xy,tN];rfl) (by rw[tN];decide) tN ?_;rw[tN];have:=Iu (P:=Tryz.prog) (w:=w) ((Lib.split s.data.toList p.data.toList).map bs);rw[List.map_map]at this;exact this
   .cases hv
  .unfold Mg at hv
   split at hv
   .simp only[ab,an]at hv;obtain⟨aS,rfl⟩:=hv;rw[wg hx];exact⟨_,oO aS,.aR (.cons (.sc rfl) (.cons (.sc rfl) (.cons (.sc rfl) .nil)))⟩
   .cases hv
  .unfold KZ at hv
   split at hv
   .simp only[ab,an]at hv;obtain⟨aS,rfl⟩:=hv;rw[wg hx];exact⟨_,oO aS,.sc rfl⟩
   .cases hv
  .unfold K0 at hv
   split at hv
   .simp only[ab,an]at hv;obtain⟨aS,rfl⟩:=hv;rw[wg hx];exact⟨_,rfl,.sc rfl⟩
   .cases hv
  .unfold K1 at hv
   split at hv
   .simp only[ab,an]at hv
    obtain⟨aS,rfl⟩:=hv
    rw[AH hx]
    refine⟨_,oO aS,.aR (.cons (.sc rfl) (.cons ?_ .nil))⟩
    split
    .rename_i e;rw[e];exact .n4
    .rename_i e;rw[Bool.not_eq_true]at e;rw[e];exact .n5
   .cases hv
  .unfold K2 at hv
   split at hv
   .rename_i rows
    simp only[ab,an]at hv
    obtain⟨aS,rfl⟩:=hv
    obtain⟨x,rfl,l⟩:=NW hx
    have hd:Rd Tryz.prog w 3 rows x:=by cases l;assumption
    have hp:0<rows.length:=by cases rows with|nil=>cases aS|cons _ _=>exact Nat.succ_pos _
    cases hd with|nil=>cases hp|cq=>cases hp|aG a b c d=>rw[aak]at c;cases c|sl a b c d e f g i j k=>exact⟨_,rfl,.cl hp (.sl a b c d e f g i (λq n=>by cases n;exact ak _) k)⟩
   .simp only[ab,an]at hv;obtain⟨aS,rfl⟩:=hv;rw[AH hx];exact⟨_,rfl,.sc rfl⟩
   .cases hv
end Go.AI
