/-
  A part of the proof: SvRel SvSim SvLend SvPure SvPur2 SvPur3 SvRec.
-/
import Derived.Test.YtidicphjlgjajaaGreatDoorSa
import Derived.Test.YtidicphjlgjajaaGreatDoorAe
set_option linter.all false

section
namespace Go.AI
inductive Lk where|box(o n:Nat)|nil|sl(o ad n sz len:Nat)(cap:Option Nat)
def Lk.obj:Lk->Option Nat|.box o _=>some o|.nil=>none|.sl o _ _ _ _ _=>some o
structure Wd where
 g:Nat->Option b7
 F:Nat->Prop
 s:Nat->Option Lk
section
variable (P:Program)(w:Wd)
mutual
inductive Rd:TypeId->List (List AV)->AV->Prop|nil(t:TypeId):Rd t [] (.sc (.slice none 0 0))|cq(t:TypeId):Rd t [] .cq|aG{t:TypeId}{rows rows':List (List AV)}:bB P t=some (lay P t).length->0<(lay P t).length->lay P t=[.str]->bX (lay P t) rows rows'->Rd t rows (.aG rows' (lay P t).length)|sl{t:TypeId}{rows:List (List AV)}{o ad n off v mv fz:Nat}{c:List AV}{el:TypeId}{ex sh:Bool}{cap:Option Nat}:bB P t=some (lay P t).length->0<(lay P t).length->w.F o->w.g o=some (.cells v mv c fz el ex sh)->mv<=ad->ad<=v->off+rows.length*(lay P t).length<=n->off+rows.length*(lay P t).length<=c.length->(∀k,cap=some k->rows.length<=k)->bX (lay P t) rows (chunks (lay P t).length rows.length (c.drop off))->Rd t rows (.sl o ad n off (lay P t).length rows.length cap)
inductive bX:List Lf->List (List AV)->List (List AV)->Prop|nil(ls:List Lf):bX ls [] []|cons{ls:List Lf}{r r':List AV}{rs de:List (List AV)}:cF ls r r'->bX ls rs de->bX ls (r::rs) (r'::de)
inductive cF:List Lf->List AV->List AV->Prop|nil:cF [] [] []|cons{l:Lf}{ls:List Lf}{c y:AV}{r r':List AV}:ku l c y->cF ls r r'->cF (l::ls) (c::r) (y::r')
inductive ku:Lf->AV->AV->Prop|int(k:IntKind)(n:Int):ku (.int k) (.sc (.int k n)) (.sc (.int k n))|bool(b:Bool):ku .bool (.sc (.bool b)) (.sc (.bool b))|str(s:ByteArray):ku .str (.sc (.string s)) (.sc (.string s))|sl{t:TypeId}{rows:List (List AV)}{sz:Nat}{y:AV}:Rd t rows y->ku (.sl t) (.aG rows sz) y
end
inductive Rp:TypeId->List AV->Nat->AV->Prop|cH{t:TypeId}{row dW:List AV}{off:Nat}:cF P w (lay P t) row dW->Rp t row off (.cH (dW.drop off))|ref{t:TypeId}{row:List AV}{off o ad n p v mv fz:Nat}{c:List AV}{el:TypeId}{ex sh:Bool}:w.F o->w.g o=some (.cells v mv c fz el ex sh)->mv<=ad->ad<=v->p+(lay P t).length<=n->p+(lay P t).length<=c.length->cF P w (lay P t) row ((c.drop p).take (lay P t).length)->Rp t row off (.ref o ad n (p+off))
def xi:AV->Bool|.agg _=>false|_=>true
inductive cU:Code->List Tmp->Code->Code->Prop|here{fo:Operand}{ps:Array Tmp}{a b:Code}:cU (.rangeFunc fo ps a b) ps.toList a b|hd{fo:Operand}{ps:Array Tmp}{a b:Code}{qs:List Tmp}{x y:Code}:cU a qs x y->cU (.rangeFunc fo ps a b) qs x y|bd{fo:Operand}{ps:Array Tmp}{a b:Code}{qs:List Tmp}{x y:Code}:cU b qs x y->cU (.rangeFunc fo ps a b) qs x y|mO{a b x y:Code}{qs:List Tmp}:cU a qs x y->cU (.seq a b) qs x y|kT{a b x y:Code}{qs:List Tmp}:cU b qs x y->cU (.seq a b) qs x y|mw{c:Operand}{a b x y:Code}{qs:List Tmp}:cU a qs x y->cU (.cond c a b) qs x y|my{c:Operand}{a b x y:Code}{qs:List Tmp}:cU b qs x y->cU (.cond c a b) qs x y|bu{id:Nat}{b x y:Code}{qs:List Tmp}:cU b qs x y->cU (.block id b) qs x y|loop{b x y:Code}{qs:List Tmp}:cU b qs x y->cU (.loop b) qs x y|scope{b x y:Code}{qs:List Tmp}:cU b qs x y->cU (.scope b) qs x y
theorem cU.bw{c x y:Code}{qs:List Tmp}(h:cU c qs x y):0<ea c:=by induction h<;>simp only[ea]<;>omega
theorem nc:∀{c:Code},ea c=0->fE c=none|.seq a b,h=>by simp only[ea]at h;simp only[fE,nc (c:=a) (by omega),nc (c:=b) (by omega)]|.cond _ a b,h=>by simp only[ea]at h;simp only[fE,nc (c:=a) (by omega),nc (c:=b) (by omega)]|.block _ b,h=>by simp only[ea]at h;simp only[fE,nc (c:=b) h]|.loop b,h=>by simp only[ea]at h;simp only[fE,nc (c:=b) h]|.scope b,h=>by simp only[ea]at h;simp only[fE,nc (c:=b) h]|.rangeFunc _ _ a b,h=>by simp only[ea]at h;omega|.skip,_=>rfl|.label _,_=>rfl|.region _ _ _,_=>rfl|.exit _,_=>rfl|.ret,_=>rfl|.goto _,_=>rfl|.refuse _,_=>rfl
theorem cU.find{c x y:Code}{qs:List Tmp}(h:cU c qs x y):ea c=1->fE c=some (qs,x,y):=by induction h with|here=>intro _;rfl|hd h _=>intro e;have:=h.bw;simp only[ea]at e;omega|bd h _=>intro e;have:=h.bw;simp only[ea]at e;omega|mO h ih=>intro e;have:=h.bw;simp only[ea]at e;simp only[fE,ih (by omega)]|@kT a b _ _ _ h ih=>intro e;have:=h.bw;simp only[ea]at e;simp only[fE,nc (c:=a) (by omega),ih (by omega)]|mw h ih=>intro e;have:=h.bw;simp only[ea]at e;simp only[fE,ih (by omega)]|@my _ a b _ _ _ h ih=>intro e;have:=h.bw;simp only[ea]at e;simp only[fE,nc (c:=a) (by omega),ih (by omega)]|bu _ ih=>intro e;simp only[ea]at e;simp only[fE,ih e]|loop _ ih=>intro e;simp only[ea]at e;simp only[fE,ih e]|scope _ ih=>intro e;simp only[ea]at e;simp only[fE,ih e]
def E3(P:Program)(f:FuncId)(tn:Nat)(ps:List Tmp)(hd bd:Code):Prop:=∃fn code,P.funcs[f]?=some fn/\fn.body=some code/\fn.ntmps<=tn/\cU code ps hd bd
mutual
inductive RV:SV->AV->Prop|aO(x:AV):RV .aO x|sc{v:Value}:u3 v=true->RV (.sc v) (.sc v)|agg{cs:List SV}{xs:List AV}:aC cs xs->RV (.agg cs) (.agg xs)|dl{t:TypeId}{rows:List (List AV)}{x:AV}:Rd P w t rows x->RV (.dl t rows) x|dh{i:Nat}:w.s i=some .nil->RV (.own i) (.sc (.slice none 0 0))|cG{i o ad n sz len:Nat}{cap:Option Nat}:w.s i=some (.sl o ad n sz len cap)->RV (.own i) (.sl o ad n 0 sz len cap)|ref{i off o n:Nat}:w.s i=some (.box o n)->RV (.ref i off) (.ref o 0 n off)|dU{i k off o ad n sz len:Nat}{cap:Option Nat}:w.s i=some (.sl o ad n sz len cap)->k<len->RV (.dU i k off) (.ref o ad n (k*sz+off))|dN{t:TypeId}{row:List AV}{off:Nat}{x:AV}:Rp P w t row off x->RV (.dN t row off) x|h8{i o ad n sz len:Nat}{cap:Option Nat}:w.s i=some (.sl o ad n sz len cap)->RV (.h8 i) (.ref o ad n 0)|iG{v:SV}{x:AV}:RV v x->xi x=true->RV (.opt true v) x|kU{v:SV}:RV (.opt false v) (.sc (.pointer none))|fn{f:FuncId}{dV:List SV}{xs:List AV}:aC dV xs->RV (.fn f dV) (.func (.func f) [] xs)|iP{f:FuncId}:RV (.fn f []) (.sc (.func (.func f) #[] #[]))|aR{vs:List SV}{xs:List AV}:aC vs xs->RV (.aR vs) (.tuple xs)|eI{t:TypeId}{v:SV}{x:AV}:RV v x->RV (.eI t v) (.iface t x)|n4{t:TypeId}{x:AV}:RV (.qZ true) (.iface t x)|n5:RV (.qZ false) (.sc .nilIface)|cV{x:AV}:ez x=true->RV .cV x|cl{t:TypeId}{rows:List (List AV)}{o ad n off:Nat}:0<rows.length->Rd P w t rows (.sl o ad n off (lay P t).length rows.length (some rows.length))->RV (.cl t rows) (.sl o ad n off (lay P t).length rows.length (some rows.length))|yl{f:FuncId}{ts ps:List Tmp}{cs:List SV}{l tn dd:Nat}{tm:Tr AV}{hd bd:Code}:w.g l=some (.loop .ready none f tn tm ps hd bd dd)->E3 P f tn ps hd bd->aC cs (ts.map λt=>ev tm (.tmp t))->RV (.yl f ts cs) (.e9 l)inductive aC:List SV->List AV->Prop|nil:aC [] []|cons{v:SV}{x:AV}{vs:List SV}{xs:List AV}:RV v x->aC vs xs->aC (v::vs) (x::xs)end
end
def Grow:Option b7->Option b7->Prop|some (.cells v mv c _ _ _ _),some (.cells v' b c' _ _ _ _)=>v<=v'/\b=mv/\∃d,c'=c++d|_,_=>True
theorem Grow.cells{v mv fz:Nat}{c:List AV}{el:TypeId}{ex sh:Bool}{y:Option b7}(hy:∃v' b c' ik il iq hK,y=some (.cells v' b c' ik il iq hK))(h:Grow (some (.cells v mv c fz el ex sh)) y):∃v' d ik il iq hK,y=some (.cells v' mv (c++d) ik il iq hK)/\v<=v':=by obtain⟨v',b,c',ik,il,iq,hK,rfl⟩:=hy;obtain⟨h1,rfl,d,rfl⟩:=h;exact⟨v',d,ik,il,iq,hK,rfl,h1⟩
def n6:b7->Bool|.loop ..=>true|_=>false
def Lp(g:Nat->Option b7)(o:Nat):Prop:=∃x,g o=some x/\n6 x=true
structure bA(w w':Wd):Prop where
 F:∀o,w.F o->w'.F o
 l:∀o x,w.g o=some x->n6 x=true->w'.g o=some x
 n:∀o,w.g o≠none->w'.g o≠none/\(Lp w'.g o->Lp w.g o)g:∀o,w.F o->∀v mv c fz el ex sh,w.g o=some (.cells v mv c fz el ex sh)->∃v' d ik il iq hK,w'.g o=some (.cells v' mv (c++d) ik il iq hK)/\v<=v'
theorem bA.refl(w:Wd):bA w w:=⟨λ_ h=>h,λ_ _ h _=>h,λ_ h=>⟨h,id⟩,λ_ _ v mv c fz el ex sh h=>⟨v,[],fz,el,ex,sh,by simpa using h,ak _⟩⟩
theorem bA.trans{a b c:Wd}(h:bA a b)(h':bA b c):bA a c:=⟨λo x=>h'.F o (h.F o x),λo x e i=>h'.l o x (h.l o x e i) i,λo e=>⟨(h'.n o (h.n o e).1).1,λq=>(h.n o e).2 ((h'.n o (h.n o e).1).2 q)⟩,λo x v mv cs fz el ex sh e=>by obtain⟨z,d1,C,D,u,B,q1,q2⟩:=h.g o x v mv cs fz el ex sh e;obtain⟨j,d2,p,t,f,k,q3,m⟩:=h'.g o (h.F o x) _ _ _ _ _ _ _ q1;exact⟨j,d1++d2,p,t,f,k,by rw[q3,List.append_assoc],Nat.le_trans q2 m⟩⟩
theorem ud{sz:Nat}:∀(n:Nat)(l d:List AV),n*sz<=l.length->chunks sz n (l++d)=chunks sz n l
 |0,_,_,_=>rfl
 |n+1,l,d,h=>by
  have h':sz<=l.length:=by rw[Nat.add_mul]at h;omega
  simp only[chunks];rw[List.take_append_of_le_length h',List.drop_append_of_le_length h',ud n (l.drop sz) d (by rw[List.length_drop];rw[Nat.add_mul]at h;omega)]
structure mW(w w':Wd):Prop where
 F:∀o,w.F o->w'.F o
 g:∀o,w.F o->∀v mv c fz el ex sh,w.g o=some (.cells v mv c fz el ex sh)->∃v' d ik il iq hK,w'.g o=some (.cells v' mv (c++d) ik il iq hK)/\v<=v'
theorem bA.c{w w':Wd}(h:bA w w'):mW w w':=⟨h.F,h.g⟩
section
variable {P:Program}{w w':Wd}
mutual
theorem Rd.fS(hl:mW w w'):∀{t:TypeId}{rows:List (List AV)}{x:AV},Rd P w t rows x->Rd P w' t rows x|_,_,_,.nil t=>.nil t|_,_,_,.cq t=>.cq t|_,_,_,.aG a b c h=>.aG a b c (bX.fS hl h)|_,_,_,.sl a b hF hg h1 h2 h3 h4 hc h=>by obtain⟨v',d,ik,il,iq,hK,e,hv⟩:=hl.g _ hF _ _ _ _ _ _ _ hg;refine .sl a b (hl.F _ hF) e h1 (Nat.le_trans h2 hv) h3 (by rw[List.length_append];omega) hc ?_;have:=bX.fS hl h;rw[List.drop_append_of_le_length (by omega),ud _ _ _ (by rw[List.length_drop];omega)];exact this
theorem bX.fS(hl:mW w w'):∀{ls:List Lf}{rs de:List (List AV)},bX P w ls rs de->bX P w' ls rs de|_,_,_,.nil ls=>.nil ls|_,_,_,.cons a b=>.cons (cF.fS hl a) (bX.fS hl b)theorem cF.fS(hl:mW w w'):∀{ls:List Lf}{r r':List AV},cF P w ls r r'->cF P w' ls r r'|_,_,_,.nil=>.nil|_,_,_,.cons a b=>.cons (ku.fS hl a) (cF.fS hl b)theorem ku.fS(hl:mW w w'):∀{l:Lf}{c y:AV},ku P w l c y->ku P w' l c y|_,_,_,.int k n=>.int k n|_,_,_,.bool b=>.bool b|_,_,_,.str s=>.str s|_,_,_,.sl h=>.sl (Rd.fS hl h)end
theorem Rp.fS(hl:mW w w'){t:TypeId}{row:List AV}{off:Nat}{x:AV}(h:Rp P w t row off x):Rp P w' t row off x:=by cases h with|cH h1=>exact .cH (h1.fS hl)|ref hF hg h1 h2 h3 h4 h=>obtain⟨v',d,ik,il,iq,hK,e,hv⟩:=hl.g _ hF _ _ _ _ _ _ _ hg;refine .ref (hl.F _ hF) e h1 (Nat.le_trans h2 hv) h3 (by rw[List.length_append];omega) ?_;rw[List.drop_append_of_le_length (by omega),List.take_append_of_le_length (by rw[List.length_drop];omega)];exact h.fS hl
theorem Rd.mono(hl:bA w w'){t:TypeId}{rows:List (List AV)}{x:AV}(h:Rd P w t rows x):Rd P w' t rows x:=h.fS hl.c
theorem bX.mono(hl:bA w w'){ls:List Lf}{rs de:List (List AV)}(h:bX P w ls rs de):bX P w' ls rs de:=h.fS hl.c
theorem cF.mono(hl:bA w w'){ls:List Lf}{r r':List AV}(h:cF P w ls r r'):cF P w' ls r r':=h.fS hl.c
theorem Rp.mono(hl:bA w w'){t:TypeId}{row:List AV}{off:Nat}{x:AV}(h:Rp P w t row off x):Rp P w' t row off x:=h.fS hl.c
mutual
theorem RV.mz(hl:mW w w')(hs:∀i k,w.s i=some k->w'.s i=some k):∀{v:SV}{x:AV},lP v=true->RV P w v x->RV P w' v x|_,_,_,.aO x=>.aO x|_,_,_,.sc h=>.sc h|_,_,q,.agg h=>.agg (aC.mz hl hs (by simpa[lP]using q) h)|_,_,_,.dl h=>.dl (h.fS hl)|_,_,_,.dh h=>.dh (hs _ _ h)|_,_,_,.cG h=>.cG (hs _ _ h)|_,_,_,.ref h=>.ref (hs _ _ h)|_,_,_,.dU h a=>.dU (hs _ _ h) a|_,_,_,.dN h=>.dN (h.fS hl)|_,_,_,.h8 h=>.h8 (hs _ _ h)|_,_,q,.iG h a=>.iG (RV.mz hl hs (by simpa[lP]using q) h) a|_,_,_,.kU=>.kU|_,_,q,.fn h=>.fn (aC.mz hl hs (by simpa[lP]using q) h)|_,_,_,.iP=>.iP|_,_,q,.aR h=>.aR (aC.mz hl hs (by simpa[lP]using q) h)|_,_,q,.eI h=>.eI (RV.mz hl hs (by simpa[lP]using q) h)|_,_,_,.n4=>.n4|_,_,_,.n5=>.n5|_,_,_,.cV h=>.cV h|_,_,_,.cl a h=>.cl a (h.fS hl)|_,_,q,.yl _ _ _=>by cases q
theorem aC.mz(hl:mW w w')(hs:∀i k,w.s i=some k->w'.s i=some k):∀{vs:List SV}{xs:List AV},jG vs=true->aC P w vs xs->aC P w' vs xs|_,_,_,.nil=>.nil|_,_,q,.cons a b=>.cons (RV.mz hl hs (by simp only[jG,aX]at q;exact q.1) a) (aC.mz hl hs (by simp only[jG,aX]at q;exact q.2) b)end
theorem KE:∀{v:SV},n7 v=true->lP v=true|.opt _ v,h=>KE (v:=v) h|.fn _ _,h=>h|.eI _ _,h=>h|.aO,_=>rfl|.sc _,_=>rfl|.dl _ _,_=>rfl|.own _,_=>rfl|.ref _ _,_=>rfl|.dU _ _ _,_=>rfl|.dN _ _ _,_=>rfl|.h8 _,_=>rfl|.qZ _,_=>rfl|.cV,_=>rfl|.cl _ _,_=>rfl|.agg _,h=>by cases h|.aR _,h=>by cases h|.yl _ _ _,h=>by cases h
theorem Ji:∀{vs:List SV},cK vs=true->jG vs=true|[],_=>rfl|v::vs,h=>by simp only[cK,aX]at h;simp only[jG,KE h.1,Ji h.2,Bool.and_self]
mutual
theorem RV.mono(hl:bA w w')(hs:∀i k,w.s i=some k->w'.s i=some k):∀{v:SV}{x:AV},RV P w v x->RV P w' v x|_,_,.aO x=>.aO x|_,_,.sc h=>.sc h|_,_,.agg h=>.agg (aC.mono hl hs h)|_,_,.dl h=>.dl (h.mono hl)|_,_,.dh h=>.dh (hs _ _ h)|_,_,.cG h=>.cG (hs _ _ h)|_,_,.ref h=>.ref (hs _ _ h)|_,_,.dU h a=>.dU (hs _ _ h) a|_,_,.dN h=>.dN (h.mono hl)|_,_,.h8 h=>.h8 (hs _ _ h)|_,_,.iG h a=>.iG (RV.mono hl hs h) a|_,_,.kU=>.kU|_,_,.fn h=>.fn (aC.mono hl hs h)|_,_,.iP=>.iP|_,_,.aR h=>.aR (aC.mono hl hs h)|_,_,.eI h=>.eI (RV.mono hl hs h)|_,_,.n4=>.n4|_,_,.n5=>.n5|_,_,.cV h=>.cV h|_,_,.cl a h=>.cl a (h.mono hl)|_,_,.yl a b h=>.yl (hl.l _ _ a rfl) b (aC.mono hl hs h)theorem aC.mono(hl:bA w w')(hs:∀i k,w.s i=some k->w'.s i=some k):∀{vs:List SV}{xs:List AV},aC P w vs xs->aC P w' vs xs|_,_,.nil=>.nil|_,_,.cons a b=>.cons (RV.mono hl hs a) (aC.mono hl hs b)end
theorem aC.length:∀{vs:List SV}{xs:List AV},aC P w vs xs->vs.length=xs.length|_,_,.nil=>rfl|_,_,.cons _ b=>by simp[aC.length b]
theorem aC.get:∀{vs:List SV}{xs:List AV},aC P w vs xs->∀(i:Nat)(v:SV),vs[i]?=some v->∃x,xs[i]?=some x/\RV P w v x|_,_,.nil,i,v,h=>by simp at h|_,_,.cons a b,0,v,h=>by simp at h;subst h;exact⟨_,by simp,a⟩|_,_,.cons a b,i+1,v,h=>by simp at h;obtain⟨x,e,r⟩:=aC.get b i v h;exact⟨x,by simpa using e,r⟩
theorem aC.take:∀{vs:List SV}{xs:List AV}(n:Nat),aC P w vs xs->aC P w (vs.take n) (xs.take n)|_,_,0,_=>by simp;exact .nil|_,_,n+1,.nil=>by simp;exact .nil|_,_,n+1,.cons a b=>by simp only[List.take_succ_cons];exact .cons a (aC.take n b)
theorem aC.drop:∀{vs:List SV}{xs:List AV}(n:Nat),aC P w vs xs->aC P w (vs.drop n) (xs.drop n)|_,_,0,h=>by simpa using h|_,_,n+1,.nil=>by simp;exact .nil|_,_,n+1,.cons a b=>by simp only[List.drop_succ_cons];exact aC.drop n b
theorem aC.append:∀{vs us:List SV}{xs ys:List AV},aC P w vs xs->aC P w us ys->aC P w (vs++us) (xs++ys)|_,_,_,_,.nil,h=>h|_,_,_,_,.cons a b,h=>.cons a (aC.append b h)
theorem aC.map{α:Type}{f:α->SV}{c:α->AV}:∀(l:List α),(∀a,a∈l->RV P w (f a) (c a))->aC P w (l.map f) (l.map c)|[],_=>.nil|a::l,h=>.cons (h a (by simp)) (aC.map l λb hb=>h b (by simp[hb]))
theorem cF.length:∀{ls:List Lf}{r r':List AV},cF P w ls r r'->r.length=ls.length/\r'.length=ls.length|_,_,_,.nil=>⟨rfl,rfl⟩|_,_,_,.cons _ b=>by have:=cF.length b;simp[this]
theorem cF.get:∀{ls:List Lf}{r r':List AV},cF P w ls r r'->∀(j:Nat)(l:Lf),ls[j]?=some l->∃c y,r[j]?=some c/\r'[j]?=some y/\ku P w l c y|_,_,_,.nil,j,l,h=>by simp at h|_,_,_,.cons a b,0,l,h=>by simp at h;subst h;exact⟨_,_,by simp,by simp,a⟩|_,_,_,.cons a b,j+1,l,h=>by simp at h;obtain⟨c,y,f,e,q⟩:=cF.get b j l h;exact⟨c,y,by simpa using f,by simpa using e,q⟩
theorem bX.length:∀{ls:List Lf}{rs de:List (List AV)},bX P w ls rs de->rs.length=de.length|_,_,_,.nil _=>rfl|_,_,_,.cons _ b=>by simp[bX.length b]
theorem bX.get:∀{ls:List Lf}{rs de:List (List AV)},bX P w ls rs de->∀(i:Nat)(r:List AV),rs[i]?=some r->∃r',de[i]?=some r'/\cF P w ls r r'|_,_,_,.nil _,i,r,h=>by simp at h|_,_,_,.cons a b,0,r,h=>by simp at h;subst h;exact⟨_,by simp,a⟩|_,_,_,.cons a b,i+1,r,h=>by simp at h;obtain⟨r',e,q⟩:=bX.get b i r h;exact⟨r',by simpa using e,q⟩
theorem bX.sub{ls:List Lf}{rs de:List (List AV)}(h:bX P w ls rs de)(a b:Nat):bX P w ls ((rs.drop a).take b) ((de.drop a).take b):=by
 have hd:∀{rs de:List (List AV)}(a:Nat),bX P w ls rs de->bX P w ls (rs.drop a) (de.drop a):=by intro rs de a;induction a generalizing rs de with|zero=>intro h;simpa using h|succ a ih=>intro h;cases h with|nil=>simp;exact .nil _|cons x y=>simpa using ih y
 have c:∀{rs de:List (List AV)}(a:Nat),bX P w ls rs de->bX P w ls (rs.take a) (de.take a):=by intro rs de a;induction a generalizing rs de with|zero=>intro _;simp;exact .nil _|succ a ih=>intro h;cases h with|nil=>simp;exact .nil _|cons x y=>simpa using .cons x (ih y)
 exact c b (hd a h)
theorem bX.append{ls:List Lf}:∀{a a' b b':List (List AV)},bX P w ls a a'->bX P w ls b b'->bX P w ls (a++b) (a'++b')|_,_,_,_,.nil _,h=>h|_,_,_,_,.cons x y,h=>.cons x (bX.append y h)
theorem yU{l:Lf}{c y:AV}{r:List AV}{j:Nat}(hc:r[j]?=some c)(h:ku P w l c y):RV P w (j6 l r j) y:=by cases h with|int k n=>simp only[j6,gI,hc];exact .sc rfl|bool b=>simp only[j6,gB,hc];exact .sc rfl|str s=>simp only[j6,gS,hc];exact .sc rfl|sl h=>simp only[j6,gD,hc];exact .dl h
theorem Rt(r:List AV):∀(ls:List Lf)(j:Nat),(lA r ls j).length=ls.length|[],_=>rfl|l::ls,j=>by simp[lA,Rt r ls (j+1)]
theorem Ic{e:List AV}:∀{ls:List Lf}{r r':List AV},cF P w ls r r'->∀(j:Nat),(∀k,e[j+k]?=r[k]?)->aC P w (lA e ls j) r'|_,_,_,.nil,j,_=>.nil|_,_,_,.cons (c:=c) a b,j,h=>by refine .cons (yU (c:=c) (by simpa using h 0) a) (Ic b (j+1) λk=>?_);have:=h (k+1);rw[show j+1+k=j+(k+1)by omega,this];simp
theorem Jj{ls:List Lf}{r r':List AV}(h:cF P w ls r r'):aC P w (lA r ls 0) r':=Ic h 0 λk=>by simp
end
end Go.AI
end

section
namespace Go.AI
def live(ob:Tr au)(i:Nat):Prop:=∃x,ob.get i=some x/\x≠.gone
def cw(s:ByteArray):List AV:=s.data.toList.map λb=>.sc (.int .u8 b.toNat)
structure aj(P:Program)(w:Wd)(ob:Tr au)(nx:Nat)(h:AHeap):Prop where
 g:∀o,w.g o=h.get o
 box:∀i t cs,ob.get i=some (.box t cs)->∃o c sh,w.s i=some (.box o c.length)/\h.get o=some (.cells 0 0 c 0 t true sh)/\aC P w cs c/\cK cs=true/\¬w.F o
 arr:∀i t rows bE,ob.get i=some (.arr t rows bE)->bB P t=some (lay P t).length/\0<(lay P t).length/\isByte P t=false/\((w.s i=some .nil/\rows=[])\/∃o ad mv c ex sh cap,w.s i=some (.sl o ad (rows.length*(lay P t).length) (lay P t).length rows.length cap)/\(∀k,cap=some k->k=rows.length)/\h.get o=some (.cells ad mv c 0 t ex sh)/\mv<=ad/\c.length=rows.length*(lay P t).length/\bX P w (lay P t) rows (chunks (lay P t).length rows.length c)/\(bE=true->True)/\(bE=false->¬w.F o))
 aK:∀i s el,ob.get i=some (.aK s el)->isByte P el=true/\((w.s i=some .nil/\s.size=0)\/∃o ad mv ex fz cap,0<s.size/\w.s i=some (.sl o ad s.size 1 s.size cap)/\(∀k,cap=some k->k=s.size)/\h.get o=some (.cells ad mv (cw s) fz el ex false)/\mv<=ad/\fz<=s.size/\¬w.F o)
 inj:∀i j k l o,live ob i->live ob j->w.s i=some k->w.s j=some l->k.obj=some o->l.obj=some o->i=j
 lt:∀i k o,w.s i=some k->k.obj=some o->o<h.next
 nx:∀i,nx<=i->w.s i=none/\ob.get i=none
 cW:∀o,w.F o->o<h.next/\h.get o≠none
 new:∀o,h.next<=o->h.get o=none
structure eN(P:Program)(w:Wd)(tm:Tr SV)(bL:Tr AV):Prop where tm:∀t v,tm.get t=some v->∃x,bL.get t=some x/\RV P w v x
theorem eN.mono{P:Program}{w w':Wd}{tm:Tr SV}{bL:Tr AV}(h:eN P w tm bL)(hl:bA w w')(hs:∀i k,w.s i=some k->w'.s i=some k):eN P w' tm bL:=⟨λt v e=>let⟨x,a,b⟩:=h.tm t v e;⟨x,a,b.mono hl hs⟩⟩
section
variable {P:Program}{w w':Wd}
theorem L0(v:Value):RV P w (Bu v) (.sc v):=by
 unfold Bu
 split
 .rename_i h;exact .sc h
 .exact .aO _
theorem EF(v:Value):RV P w (ib v) (bn v):=by
 cases v with
 |agg cs=>exact .agg (aC.map _ λa _=>L0 a)
 |tuple cs=>exact .aR (aC.map _ λa _=>L0 a)
 |func fn a c=>
  cases fn with
  |func f=>
   simp only[ib,bn]
   split
   .rename_i h1 h2
    have e:a=#[]:=by cases a;simpa using h1
    have b:c=#[]:=by cases c;simpa using h2
    subst e;subst b;exact .iP
   .exact .sc rfl|_=>exact .sc rfl
 |_=>exact .sc rfl
theorem gv{tm:Tr SV}{bL:Tr AV}(h:eN P w tm bL)(o:Operand):RV P w (bK tm o) (ev bL o):=by
 cases o with
 |tmp t=>simp only[bK,ev];cases e:tm.get t with|none=>exact .aO _|some v=>obtain⟨x,a,b⟩:=h.tm t v e;simp only[a];exact b
 |const v=>exact EF v|global g=>exact .aO _|func f=>exact .iP
theorem Ru{x:AV}(h:xi x=true):bm x=[x]:=by cases x<;>first|rfl|cases h
theorem Rd.na{t:TypeId}{rows:List (List AV)}{x:AV}(h:Rd P w t rows x):xi x=true:=by cases h<;>rfl
theorem Rp.na{t:TypeId}{row:List AV}{off:Nat}{x:AV}(h:Rp P w t row off x):xi x=true:=by cases h<;>rfl
theorem RV.na{v:SV}{x:AV}(h:RV P w v x)(hv:v≠.aO)(ha:∀cs,v≠.agg cs):xi x=true:=by
 cases h with
 |aO x=>exact absurd rfl hv
 |agg h=>exact absurd rfl (ha _)
 |dl h=>exact h.na
 |dN h=>exact h.na
 |iG h a=>exact a
 |cV a=>cases x<;>first|rfl|cases a
 |_=>rfl
theorem uB{v:SV}{x:AV}(h:RV P w v x)(hv:v≠.aO):aC P w (cj v) (bm x):=by
 by_cases ha:∃cs,v=.agg cs
 .obtain⟨cs,rfl⟩:=ha;cases h with|agg h=>exact h
 .have ha:∀cs,v≠.agg cs:=λcs e=>ha ⟨cs,e⟩
  rw[Ru (h.na hv ha)]
  have:cj v=[v]:=by cases v<;>first|rfl|exact absurd rfl (ha _)
  rw[this];exact .cons h .nil
theorem Rd.cell{t:TypeId}{rows:List (List AV)}{x:AV}(h:Rd P w t rows x):ez x=true:=by cases h<;>rfl
theorem RV.cell:∀{v:SV}{x:AV},RV P w v x->n7 v=true->ez x=true
 |.aO,_,_,h=>by cases h
 |.agg _,_,_,h=>by cases h
 |.aR _,_,_,h=>by cases h
 |.sc v,_,.sc hp,h=>by cases v<;>first|rfl|cases hp
 |.dl _ _,_,.dl hr,_=>hr.cell|.own _,_,.dh _,_=>rfl|.own _,_,.cG _,_=>rfl|.ref _ _,_,.ref _,_=>rfl|.dU _ _ _,_,.dU _ _,_=>rfl|.dN _ _ _,_,.dN hp,_=>by cases hp<;>rfl|.h8 _,_,.h8 _,_=>rfl|.opt _ v,_,.iG hr _,h=>RV.cell (v:=v) hr (by simpa[n7]using h)|.opt _ _,_,.kU,_=>rfl|.fn _ _,_,.fn _,_=>rfl|.fn _ _,_,.iP,_=>rfl|.eI _ _,_,.eI _,_=>rfl|.qZ _,_,.n4,_=>rfl|.qZ _,_,.n5,_=>rfl|.cV,_,.cV h,_=>h|.cl _ _,_,.cl _ _,_=>rfl|.yl _ _ _,_,_,h=>by cases h
theorem aC.cells:∀{vs:List SV}{xs:List AV},aC P w vs xs->cK vs=true->xs.all ez=true|_,_,.nil,_=>rfl|_,_,.cons a b,h=>by simp only[cK,aX]at h;simp only[List.all_cons,aX];exact⟨a.cell h.1,b.cells h.2⟩
theorem pU{sz:Nat}:∀(n:Nat)(l:List AV)(i:Nat),i<n->(chunks sz n l)[i]?=some ((l.drop (i*sz)).take sz)|0,_,_,h=>by omega|n+1,l,0,_=>by simp[chunks]|n+1,l,i+1,h=>by simp only[chunks,List.getElem?_cons_succ];rw[pU n (l.drop sz) i (by omega),List.drop_drop];rw[show sz+i*sz=(i+1)*sz by rw[Nat.add_mul];omega]
def mA(h h1:AHeap)(x:AV):Prop:=∀o,o∈mF x->h1.get o=h.get o
theorem Hm{row dW:List AV}{ls:List Lf}(hr:cF P w ls row dW)(off s:Nat):aC P w (((lA row ls 0).drop off).take s) ((dW.drop off).take s):=(Jj hr).drop off|>.take s
variable {ob:Tr au}{nx:Nat}{h h1:AHeap}
theorem Rp.read(hs:aj P w ob nx h){t:TypeId}{row:List AV}{off s:Nat}{x:AV}(hp:Rp P w t row off x)(ha:mA h h1 x)(hl:off+s<=(lay P t).length):
 ∃dW,cF P w (lay P t) row dW/\jc h1 s x=some ((dW.drop off).take s):=by
 cases hp with
 |cH hr=>rename_i dW;refine⟨dW,hr,?_⟩;have:=hr.length;simp only[jc];rw[if_pos (by rw[List.length_drop];omega)]
 |ref hF hg h2 h3 h4 e hr=>
  rename_i o ad n p v mv fz c el ex sh
  refine⟨_,hr,?_⟩
  have b:h1.get o=some (.cells v mv c fz el ex sh):=by rw[ha o (by simp[mF]),<-hs.g];exact hg
  simp only[jc,dp,b];rw[if_pos ⟨h2,h3,by omega⟩];rw[List.drop_take,List.take_take,List.drop_drop,Nat.min_eq_left (by omega)]
theorem Jk(hs:aj P w ob nx h){i off s:Nat}{t:TypeId}{cs:List SV}{x:AV}(hb:ob.get i=some (.box t cs))(hx:RV P w (.ref i off) x)(ha:mA h h1 x)(hl:off+s<=cs.length):
 ∃xs,jc h1 s x=some ((xs.drop off).take s)/\aC P w cs xs:=by
 obtain⟨o,c,sh,j,g,f,_,_⟩:=hs.box i t cs hb
 cases hx with
 |ref e=>
  rw[j]at e
  simp only[ab,Lk.box.injEq]at e
  obtain⟨rfl,rfl⟩:=e
  have b:h1.get o=some (.cells 0 0 c 0 t true sh):=by rw[ha o (by simp[mF])];exact g
  refine⟨c,?_,f⟩;simp only[jc,dp,b];rw[if_pos ⟨ak _,ak _,by rw[<-f.length];exact hl⟩]
theorem Jl(hs:aj P w ob nx h){i k off s:Nat}{t:TypeId}{rows:List (List AV)}{bE:Bool}{row:List AV}{x:AV}(hb:ob.get i=some (.arr t rows bE))(hr:rows[k]?=some row)(hx:RV P w (.dU i k off) x)(ha:mA h h1 x)(hl:off+s<=(lay P t).length):
 ∃dW,cF P w (lay P t) row dW/\jc h1 s x=some ((dW.drop off).take s):=by
 obtain⟨_,_,_,hd⟩:=hs.arr i t rows bE hb
 have hk:k<rows.length:=by
  rcases Nat.lt_or_ge k rows.length with a|a
  .exact a
  .rw[List.getElem?_eq_none a]at hr;cases hr
 rcases hd with⟨_,rfl⟩|⟨o,ad,mv,c,ex,sh,cap,m,_,l,j,n,g,_⟩
 .simp at hk
 .cases hx with
  |dU e _=>
   rw[m]at e
   simp only[ab,Lk.sl.injEq]at e
   obtain⟨rfl,rfl,rfl,rfl,rfl,rfl⟩:=e
   have f:h1.get o=some (.cells ad mv c 0 t ex sh):=by rw[ha o (by simp[mF])];exact l
   obtain⟨dW,q1,q2⟩:=g.get k row hr;rw[pU _ _ _ hk]at q1;simp only[ab]at q1;subst q1;refine⟨_,q2,?_⟩;have b:(k+1)*(lay P t).length<=rows.length*(lay P t).length:=Nat.mul_le_mul_right _ hk;rw[Nat.add_mul]at b;simp only[jc,dp,f];rw[if_pos ⟨j,ak _,by omega⟩];rw[List.drop_take,List.take_take,List.drop_drop,Nat.min_eq_left (by omega)]
theorem EG{xs:List AV}{off:Nat}{x:AV}(h:xs[off]?=some x):(xs.drop off).take 1=[x]:=by
 have b:off<xs.length:=by
  rcases Nat.lt_or_ge off xs.length with a|a
  .exact a
  .rw[List.getElem?_eq_none a]at h;cases h
 rw[List.getElem?_eq_getElem b]at h;simp only[ab]at h;subst h;rw[List.drop_eq_getElem_cons b];rfl
variable {ρ:Type}
theorem KF{S:af}(hs:aj P w S.ob S.nx h){t:TypeId}{a:SV}{x:AV}(hx:RV P w a x)(ha:mA h h1 x){k:SV->Option ρ}{r:ρ}(hr:vy P S t a k=some r):
 ∃v y,k v=some r/\j5 P h1 t x=some y/\RV P w v y:=by
 unfold vy at hr
 split at hr
 .rename_i g s i off hg b
  split at hr
  .rename_i t' cs hb
   split at hr
   .rename_i hl
    cases g with
    |true=>obtain⟨xs,m,p⟩:=Jk hs hb hx ha hl;refine⟨_,.agg ((xs.drop off).take s),hr,?_,.agg ((p.drop off).take s)⟩;simp only[j5,hg,b,m];rfl
    |false=>
     simp only at hr
     split at hr
     .rename_i v hv
      have e:off+1<=cs.length:=by
       rcases Nat.lt_or_ge off cs.length with a|a
       .exact a
       .rw[List.getElem?_eq_none a]at hv;cases hv
      obtain⟨xs,m,p⟩:=Jk hs hb hx ha e;obtain⟨y,u,q⟩:=p.get off v hv;refine⟨v,y,hr,?_,q⟩;rw[EG u]at m;simp only[j5,hg,b,m]
     .cases hr
   .cases hr
  .cases hr
 .rename_i g s t' row off hg b
  split at hr
  .rename_i hl
   cases hx with
   |dN hp=>
    cases g with
    |true=>obtain⟨dW,q1,q2⟩:=hp.read hs ha hl;refine⟨_,.agg ((dW.drop off).take s),hr,?_,.agg (Hm q1 off s)⟩;simp only[j5,hg,b,q2];rfl
    |false=>
     simp only at hr
     split at hr
     .rename_i l hv
      have e:off+1<=(lay P t').length:=by
       rcases Nat.lt_or_ge off (lay P t').length with a|a
       .exact a
       .rw[List.getElem?_eq_none a]at hv;cases hv
      obtain⟨dW,q1,q2⟩:=hp.read hs ha e;obtain⟨c,y,q3,o,n⟩:=q1.get off l hv;refine⟨_,y,hr,?_,yU q3 n⟩;rw[EG o]at q2;simp only[j5,hg,b,q2]
     .cases hr
  .cases hr
 .rename_i g s i j off hg b
  split at hr
  .rename_i t' rows bE hb
   unfold cL at hr
   split at hr
   .rename_i row f
    split at hr
    .rename_i hl
     cases g with
     |true=>obtain⟨dW,q1,q2⟩:=Jl hs hb f hx ha hl;refine⟨_,.agg ((dW.drop off).take s),hr,?_,.agg (Hm q1 off s)⟩;simp only[j5,hg,b,q2];rfl
     |false=>
      simp only at hr
      split at hr
      .rename_i l hv
       have e:off+1<=(lay P t').length:=by
        rcases Nat.lt_or_ge off (lay P t').length with a|a
        .exact a
        .rw[List.getElem?_eq_none a]at hv;cases hv
       obtain⟨dW,q1,q2⟩:=Jl hs hb f hx ha e;obtain⟨c,y,q3,o,n⟩:=q1.get off l hv;refine⟨_,y,hr,?_,yU q3 n⟩;rw[EG o]at q2;simp only[j5,hg,b,q2]
      .cases hr
    .cases hr
   .cases hr
  .cases hr
 .cases hr
end
end Go.AI
end

section
namespace Go.AI
def Wd.more(w:Wd)(F:Nat->Prop):Wd:={w with F:=λo=>w.F o\/F o}
theorem bA.more(w:Wd)(F:Nat->Prop):bA w (w.more F):=⟨λ_ h=>.inl h,λ_ _ h _=>h,λ_ h=>⟨h,id⟩,λ_ _ v mv c fz el ex sh h=>⟨v,[],fz,el,ex,sh,by simpa[Wd.more]using h,ak _⟩⟩
def Ow(w:Wd)(ob:Tr au)(o:Nat):Prop:=∃i k,live ob i/\w.s i=some k/\k.obj=some o
theorem bA.imp{w w':Wd}(hg:w'.g=w.g)(hF:∀o,w.F o->w'.F o):bA w w':=⟨hF,λ_ _ h _=>by rw[hg];exact h,λ_ h=>by rw[hg];exact⟨h,id⟩,λ_ _ v mv c fz el ex sh h=>⟨v,[],fz,el,ex,sh,by rw[hg];simpa using h,ak _⟩⟩
section
variable {P:Program}{w:Wd}{ob:Tr au}{nx:Nat}{h:AHeap}
theorem yk{i j:Nat}{x y:au}(hx:ob.get i=some x)(hg:x≠.gone)(hy:y≠.gone):live (ob.put i y) j↔live ob j:=by
 unfold live
 by_cases e:j=i
 .subst e;rw[Tr.bS];exact⟨λ_=>⟨x,hx,hg⟩,λ_=>⟨y,rfl,hy⟩⟩
 .rw[Tr.a8 _ _ e]
theorem aC.Xx{cs:List SV}{c:List AV}(F:Nat->Prop)(hr:aC P w cs c):aC P (w.more F) cs c:=hr.mono (bA.more w F) λ_ _ e=>e
theorem Ss(hs:aj P w ob nx h){i:Nat}{t:TypeId}{rows:List (List AV)}{bE:Bool}(hi:ob.get i=some (.arr t rows bE)):
 ∃F,aj P (w.more F) (ob.put i (.arr t rows true)) nx h/\(∀o,F o->Ow w ob o)/\∀x,RV P w (.own i) x->Rd P (w.more F) t rows x:=by
 have C:live ob i:=⟨_,hi,by simp⟩
 have B:∀j,live (ob.put i (.arr t rows true)) j↔live ob j:=λj=>yk hi (by simp) (by simp)
 obtain⟨M,L,U,J⟩:=hs.arr i t rows bE hi
 have b:∀j,j≠i->∀k o,live ob j->w.s j=some k->k.obj=some o->∀E,w.s i=some E->E.obj≠some o:=λj hj k o hl h1 h2 E h3 h4=>hj (hs.inj j i k E o hl C h1 h3 h2 h4)
 refine⟨λo=>∃k,w.s i=some k/\k.obj=some o,⟨hs.g,?_,?_,?_,?_,hs.lt,?_,?_,hs.new⟩,λo⟨k,h1,h2⟩=>⟨i,k,C,h1,h2⟩,?_⟩
 .intro j t' cs hj
  by_cases e:j=i
  .subst e;rw[Tr.bS]at hj;cases hj
  .rw[Tr.a8 _ _ e]at hj
   obtain⟨o,c,sh,z,p,I,G,T⟩:=hs.box j t' cs hj
   refine⟨o,c,sh,z,p,I.Xx _,G,?_⟩
   rintro(h1|⟨k,h1,h2⟩)
   .exact T h1
   .exact b j e _ o ⟨_,hj,by simp⟩ z rfl k h1 h2
 .intro j t' rows' f hj
  by_cases e:j=i
  .subst e
   rw[Tr.bS]at hj
   simp only[ab,au.arr.injEq]at hj
   obtain⟨rfl,rfl,rfl⟩:=hj
   refine⟨M,L,U,?_⟩
   rcases J with⟨q1,q2⟩|⟨o,ad,mv,c,ex,sh,cap,q1,q2,q3,m,n,v,u,D⟩
   .exact .inl ⟨q1,q2⟩
   .exact .inr ⟨o,ad,mv,c,ex,sh,cap,q1,q2,q3,m,n,v.mono (bA.more w _),λ_=>trivial,λe=>by cases e⟩
  .rw[Tr.a8 _ _ e]at hj
   obtain⟨z,p,I,G⟩:=hs.arr j t' rows' f hj
   refine⟨z,p,I,?_⟩
   rcases G with⟨q1,q2⟩|⟨o,ad,mv,c,ex,sh,cap,q1,q2,q3,m,n,v,u,D⟩
   .exact .inl ⟨q1,q2⟩
   .refine .inr ⟨o,ad,mv,c,ex,sh,cap,q1,q2,q3,m,n,v.mono (bA.more w _),u,λS=>?_⟩
    rintro(h1|⟨k,h1,h2⟩)
    .exact D S h1
    .exact b j e _ o ⟨_,hj,by simp⟩ q1 rfl k h1 h2
 .intro j s f hj
  by_cases e:j=i
  .subst e;rw[Tr.bS]at hj;cases hj
  .rw[Tr.a8 _ _ e]at hj
   obtain⟨N,q⟩:=hs.aK j s f hj
   refine⟨N,?_⟩
   rcases q with q|⟨o,ad,mv,ex,fz,cap,O,q1,q2,q3,m,n,u⟩
   .exact .inl q
   .refine .inr ⟨o,ad,mv,ex,fz,cap,O,q1,q2,q3,m,n,?_⟩
    rintro(h1|⟨k,h1,h2⟩)
    .exact u h1
    .exact b j e _ o ⟨_,hj,by simp⟩ q1 rfl k h1 h2
 .intro j K k l o h1 h2 h3 h4 R Q;exact hs.inj j K k l o ((B j).1 h1) ((B K).1 h2) h3 h4 R Q
 .intro j hj
  obtain⟨z,p⟩:=hs.nx j hj
  refine⟨z,?_⟩
  by_cases e:j=i
  .subst e;rw[hi]at p;cases p
  .rw[Tr.a8 _ _ e];exact p
 .rintro o(h1|⟨k,h1,h2⟩)
  .exact hs.cW o h1
  .refine⟨hs.lt i k o h1 h2,?_⟩
   rcases J with⟨q1,q2⟩|⟨o',ad,mv,c,ex,sh,cap,q1,q2,q3,m,n,v,u,D⟩
   .rw[q1]at h1;cases h1;cases h2
   .rw[q1]at h1;cases h1;cases h2;rw[q3];simp
 .intro x hx
  rcases J with⟨q1,rfl⟩|⟨o,ad,mv,c,ex,sh,cap,q1,q2,q3,m,n,v,u,D⟩
  .cases hx with|dh _=>exact .nil t|cG e=>rw[q1]at e;cases e
  .cases hx with|dh e=>rw[q1]at e;cases e|cG e=>rw[q1]at e;simp only[ab,Lk.sl.injEq]at e;obtain⟨rfl,rfl,rfl,rfl,rfl,rfl⟩:=e;refine .sl M L (.inr ⟨_,q1,rfl⟩) (by show w.g o=_;rw[hs.g];exact q3) m (ak _) (by omega) (by omega) (λk e=>by rw[q2 k e];exact ak _) ?_;rw[List.drop_zero];exact v.mono (bA.more w _)
structure jb(ob ay:Tr au):Prop where box:∀i t cs,ay.get i=some (.box t cs)↔ob.get i=some (.box t cs)arr:∀i t rows l,ob.get i=some (.arr t rows l)->∃l',ay.get i=some (.arr t rows l')/\(l=true->l'=true)NS:∀i t rows l,ay.get i=some (.arr t rows l)->∃l',ob.get i=some (.arr t rows l')aK:∀i s l,ay.get i=some (.aK s l)↔ob.get i=some (.aK s l)live:∀i,live ay i↔live ob i
theorem jb.refl(ob:Tr au):jb ob ob:=⟨λ_ _ _=>Iff.rfl,λ_ _ _ l h=>⟨l,h,id⟩,λ_ _ _ l h=>⟨l,h⟩,λ_ _ _=>Iff.rfl,λ_=>Iff.rfl⟩
theorem jb.trans{a b c:Tr au}(h:jb a b)(h':jb b c):jb a c:=⟨λi t cs=>(h'.box i t cs).trans (h.box i t cs),λi t rows l e=>let⟨f,g,q1⟩:=h.arr i t rows l e;let⟨j,k,q2⟩:=h'.arr i t rows f g;⟨j,k,λe=>q2 (q1 e)⟩,λi t rows l e=>let⟨f,g⟩:=h'.NS i t rows l e;h.NS i t rows f g,λi s l=>(h'.aK i s l).trans (h.aK i s l),λi=>(h'.live i).trans (h.live i)⟩
theorem CS{i:Nat}{t:TypeId}{rows:List (List AV)}{bE:Bool}(hi:ob.get i=some (.arr t rows bE)):jb ob (ob.put i (.arr t rows true)):=by
 refine⟨?_,?_,?_,?_,λj=>yk hi (by simp) (by simp)⟩<;>intro j<;>by_cases e:j=i
 .subst e;simp[Tr.bS,hi]
 .simp[Tr.a8 _ _ e]
 .subst e;intro t' r' l' h';rw[hi]at h';cases h';exact⟨true,by rw[Tr.bS],λ_=>rfl⟩
 .intro t' r' l' h';exact⟨l',by rw[Tr.a8 _ _ e];exact h',id⟩
 .subst e;intro t' r' l' h';rw[Tr.bS]at h';cases h';exact⟨_,hi⟩
 .intro t' r' l' h';rw[Tr.a8 _ _ e]at h';exact⟨_,h'⟩
 .subst e;intro s l;simp[Tr.bS,hi]
 .intro s l;rw[Tr.a8 _ _ e]
theorem sA(hs:aj P w ob nx h):∀(vs:List SV),∃F,aj P (w.more F) (cv ob vs) nx h/\jb ob (cv ob vs)/\(∀o,F o->Ow w ob o)/\∀i,SV.own i∈vs->∀t rows l x,ob.get i=some (.arr t rows l)->RV P w (.own i) x->Rd P (w.more F) t rows x:=by
 intro vs
 induction vs generalizing ob w with
 |nil=>exact⟨λ_=>False,by simpa[Wd.more,cv]using hs,.refl ob,λ_ f=>f.elim,λi hi=>by cases hi⟩
 |cons v vs ih=>
  have other:(∀i,v≠.own i)->cv ob (v::vs)=cv ob vs->
   ∃F,aj P (w.more F) (cv ob (v::vs)) nx h/\jb ob (cv ob (v::vs))/\(∀o,F o->Ow w ob o)/\∀i,SV.own i∈v::vs->∀t rows l x,ob.get i=some (.arr t rows l)->RV P w (.own i) x->Rd P (w.more F) t rows x:=λhv e=>by
   obtain⟨F,h1,h2,h4,h3⟩:=ih hs
   refine⟨F,by rw[e];exact h1,by rw[e];exact h2,h4,λi hi=>?_⟩
   rcases List.mem_cons.1 hi with e|hi
   .exact absurd e.symm (hv i)
   .exact h3 i hi
  cases v with
  |own i=>
   simp only[cv]
   cases hb:ob.get i with
   |none=>
    obtain⟨F,h1,h2,h4,h3⟩:=ih hs
    refine⟨F,h1,h2,h4,λj hj=>?_⟩
    rcases List.mem_cons.1 hj with e|hj
    .cases e;intro t rows l x e;rw[hb]at e;cases e
    .exact h3 j hj
   |some y=>
    cases y with
    |arr t rows l=>
     obtain⟨g,q1,q3,q2⟩:=Ss hs hb
     obtain⟨F,h1,h2,h4,h3⟩:=ih q1
     have hm:(w.more g).more F=w.more λo=>g o\/F o:=by simp[Wd.more,or_assoc]
     refine⟨λo=>g o\/F o,by rw[<-hm];exact h1,(CS hb).trans h2,λo f=>f.elim (q3 o) λf=>by obtain⟨j,k,n,c,b⟩:=h4 o f;exact⟨j,k,((CS hb).live j).1 n,c,b⟩,λj hj t' rows' l' x e hx=>?_⟩
     rw[<-hm]
     rcases List.mem_cons.1 hj with c|hj
     .cases c;rw[hb]at e;cases e;exact(q2 x hx).mono (bA.more _ _)
     .obtain⟨m,b,_⟩:=(CS hb).arr j t' rows' l' e;exact h3 j hj t' rows' m x b (hx.mono (bA.more _ _) λ_ _ e=>e)
    |box t cs=>
     obtain⟨F,h1,h2,h4,h3⟩:=ih hs
     refine⟨F,h1,h2,h4,λj hj=>?_⟩
     rcases List.mem_cons.1 hj with e|hj
     .cases e;intro t rows l x e;rw[hb]at e;cases e
     .exact h3 j hj
    |aK s t=>
     obtain⟨F,h1,h2,h4,h3⟩:=ih hs
     refine⟨F,h1,h2,h4,λj hj=>?_⟩
     rcases List.mem_cons.1 hj with e|hj
     .cases e;intro t rows l x e;rw[hb]at e;cases e
     .exact h3 j hj
    |gone=>
     obtain⟨F,h1,h2,h4,h3⟩:=ih hs
     refine⟨F,h1,h2,h4,λj hj=>?_⟩
     rcases List.mem_cons.1 hj with e|hj
     .cases e;intro t rows l x e;rw[hb]at e;cases e
     .exact h3 j hj
  |_=>exact other (λi e=>by cases e) rfl
theorem Ie{F:Nat->Prop}{vs:List SV}{v:SV}(hv:v∈vs)(h3:∀i,SV.own i∈vs->∀t rows l x,ob.get i=some (.arr t rows l)->RV P w (.own i) x->Rd P (w.more F) t rows x)
 {t:TypeId}{rows:List (List AV)}{x:AV}(hd:asData ob t v=some rows)(hx:RV P w v x):Rd P (w.more F) t rows x:=by
 unfold asData at hd
 split at hd
 .split at hd
  .rename_i e;subst e;simp only[ab]at hd;subst hd;cases hx with|dl hr=>exact hr.mono (bA.more _ _)
  .cases hd
 .simp only[ab]at hd;subst hd;cases hx;exact .nil t
 .rename_i i
  split at hd
  .rename_i t' r l hb
   split at hd
   .rename_i e;subst e;simp only[ab]at hd;subst hd;exact h3 i hv _ _ _ _ hb hx
   .cases hd
  .cases hd
 .cases hd
end
end Go.AI
end

section
namespace Go.AI
theorem Wd.lW(w:Wd):w.more (λ_=>False)=w:=by cases w;simp[Wd.more]
section
variable {P:Program}{w:Wd}{h h1:AHeap}{ρ:Type}
def E4(P:Program)(w:Wd)(h h1:AHeap)(S:af)(k:SV->af->Option ρ)(r:ρ)(b:Option (dJ×AHeap)):Prop:=∃F ob,aj P (w.more F) ob S.nx h/\jb S.ob ob/\(∀o,F o->Ow w S.ob o)/\∃v y,k v {S with ob:=ob}=some r/\b=some (.val y,h1)/\RV P (w.more F) v y
theorem E4.one{S:af}(hs:aj P w S.ob S.nx h){k:SV->af->Option ρ}{r:ρ}{b:Option (dJ×AHeap)}{v:SV}{y:AV}(hr:k v S=some r)(c:b=some (.val y,h1))(hv:RV P w v y):E4 P w h h1 S k r b:=⟨λ_=>False,S.ob,by rw[Wd.lW];exact hs,.refl _,λ_ f=>f.elim,v,y,hr,c,by rw[Wd.lW];exact hv⟩
theorem P1{t:TypeId}{a v:SV}{x:AV}{f:Nat}(hx:RV P w a x)(k:Cx P t a f=some v):∃y,oi P t x f=some y/\RV P w v y:=by
 unfold Cx at k
 split at k
 .rename_i m l
  split at k
  .rename_i fd hf
   split at k
   .rename_i n i off hz;simp only[ab]at k;subst k;cases hx with|ref e=>exact⟨_,by simp only[oi,l,hf,hz],.ref e⟩
   .rename_i n t' row off hz;simp only[ab]at k;subst k;cases hx with|dN hp=>cases hp with|cH q=>exact⟨_,by simp only[oi,l,hf,hz];rw[List.drop_drop],.dN (.cH q)⟩|ref a b c d e f g=>exact⟨_,by simp only[oi,l,hf,hz];rw[Nat.add_assoc],.dN (.ref a b c d e f g)⟩
   .rename_i n i j off hz;simp only[ab]at k;subst k;cases hx with|dU e hk=>exact⟨_,by simp only[oi,l,hf,hz];rw[Nat.add_assoc],.dU e hk⟩
   .cases k
  .cases k
 .cases k
theorem St{t:TypeId}{a v:SV}{x:AV}{f:Nat}(hx:RV P w a x)(b:D5 P t a f=some v):∃y,sD P t x f=some y/\RV P w v y:=by
 unfold D5 at b
 split at b
 .rename_i c cs e
  cases hx with
  |agg hc=>
   rename_i xs
   split at b
   .rename_i fd hf
    split at b
    .rename_i s hg hz
     split at b
     .simp only[ab]at b;subst b;exact⟨_,by simp only[sD,e,hf,apart,hg,hz],.agg ((hc.drop _).take _)⟩
     .cases b
    .rename_i s hg hz;obtain⟨y,i,g⟩:=hc.get _ _ b;refine⟨y,?_,g⟩;simp only[sD,e,hf,apart,hg,hz];rw[List.head?_drop];exact i
    .cases b
   .cases b
 .cases b
theorem Su{op:BinOp}{t:TypeId}{xo yo:Operand}{kd:IntKind}{a b:Int}{k:SV->Option ρ}{r:ρ}(hr:Fc op kd a b k=some r):∃v,u3 v=true/\k (.sc v)=some r/\c6 P op t xo yo (.sc (.int kd a)) (.sc (.int kd b))=some (.sc v):=by
 have hd:∀{x:SV},(match decide (b=0)with|true=>none|false=>k x)=some r->b≠0/\k x=some r:=by
  intro x e
  split at e
  .cases e
  .rename_i hb;exact⟨by simpa using hb,e⟩
 cases op<;>simp only[Fc]at hr<;>try(cases hr;done)
 case quo=>obtain⟨hb,hr⟩:=hd hr;refine⟨_,rfl,hr,?_⟩;simp only[c6,eA,e6];show(bW P (Go.binOp .quo t (.int kd a) (.int kd b))).map bn=_;simp only[Go.binOp,ne_eq,not_true_eq_false,if_false,Op.intDiv,if_neg hb];rfl
 case rem=>obtain⟨hb,hr⟩:=hd hr;refine⟨_,rfl,hr,?_⟩;simp only[c6,eA,e6];show(bW P (Go.binOp .rem t (.int kd a) (.int kd b))).map bn=_;simp only[Go.binOp,ne_eq,not_true_eq_false,if_false,Op.intDiv,if_neg hb];rfl
 all_goals refine⟨_,rfl,hr,?_⟩;simp only[c6,eA,e6];first|rfl|(cases kd<;>rfl)
theorem Sv{op:BinOp}{t:TypeId}{xo yo:Operand}{a b:ByteArray}{k:SV->Option ρ}{r:ρ}(hr:Fe op a b k=some r):∃v,u3 v=true/\k (.sc v)=some r/\c6 P op t xo yo (.sc (.string a)) (.sc (.string b))=some (.sc v):=by
 cases op<;>simp only[Fe]at hr<;>try(cases hr;done)
 case add=>
  unfold ai at hr
  split at hr
  .cases hr
  .rename_i hd;refine⟨_,rfl,hr,?_⟩;simp only[c6,eA,e6];show(bW P (Op.stringOp .add a b)).map bn=_;simp only[decide_eq_false_iff_not]at hd;simp only[Op.stringOp,if_neg hd];rfl
 all_goals exact⟨_,rfl,hr,rfl⟩
theorem eZ{α β:Type}(P:Program):∀(m:Sem α)(f:α->Sem β),bW P (m>>=f)=(bW P m).bind λa=>bW P (f a)|.pure a,f=>rfl|.program k,f=>eZ P (k P) f|.mark m k,f=>eZ P k f|.load _ _ _,f=>rfl|.store _ _ _ _,f=>rfl|.new _ _,f=>rfl|.shape _ _,f=>rfl|.freeze _ _ _,f=>rfl|.frozen _ _,f=>rfl|.getObj _ _,f=>rfl|.setObj _ _ _,f=>rfl|.choose _ _,f=>rfl|.sys _ _,f=>rfl|.halt _,f=>rfl
theorem ni{t:TypeId}{d:TypeDesc}(b:P.underlying t=some d):bW P (underlying t)=some d:=by unfold underlying;rw[eZ];show(some P).bind _=_;simp only[Option.bind_some,b];rfl
theorem HC{t:TypeId}{a b:Bool}(c:P.underlying t=some .bool):bW P (Op.equal t (.bool a) (.bool b))=some (a==b):=by unfold Op.equal Op.maxDepth;rw[show(10000:Nat)=9999+1 from rfl,Op.equalIn,eZ,ni c];rfl
theorem Ig{t e:TypeId}(b:P.underlying t=some (.pointer e)):bW P (Op.equal t (.pointer none) (.pointer none))=some true:=by unfold Op.equal Op.maxDepth;rw[show(10000:Nat)=9999+1 from rfl,Op.equalIn,eZ,ni b];rfl
theorem Ih{op:BinOp}{t:TypeId}{xo yo:Operand}{a b:Bool}(c:P.underlying t=some .bool):
 (op=.eql->c6 P op t xo yo (.sc (.bool a)) (.sc (.bool b))=some (.sc (.bool (a==b))))/\(op=.neq->c6 P op t xo yo (.sc (.bool a)) (.sc (.bool b))=some (.sc (.bool !(a==b)))):=by
 constructor<;>rintro rfl<;>simp only[c6,eA,e6]
 .show(bW P (Op.equal t (.bool a) (.bool b)>>=λx=>pure (Value.bool x))).map bn=_;rw[eZ,HC c];rfl
 .show(bW P (Op.equal t (.bool a) (.bool b)>>=λx=>pure (Value.bool (!x)))).map bn=_;rw[eZ,HC c];rfl
theorem Sw{op:BinOp}{t e:TypeId}{xo yo:Operand}(b:P.underlying t=some (.pointer e)):
 (op=.eql->c6 P op t xo yo (.sc (.pointer none)) (.sc (.pointer none))=some (.sc (.bool true)))/\(op=.neq->c6 P op t xo yo (.sc (.pointer none)) (.sc (.pointer none))=some (.sc (.bool false))):=by
 constructor<;>rintro rfl<;>simp only[c6,eA,e6]
 .show(bW P (Op.equal t (.pointer none) (.pointer none)>>=λx=>pure (Value.bool x))).map bn=_;rw[eZ,Ig b];rfl
 .show(bW P (Op.equal t (.pointer none) (.pointer none)>>=λx=>pure (Value.bool (!x)))).map bn=_;rw[eZ,Ig b];rfl
theorem Ii{t a:TypeId}{v:Value}{m:Array (String×TypeId)}(b:P.underlying t=some (.interface m)):bW P (Op.equal t (.iface a v) .nilIface)=some false:=by unfold Op.equal Op.maxDepth;rw[show(10000:Nat)=9999+1 from rfl,Op.equalIn,eZ,ni b];rfl
theorem Jm{op:BinOp}{t a:TypeId}{xo yo:Operand}{x:AV}{m:Array (String×TypeId)}(b:P.underlying t=some (.interface m)):
 (op=.eql->c6 P op t xo yo (.iface a x) (.sc .nilIface)=some (.sc (.bool false)))/\(op=.neq->c6 P op t xo yo (.iface a x) (.sc .nilIface)=some (.sc (.bool true))):=by
 cases x with
 |sc v=>
  constructor<;>rintro rfl<;>simp only[c6,eA,e6]
  .show(bW P (Op.equal t (.iface a v) .nilIface>>=λx=>pure (Value.bool x))).map bn=_;rw[eZ,Ii b];rfl
  .show(bW P (Op.equal t (.iface a v) .nilIface>>=λx=>pure (Value.bool (!x)))).map bn=_;rw[eZ,Ii b];rfl|_=>constructor<;>rintro rfl<;>simp[c6,eA,e6,iJ,b,jv,fl]
theorem Jn{op:BinOp}{t:TypeId}{xo yo:Operand}{m:Array (String×TypeId)}(c:P.underlying t=some (.interface m))(hc:(nD xo||nD yo)=true):
 (op=.eql->c6 P op t xo yo (.sc .nilIface) (.sc .nilIface)=some (.sc (.bool true)))/\(op=.neq->c6 P op t xo yo (.sc .nilIface) (.sc .nilIface)=some (.sc (.bool false))):=by
 have hg:∀op,bW P (eqGuard op t xo yo .nilIface .nilIface)=some ():=by intro op;cases xo<;>cases yo<;>first|(simp[nD]at hc;done)|(cases op<;>rfl)
 have b:bW P (Op.equal t .nilIface .nilIface)=some true:=by unfold Op.equal Op.maxDepth;rw[show(10000:Nat)=9999+1 from rfl,Op.equalIn,eZ,ni c];rfl
 constructor<;>rintro rfl<;>simp only[c6,eA,e6]
 .show(bW P (eqGuard .eql t xo yo .nilIface .nilIface>>=λ_=>Op.equal t .nilIface .nilIface>>=λx=>pure (Value.bool x))).map bn=_;rw[eZ,hg,Option.bind_some,eZ,b];rfl
 .show(bW P (eqGuard .neq t xo yo .nilIface .nilIface>>=λ_=>Op.equal t .nilIface .nilIface>>=λx=>pure (Value.bool (!x)))).map bn=_;rw[eZ,hg,Option.bind_some,eZ,b];rfl
theorem zK{op:BinOp}{t:TypeId}{xo yo:Operand}{a b:SV}{x y:AV}{e:Bool}(hx:RV P w a x)(hy:RV P w b y)(c:wR P (nD xo||nD yo) t a b=some e):
 (op=.eql->c6 P op t xo yo x y=some (.sc (.bool e)))/\(op=.neq->c6 P op t xo yo x y=some (.sc (.bool !e))):=by
 unfold wR at c
 split at c
 .rename_i el t' r f
  split at c
  .rename_i z rs
   simp only[ab]at c;subst c
   cases hy
   cases hx with
   |dl hr=>
    cases hr with
    |aG h1 h2 _ g=>cases g with|cons q1 q2=>constructor<;>rintro rfl<;>simp[c6,eA,e6,iJ,f,jv,fl]
    |sl _ _ _ _ _ _ _ _ _ _=>constructor<;>rintro rfl<;>simp[c6,eA,e6,iJ,f,jv,fl]
  .cases c
 .rename_i m t' v f;simp only[ab]at c;subst c;cases hy;cases hx with|eI q=>exact Jm f
 .rename_i m b f
  split at c
  .rename_i hc;simp only[ab]at c;subst c;cases hy;cases hx with|n4=>exact Jm f|n5=>exact Jn f hc
  .cases c
 .rename_i m f
  split at c
  .rename_i hc;simp only[ab]at c;subst c;cases hx;cases hy;exact Jn f hc
  .cases c
 .rename_i i off u f;simp only[ab]at c;subst c;cases hx with|ref p=>cases hy;constructor<;>rintro rfl<;>simp[c6,eA,e6,iJ,f,jv,fl]
 .rename_i i off b' u f
  simp only[ab]at c;subst c
  cases hy
  cases hx with
  |iG h1 h2=>cases h1 with|ref p=>constructor<;>rintro rfl<;>simp[c6,eA,e6,iJ,f,jv,fl]
  |kU=>exact Sw f
 .rename_i i o j o' u f
  split at c
  .rename_i n hz k;obtain rfl:=Nat.eq_of_beq_eq_true k;simp only[ab]at c;subst c;cases hx with|ref p=>cases hy with|ref l=>rw[p]at l;simp only[ab,Lk.box.injEq]at l;obtain⟨rfl,rfl⟩:=l;constructor<;>rintro rfl<;>simp[c6,eA,e6,iJ,f,jv,fl,hz]
  .cases c
 .cases c
theorem Hn{t e:TypeId}(b:P.underlying t=some (.slice e)):bW P (Op.equal t (.slice none 0 0) (.slice none 0 0))=some true:=by unfold Op.equal Op.maxDepth;rw[show(10000:Nat)=9999+1 from rfl,Op.equalIn,eZ,ni b];rfl
theorem KG{t e t':TypeId}{xo yo:Operand}{rows:List (List AV)}{x:AV}{k:Bool->Option ρ}{r:ρ}(hx:Rd P w t' rows x)(c:P.underlying t=some (.slice e))(hl:lay P t'≠[.str])(hr:emp rows (both (k true) (k false)) (k false)=some r):
 ∃b,k b=some r/\c6 P .eql t xo yo x (.sc (.slice none 0 0))=some (.sc (.bool b))/\c6 P .neq t xo yo x (.sc (.slice none 0 0))=some (.sc (.bool !b)):=by
 have hf:k false=some r:=by cases rows with|nil=>exact(JL hr).2|cons _ _=>exact hr
 cases hx with
 |nil=>
  refine⟨true,(JL hr).1,?_,?_⟩
  .show(bW P (Op.equal t (.slice none 0 0) (.slice none 0 0)>>=λx=>pure (Value.bool x))).map bn=_;rw[eZ,Hn c];rfl
  .show(bW P (Op.equal t (.slice none 0 0) (.slice none 0 0)>>=λx=>pure (Value.bool (!x)))).map bn=_;rw[eZ,Hn c];rfl|cq=>exact⟨false,hf,by simp[c6,eA,e6,iJ,c,jv,fl],by simp[c6,eA,e6,iJ,c,jv,fl]⟩|aG _ _ h0 _=>exact absurd h0 hl|sl _ _ _ _ _ _ _ _ _ _=>exact⟨false,hf,by simp[c6,eA,e6,iJ,c,jv,fl],by simp[c6,eA,e6,iJ,c,jv,fl]⟩
theorem TZ{op:BinOp}{t:TypeId}{xo yo:Operand}{a b:SV}{x y:AV}{k:SV->Option ρ}{r:ρ}(hx:RV P w a x)(hy:RV P w b y)(hr:Ff P (nD xo||nD yo) op t a b k=some r):
 ∃v,u3 v=true/\k (.sc v)=some r/\c6 P op t xo yo x y=some (.sc v):=by
 unfold Ff at hr
 split at hr
 .split at hr
  .rename_i e;subst e;cases hx;cases hy;exact Su hr
  .cases hr
 .cases hx;cases hy;exact Sv hr
 .cases hx;cases hy
  split at hr
  .rename_i hb;exact⟨_,rfl,hr,(Ih (by simpa using hb)).1 rfl⟩
  .rename_i hb;exact⟨_,rfl,hr,(Ih (by simpa using hb)).2 rfl⟩
  .cases hr
 .rename_i t' rows
  cases hx with
  |dl hx=>
  cases hy
  split at hr
  .cases hr
  .rename_i e f hl;obtain⟨b,h1,h2,_⟩:=KG (k:=λb=>k (.sc (.bool b))) hx f (λe=>hl e) hr;exact⟨_,rfl,h1,h2⟩
  .rename_i e f hl;obtain⟨b,h1,_,h2⟩:=KG (k:=λb=>k (.sc (.bool !b))) hx f (λe=>hl e) hr;exact⟨_,rfl,h1,h2⟩
  .cases hr
 .rename_i g i o j o'
  cases g with
  |false=>simp only[aa]at hr;cases hr
  |true=>
   simp only[aa]at hr
   cases hx with
   |iG h1 _=>
    split at hr
    .rename_i b' c;exact⟨_,rfl,hr,(zK h1 hy c).1 rfl⟩
    .rename_i b' c;exact⟨_,rfl,hr,(zK h1 hy c).2 rfl⟩
    .cases hr
 .split at hr
  .split at hr
   .rename_i b' c;exact⟨_,rfl,hr,(zK hx hy c).1 rfl⟩
   .cases hr
  .split at hr
   .rename_i b' c;exact⟨_,rfl,hr,(zK hx hy c).2 rfl⟩
   .cases hr
  .cases hr
end
end Go.AI
end

section
namespace Go.AI
section
variable {P:Program}{w:Wd}{h h1:AHeap}{ρ:Type}
theorem DT{α:Type}{l:List α}{n:Int}{k:α->Option ρ}{r:ρ}(h:ae l n k=some r):0<=n/\∃x,l[n.toNat]?=some x/\k x=some r:=by
 unfold ae at h
 split at h
 .rename_i hn
  split at h
  .rename_i x hx;exact⟨by simpa using hn,x,hx,h⟩
  .cases h
 .cases h
theorem om{kd:IntKind}{n:Int}(h:0<=n):gb (.sc (.int kd n))=some n.toNat:=by simp[gb,h]
theorem uC{α:Type}{l:List α}{i:Nat}{x:α}(h:l[i]?=some x):i<l.length:=by
 rcases Nat.lt_or_ge i l.length with a|a
 .exact a
 .rw[List.getElem?_eq_none a]at h;cases h
theorem P2{S:af}(hs:aj P w S.ob S.nx h){t:TypeId}{a i:SV}{x y:AV}{k:SV->Option ρ}{r:ρ}(hx:RV P w a x)(hi:RV P w i y)(hr:Cy P S t a i k=some r):
 ∃v z,k v=some r/\oh P t x y=some z/\RV P w v z:=by
 unfold Cy at hr
 split at hr
 .rename_i e kd n u
  cases hi
  split at hr
  .rename_i t' rows
   split at hr
   .rename_i D;subst D;obtain⟨hn,row,b,hr⟩:=DT hr;have f:=uC b;cases hx with|dl hd=>cases hd with|nil=>simp at b|cq=>simp at b|aG h1 h2 _ l=>obtain⟨dW,g,C⟩:=l.get _ _ b;refine⟨_,.cH dW,hr,?_,.dN (by have:=Rp.cH (P:=P) (w:=w) (off:=0) C;rwa[List.drop_zero]at this)⟩;simp only[oh,u,om hn,h1,if_true,g]|sl h1 h2 hF hg h3 h4 J I F l=>rename_i o ad m off v mv fz c el ex sh cap;obtain⟨dW,g,C⟩:=l.get _ _ b;rw[pU _ _ _ f]at g;simp only[Option.some.injEq]at g;subst g;rw[List.drop_drop]at C;have B:(n.toNat+1)*(lay P t').length<=rows.length*(lay P t').length:=Nat.mul_le_mul_right _ f;rw[Nat.add_mul]at B;refine⟨_,.ref o ad m (off+n.toNat*(lay P t').length),hr,?_,.dN (by have:=Rp.ref (P:=P) (w:=w) (off:=0) (t:=t') (row:=row) (n:=m) (p:=off+n.toNat*(lay P t').length) hF hg h3 h4 (by omega) (by omega) C;simpa using this)⟩;simp only[oh,u,om hn,h1];rw[if_pos ⟨trivial,f⟩]
   .cases hr
  .rename_i j
   split at hr
   .rename_i t' rows bE hb
    split at hr
    .rename_i D;subst D
     obtain⟨hn,row,b,hr⟩:=DT hr
     have f:=uC b
     obtain⟨G,L,K,E⟩:=hs.arr _ _ _ _ hb
     cases hx with
     |dh g=>
      rcases E with⟨_,rfl⟩|⟨o,ad,mv,c,ex,sh,cap,q,_⟩
      .simp at b
      .rw[g]at q;cases q
     |cG g=>
      rcases E with⟨q,_⟩|⟨o,ad,mv,c,ex,sh,cap,q,_⟩
      .rw[g]at q;cases q
      .rw[g]at q;simp only[Option.some.injEq,Lk.sl.injEq]at q;obtain⟨rfl,rfl,rfl,rfl,rfl,rfl⟩:=q;refine⟨_,_,hr,?_,.dU (off:=0) g f⟩;simp only[oh,u,om hn,G];rw[if_pos ⟨trivial,f⟩,Nat.zero_add,Nat.add_zero]
    .cases hr
   .cases hr
  .cases hr
 .rename_i len e kd n u
  cases hi
  split at hr
  .rename_i s j off hz
   split at hr
   .rename_i hc;cases hx with|ref g=>refine⟨_,_,hr,?_,.ref g⟩;simp only[oh,u,om hc.1,hz];rw[if_pos hc.2]
   .cases hr
  .cases hr
 .cases hr
theorem Rd.len{t:TypeId}{rows:List (List AV)}{x:AV}(hd:Rd P w t rows x):ft x=some rows.length/\mE x=true:=by cases hd with|nil=>exact⟨rfl,rfl⟩|cq=>exact⟨rfl,rfl⟩|aG h1 h2 _ b=>exact⟨by simp[ft,b.length],rfl⟩|sl=>exact⟨rfl,rfl⟩
theorem DU{ob:Tr au}{nx:Nat}(hs:aj P w ob nx h){i:Nat}{x:AV}(hx:RV P w (.own i) x):
 (∀t rows l,ob.get i=some (.arr t rows l)->ft x=some rows.length/\mE x=true)/\(∀s l,ob.get i=some (.aK s l)->ft x=some s.size/\mE x=true):=by
 constructor
 .intro t rows l hb
  obtain⟨_,_,_,e⟩:=hs.arr _ _ _ _ hb
  cases hx with
  |dh b=>
   rcases e with⟨_,rfl⟩|⟨o,ad,mv,c,ex,sh,cap,q,_⟩
   .exact⟨rfl,rfl⟩
   .rw[b]at q;cases q
  |cG b=>
   rcases e with⟨q,_⟩|⟨o,ad,mv,c,ex,sh,cap,q,_⟩
   .rw[b]at q;cases q
   .rw[b]at q;simp only[Option.some.injEq,Lk.sl.injEq]at q;obtain⟨rfl,rfl,rfl,rfl,rfl,rfl⟩:=q;exact⟨rfl,rfl⟩
 .intro s l hb
  cases hx with
  |dh b=>
   rcases(hs.aK _ _ _ hb).2 with⟨_,q⟩|⟨o,ad,mv,ex,fz,cap,_,q,_⟩
   .exact⟨by simp[ft,q],rfl⟩
   .rw[b]at q;cases q
  |cG b=>
   rcases(hs.aK _ _ _ hb).2 with⟨q,_⟩|⟨o,ad,mv,ex,fz,cap,_,q,_⟩
   .rw[b]at q;cases q
   .rw[b]at q;simp only[Option.some.injEq,Lk.sl.injEq]at q;obtain⟨rfl,rfl,rfl,rfl,rfl,rfl⟩:=q;exact⟨rfl,rfl⟩
theorem T2{S:af}(hs:aj P w S.ob S.nx h){a:SV}{x:AV}{n:Int}(hx:RV P w a x)(b:nM S a=some n):∃m:Nat,n=m/\ft x=some m/\(mE x=true\/∃s,x=.sc (.string s)):=by
 unfold nM at b
 split at b
 .cases hx;cases b;exact⟨0,rfl,rfl,.inl rfl⟩
 .cases hx with|dl hd=>cases b;exact⟨_,rfl,hd.len.1,.inl hd.len.2⟩
 .split at b
  .rename_i hb;cases b;have:=(DU hs hx).1 _ _ _ hb;exact⟨_,rfl,this.1,.inl this.2⟩
  .rename_i hb;cases b;have:=(DU hs hx).2 _ _ hb;exact⟨_,rfl,this.1,.inl this.2⟩
  .cases b
 .cases hx;cases b;exact⟨_,rfl,rfl,.inr ⟨_,rfl⟩⟩
 .cases b
theorem KH{α:Type}{l:List α}{lo hi:Int}{k:List α->Option ρ}{r:ρ}(h:jd l lo hi k=some r):0<=lo/\lo<=hi/\hi<=l.length/\k ((l.drop lo.toNat).take (hi.toNat-lo.toNat))=some r:=by
 unfold jd at h
 split at h
 .rename_i hd;simp only[decide_eq_true_eq]at hd;exact⟨hd.1,hd.2.1,hd.2.2,h⟩
 .cases h
theorem T3{s:ByteArray}{lo hi:Int}{k:ByteArray->Option ρ}{r:ρ}(h:cn s lo hi k=some r):0<=lo/\lo<=hi/\hi<=s.size/\k (s.extract lo.toNat hi.toNat)=some r:=by
 unfold cn at h
 split at h
 .rename_i hd;simp only[decide_eq_true_eq]at hd;exact⟨hd.1,hd.2.1,hd.2.2,h⟩
 .cases h
theorem CB{sz:Nat}:∀(n a b:Nat)(l:List AV),a+b<=n->((chunks sz n l).drop a).take b=chunks sz b (l.drop (a*sz))|n,0,0,l,_=>by simp[chunks]|n,0,b+1,l,h=>by obtain⟨n,rfl⟩:∃m,n=m+1:=⟨n-1,by omega⟩;simp only[chunks,List.drop_zero,List.take_succ_cons,Nat.zero_mul];have:=CB (sz:=sz) n 0 b (l.drop sz) (by omega);simp only[List.drop_zero,Nat.zero_mul]at this;rw[this]|n,a+1,b,l,h=>by obtain⟨n,rfl⟩:∃m,n=m+1:=⟨n-1,by omega⟩;simp only[chunks,List.drop_succ_cons];rw[CB n a b (l.drop sz) (by omega),List.drop_drop,show sz+a*sz=(a+1)*sz by rw[Nat.add_mul];omega]
theorem Rd.slice{t e:TypeId}{rows:List (List AV)}{x:AV}(hd:Rd P w e rows x)(B:P.underlying t=some (.slice e))(hz:(bB P e).isSome){lo hi:Option AV}{l u:Nat}(i:e7 lo 0=some l)(f:e7 hi rows.length=some u)(h1:l<=u)(h2:u<=rows.length):
 ∃y,i6 P t x lo hi none=some y/\Rd P w e ((rows.drop l).take (u-l)) y:=by
 obtain⟨sz,hz⟩:=Option.isSome_iff_exists.1 hz
 cases hd with
 |nil=>
  obtain rfl:u=0:=by simpa using h2
  obtain rfl:l=0:=by omega
  refine⟨.sc (.slice none 0 0),?_,by simp;exact .nil _⟩;simp only[List.length_nil]at f;unfold i6;simp only[B,hz,i,f,Option.map_none]
 |cq=>
  obtain rfl:u=0:=by simpa using h2
  obtain rfl:l=0:=by omega
  refine⟨.cq,?_,by simp;exact .cq _⟩;simp only[List.length_nil]at f;unfold i6;simp only[B,hz,i,f,Option.map_none]
 |aG m G a0 j=>rename_i rows';have hl:=j.length;rw[hl]at f h2;refine⟨_,?_,.aG m G a0 (j.sub l (u-l))⟩;rw[hz]at m;cases m;unfold i6;simp only[B,hz,i,f];rw[if_pos ⟨trivial,h1,h2⟩]
 |sl m G hF hg h3 h4 Q O F j=>
  rename_i o ad n off v mv fz c el ex sh cap
  have hlen:((rows.drop l).take (u-l)).length=u-l:=by rw[List.length_take,List.length_drop];omega
  have M:l*(lay P e).length+(u-l)*(lay P e).length=u*(lay P e).length:=by rw[<-Nat.add_mul];congr 1;omega
  have L:u*(lay P e).length<=rows.length*(lay P e).length:=Nat.mul_le_mul_right _ h2
  have p:=j.sub l (u-l)
  rw[CB _ _ _ _ (by omega),List.drop_drop]at p
  have key:∀b,(∀k,b=some k->u-l<=k)->Rd P w e ((rows.drop l).take (u-l)) (.sl o ad n (off+l*(lay P e).length) (lay P e).length (u-l) b):=by intro b I;have:=Rd.sl (P:=P) (w:=w) (t:=e) (rows:=(rows.drop l).take (u-l)) (ad:=ad) (n:=n) (off:=off+l*(lay P e).length) (cap:=b) m G hF hg h3 h4 (by rw[hlen];omega) (by rw[hlen];omega) (λk e=>by rw[hlen];exact I k e) (by rw[hlen];exact p);rwa[hlen]at this
  have q:u=l->∀g b,g<=off+l*(lay P e).length->Rd P w e ((rows.drop l).take (u-l)) (.sl o ad n g (lay P e).length (u-l) b):=by
   intro z g b ho
   have J:(rows.drop l).take (u-l)=[]:=by subst z;simp
   rw[J,show u-l=([]:List (List AV)).length by simp[z]];exact .sl m G hF hg h3 h4 (by simp;omega) (by simp;omega) (λk _=>by simp) (.nil _)
  rw[hz]at m
  simp only[Option.some.injEq]at m;subst m
  cases cap with
  |some K=>
   have N:=F K rfl
   refine⟨_,by unfold i6;simp only[B,hz,i,f,Option.map_none];rw[if_pos ⟨trivial,h1,by omega,by omega⟩],?_⟩
   by_cases E:K=l
   .rw[if_pos E];exact q (by omega) _ _ (by omega)
   .rw[if_neg E];exact key _ λk e=>by simp only[Option.some.injEq]at e;omega
  |none=>
   unfold i6;simp only[B,hz,i,f,Option.map_none]
   rw[if_pos ⟨trivial,h1,h2⟩]
   by_cases D:l=0
   .subst D;rw[if_pos rfl];have:=key none (λk e=>by cases e);rw[Nat.zero_mul,Nat.add_zero]at this;exact⟨_,rfl,by simpa using this⟩
   .rw[if_neg D]
    by_cases C:l<rows.length
    .rw[if_pos C];exact⟨_,rfl,key none λk e=>by cases e⟩
    .rw[if_neg C]
     have J:(rows.drop l).take (u-l)=[]:=by rw[List.drop_eq_nil_of_le (by omega)];simp
     rw[J];exact⟨_,rfl,.cq _⟩
end
end Go.AI
namespace Go.AI
section
variable {P:Program}{w:Wd}{h h1:AHeap}{ρ:Type}
theorem Jo{v:SV}{x:AV}{n:Int}{d:Nat}(hx:RV P w v x)(hv:AL v=some n)(h0:0<=n):e7 (some x) d=some n.toNat:=by
 unfold AL at hv
 split at hv
 .rename_i kd _;cases hx;cases hv;exact om (kd:=kd) h0
 .cases hv
theorem Rw{S:af}(hs:aj P w S.ob S.nx h){t:TypeId}{a:SV}{x:AV}{lo hi:Option SV}{c g:Option AV}{k:SV->af->Option ρ}{r:ρ}(hx:RV P w a x)
 (B:∀v,lo=some v->∃y,c=some y/\RV P w v y)(q:lo=none->c=none)(C:∀v,hi=some v->∃y,g=some y/\RV P w v y)(z:hi=none->g=none)
 (hr:y6 P S t a lo hi none k=some r):
 ∃F ob,aj P (w.more F) ob S.nx h/\jb S.ob ob/\(∀o,F o->Ow w S.ob o)/\∃v y,k v {S with ob:=ob}=some r/\i6 P t x c g none=some y/\RV P (w.more F) v y:=by
 unfold y6 at hr
 split at hr
 .cases hr
 .rename_i l hl
  split at hr
  .cases hr
  .rename_i u p
   have hL:0<=l->e7 c 0=some l.toNat:=by intro h0;cases lo with|none=>rw[q rfl];simp only[Option.some.injEq]at hl;subst hl;rfl|some v=>obtain⟨y,rfl,hy⟩:=B v rfl;exact Jo hy hl h0
   have D:∀d:Nat,(hi=none->u=d)->0<=u->e7 g d=some u.toNat:=by intro d hd h0;cases hi with|none=>rw[z rfl,hd rfl];simp[e7]|some v=>obtain⟨y,rfl,hy⟩:=C v rfl;exact Jo hy p h0
   split at hr
   .cases hr
   split at hr
   .rename_i e t' rows b
    split at hr
    .rename_i m;obtain⟨m,i⟩:=m;subst m;obtain⟨q1,q2,q3,n⟩:=KH hr;cases hx with|dl hd=>obtain⟨y,G,E⟩:=hd.slice b i (hL q1) (D rows.length (λe=>by subst e;simpa[nM]using p.symm) (by omega)) (by omega) (by omega);exact⟨λ_=>False,S.ob,by rw[Wd.lW];exact hs,.refl _,λ_ f=>f.elim,_,y,n,G,by rw[Wd.lW];exact .dl E⟩
    .cases hr
   .rename_i e j b
    split at hr
    .rename_i t' rows bE hb
     split at hr
     .rename_i m;obtain⟨m,i⟩:=m;subst m;obtain⟨q1,q2,q3,n⟩:=KH hr;obtain⟨F,p1,p2,I,p3⟩:=sA hs [.own j];have hd:=p3 j (by simp) _ _ _ _ hb hx;obtain⟨y,G,E⟩:=hd.slice b i (hL q1) (D rows.length (λe=>by subst e;simp only[nM,hb]at p;simpa using p.symm) (by omega)) (by omega) (by omega);exact⟨F,_,p1,p2,I,_,y,n,G,.dl E⟩
     .cases hr
    .cases hr
   .rename_i s b;obtain⟨q1,q2,q3,n⟩:=T3 hr;cases hx;exact⟨λ_=>False,S.ob,by rw[Wd.lW];exact hs,.refl _,λ_ f=>f.elim,_,_,n,QF b (hL q1) (D s.size (λe=>by subst e;simpa[nM]using p.symm) (by omega)) ⟨by omega,by omega⟩,by rw[Wd.lW];exact .sc rfl⟩
   .cases hr
end
end Go.AI
end

section
namespace Go.AI
section
variable {P:Program}{w:Wd}{h h1:AHeap}{ρ:Type}
theorem Sx{s d:TypeId}{ks kd k:IntKind}{n:Int}(hs:P.underlying s=some (.int ks))(hd:P.underlying d=some (.int kd))(hp:AHeap):gP P hp s d (.sc (.int k n))=some (.sc (.int kd (kd.wrap n)),hp):=by
 have e:bW P (convert s d (.int k n))=some (.int kd (kd.wrap n)):=by unfold convert;rw[eZ,ni hs];simp only[Option.bind_some];rw[eZ,ni hd];rfl
 unfold gP;simp only[hs,hd,eA,e6,e];rfl
theorem Sy{s d:TypeId}{v:ByteArray}(hs:P.underlying s=some .string)(hd:P.underlying d=some .string)(hp:AHeap):gP P hp s d (.sc (.string v))=some (.sc (.string v),hp):=by
 have e:bW P (convert s d (.string v))=some (.string v):=by unfold convert;rw[eZ,ni hs];simp only[Option.bind_some];rw[eZ,ni hd];rfl
 unfold gP;simp only[hs,hd,eA,e6,e];rfl
theorem aC.cO{cs new:List SV}{xs ys:List AV}(hc:aC P w cs xs)(hn:aC P w new ys)(off:Nat):aC P w (oy cs off new) (cO xs off ys):=by unfold oy AI.cO;rw[hn.length];exact(hc.take off).append (hn.append (hc.drop _))
theorem Cu:∀{a b:List SV},cK a=true->cK b=true->cK (a++b)=true|[],_,_,h=>h|x::xs,b,h,h'=>by simp only[cK,aX,List.cons_append]at h⊢;exact⟨h.1,Cu h.2 h'⟩
theorem Dl:∀{a:List SV},cK a=true↔∀x,x∈a->n7 x=true|[]=>by simp[cK]|x::xs=>by simp[cK,Dl (a:=xs)]
theorem Jp{a b:List SV}(h:cK a=true)(hs:∀x,x∈b->x∈a):cK b=true:=Dl.2 λx hx=>Dl.1 h x (hs x hx)
theorem Qg{cs new:List SV}(off:Nat)(h:cK cs=true)(h':cK new=true):cK (oy cs off new)=true:=by unfold oy;exact Cu (Jp h λx hx=>List.mem_of_mem_take hx) (Cu h' (Jp h λx hx=>List.mem_of_mem_drop hx))
theorem EH{v:SV}(h:cK (cj v)=true):v≠.aO:=by rintro rfl;simp[cj,cK,n7]at h
def pJ(P:Program)(w:Wd):List (Nat×SV)->List (Nat×AV)->Prop|[],[]=>True|(i,v)::ps,(j,x)::qs=>i=j/\RV P w v x/\pJ P w ps qs|_,_=>False
theorem pJ.map{e:Operand->SV}{aI:Operand->AV}:∀(l:List (Nat×Operand)),(∀x,x∈l.map (·.2)->RV P w (e x) (aI x))->pJ P w (l.map λ(i,x)=>(i,e x)) (l.map λ(i,x)=>(i,aI x))|[],_=>trivial|(i,x)::l,h=>⟨rfl,h x (by simp),pJ.map l λy hy=>h y (by simp only[List.map_cons,List.mem_cons];exact .inr hy)⟩
theorem yV{place:Nat->Option (Nat×Nat)}:∀{ps:List (Nat×SV)}{qs:List (Nat×AV)}{cs aP:List SV}{xs:List AV},pJ P w ps qs->aC P w cs xs->kF place cs ps=some aP->∃e,jz place xs qs=some e/\aC P w aP e
 |[],[],cs,aP,xs,_,hc,f=>by simp only[kF,ab]at f;subst f;exact⟨xs,rfl,hc⟩
 |(i,v)::ps,(j,x)::qs,cs,aP,xs,hp,hc,f=>by
  obtain⟨rfl,hv,hp⟩:=hp
  simp only[kF]at f
  split at f
  .cases f
  .rename_i off size g
   split at f
   .rename_i c;have b:=uB hv (EH c.2.2);obtain⟨e,l,k⟩:=yV hp (hc.cO b off) f;refine⟨e,?_,k⟩;simp only[jz,g];rw[if_pos ⟨by rw[<-b.length];exact c.1,by rw[<-b.length,<-hc.length,c.1];exact c.2.1,b.cells c.2.2⟩];exact l
   .cases f|[],_::_,_,_,_,hp,_,_=>hp.elim|_::_,[],_,_,_,hp,_,_=>hp.elim
theorem uw(z:Value):aC P w (cj (ib z)) (bm (bn z)):=by refine uB (EF z) ?_;cases z with|func fn a c=>cases fn<;>simp[ib]<;>split<;>simp|_=>simp[ib]
theorem Sz{t:TypeId}{ps:List (Nat×SV)}{qs:List (Nat×AV)}{v:SV}(hp:pJ P w ps qs)(b:D6 P t ps=some v):∃y,sE P t qs=some y/\RV P w v y:=by
 unfold D6 at b
 split at b
 .rename_i it c hi f
  split at b
  .rename_i z places hz g;cases hf:kF (λi=>places[i]?) (cj (ib z)) ps with|none=>rw[hf]at b;cases b|some cs=>rw[hf]at b;simp only[Option.map_some,ab]at b;subst b;obtain⟨xs,l,k⟩:=yV hp (uw z) hf;refine⟨.agg xs,?_,.agg k⟩;simp only[sE,hi,f,hz,g,l];rfl
  .cases b
 .rename_i it n e hi f
  split at b
  .rename_i z m hz j;cases hf:kF (λi=>some (i*m.size,m.size)) (cj (ib z)) ps with|none=>rw[hf]at b;cases b|some cs=>rw[hf]at b;simp only[Option.map_some,ab]at b;subst b;obtain⟨xs,l,k⟩:=yV hp (uw z) hf;refine⟨.agg xs,?_,.agg k⟩;simp only[sE,hi,f,hz,j,l];rfl
  .cases b
 .cases b
theorem Po(s:ByteArray):jt (cw s)=some s.data.toList:=by unfold cw;induction s.data.toList with|nil=>rfl|cons b bs ih=>simp only[List.map_cons,jt,ih,Option.map_some];congr 2;simp
theorem Ij{ob:Tr au}{nx:Nat}(hs:aj P w ob nx h){i:Nat}{s:ByteArray}{l:TypeId}{x:AV}(hb:ob.get i=some (.aK s l))(hx:RV P w (.own i) x)(ha:mA h h1 x):ft x=some s.size/\mE x=true/\gu h1 1 s.size x=some (cw s):=by
 obtain⟨q1,q2⟩:=(DU hs hx).2 s l hb
 refine⟨q1,q2,?_⟩
 have hlen:(cw s).length=s.size:=by simp[cw]
 cases hx with
 |dh b=>
  rcases(hs.aK _ _ _ hb).2 with⟨_,q⟩|⟨o,ad,mv,ex,fz,cap,_,q,_⟩
  .simp only[gu,q,if_true];have:cw s=[]:=List.eq_nil_of_length_eq_zero (by omega);rw[this]
  .rw[b]at q;cases q
 |cG b=>
  rcases(hs.aK _ _ _ hb).2 with⟨q,_⟩|⟨o,ad,mv,ex,fz,cap,_,q,_,hg,hm,_⟩
  .rw[b]at q;cases q
  .rw[b]at q;simp only[ab,Lk.sl.injEq]at q
   obtain⟨rfl,rfl,rfl,rfl,rfl,rfl⟩:=q
   rename_i o ad cap _ _ _
   have c:h1.get o=some (.cells ad mv (cw s) fz l ex false):=by rw[ha o (by simp[mF])];exact hg
   simp only[gu];rw[if_pos ⟨trivial,ak _⟩];simp only[dp,c];rw[if_pos ⟨hm,ak _,by omega⟩,List.drop_zero,Nat.mul_one,List.take_of_length_le (by omega)]
theorem SA{ob:Tr au}{nx:Nat}(hs:aj P w ob nx h){i:Nat}{s:ByteArray}{l:TypeId}{x:AV}{src dst e:TypeId}(hb:ob.get i=some (.aK s l))(hx:RV P w (.own i) x)(ha:mA h h1 x)
 (f:P.underlying src=some (.slice e))(c:isByte P e=true)(hd:P.underlying dst=some .string):gP P h1 src dst x=some (.sc (.string s),h1):=by
 obtain⟨q1,q2,q3⟩:=Ij hs hb hx ha
 have b:P.underlying e=some (.int .u8):=by
  unfold isByte at c
  split at c
  .assumption
  .cases c
 unfold gP;simp only[f,hd,b,q1,q2,q3,Po,Option.map_some]
theorem Jq{ob:Tr au}{nx:Nat}(hs:aj P w ob nx h){i off:Nat}{t' t u:TypeId}{cs:List SV}{x:AV}{src dst:TypeId}(hb:ob.get i=some (.box t' cs))(hx:RV P w (.ref i off) x)(ha:mA h h1 x)(hl:off+1<=cs.length){n:Nat}:
 (P.underlying src=some (.pointer t)->P.underlying dst=some .unsafePointer->bB P t=some (n+1)->gP P h1 src dst x=some (x,h1))/\
 (P.underlying src=some .unsafePointer->P.underlying dst=some (.pointer u)->bB P u=some (n+1)->liesAt P P.depth t' (cs.length/P.cellsOf t') off u 1=true->gP P h1 src dst x=some (x,h1)):=by
 obtain⟨o,c,sh,m,l,k,_,_⟩:=hs.box i t' cs hb
 cases hx with
 |ref e=>
  rw[m]at e
  simp only[ab,Lk.box.injEq]at e
  obtain⟨rfl,rfl⟩:=e
  have g:h1.get o=some (.cells 0 0 c 0 t' true sh):=by rw[ha o (by simp[mF])];exact l
  have j:off+1<=c.length:=by rw[<-k.length];exact hl
  have b:dp h1 o 0 c.length off 1=some ((c.drop off).take 1):=by simp only[dp,g];rw[if_pos ⟨ak _,ak _,j⟩]
  constructor
  .intro hs hd hz;unfold gP;simp only[hs,hd,hz,b]
  .intro hs hd hz f;unfold gP;simp only[hs,hd,hz,b,g];rw[k.length]at f;rw[if_pos f]
theorem yW{b:Bool}{x y:Option ρ}{r:ρ}(h:aa b x y=some r):(b=true/\x=some r)\/(b=false/\y=some r):=by
 cases b
 .exact .inr ⟨rfl,h⟩
 .exact .inl ⟨rfl,h⟩
variable {A:dX}{R:eD A.pn}{kp:TypeId->List AV->af->Option ρ}
theorem Rx{ob:Tr au}{F:Nat->Prop}{vs:List SV}{v:SV}(hv:v∈vs)(h3:∀i,SV.own i∈vs->∀t rows l x,ob.get i=some (.arr t rows l)->RV P w (.own i) x->Rd P (w.more F) t rows x)
 {l:Lf}{c x:AV}(hc:cellOf P ob l v=some c)(hx:RV P w v x):ku P (w.more F) l c x:=by
 unfold cellOf at hc
 split at hc
 .split at hc
  .rename_i e;subst e;cases hc;cases hx;exact .int _ _
  .cases hc
 .cases hc;cases hx;exact .bool _
 .cases hc;cases hx;exact .str _
 .split at hc
  .rename_i e;subst e;cases hz:bB P _ with|none=>rw[hz]at hc;cases hc|some sz=>rw[hz]at hc;cases hc;cases hx with|dl hr=>exact .sl (hr.mono (bA.more _ _))
  .cases hc
 .rename_i t;cases hz:bB P t with|none=>rw[hz]at hc;cases hc|some sz=>rw[hz]at hc;cases hc;cases hx;exact .sl (.nil t)
 .rename_i t i
  split at hc
  .rename_i t' r l hb
   split at hc
   .rename_i e;subst e;cases hz:bB P t with|none=>rw[hz]at hc;cases hc|some sz=>rw[hz]at hc;cases hc;exact .sl (h3 i hv _ _ _ _ hb hx)
   .cases hc
  .cases hc
 .cases hc
theorem Dn{ob:Tr au}{F:Nat->Prop}{us:List SV}(h3:∀i,SV.own i∈us->∀t rows l x,ob.get i=some (.arr t rows l)->RV P w (.own i) x->Rd P (w.more F) t rows x):
 ∀{ls:List Lf}{vs:List SV}{xs row:List AV},(∀v,v∈vs->v∈us)->rowOf P ob ls vs=some row->aC P w vs xs->cF P (w.more F) ls row xs
 |[],[],_,row,_,hr,.nil=>by simp only[rowOf,ab]at hr;subst hr;exact .nil
 |l::ls,v::vs,_,row,hm,hr,.cons a b=>by
  simp only[rowOf]at hr
  split at hr
  .rename_i c cs h1 h2;simp only[ab]at hr;subst hr;exact .cons (Rx (hm v (by simp)) h3 h1 a) (Dn h3 (λu e=>hm u (by simp[e])) h2 b)
  .cases hr|[],_::_,_,_,_,hr,_=>by simp[rowOf]at hr|_::_,[],_,_,_,hr,_=>by simp[rowOf]at hr
theorem CT{ob:Tr au}{F:Nat->Prop}{us:List SV}(h3:∀i,SV.own i∈us->∀t rows l x,ob.get i=some (.arr t rows l)->RV P w (.own i) x->Rd P (w.more F) t rows x){ls:List Lf}{s:Nat}:
 ∀{n:Nat}{vs:List SV}{xs:List AV}{rows:List (List AV)},(∀v,v∈vs->v∈us)->rowsOf P ob ls s n vs=some rows->aC P w vs xs->bX P (w.more F) ls rows (chunks s n xs)/\rows.length=n
 |0,vs,xs,rows,_,hr,_=>by simp only[rowsOf,ab]at hr;subst hr;exact⟨.nil _,rfl⟩
 |n+1,vs,xs,rows,hm,hr,hx=>by
  simp only[rowsOf]at hr
  split at hr
  .rename_i r rs h1 h2;simp only[ab]at hr;subst hr;obtain⟨q1,q2⟩:=CT h3 (λv hv=>hm v (List.mem_of_mem_drop hv)) h2 (hx.drop s);exact⟨.cons (Dn h3 (λv hv=>hm v (List.mem_of_mem_take hv)) h1 (hx.take s)) q1,by simp[q2]⟩
  .cases hr
theorem T4{el t:TypeId}{len:Nat}{cs:List SV}{xs:List AV}{n:Int}{kd:IntKind}{k:SV->Option ρ}{r:ρ}(hx:aC P w cs xs)(D:P.underlying t=some (.array len el))(hr:Fa P el len cs n k=some r):
 ∃v y,k v=some r/\qi P t (.agg xs) (.sc (.int kd n))=some y/\RV P w v y:=by
 unfold Fa at hr
 split at hr
 case h_2=>cases hr
 rename_i s g hz hg
 split at hr
 case h_2=>cases hr
 rename_i rows q f
 have hs:=Nat.eq_of_beq_eq_true q
 obtain⟨h0,row,c,hr⟩:=DT hr
 obtain⟨q1,q2⟩:=CT (w:=w) (F:=λ_=>False) (us:=cs) (λi _ t rows l x e=>by cases e) (λv hv=>hv) f hx
 rw[Wd.lW]at q1
 obtain⟨dW,C,p⟩:=q1.get _ _ c
 have j:n.toNat<len:=by rw[<-q2];exact uC c
 rw[pU _ _ _ j]at C
 cases C
 have B:qi P t (.agg xs) (.sc (.int kd n))=apart P el xs (n.toNat*s):=by simp only[qi,D,om h0,hz];rw[if_pos j]
 rw[B]
 split at hr
 .exact⟨_,_,hr,by simp only[apart,hg,hz],.agg (Jj p)⟩
 .split at hr
  .rename_i l hl
   rw[hl]at p
   have m:=p.length.2
   cases hd:(xs.drop (n.toNat*s)).take s with
   |nil=>rw[hd]at m;simp at m
   |cons y E=>
    rw[hd]at p
    cases p with
    |cons a b=>
     cases b
     have u:(xs.drop (n.toNat*s)).head?=some y:=by cases o:xs.drop (n.toNat*s)with|nil=>rw[o]at hd;simp at hd|cons z zs=>rw[o]at hd;cases s with|zero=>simp at hd|succ s=>simp only[List.take_succ_cons,List.cons.injEq]at hd;rw[hd.1];rfl
     exact⟨_,y,hr,by simp only[apart,hg,hz];exact u,yU (by simp) a⟩
  .cases hr
theorem Jr{S:af}(hs:aj P w S.ob S.nx h){o:Oper}{aI:Operand->AV}(D:∀x,x∈o.op.operands.toList->RV P w (bK S.tm x) (aI x))(T:kD o.op=true->∀x,x∈o.op.operands.toList->mA h h1 (aI x))
 (hF:bT o.op=true){k:SV->af->Option ρ}{r:ρ}(hr:iD P A R kp o S k=some r):E4 P w h h1 S k r (aU P aI o h1):=by
 have rd:∀x,x∈o.op.operands.toList->∃v y,bK S.tm x=v/\aI x=y/\RV P w v y:=λx hx=>⟨_,_,rfl,rfl,D x hx⟩
 have ag:kD o.op=true->∀x,x∈o.op.operands.toList->∀y,aI x=y->mA h h1 y:=λh1 x hx y e=>by rw[<-e];exact T h1 x hx
 unfold iD at hr
 simp only at hr
 split at hr
 case h_1=>simp_all[bT]
 case h_2=>simp_all[bT]
 case h_3=>
  rename_i t parts j
  split at hr
  .rename_i v hv;obtain⟨y,E,I⟩:=Sz (P:=P) (w:=w) (pJ.map (e:=bK S.tm) (aI:=aI) parts.toList λx hx=>D x (by rw[j];simpa[Op.operands]using hx)) hv;exact .one hs hr (by simp only[aU,j];rw[E];rfl) I
  .cases hr
 case h_4=>simp_all[bT]
 case h_5=>rename_i t a j;obtain⟨v,y,E,I,e3⟩:=KF (h1:=h1) hs (D a (by rw[j];simp[Op.operands])) (T (by rw[j];rfl) a (by rw[j];simp[Op.operands])) hr;exact .one hs E (by simp only[aU,j];rw[I];rfl) e3
 case h_6=>simp_all[bT]
 case h_7=>
  rename_i x j
  obtain⟨v,y,ev,C,hv⟩:=rd x (by rw[j];simp[Op.operands])
  rw[ev]at hr
  split at hr
  .cases hv with|ref q=>exact .one hs hr (by simp only[aU,j,C]) (.ref q)
  .cases hv with|dU q q2=>exact .one hs hr (by simp only[aU,j,C]) (.dU q q2)
  .cases hv with|dN q=>cases q with|cH q=>exact .one hs hr (by simp only[aU,j,C]) (.dN (.cH q))|ref a b c d e f g=>exact .one hs hr (by simp only[aU,j,C]) (.dN (.ref a b c d e f g))
  .cases hv with|fn q=>exact .one hs hr (by simp only[aU,j,C]) (.fn q)|iP=>exact .one hs hr (by simp only[aU,j,C]) .iP
  .rcases yW hr with⟨rfl,hr⟩|⟨_,hr⟩
   .cases hv with|iG q _=>cases q with|ref q=>exact .one hs hr (by simp only[aU,j,C]) (.ref q)
   .cases hr
  .cases hr
 case h_8=>rename_i op t x y t' j;obtain⟨v,e0,E,I⟩:=TZ (xo:=x) (yo:=y) (D x (by rw[j];simp[Op.operands])) (D y (by rw[j];simp[Op.operands])) hr;exact .one hs E (by simp only[aU,j];rw[I];rfl) (.sc e0)
 case h_9=>
  rename_i op t x j
  obtain⟨v,y,ev,C,hv⟩:=rd x (by rw[j];simp[Op.operands])
  rw[ev]at hr
  split at hr
  .cases hv;exact .one hs hr (by simp only[aU,j,C];rfl) (.sc rfl)
  .cases hv;exact .one hs hr (by simp only[aU,j,C];rfl) (.sc rfl)
  .cases hr
 case h_10=>
  rename_i s d x j
  obtain⟨v,y,ev,C,hv⟩:=rd x (by rw[j];simp[Op.operands])
  have ha:=ag (by rw[j];rfl) x (by rw[j];simp[Op.operands]) y C
  rw[ev]at hr
  split at hr
  .cases hv
   split at hr
   .rename_i B p;exact .one hs hr (by simp only[aU,j,C];rw[Sx B p];rfl) (.sc rfl)
   .cases hr
  .cases hv
   split at hr
   .rename_i B p;exact .one hs hr (by simp only[aU,j,C];rw[Sy B p];rfl) (.sc rfl)
   .cases hr
  .cases hv
   split at hr
   .rename_i B p;exact .one hs hr (by simp only[aU,j,C];unfold gP;simp only[B,p];rfl) (.sc rfl)
   .rename_i B p;exact .one hs hr (by simp only[aU,j,C];unfold gP;simp only[B,p];rfl) (.sc rfl)
   .rename_i B p;exact .one hs hr (by simp only[aU,j,C];unfold gP;simp only[B,p];rfl) (.sc rfl)
   .cases hr
  .split at hr
   .rename_i t' cs t hb B p
    split at hr
    .rename_i n hz
     split at hr
     .rename_i hl;have:=(Jq (t:=t) (u:=t) hs hb hv ha hl (n:=n) (src:=s) (dst:=d)).1 B p hz;exact .one hs hr (by simp only[aU,j,C];rw[this];rfl) hv
     .cases hr
    .cases hr
   .rename_i t' cs u hb B p
    split at hr
    .rename_i n hz
     split at hr
     .rename_i hl
      split at hr
      .rename_i Z;have:=(Jq (t:=u) (u:=u) hs hb hv ha hl (n:=n) (src:=s) (dst:=d)).2 B p hz Z;exact .one hs hr (by simp only[aU,j,C];rw[this];rfl) hv
      .cases hr
     .cases hr
    .cases hr
   .cases hr
  .split at hr
   .rename_i e b l B p hb
    split at hr
    .rename_i hby;exact .one hs hr (by simp only[aU,j,C];rw[SA hs hb hv ha B hby p];rfl) (.sc rfl)
    .cases hr
   .cases hr
  .cases hr
 case h_11=>
  rename_i t x j
  obtain⟨v,y,ev,C,hv⟩:=rd x (by rw[j];simp[Op.operands])
  rw[ev]at hr
  split at hr
  .cases hr
  .rename_i d L hd
   refine .one hs hr ?_ (.eI hv)
   simp only[aU,j,C]
   split
   .rename_i h2;rw[hd]at h2;simp only[ab]at h2;subst h2;exact absurd rfl (L _)
   .rfl
   .rename_i h2;rw[hd]at h2;cases h2
  .cases hr
 case h_12=>
  rename_i fn first dV j
  split at hr
  .rename_i f hf;refine .one hs hr (by simp only[aU,j,hf];rfl) (.fn ?_);exact aC.map _ λx hx=>D x (by rw[j];simp[Op.operands];exact .inr (by simpa using hx))
  .cases hr
 case h_13=>
  rename_i t x lo hi mx j
  cases mx with
  |some m=>
   exfalso
   simp only[y6,tv]at hr
   split at hr
   .cases hr
   .split at hr<;>cases hr
  |none=>
   have Y:∀v,tv S lo=some v->∃y,lo.map aI=some y/\RV P w v y:=by intro v e;cases lo with|none=>cases e|some l=>cases e;exact⟨_,rfl,D l (by rw[j];simp[Op.operands])⟩
   have hhi:∀v,tv S hi=some v->∃y,hi.map aI=some y/\RV P w v y:=by intro v e;cases hi with|none=>cases e|some l=>cases e;exact⟨_,rfl,D l (by rw[j];simp[Op.operands])⟩
   obtain⟨F,ob,q1,q2,q6,v,y,q3,q4,q5⟩:=Rw hs (D x (by rw[j];simp[Op.operands])) Y (by intro e;cases lo<;>first|rfl|cases e) hhi (by intro e;cases hi<;>first|rfl|cases e) hr;exact⟨F,ob,q1,q2,q6,v,y,q3,by simp only[aU,j,Option.map_none];rw[q4];rfl,q5⟩
 case h_14=>
  rename_i t x f j
  split at hr
  .rename_i v hv;obtain⟨y,E,I⟩:=P1 (D x (by rw[j];simp[Op.operands])) hv;exact .one hs hr (by simp only[aU,j];rw[E];rfl) I
  .cases hr
 case h_15=>
  rename_i t x f j
  split at hr
  .rename_i v hv;obtain⟨y,E,I⟩:=St (D x (by rw[j];simp[Op.operands])) hv;exact .one hs hr (by simp only[aU,j];rw[E];rfl) I
  .cases hr
 case h_16=>rename_i t x i j;obtain⟨v,z,E,I,e3⟩:=P2 hs (D x (by rw[j];simp[Op.operands])) (D i (by rw[j];simp[Op.operands])) hr;exact .one hs E (by simp only[aU,j];rw[I];rfl) e3
 case h_17=>
  rename_i t x i j
  obtain⟨v,y,ev,C,hv⟩:=rd x (by rw[j];simp[Op.operands])
  obtain⟨v2,y2,ev2,U,M⟩:=rd i (by rw[j];simp[Op.operands])
  rw[ev,ev2]at hr
  split at hr
  .rename_i s kd n L
   cases hv;cases M
   unfold aV at hr
   split at hr
   .rename_i hn
    split at hr
    .rename_i b hb;refine .one hs hr ?_ (.sc rfl);simp only[aU,j,C,U,qi,L,om (show 0<=n by simpa using hn),hb];rfl
    .cases hr
   .cases hr
  .rename_i len el cs kd n L;cases hv with|agg hv=>cases M;obtain⟨v3,y3,r1,r2,r3⟩:=T4 (t:=t) (kd:=kd) hv L hr;refine .one hs r1 ?_ r3;simp only[aU,j,C,U,r2];rfl
  .cases hr
 case h_18=>
  rename_i t i j
  obtain⟨v,y,ev,C,hv⟩:=rd t (by rw[j];simp[Op.operands])
  rw[ev]at hr
  split at hr
  .rename_i vs
   cases hv with
   |aR W=>
    split at hr
    .rename_i v2 M;obtain⟨x2,E,I⟩:=W.get _ _ M;exact .one hs hr (by simp only[aU,j,C,E];rfl) I
    .cases hr
  .cases hr
 case h_19=>
  rename_i c j
  obtain⟨callee,args,tU⟩:=c
  cases callee with
  |invoke x m=>cases hr
  |value f=>rw[j]at hF;cases hF
  |builtin b=>
   simp only at hr
   have J:∀a,a∈args.toList->RV P w (bK S.tm a) (aI a):=λa ha=>D a (by rw[j];simp only[Op.operands,Call.operands];simpa using ha)
   have K:∀x,args.toList.map (bK S.tm)=[x]->∃a,args.toList=[a]/\bK S.tm a=x:=by intro x hl;cases h0:args.toList with|nil=>rw[h0]at hl;cases hl|cons a l=>cases l with|nil=>rw[h0]at hl;simp only[List.map_cons,List.map_nil,List.cons.injEq,and_true]at hl;exact⟨a,rfl,hl⟩|cons _ _=>rw[h0]at hl;simp at hl
   unfold x3 at hr
   split at hr
   .rw[j]at hF;cases hF
   .rename_i x hl
    obtain⟨a,ha,hx⟩:=K x hl
    obtain⟨y,hy⟩:∃y,aI a=y:=⟨_,rfl⟩
    have hv:=J a (by rw[ha];simp)
    rw[hx,hy]at hv
    split at hr
    .rename_i n t hn Q
     obtain⟨m,rfl,E,I⟩:=T2 hs hv hn
     split at hr
     .rename_i e L G
      refine .one hs hr ?_ (.sc rfl)
      simp only[aU,j,iB,iW,ha,List.map_cons,List.map_nil,Q,qG,L,hy]
      rcases I with I|⟨s,rfl⟩
      .rw[I,if_pos rfl,E];rfl
      .cases hv<;>first|(simp[D7]at G;done)|(simp[nM]at hn;done)|(rename_i W;cases W)
     .rename_i L G
      refine .one hs hr ?_ (.sc rfl)
      simp only[aU,j,iB,iW,ha,List.map_cons,List.map_nil,Q,qG,L,hy]
      obtain⟨s,rfl⟩:∃s,x=.sc (.string s):=by
       unfold D7 at G
       split at G
       .exact⟨_,rfl⟩
       .cases G
      cases hv;simp only[ft,ab]at E;subst E;rfl
     .cases hr
    .cases hr
   .rename_i i hl
    obtain⟨a,ha,hx⟩:=K _ hl
    obtain⟨y,hy⟩:∃y,aI a=y:=⟨_,rfl⟩
    have hv:=J a (by rw[ha];simp)
    rw[hx,hy]at hv
    split at hr
    .rename_i s l hb
     rcases yW hr with⟨N,hr⟩|⟨N,hr⟩
     .simp only[decide_eq_true_eq]at N
      cases hv with
      |dh E=>
       rcases(hs.aK _ _ _ hb).2 with⟨_,q⟩|⟨o,ad,mv,ex,fz,cap,_,q,_⟩
       .omega
       .rw[E]at q;cases q
      |cG E=>
       rcases(hs.aK _ _ _ hb).2 with⟨q,_⟩|⟨o,ad,mv,ex,fz,cap,_,q,_⟩
       .rw[E]at q;cases q
       .have q':=q;rw[E]at q;simp only[ab,Lk.sl.injEq]at q;obtain⟨rfl,rfl,rfl,rfl,rfl,rfl⟩:=q;refine .one hs hr ?_ (.h8 q');simp only[aU,j,iB,iW,ha,List.map_cons,List.map_nil,hy];rw[if_pos (.inl N)]
     .simp only[decide_eq_false_iff_not]at N
      cases hv with
      |dh E=>refine .one hs hr ?_ (.sc rfl);simp only[aU,j,iB,iW,ha,List.map_cons,List.map_nil,hy]
      |cG E=>
       rcases(hs.aK _ _ _ hb).2 with⟨q,_⟩|⟨o,ad,mv,ex,fz,cap,q0,q,_⟩
       .rw[E]at q;cases q
       .omega
    .cases hr
   .rename_i hl;obtain⟨a,ha,hx⟩:=K _ hl;obtain⟨y,hy⟩:∃y,aI a=y:=⟨_,rfl⟩;have hv:=J a (by rw[ha];simp);rw[hx,hy]at hv;cases hv;refine .one hs hr ?_ (.sc rfl);simp only[aU,j,iB,iW,ha,List.map_cons,List.map_nil,hy]
   .rw[j]at hF;cases hF
   .rw[j]at hF;cases hF
   .cases hr
 case h_20=>
  rename_i x t' a ok j
  obtain⟨v,y,ev,C,hv⟩:=rd x (by rw[j];simp[Op.operands])
  rw[ev]at hr
  split at hr
  .cases hr
  .rename_i d t v hn L
   have has:∀(X:AV),uO P X a ok=(match oD X with|some (t,v)=>if t=a then some (if ok then .tuple [v,.sc (.bool true)]else v)else nw P a ok|none=>match X with|.sc .nilIface=>nw P a ok|_=>none):=by intro X;unfold uO;rw[L];cases d with|interface m=>exact(hn m rfl).elim|_=>rfl
   cases hv with
   |eI q=>
    split at hr
    .rename_i hb;obtain rfl:=Nat.eq_of_beq_eq_true hb;cases ok with|true=>exact .one hs hr (by simp[aU,j,C,has,oD,val]) (.aR (.cons q (.cons (.sc rfl) .nil)))|false=>exact .one hs hr (by simp[aU,j,C,has,oD,val]) q
    .rename_i hb
     have hb:=Nat.ne_of_beq_eq_false hb
     split at hr
     .rename_i z hz
      unfold Me at hz
      split at hz
      .rename_i i hi
       cases O:i.zero with
       |none=>rw[O]at hz;cases hz
       |some z0=>
        rw[O]at hz;cases hz
        have V:fk P a=some (bn z0):=by simp only[fk,hi,O,Option.map_some]
        exact .one hs hr (by simp[aU,j,C,has,oD,val,nw,hb,V]) (.aR (.cons (EF z0) (.cons (.sc rfl) .nil)))
      .cases hz
     .cases hr
  .cases hr
 case h_21=>cases hr
end
end Go.AI
end

section
namespace Go.AI
def nj(h:AHeap)(cm:bo)(r:Option (cP×AHeap)):Option (cP×bo×AHeap):=match r with|some (o,h')=>some (o,cm,h.outer h')|none=>none
def jT(P:Program)(R:Rec)(kind:CallKind)(f:FuncId)(args:List AV)(cm:bo)(h:AHeap):Option (cP×bo×AHeap):=
 match P.funcs[f]? with
 |some fn=>
  match fn.body with
  |some code=>match evalCode P R {fn:=f,tn:=max fn.ntmps args.length,kind,round:=none} code {tm:=hO args 0 .leaf,df:=[],cm,h:=h.inner}with|some (.normal,st)=>nj h st.cm (ct P R fn st.tm st.df .ret st.h)|some (.ret,st)=>nj h st.cm (ct P R fn st.tm st.df .ret st.h)|some (.panic v,st)=>nj h st.cm (ct P R fn st.tm st.df (.aB v false) st.h)|_=>none
  |none=>none
 |none=>none
section
variable {P:Program}{R:Rec}{g:Gh}{w:World}{h:AHeap}
theorem Qh{cm aW:bo}{r:Option (cP×AHeap)}{out:cP}{h2:AHeap}(hr:nj h cm r=some (out,aW,h2))(hf:eC h g):
 aW=cm/\∃h',r=some (out,h')/\∀(g':Gh)(w':World),Step h.inner g w h' g' w'->W h' g' w'->∃g2,Step h g w h2 g2 w'/\W h2 g2 w'/\g2=g':=by
 unfold nj at hr
 split at hr
 .rename_i o h';simp only[ab,an]at hr;obtain⟨rfl,rfl,rfl⟩:=hr;refine⟨rfl,h',rfl,λg' w' hs hw=>?_⟩;obtain⟨q1,q2⟩:=yd hf hs hw;exact⟨g',q1,q2,rfl⟩
 .cases hr
theorem Ju{kind:CallKind}{f:FuncId}{fn:Func}{code:Code}{args:List AV}{cm:bo}{out:cP}{aW:bo}{h2:AHeap}(hP:cZ P)(hR:dS P R)(Y:nA P R)
 (l:P.funcs[f]?=some fn)(c:fn.body=some code)(hr:jT P R kind f args cm h=some (out,aW,h2)){vs:List Value}(hw:W h g w)(hf:eC h g)(hv:aE g args vs){cs:List Frame}(hm:gV g cm cs):
 ∃g2 w' fr aP,Step h g w h2 g2 w'/\W h2 g2 w'/\kc cm cs aP/\(cm=.none->aW=.none)/\(kind≠.normal->gV g2 aW aP)/\Steps P (lone (Frame.enter P f vs.toArray kind) cs w) (lone fr aP w')/\fr.fn=f/\fr.kind=kind/\Left P fn g2 w' fr out:=by
 have i:Frame.enter P f vs.toArray kind=aw {(default:Frame)with fn:=f,kind:=kind} {tmps:=vs.toArray++Array.replicate (fn.ntmps-vs.toArray.size) undef,defers:=[]} [.code code]:=by simp[Frame.enter,aw,l,c];rfl
 unfold jT at hr
 simp only[l,c]at hr
 have hlen:vs.length=args.length:=hv.length.symm
 have q:gW g (max fn.ntmps args.length) {tm:=hO args 0 .leaf,df:=[],cm,h:=h.inner} {tmps:=vs.toArray++Array.replicate (fn.ntmps-vs.toArray.size) undef,defers:=[]}:=⟨Kd hv,by simp;omega,trivial⟩
 cases B:evalCode P R {fn:=f,tn:=max fn.ntmps args.length,kind,round:=none} code {tm:=hO args 0 .leaf,df:=[],cm,h:=h.inner}with
 |none=>rw[B]at hr;cases hr
 |some p=>
  obtain⟨ex,st⟩:=p
  rw[B]at hr
  obtain⟨G,w1,J,n,q1,q2,q3,X,V,U,j⟩:=Y _ _ _ _ _ B g w {(default:Frame)with fn:=f,kind:=kind} _ [] cs hw.inner hf.inner ⟨rfl,rfl,rfl⟩ q hm
  rw[<-i]at j
  have fin:∀(m:bo)(b:Frame),nj h st.cm (ct P R fn st.tm st.df m st.h)=some (out,aW,h2)->Steps P (lone (Frame.enter P f vs.toArray kind) cs w) (lone b n w1)->i7 G m b.mode->b.fn=f->b.kind=kind->b.defers=J.defers->b.tmps=J.tmps->∃g2 w' fr aP,Step h g w h2 g2 w'/\W h2 g2 w'/\kc cm cs aP/\(cm=.none->aW=.none)/\(kind≠.normal->gV g2 aW aP)/\Steps P (lone (Frame.enter P f vs.toArray kind) cs w) (lone fr aP w')/\fr.fn=f/\fr.kind=kind/\Left P fn g2 w' fr out:=by intro m b o e k I e2 e3 e4;obtain⟨rfl,h3,hl,hk⟩:=Qh (w:=w) o hf;obtain⟨g2,D,C,F,T,S,Q,_,O,E⟩:=HX hP hR _ _ _ _ _ hl G w1 b n q2 (hf.inner.step q1) (by rw[I];exact l) k (by rw[e3];exact q3.df) (by rw[e4];exact q3.tm);obtain⟨Z,N,M,L⟩:=hk g2 D (q1.trans hf.inner F) T;subst L;refine⟨Z,D,C,n,N,M,X,U,λhn=>V.mono F.le,Steps.trans e O,by rw[Q,I],by rw[S,e2],?_⟩;cases out with|ret v=>obtain⟨z,u,x,t,K⟩:=E;exact⟨z,u,x,t,K⟩|aB v=>obtain⟨z,x,u,t⟩:=E;exact⟨z,x,u,t⟩
  cases ex with|normal=>exact fin .ret _ hr (Steps.trans j (.one (HY rfl))) rfl rfl rfl rfl rfl|ret=>obtain⟨k2,j⟩:=j;exact fin .ret _ hr (Steps.trans j (.one (HZ rfl))) rfl rfl rfl rfl rfl|panic v=>obtain⟨todo,x,hx,j⟩:=j;exact fin (.aB v false) _ hr j ⟨x,rfl,hx⟩ rfl rfl rfl rfl|exit id=>cases hr
theorem Cm{kind:CallKind}{f:FuncId}{args:List AV}{cm:bo}{r:cP×bo×AHeap}(hr:jT P R kind f args cm h=some r):∃fn code,P.funcs[f]?=some fn/\fn.body=some code:=by
 unfold jT at hr
 split at hr
 .rename_i fn b
  split at hr
  .rename_i code hb;exact⟨fn,code,b,hb⟩
  .cases hr
 .cases hr
theorem SC{f:FuncId}{args:List AV}{out:cP}{aW:bo}{h2:AHeap}(hP:cZ P)(hR:dS P R)(o:nA P R)(hr:jT P R .normal f args .none h=some (out,aW,h2)):dq P f args h out h2:=by intro g w vs hw hf hv cs;obtain⟨fn,code,b,hb⟩:=Cm hr;obtain⟨g2,w',fr,aP,q1,q2,q3,q,p,l,c,n,k⟩:=Ju hP hR o b hb hr hw hf hv (cs:=cs) trivial;obtain rfl:aP=cs:=q3.1 rfl;cases out with|ret v=>obtain⟨j,i,x,e,m⟩:=k;exact⟨.returned x,w',fr,⟨g2,q1,q2,m⟩,l,c,j,i,n,fn,by rw[c];exact b,e⟩|aB v=>obtain⟨j,x,i,e⟩:=k;exact⟨.panicked _,w',fr,⟨g2,q1,q2,x,rfl,e⟩,l,c,i,j,fn,by rw[c];exact b⟩
theorem Rz{f:FuncId}{args:List AV}{cm:bo}{out:cP}{aW:bo}{h2:AHeap}(hP:cZ P)(hR:dS P R)(J:nA P R)(hn:cm≠.none)(hr:jT P R .deferred f args cm h=some (out,aW,h2)):
 DI P f args cm h out aW h2:=by
 intro g w vs u hw hf hv hm c cs E
 obtain⟨fn,code,j,hb⟩:=Cm hr
 have q:gV g cm (c::cs):=by cases cm with|none=>exact absurd rfl hn|ret=>exact⟨c,cs,rfl,by rw[E];exact hm⟩|aB v b=>exact⟨c,cs,rfl,by rw[E];exact hm⟩
 obtain⟨g2,w',fr,aP,q1,q2,q3,L,I,D,C,B,z⟩:=Ju hP hR J j hb hr hw hf hv (cs:=c::cs) q
 have i:=I (by simp)
 have eY:∃m,aP={c with mode:=m}::cs:=by
  rcases q3.2 with e|⟨c',r,m,F,K⟩
  .exact⟨c.mode,by rw[e]⟩
  .simp only[List.cons.injEq]at F;obtain⟨rfl,rfl⟩:=F;exact⟨m,K⟩
 obtain⟨m,rfl⟩:=eY
 have k:aW≠.none->i7 g2 aW m:=by intro p;cases aW with|none=>exact absurd rfl p|ret=>obtain⟨c',r,e,t⟩:=i;simp only[List.cons.injEq]at e;obtain⟨rfl,rfl⟩:=e;exact t|aB v b=>obtain⟨c',r,e,t⟩:=i;simp only[List.cons.injEq]at e;obtain⟨rfl,rfl⟩:=e;exact t
 cases out with|ret v=>obtain⟨o,n,x,l,G⟩:=z;exact⟨.returned x,m,w',fr,⟨g2,q1,q2,k,G⟩,D,B,o,n,fn,by rw[C];exact j,l⟩|aB v=>obtain⟨o,x,n,l⟩:=z;exact⟨.panicked _,m,w',fr,⟨g2,q1,q2,k,x,rfl,l⟩,D,B,n,o,fn,by rw[C];exact j⟩
end
structure OG where K:FuncId->List AV->AHeap->Option AV
abbrev Kn:=Inhabited OG
def Kn.K[Kn]:FuncId->List AV->AHeap->Option AV:=(default:OG).K
def kv[Kn](P:Program)(R:Rec)(kind:CallKind)(f:FuncId)(args:List AV)(cm:bo)(h:AHeap):Option (cP×bo×AHeap):=match kind,cm,Kn.K f args h with|.normal,.none,some v=>some (.ret v,.none,h)|_,_,_=>jT P R kind f args cm h
def sW(P:Program)[Kn]:Prop:=∀f args h v,Kn.K f args h=some v->dq P f args h (.ret v) h
variable [Kn]
def Rec.qC(P:Program)(R:Rec):Rec:={call:=kv P R,loop:=nf P R,round:=pW P R}
def br(P:Program):Nat->Rec|0=>Rec.zero|n+1=>Rec.qC P (br P n)
theorem RA{P:Program}{R:Rec}(hP:cZ P)(b:sW P)(hR:dS P R):dS P (Rec.qC P R)where
 call:=λf args h out aW h' e=>by have e:kv P R .normal f args .none h=some (out,aW,h'):=e;unfold kv at e;cases hk:Kn.K f args h with|none=>rw[hk]at e;exact SC hP hR (oB hP hR) e|some v=>rw[hk]at e;cases e;exact b f args h v hk
 vR:=λf args cm h out aW h' hn e=>by have e:kv P R .deferred f args cm h=some (out,aW,h'):=e;exact Rz hP hR (oB hP hR) hn e
 loop:=λ_ _ _ _ _ h=>Kf hR (oB hP hR) h
 round:=λ_ _ _ _ _ h=>IV (oB hP hR) h
theorem DW{P:Program}(hP:cZ P)(b:sW P):∀n,dS P (br P n)|0=>Df|n+1=>RA hP b (DW hP b n)
structure Rec.Le(R R':Rec):Prop where
 call:∀k f a m h r,R.call k f a m h=some r->R'.call k f a m h=some r
 loop:∀c cx st r,R.loop c cx st=some r->R'.loop c cx st=some r
 round:∀l a h r,R.round l a h=some r->R'.round l a h=some r
section
variable {P:Program}{R R':Rec}(hl:R.Le R')
include hl
theorem yn{cx:Ctx}{ρ:Operand->AV}{o:Oper}{cm:bo}{h:AHeap}{r:wi}(e:dc P R cx ρ o cm h=some r):dc P R' cx ρ o cm h=some r:=by
 unfold dc at e⊢
 split at e
 .exact e
 .exact e
 .exact e
 .rename_i f args h1 _;cases hc:R.call .normal f args .none h1 with|none=>rw[hc]at e;cases e|some q=>rw[hc]at e;rw[hl.call _ _ _ _ _ _ hc];exact e
 .rename_i l args h1 _;cases hc:R.round l args h1 with|none=>rw[hc]at e;cases e|some q=>rw[hc]at e;rw[hl.round _ _ _ _ hc];exact e
 .exact e
 .exact e
 .exact e
theorem Io{cx:Ctx}{ops:Array Oper}{o:Oper}{st:aD}{r:bM×aD}(e:eS P R cx ops o st=some r):eS P R' cx ops o st=some r:=by
 unfold eS at e⊢
 split at e
 .cases hc:dc P R cx (ev st.tm) o st.cm st.h with|none=>rw[hc]at e;cases e|some q=>rw[hc]at e;rw[yn hl hc];exact e
 .exact e
 .exact e
theorem xX{cx:Ctx}{ops:Array Oper}:∀{l:List Oper}{st:aD}{r:bM×aD},gd P R cx ops l st=some r->gd P R' cx ops l st=some r|[],_,_,e=>e|o::rest,st,r,e=>by rw[gd]at e⊢;cases hc:eS P R cx ops o st with|none=>rw[hc]at e;cases e|some q=>rw[hc]at e;rw[Io hl hc];obtain⟨ex,b⟩:=q;cases ex with|normal=>exact xX e|_=>exact e
theorem rJ{cx:Ctx}{ops:Array Oper}:∀{l:List Oper}{i aL:Nat}{k:dx}{st:aD}{r:dx×aD},eJ P R cx ops l i aL k st=some r->eJ P R' cx ops l i aL k st=some r
 |[],_,_,_,_,_,e=>e
 |o::rest,i,aL,k,st,r,e=>by
  rw[eJ]at e⊢
  split at e
  .rename_i hw
   try rw[hw]
   split at e
   .rename_i b hp
    try rw[hp]
    exact rJ e
   .cases e
  .rename_i hw
   try rw[hw]
   split at e
   .rename_i hA
    simp only[hA,if_true]
    split at e
    .rename_i v h1 ha
     try rw[ha]
     split at e
     .rename_i x hx
      try rw[hx]
      split at e
      .rename_i hn
       rw[if_pos hn]
       split at e
       .rename_i b hp
        try rw[hp]
        exact rJ e
       .cases e
      .cases e
     .cases e
    .cases e
   .rename_i hA
    split at e
    .rename_i hF
     rw[if_neg hA,if_pos hF]
     split at e
     .rename_i v h1 ha
      try rw[ha]
      split at e
      .rename_i hn
       rw[if_pos hn]
       split at e
       .rename_i b hp
        try rw[hp]
        exact rJ e
       .cases e
      .cases e
     .cases e
    .rename_i hF
     rw[if_neg hA,if_neg hF]
     cases hc:dc P R cx (eG (tmpsOf o) st.tm) o .none st.h.inner with
     |none=>rw[hc]at e;cases e
     |some q=>
      rw[hc]at e;rw[yn hl hc]
      cases q with
      |val v cm h1=>
       simp only at e⊢
       split at e
       .rename_i b hp
        try rw[hp]
        exact rJ e
       .cases e|cf _ _=>cases e|aB _ _=>cases e
  .cases e
theorem xL{cx:Ctx}{ops:Array Oper}{b:List Nat}:∀{l:List Oper}{i:Nat}{st:aD}{r:bM×aD},ff P R cx ops b l i st=some r->ff P R' cx ops b l i st=some r/\∀aL k,eJ P R' cx ops l i aL k st=none
 |[],_,_,_,e=>by simp[ff]at e
 |o::rest,i,st,r,e=>by
  rw[ff]at e⊢
  simp only[eJ]
  split at e
  .rename_i hw
   try rw[hw]
   split at e
   .rename_i hA
    simp only[hA,if_true]
    split at e
    .rename_i c hp
     try simp only[hp]
     have:=xL e;exact⟨this.1,λaL k=>this.2 _ _⟩
    .cases e
   .cases e
  .rename_i hw
   try rw[hw]
   split at e
   .cases e
   .rename_i hA
    simp only[if_neg hA]
    split at e
    .rename_i hF
     simp only[if_pos hF]
     split at e
     .rename_i v h1 ha
      simp only[ha]
      split at e
      .rename_i hn
       simp only[if_pos hn]
       split at e
       .rename_i c hp
        try simp only[hp]
        have:=xL e;exact⟨this.1,λaL k=>this.2 _ _⟩
       .cases e
      .cases e
     .cases e
    .rename_i hF
     simp only[if_neg hF]
     split at e
     .rename_i v h1 hc;rw[yn hl hc];exact⟨e,λ_ _=>rfl⟩
     .cases e
  .cases e
theorem Qi{cx:Ctx}{ops:Array Oper}{st:aD}{r:bM×aD}(e:ot P R cx ops st=some r):ot P R' cx ops st=some r:=by
 unfold ot at e⊢
 split at e
 .rename_i hc
  rw[if_pos hc]
  split at e
  .rename_i k b hr;rw[rJ hl hr];exact e
  .have:=xL hl e;rw[this.2];exact this.1
 .cases e
theorem jq{cx:Ctx}:∀{c:Code}{st:aD}{r:bM×aD},evalCode P R cx c st=some r->evalCode P R' cx c st=some r
 |.skip,_,_,e=>e
 |.label _,_,_,e=>e
 |.region _ ops draw,st,r,e=>by
  rw[evalCode]at e⊢
  split at e
  .rename_i hd;rw[if_pos hd];exact Qi hl e
  .rename_i hd;rw[if_neg hd];exact xX hl e
 |.seq a b,st,r,e=>by rw[evalCode]at e⊢;cases hc:evalCode P R cx a st with|none=>rw[hc]at e;cases e|some q=>rw[hc]at e;rw[jq hc];obtain⟨ex,j⟩:=q;cases ex with|normal=>exact jq e|_=>exact e
 |.cond c a b,st,r,e=>by
  rw[evalCode]at e⊢
  split at e
  .exact jq e
  .exact jq e
  .cases e
 |.block id body,st,r,e=>by rw[evalCode]at e⊢;cases hc:evalCode P R cx body st with|none=>rw[hc]at e;cases e|some q=>rw[hc]at e;rw[jq hc];exact e
 |.loop body,st,r,e=>by rw[evalCode]at e⊢;exact hl.loop _ _ _ _ e
 |.exit _,_,_,e=>e
 |.scope body,st,r,e=>by rw[evalCode]at e⊢;exact jq e
 |.goto _,_,_,e=>e
 |.ret,_,_,e=>e
 |.refuse _,_,_,e=>e
 |.rangeFunc f params assign body,st,r,e=>by
  rw[evalCode]at e⊢
  split at e
  .cases e
  .rename_i i
   try rw[i]
   split at e
   .rename_i g first captured hf
    try rw[hf]
    dsimp only at e⊢
    split at e
    .rename_i g' args h1 ha
     try rw[ha]
     cases hc:R.call .normal g' args .none h1 with
     |none=>rw[hc]at e;cases e
     |some q=>
      rw[hc]at e
      try dsimp only
      rw[hl.call _ _ _ _ _ _ hc];exact e
    .cases e
   .cases e
theorem CU{fn:Func}{tm:Tr AV}:∀{ds:List ep}{m:bo}{h:AHeap}{r:cP×AHeap},ct P R fn tm ds m h=some r->ct P R' fn tm ds m h=some r:=by
 intro ds
 induction ds with
 |nil=>intro m h r e;cases m with|none=>exact e|ret=>exact e|aB v b=>cases b<;>exact e
 |cons d ds ih=>
  intro m h r e
  cases d with
  |dK d=>
   rw[ct]at e⊢
   split at e
   .exact ih e
   .cases e
  |fn f captured args=>
   cases f with
   |func f=>
    rw[ct]at e⊢
    split at e
    .rename_i i c h1 ha;cases hc:R.call .deferred i c m h1 with|none=>rw[hc]at e;cases e|some q=>rw[hc]at e;rw[hl.call _ _ _ _ _ _ hc];split at e;all_goals first|(rename_i j;cases j;exact ih e)|cases e
    .cases e|_=>exact e
theorem P4{k:CallKind}{f:FuncId}{a:List AV}{m:bo}{h:AHeap}{r:cP×bo×AHeap}(e:jT P R k f a m h=some r):jT P R' k f a m h=some r:=by
 unfold jT at e⊢
 split at e
 .rename_i fn hf
  try rw[hf]
  split at e
  .rename_i code hb
   try rw[hb]
   cases hc:evalCode P R {fn:=f,tn:=max fn.ntmps a.length,kind:=k,round:=none} code {tm:=hO a 0 .leaf,df:=[],cm:=m,h:=h.inner}with
   |none=>rw[hc]at e;cases e
   |some q=>
    rw[hc]at e
    try dsimp only
    rw[jq hl hc]
    obtain⟨ex,st⟩:=q
    have key:∀md r',nj h st.cm (ct P R fn st.tm st.df md st.h)=some r'->nj h st.cm (ct P R' fn st.tm st.df md st.h)=some r':=by intro md r' e;cases hv:ct P R fn st.tm st.df md st.h with|none=>rw[hv]at e;cases e|some q=>rw[hv]at e;rw[CU hl hv];exact e
    cases ex with|normal=>exact key _ _ e|ret=>exact key _ _ e|panic v=>exact key _ _ e|exit id=>cases e
  .cases e
 .cases e
theorem SD:(Rec.qC P R).Le (Rec.qC P R')where
 call:=λk f a m h r e=>by
  simp only[Rec.qC]at e⊢
  unfold kv at e⊢
  split
  .rename_i v hv;rw[hv]at e;exact e
  .rename_i hn
   split at e
   .rename_i v hv;exact absurd hv (hn v rfl rfl)
   .exact P4 hl e
 loop:=λc cx st r e=>by simp only[Rec.qC,nf]at e⊢;cases hc:evalCode P R cx c st with|none=>rw[hc]at e;cases e|some q=>rw[hc]at e;rw[jq hl hc];obtain⟨ex,i⟩:=q;cases ex with|normal=>exact hl.loop _ _ _ _ e|_=>exact e
 round:=λl a h r e=>by
  simp only[Rec.qC,pW]at e⊢
  split at e
  .rename_i D E fn tn tm ps assign body dd hg
   try rw[hg]
   try dsimp only
   cases hp:lX tn ps a tm with
   |none=>rw[hp]at e;cases e
   |some bL=>
    rw[hp]at e
    dsimp only at e⊢
    cases hc:evalCode P R {fn,tn,kind:=.normal,round:=some l} assign {tm:=bL,df:=[],cm:=.none,h}with
    |none=>rw[hc]at e;cases e
    |some q=>
     rw[hc]at e
     rw[jq hl hc]
     obtain⟨ex,i⟩:=q
     cases ex with
     |normal=>
      dsimp only at e⊢
      split at e
      .rename_i p B o t u b n C z
       try rw[z]
       try dsimp only
       cases j:evalCode P R {fn,tn,kind:=.normal,round:=some l} body {i with h:=i.h.aQ l (.loop .busy p B o t u b n C)}with|none=>rw[j]at e;cases e|some q2=>rw[j]at e;rw[jq hl j];exact e
      .cases e|_=>cases e
  .cases e
end
theorem Ip(P:Program):∀n,(br P n).Le (br P (n+1))|0=>⟨λ_ _ _ _ _ _ e=>(by cases e),λ_ _ _ _ e=>(by cases e),λ_ _ _ _ e=>(by cases e)⟩|n+1=>SD (Ip P n)
theorem Rec.Le.refl(R:Rec):R.Le R:=⟨λ_ _ _ _ _ _ e=>e,λ_ _ _ _ e=>e,λ_ _ _ _ e=>e⟩
theorem Rec.Le.trans{a b c:Rec}(h:a.Le b)(h':b.Le c):a.Le c:=⟨λ_ _ _ _ _ _ e=>h'.call _ _ _ _ _ _ (h.call _ _ _ _ _ _ e),λ_ _ _ _ e=>h'.loop _ _ _ _ (h.loop _ _ _ _ e),λ_ _ _ _ e=>h'.round _ _ _ _ (h.round _ _ _ _ e)⟩
theorem jX(P:Program){n m:Nat}(h:n<=m):(br P n).Le (br P m):=by induction h with|refl=>exact .refl _|step _ ih=>exact ih.trans (Ip P _)
end Go.AI
end
