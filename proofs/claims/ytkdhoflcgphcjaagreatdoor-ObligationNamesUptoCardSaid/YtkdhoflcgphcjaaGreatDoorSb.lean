/- A part of the proof. -/
import Derived.Test.YtkdhoflcgphcjaaGreatDoorSa
set_option linter.all false

section
namespace Go.AI
inductive Lk where|box(o n:Nat)|nil|sl(o ver n sz len:Nat)(cap:Option Nat)|mp(o:Nat)
def Lk.obj:Lk->Option Nat|.box o _=>some o|.nil=>none|.sl o _ _ _ _ _=>some o|.mp o=>some o
structure Wd where
 g:Nat->Option bT
 F:Nat->Prop
 s:Nat->Option Lk
section
variable (P:Program)(w:Wd)
mutual
inductive Rd:TypeId->List (List AV)->AV->Prop|nil(t:TypeId):Rd t [] (.sc (.slice none 0 0))|bC(t:TypeId):Rd t [] .bC|aI{t:TypeId}{rows rows':List (List AV)}:bj P t=some (lay P t).length->0<(lay P t).length->0<rows.length->bG (lay P t) rows rows'->Rd t rows (.aI rows' (lay P t).length)|sl{t:TypeId}{rows:List (List AV)}{o ver n off v mv fz:Nat}{c:List AV}{el:TypeId}{ex sh:Bool}{cap:Option Nat}:bj P t=some (lay P t).length->0<(lay P t).length->w.F o->w.g o=some (.cells v mv c fz el ex sh)->mv<=ver->ver<=v->off+rows.length*(lay P t).length<=n->off+rows.length*(lay P t).length<=c.length->(∀k,cap=some k->rows.length<=k)->bG (lay P t) rows (chunks (lay P t).length rows.length (c.drop off))->Rd t rows (.sl o ver n off (lay P t).length rows.length cap)
inductive bG:List Lf->List (List AV)->List (List AV)->Prop|nil(ls:List Lf):bG ls [] []|cons{ls:List Lf}{r r':List AV}{rs cC:List (List AV)}:bR ls r r'->bG ls rs cC->bG ls (r::rs) (r'::cC)
inductive bR:List Lf->List AV->List AV->Prop|nil:bR [] [] []|cons{l:Lf}{ls:List Lf}{c y:AV}{r r':List AV}:jw l c y->bR ls r r'->bR (l::ls) (c::r) (y::r')
inductive jw:Lf->AV->AV->Prop|int(k:IntKind)(n:Int):jw (.int k) (.sc (.int k n)) (.sc (.int k n))|bool(b:Bool):jw .bool (.sc (.bool b)) (.sc (.bool b))|str(s:ByteArray):jw .str (.sc (.string s)) (.sc (.string s))|sl{t:TypeId}{rows:List (List AV)}{sz:Nat}{y:AV}:Rd t rows y->jw (.sl t) (.aI rows sz) y
end
inductive Rp:TypeId->List AV->Nat->AV->Prop|cr{t:TypeId}{row dz:List AV}{off:Nat}:bR P w (lay P t) row dz->Rp t row off (.cr (dz.drop off))|ref{t:TypeId}{row:List AV}{off o ver n p v mv fz:Nat}{c:List AV}{el:TypeId}{ex sh:Bool}:w.F o->w.g o=some (.cells v mv c fz el ex sh)->mv<=ver->ver<=v->p+(lay P t).length<=n->p+(lay P t).length<=c.length->bR P w (lay P t) row ((c.drop p).take (lay P t).length)->Rp t row off (.ref o ver n (p+off))
inductive jq(e:TypeId):List (List AV)->List (AV×AV×Nat)->Prop|nil:jq e [] []|cons{s:ByteArray}{r r':List AV}{v:AV}{c:Nat}{rows:List (List AV)}{es:List (AV×AV×Nat)}:bR P w (lay P e) r r'->(dG P e=some true/\v=.agg r')\/(dG P e=some false/\r'=[v])->jq e rows es->jq e ((.sc (.string s)::r)::rows) ((.sc (.string s),v,c)::es)
structure sd(e:TypeId)(rows:List (List AV))(es:List (AV×AV×Nat))(cl:Nat):Prop where
 en:jq P w e rows es
 lt:∀x,x∈es.map (·.2.2)->x<cl
 nd:(es.map (·.2.2)).Nodup
inductive Rm:TypeId->List (List AV)->AV->Prop|mk{t e:TypeId}{rows:List (List AV)}{o cl:Nat}{es:List (AV×AV×Nat)}:lj P t=some e->w.F o->w.g o=some (.map es cl)->sd P w e rows es cl->Rm t rows (.map o)
inductive Rl(t:TypeId):List (List AV)->AV->Prop|nil:Rl t [] (.sc (.pointer none))|cons{r:List AV}{rows:List (List AV)}{o n v mv fz:Nat}{c:List AV}{el:TypeId}{ex sh:Bool}{y:AV}:w.F o->w.g o=some (.cells v mv c fz el ex sh)->mv=0->(lay P t).dropLast.length+1<=n->(lay P t).dropLast.length+1<=c.length->bR P w (lay P t).dropLast r (c.take (lay P t).dropLast.length)->c[(lay P t).dropLast.length]?=some y->Rl t rows y->Rl t (r::rows) (.ref o 0 n 0)
def w7:AV->Bool|.agg _=>false|_=>true
inductive cL:Code->List Tmp->Code->Code->Prop|here{fo:Operand}{ps:Array Tmp}{a b:Code}:cL (.rangeFunc fo ps a b) ps.toList a b|hd{fo:Operand}{ps:Array Tmp}{a b:Code}{qs:List Tmp}{x y:Code}:cL a qs x y->cL (.rangeFunc fo ps a b) qs x y|bd{fo:Operand}{ps:Array Tmp}{a b:Code}{qs:List Tmp}{x y:Code}:cL b qs x y->cL (.rangeFunc fo ps a b) qs x y|mf{a b x y:Code}{qs:List Tmp}:cL a qs x y->cL (.seq a b) qs x y|jX{a b x y:Code}{qs:List Tmp}:cL b qs x y->cL (.seq a b) qs x y|l1{c:Operand}{a b x y:Code}{qs:List Tmp}:cL a qs x y->cL (.cond c a b) qs x y|l2{c:Operand}{a b x y:Code}{qs:List Tmp}:cL b qs x y->cL (.cond c a b) qs x y|blk{id:Nat}{b x y:Code}{qs:List Tmp}:cL b qs x y->cL (.block id b) qs x y|loop{b x y:Code}{qs:List Tmp}:cL b qs x y->cL (.loop b) qs x y|scope{b x y:Code}{qs:List Tmp}:cL b qs x y->cL (.scope b) qs x y
theorem cL.kc{c x y:Code}{qs:List Tmp}(h:cL c qs x y):0<dD c:=by induction h<;>simp only[dD]<;>omega
theorem qy:∀{c:Code},dD c=0->eJ c=none|.seq a b,h=>by simp_all[qy,dD,eJ]|.cond _ a b,h=>by simp_all[qy,dD,eJ]|.block _ b,h=>by simp_all[qy,dD,eJ]|.loop b,h=>by simp_all[qy,dD,eJ]|.scope b,h=>by simp_all[qy,dD,eJ]|.rangeFunc _ _ a b,h=>by simp only[dD]at h;omega|.skip,_=>rfl|.label _,_=>rfl|.region _ _ _,_=>rfl|.exit _,_=>rfl|.ret,_=>rfl|.goto _,_=>rfl|.refuse _,_=>rfl
theorem cL.find{c x y:Code}{qs:List Tmp}(h:cL c qs x y):dD c=1->eJ c=some (qs,x,y):=by induction h with|here=>intro _;rfl|hd h _=>intro e;have:=h.kc;simp only[dD]at e;omega|bd h _=>intro e;have:=h.kc;simp only[dD]at e;omega|mf h ih=>intro e;have:=h.kc;grind[dD,eJ]|@jX a b _ _ _ h ih=>intro e;have:=h.kc;grind[qy,dD,eJ]|l1 h ih=>intro e;have:=h.kc;grind[dD,eJ]|@l2 _ a b _ _ _ h ih=>intro e;have:=h.kc;grind[qy,dD,eJ]|blk _ ih=>simp_all[dD,eJ]|loop _ ih=>simp_all[dD,eJ]|scope _ ih=>simp_all[dD,eJ]
def ET(P:Program)(f:FuncId)(tn:Nat)(ps:List Tmp)(hd bd:Code):Prop:=∃fn code,P.funcs[f]?=some fn/\fn.body=some code/\fn.ntmps<=tn/\cL code ps hd bd
mutual
inductive RV:SV->AV->Prop|aA(x:AV):RV .aA x|sc{v:Value}:s8 v=true->RV (.sc v) (.sc v)|agg{cs:List SV}{xs:List AV}:ak cs xs->RV (.agg cs) (.agg xs)|dl{t:TypeId}{rows:List (List AV)}{x:AV}:Rd P w t rows x->RV (.dl t rows) x|ck{i:Nat}:w.s i=some .nil->RV (.own i) (.sc (.slice none 0 0))|bX{i o ver n sz len:Nat}{cap:Option Nat}:w.s i=some (.sl o ver n sz len cap)->RV (.own i) (.sl o ver n 0 sz len cap)|ref{i off o n:Nat}:w.s i=some (.box o n)->RV (.ref i off) (.ref o 0 n off)|cV{i k off o ver n sz len:Nat}{cap:Option Nat}:w.s i=some (.sl o ver n sz len cap)->k<len->RV (.cV i k off) (.ref o ver n (k*sz+off))|cI{t:TypeId}{row:List AV}{off:Nat}{x:AV}:Rp P w t row off x->RV (.cI t row off) x|fG{i o ver n sz len:Nat}{cap:Option Nat}:w.s i=some (.sl o ver n sz len cap)->RV (.fG i) (.ref o ver n 0)|fJ{v:SV}{x:AV}:RV v x->w7 x=true->RV (.opt true v) x|il{v:SV}:RV (.opt false v) (.sc (.pointer none))|fn{f:FuncId}{caps:List SV}{xs:List AV}:ak caps xs->RV (.fn f caps) (.func (.func f) [] xs)|fp{f:FuncId}:RV (.fn f []) (.sc (.func (.func f) #[] #[]))|bl{vs:List SV}{xs:List AV}:ak vs xs->RV (.bl vs) (.tuple xs)|dB{t:TypeId}{v:SV}{x:AV}:RV v x->RV (.dB t v) (.iface t x)|lr{t:TypeId}{x:AV}:RV (.tZ true) (.iface t x)|lu:RV (.tZ false) (.sc .nilIface)|ea{x:AV}:dt x=true->RV .ea x|cl{t:TypeId}{rows:List (List AV)}{o ver n off:Nat}:0<rows.length->Rd P w t rows (.sl o ver n off (lay P t).length rows.length (some rows.length))->RV (.cl t rows) (.sl o ver n off (lay P t).length rows.length (some rows.length))|jx{t:TypeId}{rows rows':List (List AV)}:bG P w (lay P t) rows rows'->RV (.cl t rows) (.aN rows'.flatten (lay P t).length rows.length (some rows.length))|om{i o:Nat}:w.s i=some (.mp o)->RV (.om i) (.map o)|md{t:TypeId}{rows:List (List AV)}{x:AV}:Rm P w t rows x->RV (.md t rows) x|ls{t:TypeId}{rows:List (List AV)}{x:AV}:Rl P w t rows x->RV (.ls t rows) x|pb{t:TypeId}{cs:List SV}{off o n v mv fz:Nat}{c:List AV}{el:TypeId}{ex sh:Bool}:w.F o->w.g o=some (.cells v mv c fz el ex sh)->mv=0->cs.length<=n->cs.length<=c.length->dw cs=[]->eE cs=true->ak cs (c.take cs.length)->RV (.pb t cs off) (.ref o 0 n off)|mY{i:Nat}{h:Int}:w.s i=some .nil->h=0->RV (.nR i h) (.sc (.slice none 0 0))|nw{i o ver n sz len:Nat}{cap:Option Nat}{h:Int}:w.s i=some (.sl o ver n sz len cap)->h.toNat<=len->RV (.nR i h) (.sl o ver n 0 sz h.toNat cap)|yl{f:FuncId}{ts ps:List Tmp}{cs:List SV}{l tn dd:Nat}{tm:Tr AV}{hd bd:Code}:w.g l=some (.loop .ready none f tn tm ps hd bd dd)->ET P f tn ps hd bd->ak cs (ts.map λt=>ev tm (.tmp t))->RV (.yl f ts cs) (.ej l)inductive ak:List SV->List AV->Prop|nil:ak [] []|cons{v:SV}{x:AV}{vs:List SV}{xs:List AV}:RV v x->ak vs xs->ak (v::vs) (x::xs)end
end
def Grow:Option bT->Option bT->Prop|some (.cells v mv c _ _ _ _),some (.cells v' i c' _ _ _ _)=>v<=v'/\i=mv/\∃d,c'=c++d|_,_=>True
theorem Grow.cells{v mv fz:Nat}{c:List AV}{el:TypeId}{ex sh:Bool}{y:Option bT}(hy:∃v' i c' eW eY eZ eN,y=some (.cells v' i c' eW eY eZ eN))(h:Grow (some (.cells v mv c fz el ex sh)) y):∃v' d eW eY eZ eN,y=some (.cells v' mv (c++d) eW eY eZ eN)/\v<=v':=by obtain⟨v',i,c',eW,eY,eZ,eN,rfl⟩:=hy;obtain⟨h1,rfl,d,rfl⟩:=h;grind
def nJ:bT->Bool|.loop ..=>true|_=>false
def Lp(g:Nat->Option bT)(o:Nat):Prop:=∃x,g o=some x/\nJ x=true
structure aK(w w':Wd):Prop where
 F:∀o,w.F o->w'.F o
 l:∀o x,w.g o=some x->nJ x=true->w'.g o=some x
 n:∀o,w.g o≠none->w'.g o≠none/\(Lp w'.g o->Lp w.g o)
 g:∀o,w.F o->∀v mv c fz el ex sh,w.g o=some (.cells v mv c fz el ex sh)->∃v' d eW eY eZ eN,w'.g o=some (.cells v' mv (c++d) eW eY eZ eN)/\v<=v'
 m:∀o,w.F o->∀es cl,w.g o=some (.map es cl)->w'.g o=some (.map es cl)
theorem aK.refl(w:Wd):aK w w:=⟨λ_ h=>h,λ_ _ h _=>h,λ_ h=>⟨h,id⟩,λ_ _ v mv c fz el ex sh h=>⟨v,[],fz,el,ex,sh,by grind,ao _⟩,λ_ _ _ _ h=>h⟩
theorem aK.trans{a b c:Wd}(h:aK a b)(h':aK b c):aK a c:=⟨λo x=>h'.F o (h.F o x),λo x e i=>h'.l o x (h.l o x e i) i,λo e=>⟨(h'.n o (h.n o e).1).1,λq=>(h.n o e).2 ((h'.n o (h.n o e).1).2 q)⟩,λo x v mv cs fz el ex sh e=>by obtain⟨z,d1,I,e1,p,D,q1,q2⟩:=h.g o x v mv cs fz el ex sh e;obtain⟨u,d2,G,e2,j,C,q3,E⟩:=h'.g o (h.F o x) _ _ _ _ _ _ _ q1;grind,λo f es cl e=>h'.m o (h.F o f) es cl (h.m o f es cl e)⟩
theorem sA{sz:Nat}:∀(n:Nat)(l d:List AV),n*sz<=l.length->chunks sz n (l++d)=chunks sz n l
 |0,_,_,_=>rfl
 |n+1,l,d,h=>by
  have h':sz<=l.length:=by rw[Nat.add_mul]at h;omega
  simp only[chunks];rw[List.take_append_of_le_length h',List.drop_append_of_le_length h',sA n (l.drop sz) d (by rw[List.length_drop];rw[Nat.add_mul]at h;omega)]
structure gq(w w':Wd):Prop where
 F:∀o,w.F o->w'.F o
 g:∀o,w.F o->∀v mv c fz el ex sh,w.g o=some (.cells v mv c fz el ex sh)->∃v' d eW eY eZ eN,w'.g o=some (.cells v' mv (c++d) eW eY eZ eN)/\v<=v'
 m:∀o,w.F o->∀es cl,w.g o=some (.map es cl)->w'.g o=some (.map es cl)
theorem aK.c{w w':Wd}(h:aK w w'):gq w w':=⟨h.F,h.g,h.m⟩
section
variable {P:Program}{w w':Wd}
mutual
theorem Rd.bI(hl:gq w w'):∀{t:TypeId}{rows:List (List AV)}{x:AV},Rd P w t rows x->Rd P w' t rows x|_,_,_,.nil t=>.nil t|_,_,_,.bC t=>.bC t|_,_,_,.aI a b c h=>.aI a b c (bG.bI hl h)|_,_,_,.sl a b hF hg h1 h2 h3 h4 hc h=>by obtain⟨v',d,eW,eY,eZ,eN,e,hv⟩:=hl.g _ hF _ _ _ _ _ _ _ hg;refine .sl a b (hl.F _ hF) e h1 (Nat.le_trans h2 hv) h3 (by grind) hc ?_;have:=bG.bI hl h;rw[List.drop_append_of_le_length (by omega),sA _ _ _ (by rw[List.length_drop];omega)];exact this
theorem bG.bI(hl:gq w w'):∀{ls:List Lf}{rs cC:List (List AV)},bG P w ls rs cC->bG P w' ls rs cC|_,_,_,.nil ls=>.nil ls|_,_,_,.cons a b=>.cons (bR.bI hl a) (bG.bI hl b)theorem bR.bI(hl:gq w w'):∀{ls:List Lf}{r r':List AV},bR P w ls r r'->bR P w' ls r r'|_,_,_,.nil=>.nil|_,_,_,.cons a b=>.cons (jw.bI hl a) (bR.bI hl b)theorem jw.bI(hl:gq w w'):∀{l:Lf}{c y:AV},jw P w l c y->jw P w' l c y|_,_,_,.int k n=>.int k n|_,_,_,.bool b=>.bool b|_,_,_,.str s=>.str s|_,_,_,.sl h=>.sl (Rd.bI hl h)end
theorem Rp.bI(hl:gq w w'){t:TypeId}{row:List AV}{off:Nat}{x:AV}(h:Rp P w t row off x):Rp P w' t row off x:=by cases h with|cr h1=>exact .cr (h1.bI hl)|ref hF hg h1 h2 h3 h4 h=>obtain⟨v',d,eW,eY,eZ,eN,e,hv⟩:=hl.g _ hF _ _ _ _ _ _ _ hg;refine .ref (hl.F _ hF) e h1 (Nat.le_trans h2 hv) h3 (by grind) ?_;rw[List.drop_append_of_le_length (by omega),List.take_append_of_le_length (by grind)];exact h.bI hl
theorem jq.bI(hl:gq w w'){e:TypeId}:∀{rows:List (List AV)}{es:List (AV×AV×Nat)},jq P w e rows es->jq P w' e rows es|_,_,.nil=>.nil|_,_,.cons a b c=>.cons (a.bI hl) b (jq.bI hl c)
theorem sd.bI(hl:gq w w'){e:TypeId}{rows:List (List AV)}{es:List (AV×AV×Nat)}{cl:Nat}(h:sd P w e rows es cl):sd P w' e rows es cl:=⟨h.en.bI hl,h.lt,h.nd⟩
theorem Rm.bI(hl:gq w w'){t:TypeId}{rows:List (List AV)}{x:AV}(h:Rm P w t rows x):Rm P w' t rows x:=by cases h with|mk a b c d=>exact .mk a (hl.F _ b) (hl.m _ b _ _ c) (d.bI hl)
theorem Rl.bI(hl:gq w w'){t:TypeId}{rows:List (List AV)}{x:AV}(h:Rl P w t rows x):Rl P w' t rows x:=by
 induction h with
 |nil=>exact .nil
 |cons hF hg h1 h3 h4 hr hy _ ih=>
  obtain⟨v',d,eW,eY,eZ,eN,e,hv⟩:=hl.g _ hF _ _ _ _ _ _ _ hg
  refine .cons (hl.F _ hF) e h1 h3 (by grind) ?_ ?_ ih
  .rw[List.take_append_of_le_length (by omega)];exact hr.bI hl
  grind
theorem Rd.mono(hl:aK w w'){t:TypeId}{rows:List (List AV)}{x:AV}(h:Rd P w t rows x):Rd P w' t rows x:=h.bI hl.c
theorem bG.mono(hl:aK w w'){ls:List Lf}{rs cC:List (List AV)}(h:bG P w ls rs cC):bG P w' ls rs cC:=h.bI hl.c
theorem bR.mono(hl:aK w w'){ls:List Lf}{r r':List AV}(h:bR P w ls r r'):bR P w' ls r r':=h.bI hl.c
theorem Rp.mono(hl:aK w w'){t:TypeId}{row:List AV}{off:Nat}{x:AV}(h:Rp P w t row off x):Rp P w' t row off x:=h.bI hl.c
mutual
theorem RV.kX(hl:gq w w')(hs:∀i k,w.s i=some k->w'.s i=some k):∀{v:SV}{x:AV},gi v=true->RV P w v x->RV P w' v x|_,_,_,.aA x=>.aA x|_,_,_,.sc h=>.sc h|_,_,q,.agg h=>.agg (ak.kX hl hs (by simpa[gi]using q) h)|_,_,_,.dl h=>.dl (h.bI hl)|_,_,_,.ck h=>.ck (hs _ _ h)|_,_,_,.bX h=>.bX (hs _ _ h)|_,_,_,.ref h=>.ref (hs _ _ h)|_,_,_,.cV h a=>.cV (hs _ _ h) a|_,_,_,.cI h=>.cI (h.bI hl)|_,_,_,.fG h=>.fG (hs _ _ h)|_,_,q,.fJ h a=>.fJ (RV.kX hl hs (by simpa[gi]using q) h) a|_,_,_,.il=>.il|_,_,q,.fn h=>.fn (ak.kX hl hs (by simpa[gi]using q) h)|_,_,_,.fp=>.fp|_,_,q,.bl h=>.bl (ak.kX hl hs (by simpa[gi]using q) h)|_,_,q,.dB h=>.dB (RV.kX hl hs (by simpa[gi]using q) h)|_,_,_,.lr=>.lr|_,_,_,.lu=>.lu|_,_,_,.ea h=>.ea h|_,_,_,.cl a h=>.cl a (h.bI hl)|_,_,_,.jx h=>.jx (h.bI hl)|_,_,_,.om h=>.om (hs _ _ h)|_,_,_,.md h=>.md (h.bI hl)|_,_,_,.ls h=>.ls (h.bI hl)|_,_,_,.pb hF hg h1 h3 h4 h5 h6 hr=>by obtain⟨v',d,eW,eY,eZ,eN,e,hv⟩:=hl.g _ hF _ _ _ _ _ _ _ hg;refine .pb (hl.F _ hF) e h1 h3 (by grind) h5 h6 ?_;simp_all[List.take_append_of_le_length,ak.kX]|_,_,_,.mY h a=>.mY (hs _ _ h) a|_,_,_,.nw h a=>.nw (hs _ _ h) a|_,_,q,.yl _ _ _=>by cases q
theorem ak.kX(hl:gq w w')(hs:∀i k,w.s i=some k->w'.s i=some k):∀{vs:List SV}{xs:List AV},eE vs=true->ak P w vs xs->ak P w' vs xs|_,_,_,.nil=>.nil|_,_,q,.cons a b=>.cons (RV.kX hl hs (by simp_all[aZ,eE]) a) (ak.kX hl hs (by simp_all[aZ,eE]) b)end
theorem KQ:∀{v:SV},mo v=true->gi v=true|.opt _ v,h=>KQ (v:=v) h|.fn _ _,h=>h|.dB _ _,h=>h|.aA,_=>rfl|.sc _,_=>rfl|.dl _ _,_=>rfl|.own _,_=>rfl|.ref _ _,_=>rfl|.cV _ _ _,_=>rfl|.cI _ _ _,_=>rfl|.fG _,_=>rfl|.tZ _,_=>rfl|.ea,_=>rfl|.cl _ _,_=>rfl|.om _,_=>rfl|.md _ _,_=>rfl|.ls _ _,_=>rfl|.pb _ _ _,_=>rfl|.nR _ _,h=>by cases h|.agg _,h=>by cases h|.bl _,h=>by cases h|.yl _ _ _,h=>by cases h
theorem xY:∀{vs:List SV},cn vs=true->eE vs=true|[],_=>rfl|v::vs,h=>by simp_all[aZ,KQ,xY,Bool.and_self,cn,eE]
mutual
theorem RV.mono(hl:aK w w')(hs:∀i k,w.s i=some k->w'.s i=some k):∀{v:SV}{x:AV},RV P w v x->RV P w' v x|_,_,.aA x=>.aA x|_,_,.sc h=>.sc h|_,_,.agg h=>.agg (ak.mono hl hs h)|_,_,.dl h=>.dl (h.mono hl)|_,_,.ck h=>.ck (hs _ _ h)|_,_,.bX h=>.bX (hs _ _ h)|_,_,.ref h=>.ref (hs _ _ h)|_,_,.cV h a=>.cV (hs _ _ h) a|_,_,.cI h=>.cI (h.mono hl)|_,_,.fG h=>.fG (hs _ _ h)|_,_,.fJ h a=>.fJ (RV.mono hl hs h) a|_,_,.il=>.il|_,_,.fn h=>.fn (ak.mono hl hs h)|_,_,.fp=>.fp|_,_,.bl h=>.bl (ak.mono hl hs h)|_,_,.dB h=>.dB (RV.mono hl hs h)|_,_,.lr=>.lr|_,_,.lu=>.lu|_,_,.ea h=>.ea h|_,_,.cl a h=>.cl a (h.mono hl)|_,_,.jx h=>.jx (h.mono hl)|_,_,.om h=>.om (hs _ _ h)|_,_,.md h=>.md (h.bI hl.c)|_,_,.ls h=>.ls (h.bI hl.c)|_,_,.pb hF hg h1 h3 h4 h5 h6 hr=>by obtain⟨v',d,eW,eY,eZ,eN,e,hv⟩:=hl.g _ hF _ _ _ _ _ _ _ hg;refine .pb (hl.F _ hF) e h1 h3 (by grind) h5 h6 ?_;simp_all[List.take_append_of_le_length,ak.mono]|_,_,.mY h a=>.mY (hs _ _ h) a|_,_,.nw h a=>.nw (hs _ _ h) a|_,_,.yl a b h=>.yl (hl.l _ _ a rfl) b (ak.mono hl hs h)theorem ak.mono(hl:aK w w')(hs:∀i k,w.s i=some k->w'.s i=some k):∀{vs:List SV}{xs:List AV},ak P w vs xs->ak P w' vs xs|_,_,.nil=>.nil|_,_,.cons a b=>.cons (RV.mono hl hs a) (ak.mono hl hs b)end
mutual
theorem RV.lJ(hl:gq w w'):∀{v:SV}{x:AV},wu v=[]->gi v=true->RV P w v x->RV P w' v x|_,_,_,_,.aA x=>.aA x|_,_,_,_,.sc h=>.sc h|_,_,a,q,.agg h=>.agg (ak.lJ hl a (by simpa[gi]using q) h)|_,_,_,_,.dl h=>.dl (h.bI hl)|_,_,a,_,.ck h=>by cases a|_,_,a,_,.bX h=>by cases a|_,_,a,_,.ref h=>by cases a|_,_,a,_,.cV h _=>by cases a|_,_,_,_,.cI h=>.cI (h.bI hl)|_,_,a,_,.fG h=>by cases a|_,_,a,q,.fJ h b=>.fJ (RV.lJ hl a (by simpa[gi]using q) h) b|_,_,_,_,.il=>.il|_,_,a,q,.fn h=>.fn (ak.lJ hl a (by simpa[gi]using q) h)|_,_,_,_,.fp=>.fp|_,_,a,q,.bl h=>.bl (ak.lJ hl a (by simpa[gi]using q) h)|_,_,a,q,.dB h=>.dB (RV.lJ hl a (by simpa[gi]using q) h)|_,_,_,_,.lr=>.lr|_,_,_,_,.lu=>.lu|_,_,_,_,.ea h=>.ea h|_,_,_,_,.cl a h=>.cl a (h.bI hl)|_,_,_,_,.jx h=>.jx (h.bI hl)|_,_,a,_,.om h=>by cases a|_,_,_,_,.md h=>.md (h.bI hl)|_,_,_,_,.ls h=>.ls (h.bI hl)|_,_,_,_,.pb hF hg h1 h3 h4 h5 h6 hr=>by obtain⟨v',d,eW,eY,eZ,eN,e,hv⟩:=hl.g _ hF _ _ _ _ _ _ _ hg;refine .pb (hl.F _ hF) e h1 h3 (by grind) h5 h6 ?_;simp_all[List.take_append_of_le_length,ak.lJ]|_,_,a,_,.mY h _=>by cases a|_,_,a,_,.nw h _=>by cases a|_,_,_,q,.yl _ _ _=>by cases q
theorem ak.lJ(hl:gq w w'):∀{vs:List SV}{xs:List AV},dw vs=[]->eE vs=true->ak P w vs xs->ak P w' vs xs|_,_,_,_,.nil=>.nil|_,_,a,q,.cons h1 h2=>by simp only[dw,List.append_eq_nil_iff]at a;simp only[eE,aZ]at q;exact .cons (RV.lJ hl a.1 q.1 h1) (ak.lJ hl a.2 q.2 h2)end
theorem ak.length:∀{vs:List SV}{xs:List AV},ak P w vs xs->vs.length=xs.length|_,_,.nil=>rfl|_,_,.cons _ b=>by simp[ak.length b]
theorem ak.get:∀{vs:List SV}{xs:List AV},ak P w vs xs->∀(i:Nat)(v:SV),vs[i]?=some v->∃x,xs[i]?=some x/\RV P w v x|_,_,.nil,i,v,h=>by simp at h|_,_,.cons a b,0,v,h=>by grind|_,_,.cons a b,i+1,v,h=>by simp at h;obtain⟨x,e,r⟩:=ak.get b i v h;exact⟨x,by simpa using e,r⟩
theorem ak.take:∀{vs:List SV}{xs:List AV}(n:Nat),ak P w vs xs->ak P w (vs.take n) (xs.take n)|_,_,0,_=>by simp;exact .nil|_,_,n+1,.nil=>by simp;exact .nil|_,_,n+1,.cons a b=>by simp only[List.take_succ_cons];exact .cons a (ak.take n b)
theorem ak.drop:∀{vs:List SV}{xs:List AV}(n:Nat),ak P w vs xs->ak P w (vs.drop n) (xs.drop n)|_,_,0,h=>by grind|_,_,n+1,.nil=>by simp;exact .nil|_,_,n+1,.cons a b=>by simp only[List.drop_succ_cons];exact ak.drop n b
theorem ak.append:∀{vs us:List SV}{xs ys:List AV},ak P w vs xs->ak P w us ys->ak P w (vs++us) (xs++ys)|_,_,_,_,.nil,h=>h|_,_,_,_,.cons a b,h=>.cons a (ak.append b h)
theorem ak.map{α:Type}{f:α->SV}{c:α->AV}:∀(l:List α),(∀a,a∈l->RV P w (f a) (c a))->ak P w (l.map f) (l.map c)|[],_=>.nil|a::l,h=>.cons (h a (by simp)) (ak.map l λb hb=>h b (by simp[hb]))
theorem bR.length:∀{ls:List Lf}{r r':List AV},bR P w ls r r'->r.length=ls.length/\r'.length=ls.length|_,_,_,.nil=>⟨rfl,rfl⟩|_,_,_,.cons _ b=>by have:=bR.length b;simp[this]
theorem bR.get:∀{ls:List Lf}{r r':List AV},bR P w ls r r'->∀(j:Nat)(l:Lf),ls[j]?=some l->∃c y,r[j]?=some c/\r'[j]?=some y/\jw P w l c y|_,_,_,.nil,j,l,h=>by simp at h|_,_,_,.cons a b,0,l,h=>by grind|_,_,_,.cons a b,j+1,l,h=>by simp at h;obtain⟨c,y,e1,e2,q⟩:=bR.get b j l h;exact⟨c,y,by simpa using e1,by simpa using e2,q⟩
theorem bG.length:∀{ls:List Lf}{rs cC:List (List AV)},bG P w ls rs cC->rs.length=cC.length|_,_,_,.nil _=>rfl|_,_,_,.cons _ b=>by simp[bG.length b]
theorem bG.get:∀{ls:List Lf}{rs cC:List (List AV)},bG P w ls rs cC->∀(i:Nat)(r:List AV),rs[i]?=some r->∃r',cC[i]?=some r'/\bR P w ls r r'|_,_,_,.nil _,i,r,h=>by simp at h|_,_,_,.cons a b,0,r,h=>by grind|_,_,_,.cons a b,i+1,r,h=>by simp at h;obtain⟨r',e,q⟩:=bG.get b i r h;exact⟨r',by simpa using e,q⟩
theorem bG.sub{ls:List Lf}{rs cC:List (List AV)}(h:bG P w ls rs cC)(a b:Nat):bG P w ls ((rs.drop a).take b) ((cC.drop a).take b):=by
 have hd:∀{rs cC:List (List AV)}(a:Nat),bG P w ls rs cC->bG P w ls (rs.drop a) (cC.drop a):=by intro rs cC a;induction a generalizing rs cC with|zero=>grind|succ a ih=>intro h;cases h with|nil=>simp;exact .nil _|cons x y=>grind
 have ht:∀{rs cC:List (List AV)}(a:Nat),bG P w ls rs cC->bG P w ls (rs.take a) (cC.take a):=by intro rs cC a;induction a generalizing rs cC with|zero=>intro _;simp;exact .nil _|succ a ih=>intro h;cases h with|nil=>simp;exact .nil _|cons x y=>simpa using .cons x (ih y)
 grind
theorem bG.append{ls:List Lf}:∀{a a' b b':List (List AV)},bG P w ls a a'->bG P w ls b b'->bG P w ls (a++b) (a'++b')|_,_,_,_,.nil _,h=>h|_,_,_,_,.cons x y,h=>.cons x (bG.append y h)
theorem u0{l:Lf}{c y:AV}{r:List AV}{j:Nat}(hc:r[j]?=some c)(h:jw P w l c y):RV P w (gU l r j) y:=by cases h with|int k n=>simp only[gU,gI,hc];exact .sc rfl|bool b=>simp only[gU,gB,hc];exact .sc rfl|str s=>simp only[gU,gS,hc];exact .sc rfl|sl h=>simp only[gU,gD,hc];exact .dl h
theorem I1(r:List AV):∀(ls:List Lf)(j:Nat),(fB r ls j).length=ls.length|[],_=>rfl|l::ls,j=>by simp[fB,I1 r ls (j+1)]
theorem I2{i:List AV}:∀{ls:List Lf}{r r':List AV},bR P w ls r r'->∀(j:Nat),(∀k,i[j+k]?=r[k]?)->ak P w (fB i ls j) r'|_,_,_,.nil,j,_=>.nil|_,_,_,.cons (c:=c) a b,j,h=>by refine .cons (u0 (c:=c) (by simpa using h 0) a) (I2 b (j+1) λk=>?_);have:=h (k+1);grind
theorem xZ{ls:List Lf}{r r':List AV}(h:bR P w ls r r'):ak P w (fB r ls 0) r':=I2 h 0 λk=>by simp
end
end Go.AI
end

section
namespace Go.AI
def live(ob:Tr ai)(i:Nat):Prop:=∃x,ob.get i=some x/\x≠.gone
def cw(s:ByteArray):List AV:=s.data.toList.map λb=>.sc (.int .u8 b.toNat)
structure af(P:Program)(w:Wd)(ob:Tr ai)(nx:Nat)(h:AHeap):Prop where
 g:∀o,w.g o=h.get o
 box:∀i t cs,ob.get i=some (.box t cs)->∃o c sh,w.s i=some (.box o c.length)/\h.get o=some (.cells 0 0 c 0 t true sh)/\ak P w cs c/\cn cs=true/\¬w.F o
 arr:∀i t rows aM,ob.get i=some (.arr t rows aM)->bj P t=some (lay P t).length/\0<(lay P t).length/\isByte P t=false/\((w.s i=some .nil/\rows=[])\/∃o ver mv c ex sh cap,w.s i=some (.sl o ver (rows.length*(lay P t).length) (lay P t).length rows.length cap)/\(∀k,cap=some k->k=rows.length)/\h.get o=some (.cells ver mv c 0 t ex sh)/\mv<=ver/\c.length=rows.length*(lay P t).length/\bG P w (lay P t) rows (chunks (lay P t).length rows.length c)/\(aM=true->True)/\(aM=false->¬w.F o))
 ba:∀i s el,ob.get i=some (.ba s el)->isByte P el=true/\((w.s i=some .nil/\s.size=0)\/∃o ver mv ex fz cap,0<s.size/\w.s i=some (.sl o ver s.size 1 s.size cap)/\(∀k,cap=some k->k=s.size)/\h.get o=some (.cells ver mv (cw s) fz el ex false)/\mv<=ver/\fz<=s.size/\¬w.F o)
 inj:∀i j k l o,live ob i->live ob j->w.s i=some k->w.s j=some l->k.obj=some o->l.obj=some o->i=j
 lt:∀i k o,w.s i=some k->k.obj=some o->o<h.next
 nx:∀i,nx<=i->w.s i=none/\ob.get i=none
 bJ:∀o,w.F o->o<h.next/\h.get o≠none
 new:∀o,h.next<=o->h.get o=none
 mp:∀i t rows aM,ob.get i=some (.mp t rows aM)->∃e o es cl,lj P t=some e/\w.s i=some (.mp o)/\h.get o=some (.map es cl)/\sd P w e rows es cl/\(aM=false->¬w.F o)tr:∀i t rows aM,ob.get i=some (.tr t rows aM)->bj P t=some (lay P t).length/\0<(lay P t).length/\isByte P t=false/\((w.s i=some .nil/\rows=[])\/∃o ver mv c ex sh n,w.s i=some (.sl o ver n (lay P t).length rows.length none)/\h.get o=some (.cells ver mv c 0 t ex sh)/\mv<=ver/\rows.length*(lay P t).length<=n/\rows.length*(lay P t).length<=c.length/\bG P w (lay P t) rows (chunks (lay P t).length rows.length c)/\(aM=false->¬w.F o))
structure dZ(P:Program)(w:Wd)(tm:Tr SV)(bO:Tr AV):Prop where tm:∀t v,tm.get t=some v->∃x,bO.get t=some x/\RV P w v x
theorem dZ.mono{P:Program}{w w':Wd}{tm:Tr SV}{bO:Tr AV}(h:dZ P w tm bO)(hl:aK w w')(hs:∀i k,w.s i=some k->w'.s i=some k):dZ P w' tm bO:=⟨λt v e=>let⟨x,a,b⟩:=h.tm t v e;⟨x,a,b.mono hl hs⟩⟩
section
variable {P:Program}{w w':Wd}
theorem LY(v:Value):RV P w (Bz v) (.sc v):=by
 unfold Bz
 split
 .rename_i h;exact .sc h
 .exact .aA _
theorem vi(v:Value):RV P w (fL v) (bh v):=by
 cases v with
 |agg cs=>exact .agg (ak.map _ λa _=>LY a)
 |tuple cs=>exact .bl (ak.map _ λa _=>LY a)
 |func fn a c=>
  cases fn with
  |func f=>
   simp only[fL,bh]
   split
   .rename_i h1 h2
    have e1:a=#[]:=by cases a;simpa using h1
    have e2:c=#[]:=by cases c;simpa using h2
    subst e1;subst e2;exact .fp
   .exact .sc rfl|_=>exact .sc rfl
 |_=>exact .sc rfl
theorem er{tm:Tr SV}{bO:Tr AV}(h:dZ P w tm bO)(o:Operand):RV P w (bw tm o) (ev bO o):=by
 cases o with
 |tmp t=>simp only[bw,ev];cases e:tm.get t with|none=>exact .aA _|some v=>obtain⟨x,a,b⟩:=h.tm t v e;grind
 |const v=>exact vi v|global g=>exact .aA _|func f=>exact .fp
theorem I3{x:AV}(h:w7 x=true):aO x=[x]:=by cases x<;>first|rfl|cases h
theorem Rd.na{t:TypeId}{rows:List (List AV)}{x:AV}(h:Rd P w t rows x):w7 x=true:=by cases h<;>rfl
theorem Rp.na{t:TypeId}{row:List AV}{off:Nat}{x:AV}(h:Rp P w t row off x):w7 x=true:=by cases h<;>rfl
theorem RV.na{v:SV}{x:AV}(h:RV P w v x)(hv:v≠.aA)(ha:∀cs,v≠.agg cs):w7 x=true:=by
 cases h with
 |aA x=>grind
 |agg h=>grind
 |dl h=>exact h.na
 |cI h=>exact h.na
 |md h=>cases h;rfl
 |ls h=>cases h<;>rfl
 |fJ h a=>exact a
 |ea a=>cases x<;>first|rfl|cases a
 |_=>rfl
theorem oc{v:SV}{x:AV}(h:RV P w v x)(hv:v≠.aA):ak P w (bc v) (aO x):=by
 by_cases ha:∃cs,v=.agg cs
 .obtain⟨cs,rfl⟩:=ha;cases h with|agg h=>exact h
 .have ha:∀cs,v≠.agg cs:=λcs e=>ha ⟨cs,e⟩
  rw[I3 (h.na hv ha)]
  have:bc v=[v]:=by cases v<;>first|rfl|exact absurd rfl (ha _)
  rw[this];exact .cons h .nil
theorem Rd.cell{t:TypeId}{rows:List (List AV)}{x:AV}(h:Rd P w t rows x):dt x=true:=by cases h<;>rfl
theorem RV.cell:∀{v:SV}{x:AV},RV P w v x->mo v=true->dt x=true
 |.aA,_,_,h=>by cases h
 |.agg _,_,_,h=>by cases h
 |.bl _,_,_,h=>by cases h
 |.sc v,_,.sc hp,h=>by cases v<;>first|rfl|cases hp
 |.dl _ _,_,.dl hr,_=>hr.cell|.own _,_,.ck _,_=>rfl|.own _,_,.bX _,_=>rfl|.ref _ _,_,.ref _,_=>rfl|.cV _ _ _,_,.cV _ _,_=>rfl|.cI _ _ _,_,.cI hp,_=>by cases hp<;>rfl|.fG _,_,.fG _,_=>rfl|.opt _ v,_,.fJ hr _,h=>RV.cell (v:=v) hr (by simpa[mo]using h)|.opt _ _,_,.il,_=>rfl|.fn _ _,_,.fn _,_=>rfl|.fn _ _,_,.fp,_=>rfl|.dB _ _,_,.dB _,_=>rfl|.tZ _,_,.lr,_=>rfl|.tZ _,_,.lu,_=>rfl|.ea,_,.ea h,_=>h|.cl _ _,_,.cl _ _,_=>rfl|.cl _ _,_,.jx _,_=>rfl|.om _,_,.om _,_=>rfl|.md _ _,_,.md h,_=>by cases h;rfl|.ls _ _,_,.ls h,_=>by cases h<;>rfl|.pb _ _ _,_,.pb _ _ _ _ _ _ _ _,_=>rfl|.nR _ _,_,_,h=>by cases h|.yl _ _ _,_,_,h=>by cases h
theorem ak.cells:∀{vs:List SV}{xs:List AV},ak P w vs xs->cn vs=true->xs.all dt=true|_,_,.nil,_=>rfl|_,_,.cons a b,h=>by simp only[cn,aZ]at h;simp only[List.all_cons,aZ];exact⟨a.cell h.1,b.cells h.2⟩
theorem qq{sz:Nat}:∀(n:Nat)(l:List AV)(i:Nat),i<n->(chunks sz n l)[i]?=some ((l.drop (i*sz)).take sz)|0,_,_,h=>by omega|n+1,l,0,_=>by simp[chunks]|n+1,l,i+1,h=>by simp only[chunks,List.getElem?_cons_succ];rw[qq n (l.drop sz) i (by omega),List.drop_drop];rw[show sz+i*sz=(i+1)*sz by rw[Nat.add_mul];omega]
def kY(h h1:AHeap)(x:AV):Prop:=∀o,o∈gd x->h1.get o=h.get o
theorem HV{row dz:List AV}{ls:List Lf}(hr:bR P w ls row dz)(off s:Nat):ak P w (((fB row ls 0).drop off).take s) ((dz.drop off).take s):=(xZ hr).drop off|>.take s
variable {ob:Tr ai}{nx:Nat}{h h1:AHeap}
theorem Rp.read(hs:af P w ob nx h){t:TypeId}{row:List AV}{off s:Nat}{x:AV}(hp:Rp P w t row off x)(ha:kY h h1 x)(hl:off+s<=(lay P t).length):
 ∃dz,bR P w (lay P t) row dz/\gK h1 s x=some ((dz.drop off).take s):=by
 cases hp with
 |cr hr=>rename_i dz;refine⟨dz,hr,?_⟩;have:=hr.length;simp only[gK];grind
 |ref hF hg h2 h3 h4 h5 hr=>
  rename_i o ver n p v mv fz c el ex sh
  refine⟨_,hr,?_⟩
  have i:h1.get o=some (.cells v mv c fz el ex sh):=by rw[ha o (by simp[gd]),<-hs.g];exact hg
  simp only[gK,cz,i];rw[if_pos ⟨h2,h3,by omega⟩];rw[List.drop_take,List.take_take,List.drop_drop,Nat.min_eq_left (by omega)]
theorem JP(hs:af P w ob nx h){i off s:Nat}{t:TypeId}{cs:List SV}{x:AV}(hb:ob.get i=some (.box t cs))(hx:RV P w (.ref i off) x)(ha:kY h h1 x)(hl:off+s<=cs.length):
 ∃xs,gK h1 s x=some ((xs.drop off).take s)/\ak P w cs xs:=by
 obtain⟨o,c,sh,e1,e2,e3,_,_⟩:=hs.box i t cs hb
 cases hx with
 |ref e=>
  rw[e1]at e
  simp only[an,Lk.box.injEq]at e
  obtain⟨rfl,rfl⟩:=e
  have j:h1.get o=some (.cells 0 0 c 0 t true sh):=by rw[ha o (by simp[gd])];exact e2
  refine⟨c,?_,e3⟩;simp only[gK,cz,j];rw[if_pos ⟨ao _,ao _,by rw[<-e3.length];exact hl⟩]
theorem JQ(hs:af P w ob nx h){i k off s:Nat}{t:TypeId}{rows:List (List AV)}{aM:Bool}{row:List AV}{x:AV}(hb:ob.get i=some (.arr t rows aM))(hr:rows[k]?=some row)(hx:RV P w (.cV i k off) x)(ha:kY h h1 x)(hl:off+s<=(lay P t).length):
 ∃dz,bR P w (lay P t) row dz/\gK h1 s x=some ((dz.drop off).take s):=by
 obtain⟨_,_,_,hd⟩:=hs.arr i t rows aM hb
 have hk:k<rows.length:=by
  rcases Nat.lt_or_ge k rows.length with a|a
  .exact a
  .grind
 rcases hd with⟨_,rfl⟩|⟨o,ver,mv,c,ex,sh,cap,e1,_,e2,e3,e4,e5,_⟩
 .simp at hk
 .cases hx with
  |cV e _=>
   rw[e1]at e
   simp only[an,Lk.sl.injEq]at e
   obtain⟨rfl,rfl,rfl,rfl,rfl,rfl⟩:=e
   have m:h1.get o=some (.cells ver mv c 0 t ex sh):=by rw[ha o (by simp[gd])];exact e2
   obtain⟨dz,q1,q2⟩:=e5.get k row hr;rw[qq _ _ _ hk]at q1;simp only[an]at q1;subst q1;refine⟨_,q2,?_⟩;have j:(k+1)*(lay P t).length<=rows.length*(lay P t).length:=Nat.mul_le_mul_right _ hk;rw[Nat.add_mul]at j;simp only[gK,cz,m];rw[if_pos ⟨e3,ao _,by omega⟩];rw[List.drop_take,List.take_take,List.drop_drop,Nat.min_eq_left (by omega)]
theorem yY{xs:List AV}{off:Nat}{x:AV}(h:xs[off]?=some x):(xs.drop off).take 1=[x]:=by grind[Nat.lt_or_ge,List.getElem?_eq_none,List.getElem?_eq_getElem,an,List.drop_eq_getElem_cons]
variable {ρ:Type}
theorem KR{S:ad}(hs:af P w S.ob S.nx h){t:TypeId}{a:SV}{x:AV}(hx:RV P w a x)(ha:kY h h1 x){k:SV->Option ρ}{r:ρ}(hr:vN P S t a k=some r):
 ∃v y,k v=some r/\h8 P h1 t x=some y/\RV P w v y:=by
 unfold vN at hr
 split at hr
 .rename_i g s i off hg m
  split at hr
  .rename_i t' cs hb
   split at hr
   .rename_i hl
    cases g with
    |true=>obtain⟨xs,e1,e2⟩:=JP hs hb hx ha hl;refine⟨_,.agg ((xs.drop off).take s),hr,?_,.agg ((e2.drop off).take s)⟩;simp only[h8,hg,m,e1];rfl
    |false=>
     simp only at hr
     split at hr
     .rename_i v hv
      have p:off+1<=cs.length:=by
       rcases Nat.lt_or_ge off cs.length with a|a
       .exact a
       .grind
      obtain⟨xs,e1,e2⟩:=JP hs hb hx ha p;obtain⟨y,e3,e4⟩:=e2.get off v hv;refine⟨v,y,hr,?_,e4⟩;simp_all[yY,h8]
     .cases hr
   .cases hr
  .cases hr
 .rename_i g s t' row off hg m
  split at hr
  .rename_i hl
   cases hx with
   |cI hp=>
    cases g with
    |true=>obtain⟨dz,q1,q2⟩:=hp.read hs ha hl;refine⟨_,.agg ((dz.drop off).take s),hr,?_,.agg (HV q1 off s)⟩;simp only[h8,hg,m,q2];rfl
    |false=>
     simp only at hr
     split at hr
     .rename_i l hv
      have p:off+1<=(lay P t').length:=by
       rcases Nat.lt_or_ge off (lay P t').length with a|a
       .exact a
       .grind
      obtain⟨dz,q1,q2⟩:=hp.read hs ha p;obtain⟨c,y,q3,F,u⟩:=q1.get off l hv;refine⟨_,y,hr,?_,u0 q3 u⟩;simp_all[yY,h8]
     .cases hr
  .cases hr
 .rename_i g s i j off hg m
  split at hr
  .rename_i t' rows aM hb
   unfold jU at hr
   split at hr
   .rename_i row q
    split at hr
    .rename_i hl
     cases g with
     |true=>obtain⟨dz,q1,q2⟩:=JQ hs hb q hx ha hl;refine⟨_,.agg ((dz.drop off).take s),hr,?_,.agg (HV q1 off s)⟩;simp only[h8,hg,m,q2];rfl
     |false=>
      simp only at hr
      split at hr
      .rename_i l hv
       have p:off+1<=(lay P t').length:=by
        rcases Nat.lt_or_ge off (lay P t').length with a|a
        .exact a
        .grind
       obtain⟨dz,q1,q2⟩:=JQ hs hb q hx ha p;obtain⟨c,y,q3,F,u⟩:=q1.get off l hv;refine⟨_,y,hr,?_,u0 q3 u⟩;simp_all[yY,h8]
      .cases hr
    .cases hr
   .cases hr
  .cases hr
 .rename_i g s t' cs off hg m
  split at hr
  .rename_i hl
   cases hx with
   |pb hF C E h3 h4 h5 h6 hq=>
    rename_i o n v mv fz c el ex sh
    subst E
    have D:h1.get o=some (.cells v 0 c fz el ex sh):=by rw[ha o (by simp[gd]),<-hs.g];exact C
    have hlen:(c.take cs.length).length=cs.length:=by rw[List.length_take];omega
    have z:∀s',off+s'<=cs.length->gK h1 s' (.ref o 0 n off)=some (((c.take cs.length).drop off).take s'):=by intro s' G;simp only[gK,cz,D];rw[if_pos ⟨Nat.zero_le _,Nat.zero_le _,by omega⟩];rw[List.drop_take,List.take_take,Nat.min_eq_left (by omega)]
    cases g with
    |true=>refine⟨_,.agg (((c.take cs.length).drop off).take s),hr,?_,.agg ((hq.drop off).take s)⟩;simp only[h8,hg,m,z s hl];rfl
    |false=>
     simp only at hr
     split at hr
     .rename_i v' hv
      obtain⟨y,e3,e4⟩:=hq.get off v' hv
      refine⟨v',y,hr,?_,e4⟩
      have p:off+1<=cs.length:=by
       rcases Nat.lt_or_ge off cs.length with a|a
       .exact a
       .grind
      simp_all[yY,h8]
     .cases hr
  .cases hr
 .cases hr
end
end Go.AI
end

section
namespace Go.AI
def Wd.more(w:Wd)(F:Nat->Prop):Wd:={w with F:=λo=>w.F o\/F o}
theorem aK.more(w:Wd)(F:Nat->Prop):aK w (w.more F):=⟨λ_ h=>.inl h,λ_ _ h _=>h,λ_ h=>⟨h,id⟩,λ_ _ v mv c fz el ex sh h=>⟨v,[],fz,el,ex,sh,by simpa[Wd.more]using h,ao _⟩,λ_ _ _ _ h=>h⟩
def Ow(w:Wd)(ob:Tr ai)(o:Nat):Prop:=∃i k,live ob i/\w.s i=some k/\k.obj=some o
theorem aK.imp{w w':Wd}(hg:w'.g=w.g)(hF:∀o,w.F o->w'.F o):aK w w':=⟨hF,λ_ _ h _=>by grind,λ_ h=>by grind,λ_ _ v mv c fz el ex sh h=>⟨v,[],fz,el,ex,sh,by grind,ao _⟩,λ_ _ _ _ h=>by grind⟩
def iR(ob:Tr ai)(i:Nat)(t:TypeId)(rows:List (List AV))(l:Bool):Prop:=ob.get i=some (.arr t rows l)\/ob.get i=some (.tr t rows l)
section
variable {P:Program}{w:Wd}{ob:Tr ai}{nx:Nat}{h:AHeap}
theorem oj{i j:Nat}{x y:ai}(hx:ob.get i=some x)(hg:x≠.gone)(hy:y≠.gone):live (ob.put i y) j↔live ob j:=by grind[Tr.aQ,Tr.aB,live]
theorem ak.EU{cs:List SV}{c:List AV}(F:Nat->Prop)(hr:ak P w cs c):ak P (w.more F) cs c:=hr.mono (aK.more w F) λ_ _ e=>e
theorem Tk(hs:af P w ob nx h){i:Nat}{t:TypeId}{rows:List (List AV)}{aM:Bool}(hi:ob.get i=some (.arr t rows aM)):
 ∃F,af P (w.more F) (ob.put i (.arr t rows true)) nx h/\(∀o,F o->Ow w ob o)/\∀x,RV P w (.own i) x->Rd P (w.more F) t rows x:=by
 have G:live ob i:=⟨_,hi,by simp⟩
 have E:∀j,live (ob.put i (.arr t rows true)) j↔live ob j:=λj=>oj hi (by simp) (by simp)
 obtain⟨O,N,T,L⟩:=hs.arr i t rows aM hi
 have p:∀j,j≠i->∀k o,live ob j->w.s j=some k->k.obj=some o->∀k',w.s i=some k'->k'.obj≠some o:=λj hj k o hl h1 h2 k' h3 h4=>hj (hs.inj j i k k' o hl G h1 h3 h2 h4)
 refine⟨λo=>∃k,w.s i=some k/\k.obj=some o,⟨hs.g,?_,?_,?_,?_,hs.lt,?_,?_,hs.new,?_,?_⟩,λo⟨k,h1,h2⟩=>⟨i,k,G,h1,h2⟩,?_⟩
 .intro j t' cs hj
  by_cases e:j=i
  .subst e;rw[Tr.aQ]at hj;cases hj
  .rw[Tr.aB _ _ e]at hj
   obtain⟨o,c,sh,b1,b2,b3,I,S⟩:=hs.box j t' cs hj
   refine⟨o,c,sh,b1,b2,b3.EU _,I,?_⟩
   rintro(h1|⟨k,h1,h2⟩)
   .exact S h1
   .exact p j e _ o ⟨_,hj,by simp⟩ b1 rfl k h1 h2
 .intro j t' rows' m hj
  by_cases e:j=i
  .subst e
   rw[Tr.aQ]at hj
   simp only[an,ai.arr.injEq]at hj
   obtain⟨rfl,rfl,rfl⟩:=hj
   refine⟨O,N,T,?_⟩
   rcases L with⟨q1,q2⟩|⟨o,ver,mv,c,ex,sh,cap,q1,q2,q3,u,z,C,D,J⟩
   .exact .inl ⟨q1,q2⟩
   .exact .inr ⟨o,ver,mv,c,ex,sh,cap,q1,q2,q3,u,z,C.mono (aK.more w _),λ_=>trivial,λe=>by cases e⟩
  .rw[Tr.aB _ _ e]at hj
   obtain⟨b1,b2,b3,I⟩:=hs.arr j t' rows' m hj
   refine⟨b1,b2,b3,?_⟩
   rcases I with⟨q1,q2⟩|⟨o,ver,mv,c,ex,sh,cap,q1,q2,q3,u,z,C,D,J⟩
   .exact .inl ⟨q1,q2⟩
   .refine .inr ⟨o,ver,mv,c,ex,sh,cap,q1,q2,q3,u,z,C.mono (aK.more w _),D,λe2=>?_⟩
    rintro(h1|⟨k,h1,h2⟩)
    .grind
    .exact p j e _ o ⟨_,hj,by simp⟩ q1 rfl k h1 h2
 .intro j s m hj
  by_cases e:j=i
  .subst e;rw[Tr.aQ]at hj;cases hj
  .rw[Tr.aB _ _ e]at hj
   obtain⟨Q,q⟩:=hs.ba j s m hj
   refine⟨Q,?_⟩
   rcases q with q|⟨o,ver,mv,ex,fz,cap,R,q1,q2,q3,u,z,D⟩
   .exact .inl q
   .refine .inr ⟨o,ver,mv,ex,fz,cap,R,q1,q2,q3,u,z,?_⟩
    rintro(h1|⟨k,h1,h2⟩)
    .exact D h1
    .exact p j e _ o ⟨_,hj,by simp⟩ q1 rfl k h1 h2
 .intro j M k l o h1 h2 h3 h4 h5 h6;exact hs.inj j M k l o ((E j).1 h1) ((E M).1 h2) h3 h4 h5 h6
 .intro j hj;obtain⟨b1,b2⟩:=hs.nx j hj;refine⟨b1,?_⟩;grind[Tr.aB]
 .rintro o(h1|⟨k,h1,h2⟩)
  .exact hs.bJ o h1
  .refine⟨hs.lt i k o h1 h2,?_⟩
   rcases L with⟨q1,q2⟩|⟨o',ver,mv,c,ex,sh,cap,q1,q2,q3,u,z,C,D,J⟩
   .rw[q1]at h1;cases h1;cases h2
   .rw[q1]at h1;cases h1;cases h2;grind
 .intro j t' rows' m hj
  by_cases e:j=i
  .subst e;rw[Tr.aQ]at hj;cases hj
  .rw[Tr.aB _ _ e]at hj
   obtain⟨e1,o,es,cl,q1,q2,q3,u,z⟩:=hs.mp j t' rows' m hj
   refine⟨e1,o,es,cl,q1,q2,q3,u.bI (aK.more w _).c,λe2=>?_⟩
   rintro(h1|⟨k,h1,h2⟩)
   .grind
   .exact p j e _ o ⟨_,hj,by simp⟩ q2 rfl k h1 h2
 .intro j t' rows' m hj
  by_cases e:j=i
  .subst e;rw[Tr.aQ]at hj;cases hj
  .rw[Tr.aB _ _ e]at hj
   obtain⟨b1,b2,b3,I⟩:=hs.tr j t' rows' m hj
   refine⟨b1,b2,b3,?_⟩
   rcases I with⟨q1,q2⟩|⟨o,ver,mv,c,ex,sh,n,q1,q3,u,z,K,C,J⟩
   .exact .inl ⟨q1,q2⟩
   .refine .inr ⟨o,ver,mv,c,ex,sh,n,q1,q3,u,z,K,C.mono (aK.more w _),λe2=>?_⟩
    rintro(h1|⟨k,h1,h2⟩)
    .grind
    .exact p j e _ o ⟨_,hj,by simp⟩ q1 rfl k h1 h2
 .intro x hx
  rcases L with⟨q1,rfl⟩|⟨o,ver,mv,c,ex,sh,cap,q1,q2,q3,u,z,C,D,J⟩
  .cases hx with|ck _=>exact .nil t|bX e=>grind
  .cases hx with|ck e=>grind|bX e=>rw[q1]at e;simp only[an,Lk.sl.injEq]at e;obtain⟨rfl,rfl,rfl,rfl,rfl,rfl⟩:=e;refine .sl O N (.inr ⟨_,q1,rfl⟩) (by show w.g o=_;rw[hs.g];exact q3) u (ao _) (by omega) (by omega) (λk e=>by grind) ?_;rw[List.drop_zero];exact C.mono (aK.more w _)
theorem U2(hs:af P w ob nx h){i:Nat}{t:TypeId}{rows:List (List AV)}{aM:Bool}(hi:ob.get i=some (.mp t rows aM)):
 ∃F,af P (w.more F) (ob.put i (.mp t rows true)) nx h/\(∀o,F o->Ow w ob o)/\∀x,RV P w (.om i) x->Rm P (w.more F) t rows x:=by
 have D:live ob i:=⟨_,hi,by simp⟩
 have C:∀j,live (ob.put i (.mp t rows true)) j↔live ob j:=λj=>oj hi (by simp) (by simp)
 obtain⟨U,T,K,L,m1,m2,N,M,X⟩:=hs.mp i t rows aM hi
 have p:∀j,j≠i->∀k o,live ob j->w.s j=some k->k.obj=some o->∀k',w.s i=some k'->k'.obj≠some o:=λj hj k o hl h1 h2 k' h3 h4=>hj (hs.inj j i k k' o hl D h1 h3 h2 h4)
 refine⟨λo=>∃k,w.s i=some k/\k.obj=some o,⟨hs.g,?_,?_,?_,?_,hs.lt,?_,?_,hs.new,?_,?_⟩,λo⟨k,h1,h2⟩=>⟨i,k,D,h1,h2⟩,?_⟩
 .intro j t' cs hj
  by_cases e:j=i
  .subst e;rw[Tr.aQ]at hj;cases hj
  .rw[Tr.aB _ _ e]at hj
   obtain⟨o,c,sh,b1,b2,b3,E,V⟩:=hs.box j t' cs hj
   refine⟨o,c,sh,b1,b2,b3.EU _,E,?_⟩
   rintro(h1|⟨k,h1,h2⟩)
   .exact V h1
   .exact p j e _ o ⟨_,hj,by simp⟩ b1 rfl k h1 h2
 .intro j t' rows' m hj
  by_cases e:j=i
  .subst e;rw[Tr.aQ]at hj;cases hj
  .rw[Tr.aB _ _ e]at hj
   obtain⟨b1,b2,b3,E⟩:=hs.arr j t' rows' m hj
   refine⟨b1,b2,b3,?_⟩
   rcases E with⟨q1,q2⟩|⟨o,ver,mv,c,ex,sh,cap,q1,q2,q3,u,z,I,G,R⟩
   .exact .inl ⟨q1,q2⟩
   .refine .inr ⟨o,ver,mv,c,ex,sh,cap,q1,q2,q3,u,z,I.mono (aK.more w _),G,λe2=>?_⟩
    rintro(h1|⟨k,h1,h2⟩)
    .grind
    .exact p j e _ o ⟨_,hj,by simp⟩ q1 rfl k h1 h2
 .intro j s m hj
  by_cases e:j=i
  .subst e;rw[Tr.aQ]at hj;cases hj
  .rw[Tr.aB _ _ e]at hj
   obtain⟨Q,q⟩:=hs.ba j s m hj
   refine⟨Q,?_⟩
   rcases q with q|⟨o,ver,mv,ex,fz,cap,S,q1,q2,q3,u,z,G⟩
   .exact .inl q
   .refine .inr ⟨o,ver,mv,ex,fz,cap,S,q1,q2,q3,u,z,?_⟩
    rintro(h1|⟨k,h1,h2⟩)
    .exact G h1
    .exact p j e _ o ⟨_,hj,by simp⟩ q1 rfl k h1 h2
 .intro j O k l o h1 h2 h3 h4 h5 h6;exact hs.inj j O k l o ((C j).1 h1) ((C O).1 h2) h3 h4 h5 h6
 .intro j hj;obtain⟨b1,b2⟩:=hs.nx j hj;refine⟨b1,?_⟩;grind[Tr.aB]
 .rintro o(h1|⟨k,h1,h2⟩)
  .exact hs.bJ o h1
  .refine⟨hs.lt i k o h1 h2,?_⟩;rw[m2]at h1;cases h1;cases h2;grind
 .intro j t' rows' m hj
  by_cases e:j=i
  .subst e;rw[Tr.aQ]at hj;simp only[an,ai.mp.injEq]at hj;obtain⟨rfl,rfl,rfl⟩:=hj;exact⟨U,T,K,L,m1,m2,N,M.bI (aK.more w _).c,λe=>by cases e⟩
  .rw[Tr.aB _ _ e]at hj
   obtain⟨e1,o,es,cl,q1,q2,q3,u,z⟩:=hs.mp j t' rows' m hj
   refine⟨e1,o,es,cl,q1,q2,q3,u.bI (aK.more w _).c,λe2=>?_⟩
   rintro(h1|⟨k,h1,h2⟩)
   .grind
   .exact p j e _ o ⟨_,hj,by simp⟩ q2 rfl k h1 h2
 .intro j t' rows' m hj
  by_cases e:j=i
  .subst e;rw[Tr.aQ]at hj;cases hj
  .rw[Tr.aB _ _ e]at hj
   obtain⟨b1,b2,b3,E⟩:=hs.tr j t' rows' m hj
   refine⟨b1,b2,b3,?_⟩
   rcases E with⟨q1,q2⟩|⟨o,ver,mv,c,ex,sh,n,q1,q3,u,z,J,I,R⟩
   .exact .inl ⟨q1,q2⟩
   .refine .inr ⟨o,ver,mv,c,ex,sh,n,q1,q3,u,z,J,I.mono (aK.more w _),λe2=>?_⟩
    rintro(h1|⟨k,h1,h2⟩)
    .grind
    .exact p j e _ o ⟨_,hj,by simp⟩ q1 rfl k h1 h2
 .intro x hx;cases hx with|om e=>rw[m2]at e;cases e;exact .mk m1 (.inr ⟨_,m2,rfl⟩) (by show w.g _=_;rw[hs.g];exact N) (M.bI (aK.more w _).c)
theorem U3(hs:af P w ob nx h){i:Nat}{t:TypeId}{rows:List (List AV)}{aM:Bool}(hi:ob.get i=some (.tr t rows aM)):
 ∃F,af P (w.more F) (ob.put i (.tr t rows true)) nx h/\(∀o,F o->Ow w ob o)/\∀x,RV P w (.own i) x->Rd P (w.more F) t rows x:=by
 have G:live ob i:=⟨_,hi,by simp⟩
 have E:∀j,live (ob.put i (.tr t rows true)) j↔live ob j:=λj=>oj hi (by simp) (by simp)
 obtain⟨O,N,T,L⟩:=hs.tr i t rows aM hi
 have p:∀j,j≠i->∀k o,live ob j->w.s j=some k->k.obj=some o->∀k',w.s i=some k'->k'.obj≠some o:=λj hj k o hl h1 h2 k' h3 h4=>hj (hs.inj j i k k' o hl G h1 h3 h2 h4)
 refine⟨λo=>∃k,w.s i=some k/\k.obj=some o,⟨hs.g,?_,?_,?_,?_,hs.lt,?_,?_,hs.new,?_,?_⟩,λo⟨k,h1,h2⟩=>⟨i,k,G,h1,h2⟩,?_⟩
 .intro j t' cs hj
  by_cases e:j=i
  .subst e;rw[Tr.aQ]at hj;cases hj
  .rw[Tr.aB _ _ e]at hj
   obtain⟨o,c,sh,b1,b2,b3,I,S⟩:=hs.box j t' cs hj
   refine⟨o,c,sh,b1,b2,b3.EU _,I,?_⟩
   rintro(h1|⟨k,h1,h2⟩)
   .exact S h1
   .exact p j e _ o ⟨_,hj,by simp⟩ b1 rfl k h1 h2
 .intro j t' rows' m hj
  by_cases e:j=i
  .subst e;rw[Tr.aQ]at hj;cases hj
  .rw[Tr.aB _ _ e]at hj
   obtain⟨b1,b2,b3,I⟩:=hs.arr j t' rows' m hj
   refine⟨b1,b2,b3,?_⟩
   rcases I with⟨q1,q2⟩|⟨o,ver,mv,c,ex,sh,cap,q1,q2,q3,u,C,D,K,J⟩
   .exact .inl ⟨q1,q2⟩
   .refine .inr ⟨o,ver,mv,c,ex,sh,cap,q1,q2,q3,u,C,D.mono (aK.more w _),K,λe2=>?_⟩
    rintro(h1|⟨k,h1,h2⟩)
    .grind
    .exact p j e _ o ⟨_,hj,by simp⟩ q1 rfl k h1 h2
 .intro j s m hj
  by_cases e:j=i
  .subst e;rw[Tr.aQ]at hj;cases hj
  .rw[Tr.aB _ _ e]at hj
   obtain⟨Q,q⟩:=hs.ba j s m hj
   refine⟨Q,?_⟩
   rcases q with q|⟨o,ver,mv,ex,fz,cap,R,q1,q2,q3,u,C,K⟩
   .exact .inl q
   .refine .inr ⟨o,ver,mv,ex,fz,cap,R,q1,q2,q3,u,C,?_⟩
    rintro(h1|⟨k,h1,h2⟩)
    .exact K h1
    .exact p j e _ o ⟨_,hj,by simp⟩ q1 rfl k h1 h2
 .intro j M k l o h1 h2 h3 h4 h5 h6;exact hs.inj j M k l o ((E j).1 h1) ((E M).1 h2) h3 h4 h5 h6
 .intro j hj;obtain⟨b1,b2⟩:=hs.nx j hj;refine⟨b1,?_⟩;grind[Tr.aB]
 .rintro o(h1|⟨k,h1,h2⟩)
  .exact hs.bJ o h1
  .refine⟨hs.lt i k o h1 h2,?_⟩
   rcases L with⟨q1,q2⟩|⟨o',ver,mv,c,ex,sh,n,q1,q3,u,C,z,D,J⟩
   .rw[q1]at h1;cases h1;cases h2
   .rw[q1]at h1;cases h1;cases h2;grind
 .intro j t' rows' m hj
  by_cases e:j=i
  .subst e;rw[Tr.aQ]at hj;cases hj
  .rw[Tr.aB _ _ e]at hj
   obtain⟨e1,o,es,cl,q1,q2,q3,u,C⟩:=hs.mp j t' rows' m hj
   refine⟨e1,o,es,cl,q1,q2,q3,u.bI (aK.more w _).c,λe2=>?_⟩
   rintro(h1|⟨k,h1,h2⟩)
   .grind
   .exact p j e _ o ⟨_,hj,by simp⟩ q2 rfl k h1 h2
 .intro j t' rows' m hj
  by_cases e:j=i
  .subst e
   rw[Tr.aQ]at hj
   simp only[an,ai.tr.injEq]at hj
   obtain⟨rfl,rfl,rfl⟩:=hj
   refine⟨O,N,T,?_⟩
   rcases L with⟨q1,q2⟩|⟨o,ver,mv,c,ex,sh,n,q1,q3,u,C,z,D,J⟩
   .exact .inl ⟨q1,q2⟩
   .exact .inr ⟨o,ver,mv,c,ex,sh,n,q1,q3,u,C,z,D.mono (aK.more w _),λe=>by cases e⟩
  .rw[Tr.aB _ _ e]at hj
   obtain⟨b1,b2,b3,I⟩:=hs.tr j t' rows' m hj
   refine⟨b1,b2,b3,?_⟩
   rcases I with⟨q1,q2⟩|⟨o,ver,mv,c,ex,sh,n,q1,q3,u,C,z,D,J⟩
   .exact .inl ⟨q1,q2⟩
   .refine .inr ⟨o,ver,mv,c,ex,sh,n,q1,q3,u,C,z,D.mono (aK.more w _),λe2=>?_⟩
    rintro(h1|⟨k,h1,h2⟩)
    .grind
    .exact p j e _ o ⟨_,hj,by simp⟩ q1 rfl k h1 h2
 .intro x hx
  rcases L with⟨q1,rfl⟩|⟨o,ver,mv,c,ex,sh,n,q1,q3,u,C,z,D,J⟩
  .cases hx with|ck _=>exact .nil t|bX e=>grind
  .cases hx with|ck e=>grind|bX e=>rw[q1]at e;simp only[an,Lk.sl.injEq]at e;obtain⟨rfl,rfl,rfl,rfl,rfl,rfl⟩:=e;refine .sl O N (.inr ⟨_,q1,rfl⟩) (by show w.g o=_;rw[hs.g];exact q3) u (ao _) (by omega) (by omega) (λk e=>by cases e) ?_;rw[List.drop_zero];exact D.mono (aK.more w _)
structure fF(ob ob':Tr ai):Prop where box:∀i t cs,ob'.get i=some (.box t cs)↔ob.get i=some (.box t cs)arr:∀i t rows l,ob.get i=some (.arr t rows l)->∃l',ob'.get i=some (.arr t rows l')/\(l=true->l'=true)N0:∀i t rows l,ob'.get i=some (.arr t rows l)->∃l',ob.get i=some (.arr t rows l')ba:∀i s l,ob'.get i=some (.ba s l)↔ob.get i=some (.ba s l)mp:∀i t rows l,ob.get i=some (.mp t rows l)->∃l',ob'.get i=some (.mp t rows l')/\(l=true->l'=true)Pp:∀i t rows l,ob'.get i=some (.mp t rows l)->∃l',ob.get i=some (.mp t rows l')tr:∀i t rows l,ob.get i=some (.tr t rows l)->∃l',ob'.get i=some (.tr t rows l')/\(l=true->l'=true)se:∀i t rows l,ob'.get i=some (.tr t rows l)->∃l',ob.get i=some (.tr t rows l')live:∀i,live ob' i↔live ob i
theorem fF.refl(ob:Tr ai):fF ob ob:=⟨λ_ _ _=>Iff.rfl,λ_ _ _ l h=>⟨l,h,id⟩,λ_ _ _ l h=>⟨l,h⟩,λ_ _ _=>Iff.rfl,λ_ _ _ l h=>⟨l,h,id⟩,λ_ _ _ l h=>⟨l,h⟩,λ_ _ _ l h=>⟨l,h,id⟩,λ_ _ _ l h=>⟨l,h⟩,λ_=>Iff.rfl⟩
theorem fF.trans{a b c:Tr ai}(h:fF a b)(h':fF b c):fF a c:=⟨λi t cs=>(h'.box i t cs).trans (h.box i t cs),λi t rows l e=>let⟨j,e1,q1⟩:=h.arr i t rows l e;let⟨m,e2,q2⟩:=h'.arr i t rows j e1;⟨m,e2,λe=>q2 (q1 e)⟩,λi t rows l e=>let⟨j,e1⟩:=h'.N0 i t rows l e;h.N0 i t rows j e1,λi s l=>(h'.ba i s l).trans (h.ba i s l),λi t rows l e=>let⟨j,e1,q1⟩:=h.mp i t rows l e;let⟨m,e2,q2⟩:=h'.mp i t rows j e1;⟨m,e2,λe=>q2 (q1 e)⟩,λi t rows l e=>let⟨j,e1⟩:=h'.Pp i t rows l e;h.Pp i t rows j e1,λi t rows l e=>let⟨j,e1,q1⟩:=h.tr i t rows l e;let⟨m,e2,q2⟩:=h'.tr i t rows j e1;⟨m,e2,λe=>q2 (q1 e)⟩,λi t rows l e=>let⟨j,e1⟩:=h'.se i t rows l e;h.se i t rows j e1,λi=>(h'.live i).trans (h.live i)⟩
theorem Sm{i:Nat}{t:TypeId}{rows:List (List AV)}{aM:Bool}(hi:ob.get i=some (.arr t rows aM)):fF ob (ob.put i (.arr t rows true)):=by
 refine⟨?_,?_,?_,?_,?_,?_,?_,?_,λj=>oj hi (by simp) (by simp)⟩<;>intro j<;>by_cases e:j=i
 .subst e;simp[Tr.aQ,hi]
 .simp[Tr.aB _ _ e]
 .simp_all[Tr.aQ]
 .simp_all[Tr.aB]
 .simp_all[Tr.aQ]
 .simp_all[Tr.aB]
 .subst e;intro s l;simp[Tr.aQ,hi]
 .intro s l;rw[Tr.aB _ _ e]
 .grind
 .simp_all[Tr.aB]
 .simp_all[Tr.aQ]
 .simp_all[Tr.aB]
 .grind
 .simp_all[Tr.aB]
 .simp_all[Tr.aQ]
 simp_all[Tr.aB]
theorem Tl{i:Nat}{t:TypeId}{rows:List (List AV)}{aM:Bool}(hi:ob.get i=some (.mp t rows aM)):fF ob (ob.put i (.mp t rows true)):=by
 refine⟨?_,?_,?_,?_,?_,?_,?_,?_,λj=>oj hi (by simp) (by simp)⟩<;>intro j<;>by_cases e:j=i
 .subst e;simp[Tr.aQ,hi]
 .simp[Tr.aB _ _ e]
 .grind
 .simp_all[Tr.aB]
 .simp_all[Tr.aQ]
 .simp_all[Tr.aB]
 .subst e;intro s l;simp[Tr.aQ,hi]
 .intro s l;rw[Tr.aB _ _ e]
 .simp_all[Tr.aQ]
 .simp_all[Tr.aB]
 .simp_all[Tr.aQ]
 .simp_all[Tr.aB]
 .grind
 .simp_all[Tr.aB]
 .simp_all[Tr.aQ]
 simp_all[Tr.aB]
theorem Tm{i:Nat}{t:TypeId}{rows:List (List AV)}{aM:Bool}(hi:ob.get i=some (.tr t rows aM)):fF ob (ob.put i (.tr t rows true)):=by
 refine⟨?_,?_,?_,?_,?_,?_,?_,?_,λj=>oj hi (by simp) (by simp)⟩<;>intro j<;>by_cases e:j=i
 .subst e;simp[Tr.aQ,hi]
 .simp[Tr.aB _ _ e]
 .grind
 .simp_all[Tr.aB]
 .simp_all[Tr.aQ]
 .simp_all[Tr.aB]
 .subst e;intro s l;simp[Tr.aQ,hi]
 .intro s l;rw[Tr.aB _ _ e]
 .grind
 .simp_all[Tr.aB]
 .simp_all[Tr.aQ]
 .simp_all[Tr.aB]
 .simp_all[Tr.aQ]
 .simp_all[Tr.aB]
 .simp_all[Tr.aQ]
 simp_all[Tr.aB]
theorem lR(hs:af P w ob nx h):∀(vs:List SV),∃F,af P (w.more F) (bg ob vs) nx h/\fF ob (bg ob vs)/\(∀o,F o->Ow w ob o)/\(∀i,SV.own i∈vs->∀t rows l x,iR ob i t rows l->RV P w (.own i) x->Rd P (w.more F) t rows x)/\
 ∀i,SV.om i∈vs->∀t rows l x,ob.get i=some (.mp t rows l)->RV P w (.om i) x->Rm P (w.more F) t rows x:=by
 intro vs
 induction vs generalizing ob w with
 |nil=>exact⟨λ_=>False,by simpa[Wd.more,bg]using hs,.refl ob,λ_ f=>f.elim,(λi hi=>by cases hi),(λi hi=>by cases hi)⟩
 |cons v vs ih=>
  have other:(∀i,v=.own i->∀t r l,¬iR ob i t r l)->(∀i,v=.om i->∀t r l,ob.get i≠some (.mp t r l))->bg ob (v::vs)=bg ob vs->∃F,af P (w.more F) (bg ob (v::vs)) nx h/\fF ob (bg ob (v::vs))/\(∀o,F o->Ow w ob o)/\(∀i,SV.own i∈v::vs->∀t rows l x,iR ob i t rows l->RV P w (.own i) x->Rd P (w.more F) t rows x)/\∀i,SV.om i∈v::vs->∀t rows l x,ob.get i=some (.mp t rows l)->RV P w (.om i) x->Rm P (w.more F) t rows x:=λhv C e=>by grind
  have step:∀{p:Tr ai}{m:Nat->Prop},bg ob (v::vs)=bg p vs->af P (w.more m) p nx h->fF ob p->(∀o,m o->Ow w ob o)->
   (∀i,SV.own i=v->∀t rows l x,iR ob i t rows l->RV P w (.own i) x->Rd P (w.more m) t rows x)->(∀i,SV.om i=v->∀t rows l x,ob.get i=some (.mp t rows l)->RV P w (.om i) x->Rm P (w.more m) t rows x)->
   ∃F,af P (w.more F) (bg ob (v::vs)) nx h/\fF ob (bg ob (v::vs))/\(∀o,F o->Ow w ob o)/\(∀i,SV.own i∈v::vs->∀t rows l x,iR ob i t rows l->RV P w (.own i) x->Rd P (w.more F) t rows x)/\∀i,SV.om i∈v::vs->∀t rows l x,ob.get i=some (.mp t rows l)->RV P w (.om i) x->Rm P (w.more F) t rows x:=λ{p m}e q1 hl q3 q2 z=>by
   obtain⟨F,h1,h2,h4,h3,h5⟩:=ih q1
   have hm:(w.more m).more F=w.more λo=>m o\/F o:=by simp[Wd.more,or_assoc]
   rw[e]
   refine⟨λo=>m o\/F o,by grind,hl.trans h2,λo f=>f.elim (q3 o) λf=>by obtain⟨j,k,e1,e2,e3⟩:=h4 o f;exact⟨j,k,(hl.live j).1 e1,e2,e3⟩,λj hj t' rows' l' x e hx=>?_,λj hj t' rows' l' x e hx=>?_⟩
   .rw[<-hm]
    rcases List.mem_cons.1 hj with e2|hj
    .exact(q2 j e2 _ _ _ x e hx).mono (aK.more _ _)
    .rcases e with e|e
     .obtain⟨u,e3,_⟩:=hl.arr j t' rows' l' e;exact h3 j hj t' rows' u x (.inl e3) (hx.mono (aK.more _ _) λ_ _ e=>e)
     .obtain⟨u,e3,_⟩:=hl.tr j t' rows' l' e;exact h3 j hj t' rows' u x (.inr e3) (hx.mono (aK.more _ _) λ_ _ e=>e)
   .rw[<-hm]
    rcases List.mem_cons.1 hj with e2|hj
    .exact(z j e2 _ _ _ x e hx).bI (aK.more _ _).c
    .obtain⟨u,e3,_⟩:=hl.mp j t' rows' l' e;exact h5 j hj t' rows' u x e3 (hx.mono (aK.more _ _) λ_ _ e=>e)
  cases v with
  |own i=>cases hb:ob.get i with|none=>exact other (λj e t r l q=>by cases e;rcases q with q|q<;>grind) (λj e=>by cases e) (by simp only[bg,hb])|some y=>cases y with|arr t rows l=>obtain⟨m,q1,q3,q2⟩:=Tk hs hb;exact step (by simp only[bg,hb]) q1 (Sm hb) q3 (λj e t' r' l' x q hx=>by cases e;rcases q with q|q<;>(rw[hb]at q;cases q);exact q2 x hx) (λj e=>by cases e)|tr t rows l=>obtain⟨m,q1,q3,q2⟩:=U3 hs hb;exact step (by simp only[bg,hb]) q1 (Tm hb) q3 (λj e t' r' l' x q hx=>by cases e;rcases q with q|q<;>(rw[hb]at q;cases q);exact q2 x hx) (λj e=>by cases e)|_=>exact other (λj e t r l q=>by cases e;rcases q with q|q<;>grind) (λj e=>by cases e) (by simp only[bg,hb])
  |om i=>cases hb:ob.get i with|none=>grind[bg]|some y=>cases y with|mp t rows l=>obtain⟨m,q1,q3,q2⟩:=U2 hs hb;exact step (by simp only[bg,hb]) q1 (Tl hb) q3 (λj e=>by cases e) (λj e t' r' l' x q hx=>by grind)|_=>grind[bg]
  |_=>exact other (λi e=>by cases e) (λi e=>by cases e) rfl
theorem I4{F:Nat->Prop}{vs:List SV}{v:SV}(hv:v∈vs)(h3:∀i,SV.own i∈vs->∀t rows l x,iR ob i t rows l->RV P w (.own i) x->Rd P (w.more F) t rows x)
 {t:TypeId}{rows:List (List AV)}{x:AV}(hd:asData ob t v=some rows)(hx:RV P w v x):Rd P (w.more F) t rows x:=by
 unfold asData at hd
 split at hd
 .split at hd
  .rename_i e;subst e;cases hd;cases hx with|dl hr=>exact hr.mono (aK.more _ _)
  .cases hd
 .cases hd;cases hx;exact .nil t
 .rename_i i
  split at hd
  .rename_i t' r l hb
   split at hd
   .rename_i e;subst e;cases hd;exact h3 i hv _ _ _ _ (.inl hb) hx
   .cases hd
  .cases hd
 .cases hd
theorem Tn{F:Nat->Prop}{vs:List SV}{v:SV}(hv:v∈vs)(h5:∀i,SV.om i∈vs->∀t rows l x,ob.get i=some (.mp t rows l)->RV P w (.om i) x->Rm P (w.more F) t rows x)
 {t:TypeId}{rows:List (List AV)}{x:AV}(hd:ni ob t v=some rows)(hx:RV P w v x):Rm P (w.more F) t rows x:=by
 unfold ni at hd
 split at hd
 .split at hd
  .rename_i e;subst e;cases hd;cases hx with|md hr=>exact hr.bI (aK.more _ _).c
  .cases hd
 .grind
 .cases hd
end
end Go.AI
end

section
namespace Go.AI
theorem Wd.i6(w:Wd):w.more (λ_=>False)=w:=by cases w;simp[Wd.more]
section
variable {P:Program}{w:Wd}{h h1:AHeap}{ρ:Type}
def EV(P:Program)(w:Wd)(h h1:AHeap)(S:ad)(k:SV->ad->Option ρ)(r:ρ)(c:Option (dv×AHeap)):Prop:=∃F ob,af P (w.more F) ob S.nx h/\fF S.ob ob/\(∀o,F o->Ow w S.ob o)/\∃v y,k v {S with ob:=ob}=some r/\c=some (.val y,h1)/\RV P (w.more F) v y
theorem EV.one{S:ad}(hs:af P w S.ob S.nx h){k:SV->ad->Option ρ}{r:ρ}{c:Option (dv×AHeap)}{v:SV}{y:AV}(hr:k v S=some r)(he:c=some (.val y,h1))(hv:RV P w v y):EV P w h h1 S k r c:=⟨λ_=>False,S.ob,by rw[Wd.i6];exact hs,.refl _,λ_ f=>f.elim,v,y,hr,he,by rw[Wd.i6];exact hv⟩
theorem Rg{t:TypeId}{a v:SV}{x:AV}{f:Nat}(hx:RV P w a x)(he:Cv P t a f=some v):∃y,mz P t x f=some y/\RV P w v y:=by
 unfold Cv at he
 split at he
 .rename_i m hu
  split at he
  .rename_i fd hf
   split at he
   .rename_i n i off hz;cases he;cases hx with|ref e=>exact⟨_,by simp only[mz,hu,hf,hz],.ref e⟩
   .rename_i n t' row off hz;cases he;cases hx with|cI hp=>cases hp with|cr q=>exact⟨_,by simp_all[List.drop_drop,mz],.cI (.cr q)⟩|ref a b c d e f g=>exact⟨_,by simp_all[Nat.add_assoc,mz],.cI (.ref a b c d e f g)⟩
   .rename_i n i j off hz;cases he;cases hx with|cV e hk=>exact⟨_,by simp_all[Nat.add_assoc,mz],.cV e hk⟩
   .rename_i n t' cs off hz;cases he;cases hx with|pb a b c d e f g i=>exact⟨_,by simp only[mz,hu,hf,hz],.pb a b c d e f g i⟩
   .cases he
  .cases he
 .cases he
theorem To{t:TypeId}{a v:SV}{x:AV}{f:Nat}(hx:RV P w a x)(he:D6 P t a f=some v):∃y,s6 P t x f=some y/\RV P w v y:=by
 unfold D6 at he
 split at he
 .rename_i c cs hu
  cases hx with
  |agg hc=>
   rename_i xs
   split at he
   .rename_i fd hf
    split at he
    .rename_i s hg hz
     split at he
     .cases he;exact⟨_,by simp only[s6,hu,hf,apart,hg,hz],.agg ((hc.drop _).take _)⟩
     .cases he
    .rename_i s hg hz;obtain⟨y,e1,e2⟩:=hc.get _ _ he;simp_all[List.head?_drop,refine,s6,apart]
    .cases he
   .cases he
 .cases he
theorem Tp{op:BinOp}{t:TypeId}{xo yo:Operand}{kd:IntKind}{a b:Int}{k:SV->Option ρ}{r:ρ}(hr:Fp op kd a b k=some r):∃v,s8 v=true/\k (.sc v)=some r/\cD P op t xo yo (.sc (.int kd a)) (.sc (.int kd b))=some (.sc v):=by
 have hd:∀{x:SV},(match decide (b=0)with|true=>none|false=>k x)=some r->b≠0/\k x=some r:=by
  intro x e
  split at e
  .cases e
  .grind
 cases op<;>simp only[Fp]at hr<;>try(cases hr;done)
 case quo=>obtain⟨hb,hr⟩:=hd hr;refine⟨_,rfl,hr,?_⟩;simp only[cD,du,dM];show(bp P (Go.binOp .quo t (.int kd a) (.int kd b))).map bh=_;simp only[Go.binOp,ne_eq,not_true_eq_false,if_false,Op.intDiv,if_neg hb];rfl
 case rem=>obtain⟨hb,hr⟩:=hd hr;refine⟨_,rfl,hr,?_⟩;simp only[cD,du,dM];show(bp P (Go.binOp .rem t (.int kd a) (.int kd b))).map bh=_;simp only[Go.binOp,ne_eq,not_true_eq_false,if_false,Op.intDiv,if_neg hb];rfl
 all_goals refine⟨_,rfl,hr,?_⟩;simp only[cD,du,dM];first|rfl|(cases kd<;>rfl)
theorem Tq{op:BinOp}{t:TypeId}{xo yo:Operand}{a b:ByteArray}{k:SV->Option ρ}{r:ρ}(hr:Fq op a b k=some r):∃v,s8 v=true/\k (.sc v)=some r/\cD P op t xo yo (.sc (.string a)) (.sc (.string b))=some (.sc v):=by
 cases op<;>simp only[Fq]at hr<;>try(cases hr;done)
 case add=>
  unfold o5 at hr
  split at hr
  .cases hr
  .rename_i hd;refine⟨_,rfl,hr,?_⟩;simp only[cD,du,dM];show(bp P (Op.stringOp .add a b)).map bh=_;simp only[decide_eq_false_iff_not]at hd;simp only[Op.stringOp,if_neg hd];rfl
 all_goals exact⟨_,rfl,hr,rfl⟩
theorem cT{α β:Type}(P:Program):∀(m:Sem α)(f:α->Sem β),bp P (m>>=f)=(bp P m).bind λa=>bp P (f a)|.pure a,f=>rfl|.program k,f=>cT P (k P) f|.mark m k,f=>cT P k f|.load _ _ _,f=>rfl|.store _ _ _ _,f=>rfl|.new _ _,f=>rfl|.shape _ _,f=>rfl|.freeze _ _ _,f=>rfl|.frozen _ _,f=>rfl|.getObj _ _,f=>rfl|.setObj _ _ _,f=>rfl|.choose _ _,f=>rfl|.sys _ _,f=>rfl|.halt _,f=>rfl
theorem jb{t:TypeId}{d:TypeDesc}(hu:P.underlying t=some d):bp P (underlying t)=some d:=by unfold underlying;rw[cT];show(some P).bind _=_;simp only[Option.bind_some,hu];rfl
theorem Il{t:TypeId}{a b:Bool}(hu:P.underlying t=some .bool):bp P (Op.equal t (.bool a) (.bool b))=some (a==b):=by unfold Op.equal Op.maxDepth;rw[show(10000:Nat)=9999+1 from rfl,Op.equalIn,cT,jb hu];rfl
theorem I5{t e:TypeId}(hu:P.underlying t=some (.pointer e)):bp P (Op.equal t (.pointer none) (.pointer none))=some true:=by unfold Op.equal Op.maxDepth;rw[show(10000:Nat)=9999+1 from rfl,Op.equalIn,cT,jb hu];rfl
theorem I6{op:BinOp}{t:TypeId}{xo yo:Operand}{a b:Bool}(hu:P.underlying t=some .bool):
 (op=.eql->cD P op t xo yo (.sc (.bool a)) (.sc (.bool b))=some (.sc (.bool (a==b))))/\(op=.neq->cD P op t xo yo (.sc (.bool a)) (.sc (.bool b))=some (.sc (.bool !(a==b)))):=by
 constructor<;>rintro rfl<;>simp only[cD,du,dM]
 .show(bp P (Op.equal t (.bool a) (.bool b)>>=λx=>pure (Value.bool x))).map bh=_;rw[cT,Il hu];rfl
 .show(bp P (Op.equal t (.bool a) (.bool b)>>=λx=>pure (Value.bool (!x)))).map bh=_;rw[cT,Il hu];rfl
theorem Dh{op:BinOp}{t e:TypeId}{xo yo:Operand}(hu:P.underlying t=some (.pointer e)):
 (op=.eql->cD P op t xo yo (.sc (.pointer none)) (.sc (.pointer none))=some (.sc (.bool true)))/\(op=.neq->cD P op t xo yo (.sc (.pointer none)) (.sc (.pointer none))=some (.sc (.bool false))):=by
 constructor<;>rintro rfl<;>simp only[cD,du,dM]
 .show(bp P (Op.equal t (.pointer none) (.pointer none)>>=λx=>pure (Value.bool x))).map bh=_;rw[cT,I5 hu];rfl
 .show(bp P (Op.equal t (.pointer none) (.pointer none)>>=λx=>pure (Value.bool (!x)))).map bh=_;rw[cT,I5 hu];rfl
theorem I7{t a:TypeId}{v:Value}{m:Array (String×TypeId)}(hu:P.underlying t=some (.interface m)):bp P (Op.equal t (.iface a v) .nilIface)=some false:=by unfold Op.equal Op.maxDepth;rw[show(10000:Nat)=9999+1 from rfl,Op.equalIn,cT,jb hu];rfl
theorem JR{op:BinOp}{t a:TypeId}{xo yo:Operand}{x:AV}{m:Array (String×TypeId)}(hu:P.underlying t=some (.interface m)):
 (op=.eql->cD P op t xo yo (.iface a x) (.sc .nilIface)=some (.sc (.bool false)))/\(op=.neq->cD P op t xo yo (.iface a x) (.sc .nilIface)=some (.sc (.bool true))):=by
 cases x with
 |sc v=>
  constructor<;>rintro rfl<;>simp only[cD,du,dM]
  .show(bp P (Op.equal t (.iface a v) .nilIface>>=λx=>pure (Value.bool x))).map bh=_;rw[cT,I7 hu];rfl
  .show(bp P (Op.equal t (.iface a v) .nilIface>>=λx=>pure (Value.bool (!x)))).map bh=_;rw[cT,I7 hu];rfl|_=>simp_all[cD,du,dM,gO,hU,ed]
theorem JS{op:BinOp}{t:TypeId}{xo yo:Operand}{m:Array (String×TypeId)}(hu:P.underlying t=some (.interface m))(hc:(nj xo||nj yo)=true):
 (op=.eql->cD P op t xo yo (.sc .nilIface) (.sc .nilIface)=some (.sc (.bool true)))/\(op=.neq->cD P op t xo yo (.sc .nilIface) (.sc .nilIface)=some (.sc (.bool false))):=by
 have hg:∀op,bp P (eqGuard op t xo yo .nilIface .nilIface)=some ():=by intro op;cases xo<;>cases yo<;>first|(simp[nj]at hc;done)|(cases op<;>rfl)
 have he:bp P (Op.equal t .nilIface .nilIface)=some true:=by unfold Op.equal Op.maxDepth;rw[show(10000:Nat)=9999+1 from rfl,Op.equalIn,cT,jb hu];rfl
 constructor<;>rintro rfl<;>simp only[cD,du,dM]
 .show(bp P (eqGuard .eql t xo yo .nilIface .nilIface>>=λ_=>Op.equal t .nilIface .nilIface>>=λx=>pure (Value.bool x))).map bh=_;rw[cT,hg,Option.bind_some,cT,he];rfl
 .show(bp P (eqGuard .neq t xo yo .nilIface .nilIface>>=λ_=>Op.equal t .nilIface .nilIface>>=λx=>pure (Value.bool (!x)))).map bh=_;rw[cT,hg,Option.bind_some,cT,he];rfl
theorem yZ{op:BinOp}{t:TypeId}{xo yo:Operand}{a b:SV}{x y:AV}{e:Bool}(hx:RV P w a x)(hy:RV P w b y)(he:wX P (nj xo||nj yo) t a b=some e):
 (op=.eql->cD P op t xo yo x y=some (.sc (.bool e)))/\(op=.neq->cD P op t xo yo x y=some (.sc (.bool !e))):=by
 unfold wX at he
 split at he
 .rename_i el t' r hu
  split at he
  .rename_i z rs
   cases he
   cases hy
   cases hx with
   |dl hr=>
    cases hr with
    |aI h1 h2 _ c=>cases c with|cons q1 q2=>simp_all[cD,du,dM,gO,hU,ed]
    |sl _ _ _ _ _ _ _ _ _ _=>simp_all[cD,du,dM,gO,hU,ed]
  .cases he
 .rename_i m t' v hu;cases he;cases hy;cases hx with|dB q=>exact JR hu
 .rename_i m b hu
  split at he
  .rename_i hc;cases he;cases hy;cases hx with|lr=>exact JR hu|lu=>exact JS hu hc
  .cases he
 .rename_i m hu
  split at he
  .rename_i hc;cases he;cases hx;cases hy;exact JS hu hc
  .cases he
 .rename_i i off u hu;cases he;cases hx with|ref e1=>cases hy;simp_all[cD,du,dM,gO,hU,ed]
 .rename_i i off b' u hu
  cases he
  cases hy
  cases hx with
  |fJ h1 h2=>cases h1 with|ref e1=>simp_all[cD,du,dM,gO,hU,ed]
  |il=>exact Dh hu
 .rename_i i o j o' u hu
  split at he
  .rename_i n hz p;obtain rfl:=Nat.eq_of_beq_eq_true p;cases he;cases hx with|ref e1=>cases hy with|ref e2=>simp_all[an,Lk.box.injEq,cD,du,dM,gO,hU,ed]
  .cases he
 .cases he
theorem HW{t e:TypeId}(hu:P.underlying t=some (.slice e)):bp P (Op.equal t (.slice none 0 0) (.slice none 0 0))=some true:=by unfold Op.equal Op.maxDepth;rw[show(10000:Nat)=9999+1 from rfl,Op.equalIn,cT,jb hu];rfl
theorem KS{t e t':TypeId}{xo yo:Operand}{rows:List (List AV)}{x:AV}{k:Bool->Option ρ}{r:ρ}(hx:Rd P w t' rows x)(hu:P.underlying t=some (.slice e))(hr:emp rows (both (k true) (k false)) (k false)=some r):
 ∃b,k b=some r/\cD P .eql t xo yo x (.sc (.slice none 0 0))=some (.sc (.bool b))/\cD P .neq t xo yo x (.sc (.slice none 0 0))=some (.sc (.bool !b)):=by
 have hf:k false=some r:=by cases rows with|nil=>exact(KA hr).2|cons _ _=>exact hr
 cases hx with
 |nil=>
  refine⟨true,(KA hr).1,?_,?_⟩
  .show(bp P (Op.equal t (.slice none 0 0) (.slice none 0 0)>>=λx=>pure (Value.bool x))).map bh=_;rw[cT,HW hu];rfl
  .show(bp P (Op.equal t (.slice none 0 0) (.slice none 0 0)>>=λx=>pure (Value.bool (!x)))).map bh=_;rw[cT,HW hu];rfl
 |bC=>simp_all[cD,du,dM,gO,hU,ed]
 |aI _ _ h0 c=>cases c with|nil=>simp at h0|cons q1 q2=>simp_all[cD,du,dM,gO,hU,ed]
 |sl _ _ _ _ _ _ _ _ _ _=>simp_all[cD,du,dM,gO,hU,ed]
theorem Ts(a b:ByteArray):ax a b=(a==b):=by
 rw[Bool.eq_iff_iff]
 unfold ax
 rw[beq_iff_eq]
 constructor
 .intro h;obtain rfl:a=b:=ByteArray.ext (Array.ext' (by rw[<-Cj,<-Cj];exact h));exact(beq_iff_eq (a:=a.data)).2 rfl
 .intro h;have h:(a.data==b.data)=true:=h;rw[ByteArray.ext (beq_iff_eq.1 h)]
theorem uF{α:Type}{a:α}:bp P (pure a)=some a:=rfl
theorem W2{t:TypeId}{xo yo:Operand}{A B:Array Value}(hg:P.eqGuardType P.depth t=false):bp P (eqGuard .eql t xo yo (.agg A) (.agg B))=some ():=by unfold eqGuard;simp[cT,program,bp,hg,uF]
theorem eq_int{t:TypeId}{k l:IntKind}{a b:Int}(d:Nat)(hu:P.underlying t=some (.int l)):bp P (Op.equalIn (d+1) t (.int k a) (.int k b))=some (a==b):=by rw[Op.equalIn,cT,jb hu];simp[uF]
theorem W3{t:TypeId}{a b:ByteArray}(d:Nat)(hu:P.underlying t=some .string):bp P (Op.equalIn (d+1) t (.string a) (.string b))=some (a==b):=by rw[Op.equalIn,cT,jb hu];simp[uF]
theorem DH{t:TypeId}{cs:Array Value}{o:Nat}{v:Value}{d:TypeDesc}(hu:P.underlying t=some d)(hd:(∃k,d=.int k)\/d=.string)(hv:cs[o]?=some v):bp P (part t cs o)=some v:=by unfold part isAgg;rcases hd with⟨k,rfl⟩|rfl<;>simp[cT,jb hu,uF,hv]
theorem Tu{t:TypeId}{xo yo:Operand}{k l:IntKind}{a b a' b':Int}{s s':ByteArray}(h:EH P t=true):
 cD P .eql t xo yo (.agg [.sc (.int k a),.sc (.int l b),.sc (.string s)]) (.agg [.sc (.int k a'),.sc (.int l b'),.sc (.string s')])=some (.sc (.bool (a==a'&&(b==b'&&ax s s')))):=by
 unfold EH at h
 split at h
 .rename_i f g i hu
  simp only[aZ,Bool.not_eq_true',bne_iff_ne,beq_iff_eq]at h
  obtain⟨⟨⟨⟨⟨⟨⟨⟨⟨⟨G,g1⟩,C⟩,F⟩,g2⟩,q⟩,E⟩,D⟩,p⟩,hs⟩,hg⟩:=h
  have c:∀{u:TypeId},(match P.underlying u with|some (.int _)=>true|_=>false)=true->∃kd,P.underlying u=some (.int kd):=λ{u}e=>by grind
  obtain⟨kf,o⟩:=c E
  obtain⟨I,m⟩:=c D
  have j:P.underlying i.type=some .string:=by
   split at p
   .assumption
   .cases p
  have eq:bp P (Op.equal t (.agg #[.int k a,.int l b,.string s]) (.agg #[.int k a',.int l b',.string s']))=some (a==a'&&(b==b'&&ax s s')):=by unfold Op.equal Op.maxDepth;rw[show(10000:Nat)=9999+1 from rfl,Op.equalIn,cT,jb hu,Option.bind_some];have p1:∀x y z,bp P (part f.type #[.int k x,.int l y,.string z] 0)=some (.int k x):=λ_ _ _=>DH o (.inl ⟨_,rfl⟩) rfl;have p2:∀x y z,bp P (part g.type #[.int k x,.int l y,.string z] 1)=some (.int l y):=λ_ _ _=>DH m (.inl ⟨_,rfl⟩) rfl;have p3:∀x y z,bp P (part i.type #[.int k x,.int l y,.string z] 2)=some (.string z):=λ_ _ _=>DH j (.inr rfl) rfl;have e1:bp P (Op.equalIn 9999 f.type (.int k a) (.int k a'))=some (a==a'):=eq_int 9998 o;have e2:bp P (Op.equalIn 9999 g.type (.int l b) (.int l b'))=some (b==b'):=eq_int 9998 m;have e3:bp P (Op.equalIn 9999 i.type (.string s) (.string s'))=some (ax s s'):=(W3 9998 j).trans (by rw[Ts]);rw[show({toList:=[f,g,i]}:Array Field)=[f,g,i].toArray from rfl];generalize(a==a')=A at*;generalize(b==b')=B at*;generalize ax s s'=J at*;cases A<;>cases B<;>cases J<;>simp[cT,program,bp,hs,uF,G,g1,C,F,g2,q,p1,p2,p3,e1,e2,e3]
  show(bp P (eqGuard .eql t xo yo (.agg #[.int k a,.int l b,.string s]) (.agg #[.int k a',.int l b',.string s'])>>=λ_=>Op.equal t (.agg #[.int k a,.int l b,.string s]) (.agg #[.int k a',.int l b',.string s'])>>=λx=>pure (Value.bool x))).map bh=_;rw[cT,W2 hg,Option.bind_some,cT,eq];rfl
 .cases h
theorem U4{op:BinOp}{t:TypeId}{xo yo:Operand}{a b:SV}{x y:AV}{k:SV->Option ρ}{r:ρ}(hx:RV P w a x)(hy:RV P w b y)(hr:Fs P (nj xo||nj yo) op t a b k=some r):
 ∃v,s8 v=true/\k (.sc v)=some r/\cD P op t xo yo x y=some (.sc v):=by
 unfold Fs at hr
 split at hr
 .cases hx with
  |agg hx=>
  cases hy with
  |agg hy=>
  split at hr
  .rename_i hf hk
   obtain⟨rfl,rfl⟩:=oq hk
   have one:∀{v:Value}{c:AV},RV P w (.sc v) c->c=.sc v:=λh=>by cases h;rfl
   have m:∀{u v x:Value}{l:List AV},ak P w [.sc u,.sc v,.sc x] l->l=[.sc u,.sc v,.sc x]:=λh=>by cases h with|cons h1 h=>cases h with|cons h2 h=>cases h with|cons h3 h=>cases h;grind
   rw[m hx,m hy];exact⟨_,rfl,hr,Tu hf⟩
  .cases hr
 .split at hr
  .rename_i e;subst e;cases hx;cases hy;exact Tp hr
  .cases hr
 .cases hx;cases hy;exact Tq hr
 .cases hx;cases hy
  split at hr
  .rename_i hb;exact⟨_,rfl,hr,(I6 (by grind)).1 rfl⟩
  .rename_i hb;exact⟨_,rfl,hr,(I6 (by grind)).2 rfl⟩
  .cases hr
 .rename_i t' rows
  cases hx with
  |dl hx=>
  cases hy
  split at hr
  .rename_i e hu;obtain⟨b,h1,h2,_⟩:=KS (k:=λb=>k (.sc (.bool b))) hx hu hr;exact⟨_,rfl,h1,h2⟩
  .rename_i e hu;obtain⟨b,h1,_,h2⟩:=KS (k:=λb=>k (.sc (.bool !b))) hx hu hr;exact⟨_,rfl,h1,h2⟩
  .cases hr
 .rename_i t' rows
  cases hx with
  |ls hx=>
  cases hy
  split at hr
  .rename_i e hu;cases hx with|nil=>exact⟨_,rfl,hr,(Dh hu).1 rfl⟩|cons _ _ _ _ _ _ _ _=>exact⟨_,rfl,hr,by simp[cD,du,dM,gO,hu,hU,ed]⟩
  .rename_i e hu;cases hx with|nil=>exact⟨_,rfl,hr,(Dh hu).2 rfl⟩|cons _ _ _ _ _ _ _ _=>exact⟨_,rfl,hr,by simp[cD,du,dM,gO,hu,hU,ed]⟩
  .cases hr
 .rename_i p i o j o'
  cases p with
  |false=>simp only[aa]at hr;cases hr
  |true=>
   simp only[aa]at hr
   cases hx with
   |fJ h1 _=>
    split at hr
    .rename_i b' he;exact⟨_,rfl,hr,(yZ h1 hy he).1 rfl⟩
    .rename_i b' he;exact⟨_,rfl,hr,(yZ h1 hy he).2 rfl⟩
    .cases hr
 .split at hr
  .split at hr
   .rename_i b' he;exact⟨_,rfl,hr,(yZ hx hy he).1 rfl⟩
   .cases hr
  .split at hr
   .rename_i b' he;exact⟨_,rfl,hr,(yZ hx hy he).2 rfl⟩
   .cases hr
  .cases hr
end
end Go.AI
end

section
namespace Go.AI
section
variable {P:Program}{w:Wd}{h h1:AHeap}{ρ:Type}
theorem DI{α:Type}{l:List α}{n:Int}{k:α->Option ρ}{r:ρ}(h:ab l n k=some r):0<=n/\∃x,l[n.toNat]?=some x/\k x=some r:=by grind[ab]
theorem n0{kd:IntKind}{n:Int}(h:0<=n):ff (.sc (.int kd n))=some n.toNat:=by simp[ff,h]
theorem sS{b:Bool}{x y:Option ρ}{r:ρ}(h:aa b x y=some r):(b=true/\x=some r)\/(b=false/\y=some r):=by
 cases b
 .exact .inr ⟨rfl,h⟩
 .exact .inl ⟨rfl,h⟩
theorem JT{n:Int}{k:Nat->Option ρ}{r:ρ}:∀{c i:Nat},zJ n c i k=some r->∃m:Nat,n=m/\i<=m/\m<i+c/\k m=some r
 |0,_,h=>by cases h
 |c+1,i,h=>by
  simp only[zJ]at h
  rcases sS h with⟨e,h⟩|⟨_,h⟩
  .exact⟨i,by simpa using e,Nat.le_refl _,by omega,h⟩
  .obtain⟨m,e1,e2,e3,e4⟩:=JT h;exact⟨m,e1,by omega,by omega,e4⟩
theorem xI{α:Type}{l:List α}{i:Nat}{x:α}(h:l[i]?=some x):i<l.length:=by grind
theorem Rh{S:ad}(hs:af P w S.ob S.nx h){t:TypeId}{a i:SV}{x y:AV}{k:SV->Option ρ}{r:ρ}(hx:RV P w a x)(hi:RV P w i y)(hr:Cw P S t a i k=some r):
 ∃v z,k v=some r/\nY P t x y=some z/\RV P w v z:=by
 unfold Cw at hr
 split at hr
 .rename_i e kd n hu
  cases hi
  split at hr
  .rename_i t' rows
   split at hr
   .rename_i F;subst F;obtain⟨hn,row,u,hr⟩:=DI hr;have C:=xI u;cases hx with|dl hd=>cases hd with|nil=>simp at u|bC=>simp at u|aI h1 h2 _ D=>obtain⟨dz,e1,e2⟩:=D.get _ _ u;refine⟨_,.cr dz,hr,?_,.cI (by have:=Rp.cr (P:=P) (w:=w) (off:=0) e2;grind)⟩;simp_all[n0,if_true,nY]|sl h1 h2 hF hg h3 h4 h5 h6 G D=>rename_i o ver m off v mv fz c el ex sh cap;obtain⟨dz,e1,e2⟩:=D.get _ _ u;rw[qq _ _ _ C]at e1;simp only[Option.some.injEq]at e1;subst e1;rw[List.drop_drop]at e2;have E:(n.toNat+1)*(lay P t').length<=rows.length*(lay P t').length:=Nat.mul_le_mul_right _ C;rw[Nat.add_mul]at E;refine⟨_,.ref o ver m (off+n.toNat*(lay P t').length),hr,?_,.cI (by have:=Rp.ref (P:=P) (w:=w) (off:=0) (t:=t') (row:=row) (n:=m) (p:=off+n.toNat*(lay P t').length) hF hg h3 h4 (by omega) (by omega) e2;grind)⟩;simp_all[n0,if_pos,trivial,nY]
   .cases hr
  .rename_i j
   split at hr
   .rename_i t' rows aM hb
    split at hr
    .rename_i F;subst F
     obtain⟨hn,row,u,hr⟩:=DI hr
     have C:=xI u
     obtain⟨L,K,J,I⟩:=hs.arr _ _ _ _ hb
     cases hx with
     |ck e1=>grind
     |bX e1=>
      rcases I with⟨q,_⟩|⟨o,ver,mv,c,ex,sh,cap,q,_⟩
      .grind
      .rw[e1]at q;simp only[Option.some.injEq,Lk.sl.injEq]at q;obtain⟨rfl,rfl,rfl,rfl,rfl,rfl⟩:=q;refine⟨_,_,hr,?_,.cV (off:=0) e1 C⟩;simp_all[n0,if_pos,trivial,Nat.zero_add,Nat.add_zero,nY]
    .cases hr
   .cases hr
  .cases hr
 .rename_i len e kd n hu
  cases hi
  split at hr
  .rename_i s j off hz;obtain⟨m,rfl,_,hm,hr⟩:=JT hr;cases hx with|ref e1=>refine⟨_,_,hr,?_,.ref e1⟩;simp_all[n0,Int.natCast_nonneg,if_pos,nY]
  .cases hr
 .cases hr
theorem Rd.len{t:TypeId}{rows:List (List AV)}{x:AV}(hd:Rd P w t rows x):eK x=some rows.length/\lg x=true:=by cases hd with|nil=>exact⟨rfl,rfl⟩|bC=>exact⟨rfl,rfl⟩|aI h1 h2 _ c=>exact⟨by simp[eK,c.length],rfl⟩|sl=>exact⟨rfl,rfl⟩
theorem KU{ob:Tr ai}{nx:Nat}(hs:af P w ob nx h){i:Nat}{x:AV}(hx:RV P w (.own i) x):
 (∀t rows l,ob.get i=some (.arr t rows l)->eK x=some rows.length/\lg x=true)/\(∀s l,ob.get i=some (.ba s l)->eK x=some s.size/\lg x=true):=by
 constructor
 .intro t rows l hb
  obtain⟨_,_,_,j⟩:=hs.arr _ _ _ _ hb
  cases hx with
  |ck e1=>
   rcases j with⟨_,rfl⟩|⟨o,ver,mv,c,ex,sh,cap,q,_⟩
   .exact⟨rfl,rfl⟩
   grind
  |bX e1=>
   rcases j with⟨q,_⟩|⟨o,ver,mv,c,ex,sh,cap,q,_⟩
   .grind
   .rw[e1]at q;simp only[Option.some.injEq,Lk.sl.injEq]at q;obtain⟨rfl,rfl,rfl,rfl,rfl,rfl⟩:=q;exact⟨rfl,rfl⟩
 .intro s l hb
  cases hx with
  |ck e1=>
   rcases(hs.ba _ _ _ hb).2 with⟨_,q⟩|⟨o,ver,mv,ex,fz,cap,_,q,_⟩
   .exact⟨by simp[eK,q],rfl⟩
   grind
  |bX e1=>
   rcases(hs.ba _ _ _ hb).2 with⟨q,_⟩|⟨o,ver,mv,ex,fz,cap,_,q,_⟩
   .grind
   .rw[e1]at q;simp only[Option.some.injEq,Lk.sl.injEq]at q;obtain⟨rfl,rfl,rfl,rfl,rfl,rfl⟩:=q;exact⟨rfl,rfl⟩
theorem LZ{ob:Tr ai}{nx:Nat}(hs:af P w ob nx h){i:Nat}{x:AV}(hx:RV P w (.own i) x){t:TypeId}{rows:List (List AV)}{l:Bool}(hb:ob.get i=some (.tr t rows l)):eK x=some rows.length/\lg x=true:=by
 obtain⟨_,_,_,j⟩:=hs.tr _ _ _ _ hb
 cases hx with
 |ck e1=>
  rcases j with⟨_,rfl⟩|⟨o,ver,mv,c,ex,sh,n,q,_⟩
  .exact⟨rfl,rfl⟩
  grind
 |bX e1=>
  rcases j with⟨q,_⟩|⟨o,ver,mv,c,ex,sh,n,q,_⟩
  .grind
  .rw[e1]at q;simp only[Option.some.injEq,Lk.sl.injEq]at q;obtain⟨rfl,rfl,rfl,rfl,rfl,rfl⟩:=q;exact⟨rfl,rfl⟩
theorem U5{S:ad}(hs:af P w S.ob S.nx h){a:SV}{x:AV}{n:Int}(hx:RV P w a x)(he:l8 S a=some n):∃m:Nat,n=m/\eK x=some m/\(lg x=true\/∃s,x=.sc (.string s)):=by
 unfold l8 at he
 split at he
 .cases hx;cases he;exact⟨0,rfl,rfl,.inl rfl⟩
 .cases hx with|dl hd=>cases he;exact⟨_,rfl,hd.len.1,.inl hd.len.2⟩
 .grind[KU,LZ]
 .cases hx;cases he;exact⟨_,rfl,rfl,.inr ⟨_,rfl⟩⟩
 .cases he
theorem KV{α:Type}{l:List α}{c hi:Int}{k:List α->Option ρ}{r:ρ}(h:jV l c hi k=some r):0<=c/\c<=hi/\hi<=l.length/\k ((l.drop c.toNat).take (hi.toNat-c.toNat))=some r:=by unfold jV at h;grind
theorem U6{s:ByteArray}{c hi:Int}{k:ByteArray->Option ρ}{r:ρ}(h:fH s c hi k=some r):0<=c/\c<=hi/\hi<=s.size/\k (s.extract c.toNat hi.toNat)=some r:=by unfold fH at h;grind
theorem xz{sz:Nat}:∀(n a b:Nat)(l:List AV),a+b<=n->((chunks sz n l).drop a).take b=chunks sz b (l.drop (a*sz))|n,0,0,l,_=>by simp[chunks]|n,0,b+1,l,h=>by obtain⟨n,rfl⟩:∃m,n=m+1:=⟨n-1,by omega⟩;simp only[chunks,List.drop_zero,List.take_succ_cons,Nat.zero_mul];have:=xz (sz:=sz) n 0 b (l.drop sz) (by omega);simp only[List.drop_zero,Nat.zero_mul]at this;rw[this]|n,a+1,b,l,h=>by obtain⟨n,rfl⟩:∃m,n=m+1:=⟨n-1,by omega⟩;simp only[chunks,List.drop_succ_cons];rw[xz n a b (l.drop sz) (by omega),List.drop_drop,show sz+a*sz=(a+1)*sz by rw[Nat.add_mul];omega]
theorem Rd.slice{t e:TypeId}{rows:List (List AV)}{x:AV}(hd:Rd P w e rows x)(hu:P.underlying t=some (.slice e))(hz:(bj P e).isSome){L hi:Option AV}{l u:Nat}(D:ep L 0=some l)(m:ep hi rows.length=some u)(h1:l<=u)(h2:u<=rows.length):
 ∃y,fV P t x L hi none=some y/\Rd P w e ((rows.drop l).take (u-l)) y:=by
 obtain⟨sz,hz⟩:=Option.isSome_iff_exists.1 hz
 cases hd with
 |nil=>
  obtain rfl:u=0:=by grind
  obtain rfl:l=0:=by omega
  refine⟨.sc (.slice none 0 0),?_,by simp;exact .nil _⟩;simp only[List.length_nil]at m;unfold fV;grind
 |bC=>
  obtain rfl:u=0:=by grind
  obtain rfl:l=0:=by omega
  refine⟨.bC,?_,by simp;exact .bC _⟩;simp only[List.length_nil]at m;unfold fV;grind
 |aI p F a0 q=>
  rename_i rows'
  have hl:=q.length
  rw[hl]at m h2
  by_cases G:l=u
  .subst G;refine⟨.bC,?_,by simp;exact .bC _⟩;rw[hz]at p;cases p;unfold fV;grind
  refine⟨_,?_,.aI p F (by grind) (q.sub l (u-l))⟩;rw[hz]at p;cases p;unfold fV;grind
 |sl p F hF hg h3 h4 h5 h6 E q=>
  rename_i o ver n off v mv fz c el ex sh cap
  have hlen:((rows.drop l).take (u-l)).length=u-l:=by rw[List.length_take,List.length_drop];omega
  have O:l*(lay P e).length+(u-l)*(lay P e).length=u*(lay P e).length:=by rw[<-Nat.add_mul];congr 1;omega
  have N:u*(lay P e).length<=rows.length*(lay P e).length:=Nat.mul_le_mul_right _ h2
  have C:=q.sub l (u-l)
  rw[xz _ _ _ _ (by omega),List.drop_drop]at C
  have key:∀i,(∀k,i=some k->u-l<=k)->Rd P w e ((rows.drop l).take (u-l)) (.sl o ver n (off+l*(lay P e).length) (lay P e).length (u-l) i):=by intro i R;have:=Rd.sl (P:=P) (w:=w) (t:=e) (rows:=(rows.drop l).take (u-l)) (ver:=ver) (n:=n) (off:=off+l*(lay P e).length) (cap:=i) p F hF hg h3 h4 (by grind) (by grind) (λk e=>by grind) (by grind);grind
  have M:u=l->∀j i,j<=off+l*(lay P e).length->Rd P w e ((rows.drop l).take (u-l)) (.sl o ver n j (lay P e).length (u-l) i):=by
   intro z j i ho
   have K:(rows.drop l).take (u-l)=[]:=by subst z;simp
   rw[K,show u-l=([]:List (List AV)).length by simp[z]];exact .sl p F hF hg h3 h4 (by simp;omega) (by simp;omega) (λk _=>by simp) (.nil _)
  rw[hz]at p
  simp only[Option.some.injEq]at p;subst p
  cases cap with
  |some S=>have Q:=E S rfl;refine⟨_,by unfold fV;simp only[hu,hz,D,m,Option.map_none];rw[if_pos ⟨trivial,h1,by omega,by omega⟩],?_⟩;grind
  |none=>
   unfold fV;simp only[hu,hz,D,m,Option.map_none]
   rw[if_pos ⟨trivial,h1,h2⟩]
   by_cases J:l=0
   .simp_all
   .rw[if_neg J]
    by_cases I:l<rows.length
    .simp_all
    .rw[if_neg I]
     have K:(rows.drop l).take (u-l)=[]:=by rw[List.drop_eq_nil_of_le (by omega)];simp
     rw[K];exact⟨_,rfl,.bC _⟩
end
end Go.AI
namespace Go.AI
section
variable {P:Program}{w:Wd}{h h1:AHeap}{ρ:Type}
theorem JU{v:SV}{x:AV}{n:Int}{d:Nat}(hx:RV P w v x)(hv:AD v=some n)(h0:0<=n):ep (some x) d=some n.toNat:=by
 unfold AD at hv
 split at hv
 .rename_i kd _;cases hx;cases hv;exact n0 (kd:=kd) h0
 .cases hv
theorem Sp{S:ad}(hs:af P w S.ob S.nx h){t:TypeId}{a:SV}{x:AV}{J hi:Option SV}{z C:Option AV}{k:SV->ad->Option ρ}{r:ρ}(hx:RV P w a x)
 (O:∀v,J=some v->∃y,z=some y/\RV P w v y)(G:J=none->z=none)(Q:∀v,hi=some v->∃y,C=some y/\RV P w v y)(I:hi=none->C=none)
 (hr:yU P S t a J hi none k=some r):
 ∃F ob,af P (w.more F) ob S.nx h/\fF S.ob ob/\(∀o,F o->Ow w S.ob o)/\∃v y,k v {S with ob:=ob}=some r/\fV P t x z C none=some y/\RV P (w.more F) v y:=by
 unfold yU at hr
 split at hr
 .cases hr
 .rename_i l hl
  split at hr
  .cases hr
  .rename_i u hu
   have hL:0<=l->ep z 0=some l.toNat:=by intro h0;cases J with|none=>rw[G rfl];cases hl;rfl|some v=>grind[JU,h0]
   have K:∀d:Nat,(hi=none->u=d)->0<=u->ep C d=some u.toNat:=by intro d hd h0;cases hi with|none=>rw[I rfl,hd rfl];simp[ep]|some v=>grind[JU,h0]
   split at hr
   .cases hr
   split at hr
   .rename_i e t' rows i
    split at hr
    .rename_i p;obtain⟨p,m⟩:=p;subst p;obtain⟨q1,q2,q3,D⟩:=KV hr;cases hx with|dl hd=>obtain⟨y,e1,e2⟩:=hd.slice i m (hL q1) (K rows.length (λe=>by subst e;simpa[l8]using hu.symm) (by omega)) (by omega) (by omega);exact⟨λ_=>False,S.ob,by rw[Wd.i6];exact hs,.refl _,λ_ f=>f.elim,_,y,D,e1,by rw[Wd.i6];exact .dl e2⟩
    .cases hr
   .rename_i e j i
    split at hr
    .rename_i t' rows aM hb
     split at hr
     .rename_i p;obtain⟨p,m⟩:=p;subst p;obtain⟨q1,q2,q3,D⟩:=KV hr;obtain⟨F,p1,p2,N,p3,R⟩:=lR hs [.own j];have hd:=p3 j (by simp) _ _ _ _ (.inl hb) hx;obtain⟨y,e1,e2⟩:=hd.slice i m (hL q1) (K rows.length (λe=>by simp_all[l8]) (by omega)) (by omega) (by omega);exact⟨F,_,p1,p2,N,_,y,D,e1,.dl e2⟩
     .cases hr
    .rename_i t' rows aM hb
     split at hr
     .split at hr
      .rename_i p;obtain⟨p,m⟩:=p;subst p
       cases hl
       rcases sS hr with⟨hd,hr⟩|⟨_,hr⟩
       .simp only[decide_eq_true_eq]at hd
        have hlen:=LZ hs hx hb
        have e2:=K rows.length (λe=>by simp_all[l8]) (by omega)
        have e1:=hL (Int.le_refl _)
        obtain⟨sz,hz⟩:=Option.isSome_iff_exists.1 m
        obtain⟨M,_,_,L⟩:=hs.tr _ _ _ _ hb
        refine⟨λ_=>False,S.ob,by rw[Wd.i6];exact hs,.refl _,λ_ f=>f.elim,?_⟩
        rw[Wd.i6]
        cases hx with
        |ck q=>
         rcases L with⟨_,rfl⟩|⟨o,ver,mv,c,ex,sh,n,E,_⟩
         .obtain rfl:u=0:=by grind
          refine⟨_,.sc (.slice none 0 0),hr,?_,.mY q rfl⟩;simp only[List.length_nil]at e2;unfold fV;grind
         grind|bX q=>rcases L with⟨E,_⟩|⟨o,ver,mv,c,ex,sh,n,E,_⟩
                     .grind
                     .rw[q]at E;simp only[Option.some.injEq,Lk.sl.injEq]at E;obtain⟨rfl,rfl,rfl,rfl,rfl,rfl⟩:=E;refine⟨_,_,hr,?_,.nw q (by omega)⟩;rw[hz]at M;cases M;unfold fV;grind
       .cases hr
      .cases hr
     .cases hr
    .cases hr
   .rename_i s i;obtain⟨q1,q2,q3,D⟩:=U6 hr;cases hx;exact⟨λ_=>False,S.ob,by rw[Wd.i6];exact hs,.refl _,λ_ f=>f.elim,_,_,D,RW i (hL q1) (K s.size (λe=>by subst e;simpa[l8]using hu.symm) (by omega)) ⟨by omega,by omega⟩,by rw[Wd.i6];exact .sc rfl⟩
   .cases hr
end
end Go.AI
end

section
namespace Go.AI
section
variable {P:Program}{w:Wd}{h h1:AHeap}{ρ:Type}
theorem Tv{s d:TypeId}{ks kd k:IntKind}{n:Int}(hs:P.underlying s=some (.int ks))(hd:P.underlying d=some (.int kd))(hp:AHeap):fU P hp s d (.sc (.int k n))=some (.sc (.int kd (kd.wrap n)),hp):=by
 have e:bp P (convert s d (.int k n))=some (.int kd (kd.wrap n)):=by unfold convert;rw[cT,jb hs];simp only[Option.bind_some];rw[cT,jb hd];rfl
 unfold fU;simp only[hs,hd,du,dM,e];rfl
theorem Tw{s d:TypeId}{v:ByteArray}(hs:P.underlying s=some .string)(hd:P.underlying d=some .string)(hp:AHeap):fU P hp s d (.sc (.string v))=some (.sc (.string v),hp):=by
 have e:bp P (convert s d (.string v))=some (.string v):=by unfold convert;rw[cT,jb hs];simp only[Option.bind_some];rw[cT,jb hd];rfl
 unfold fU;simp only[hs,hd,du,dM,e];rfl
theorem ak.dn{cs new:List SV}{xs ys:List AV}(hc:ak P w cs xs)(hn:ak P w new ys)(off:Nat):ak P w (ot cs off new) (dn xs off ys):=by unfold ot AI.dn;rw[hn.length];exact(hc.take off).append (hn.append (hc.drop _))
theorem HX:∀{a b:List SV},cn a=true->cn b=true->cn (a++b)=true|[],_,_,h=>h|x::xs,b,h,h'=>by simp_all[aZ,List.cons_append,HX,cn]
theorem Di:∀{a:List SV},cn a=true↔∀x,x∈a->mo x=true|[]=>by simp[cn]|x::xs=>by simp[cn,Di (a:=xs)]
theorem Tx{a b:List SV}(h:cn a=true)(hs:∀x,x∈b->x∈a):cn b=true:=Di.2 λx hx=>Di.1 h x (hs x hx)
theorem Rw{cs new:List SV}(off:Nat)(h:cn cs=true)(h':cn new=true):cn (ot cs off new)=true:=by grind[HX,Tx,List.mem_of_mem_take,List.mem_of_mem_drop,ot]
theorem Ed{v:SV}(h:cn (bc v)=true):v≠.aA:=by rintro rfl;simp[bc,cn,mo]at h
def pA(P:Program)(w:Wd):List (Nat×SV)->List (Nat×AV)->Prop|[],[]=>True|(i,v)::ps,(j,x)::qs=>i=j/\RV P w v x/\pA P w ps qs|_,_=>False
theorem pA.map{e:Operand->SV}{ρ':Operand->AV}:∀(l:List (Nat×Operand)),(∀x,x∈l.map (·.2)->RV P w (e x) (ρ' x))->pA P w (l.map λ(i,x)=>(i,e x)) (l.map λ(i,x)=>(i,ρ' x))|[],_=>trivial|(i,x)::l,h=>⟨rfl,h x (by simp),pA.map l λy hy=>h y (by grind)⟩
theorem yA{place:Nat->Option (Nat×Nat)}:∀{ps:List (Nat×SV)}{qs:List (Nat×AV)}{cs aH:List SV}{xs:List AV},pA P w ps qs->ak P w cs xs->jM place cs ps=some aH->∃o,iI place xs qs=some o/\ak P w aH o
 |[],[],cs,aH,xs,_,hc,he=>by simp only[jM,an]at he;subst he;exact⟨xs,rfl,hc⟩
 |(i,v)::ps,(j,x)::qs,cs,aH,xs,hp,hc,he=>by
  obtain⟨rfl,hv,hp⟩:=hp
  simp only[jM]at he
  split at he
  .cases he
  .rename_i off size p
   split at he
   .rename_i m;have c:=oc hv (Ed m.2.2);obtain⟨o,e1,e2⟩:=yA hp (hc.dn c off) he;refine⟨o,?_,e2⟩;simp only[iI,p];rw[if_pos ⟨by rw[<-c.length];exact m.1,by rw[<-c.length,<-hc.length,m.1];grind,c.cells m.2.2⟩];exact e1
   .cases he|[],_::_,_,_,_,hp,_,_=>hp.elim|_::_,[],_,_,_,hp,_,_=>hp.elim
theorem uC(z:Value):ak P w (bc (fL z)) (aO (bh z)):=by refine oc (vi z) ?_;cases z with|func fn a c=>cases fn<;>simp[fL]<;>split<;>simp|_=>simp[fL]
theorem Tz{t:TypeId}{ps:List (Nat×SV)}{qs:List (Nat×AV)}{v:SV}(hp:pA P w ps qs)(he:D7 P t ps=some v):∃y,s7 P t qs=some y/\RV P w v y:=by
 unfold D7 at he
 split at he
 .rename_i it c hi hu
  split at he
  .rename_i z places hz j;cases hf:jM (λi=>places[i]?) (bc (fL z)) ps with|none=>grind|some cs=>rw[hf]at he;simp only[Option.map_some,an]at he;subst he;obtain⟨xs,e1,e2⟩:=yA hp (uC z) hf;refine⟨.agg xs,?_,.agg e2⟩;simp only[s7,hi,hu,hz,j,e1];rfl
  .cases he
 .rename_i it n e hi hu
  split at he
  .rename_i z o hz m;cases hf:jM (λi=>some (i*o.size,o.size)) (bc (fL z)) ps with|none=>grind|some cs=>rw[hf]at he;simp only[Option.map_some,an]at he;subst he;obtain⟨xs,e1,e2⟩:=yA hp (uC z) hf;refine⟨.agg xs,?_,.agg e2⟩;simp only[s7,hi,hu,hz,m,e1];rfl
  .cases he
 .cases he
theorem QX(s:ByteArray):iC (cw s)=some s.data.toList:=by unfold cw;induction s.data.toList with|nil=>rfl|cons b bs ih=>simp only[List.map_cons,iC,ih,Option.map_some];simp_all
theorem I8{ob:Tr ai}{nx:Nat}(hs:af P w ob nx h){i:Nat}{s:ByteArray}{l:TypeId}{x:AV}(hb:ob.get i=some (.ba s l))(hx:RV P w (.own i) x)(ha:kY h h1 x):eK x=some s.size/\lg x=true/\fh h1 1 s.size x=some (cw s):=by
 obtain⟨q1,q2⟩:=(KU hs hx).2 s l hb
 refine⟨q1,q2,?_⟩
 have hlen:(cw s).length=s.size:=by simp[cw]
 cases hx with
 |ck e1=>
  rcases(hs.ba _ _ _ hb).2 with⟨_,q⟩|⟨o,ver,mv,ex,fz,cap,_,q,_⟩
  .simp_all[if_true,List.eq_nil_of_length_eq_zero,fh,cw]
  grind
 |bX e1=>
  rcases(hs.ba _ _ _ hb).2 with⟨q,_⟩|⟨o,ver,mv,ex,fz,cap,_,q,_,hg,hm,_⟩
  .grind
  .rw[e1]at q;simp only[an,Lk.sl.injEq]at q
   obtain⟨rfl,rfl,rfl,rfl,rfl,rfl⟩:=q
   rename_i o ver cap _ _ _
   have c:h1.get o=some (.cells ver mv (cw s) fz l ex false):=by rw[ha o (by simp[gd])];exact hg
   simp_all[if_pos,trivial,ao,List.drop_zero,Nat.mul_one,List.take_of_length_le,fh,cz]
theorem TA{ob:Tr ai}{nx:Nat}(hs:af P w ob nx h){i:Nat}{s:ByteArray}{l:TypeId}{x:AV}{src dst e:TypeId}(hb:ob.get i=some (.ba s l))(hx:RV P w (.own i) x)(ha:kY h h1 x)
 (hu:P.underlying src=some (.slice e))(he:isByte P e=true)(hd:P.underlying dst=some .string):fU P h1 src dst x=some (.sc (.string s),h1):=by
 obtain⟨q1,q2,q3⟩:=I8 hs hb hx ha
 have c:P.underlying e=some (.int .u8):=by
  unfold isByte at he
  split at he
  .assumption
  .cases he
 simp_all[QX,Option.map_some,fU]
theorem JV{ob:Tr ai}{nx:Nat}(hs:af P w ob nx h){i off:Nat}{t' t u:TypeId}{cs:List SV}{x:AV}{src dst:TypeId}(hb:ob.get i=some (.box t' cs))(hx:RV P w (.ref i off) x)(ha:kY h h1 x)(hl:off+1<=cs.length){n:Nat}:
 (P.underlying src=some (.pointer t)->P.underlying dst=some .unsafePointer->bj P t=some (n+1)->fU P h1 src dst x=some (x,h1))/\
 (P.underlying src=some .unsafePointer->P.underlying dst=some (.pointer u)->bj P u=some (n+1)->liesAt P P.depth t' (cs.length/P.cellsOf t') off u 1=true->fU P h1 src dst x=some (x,h1)):=by
 obtain⟨o,c,sh,e1,e2,e3,_,_⟩:=hs.box i t' cs hb
 cases hx with
 |ref e=>
  rw[e1]at e
  simp only[an,Lk.box.injEq]at e
  obtain⟨rfl,rfl⟩:=e
  have j:h1.get o=some (.cells 0 0 c 0 t' true sh):=by rw[ha o (by simp[gd])];exact e2
  have q:off+1<=c.length:=by rw[<-e3.length];exact hl
  have m:cz h1 o 0 c.length off 1=some ((c.drop off).take 1):=by simp only[cz,j];grind
  constructor
  .simp_all[fU]
  .intro hs hd hz p;unfold fU;simp only[hs,hd,hz,m,j];rw[e3.length]at p;grind
variable {A:cQ}{R:dg A.pn}{kp:TypeId->List AV->ad->Option ρ}
theorem Sr{ob:Tr ai}{F:Nat->Prop}{vs:List SV}{v:SV}(hv:v∈vs)(h3:∀i,SV.own i∈vs->∀t rows l x,iR ob i t rows l->RV P w (.own i) x->Rd P (w.more F) t rows x)
 {l:Lf}{c x:AV}(hc:cellOf P ob l v=some c)(hx:RV P w v x):jw P (w.more F) l c x:=by
 unfold cellOf at hc
 split at hc
 .split at hc
  .rename_i e;subst e;cases hc;cases hx;exact .int _ _
  .cases hc
 .cases hc;cases hx;exact .bool _
 .cases hc;cases hx;exact .str _
 .split at hc
  .rename_i e;subst e;cases hz:bj P _ with|none=>rw[hz]at hc;cases hc|some sz=>rw[hz]at hc;cases hc;cases hx with|dl hr=>exact .sl (hr.mono (aK.more _ _))
  .cases hc
 .rename_i t;cases hz:bj P t with|none=>grind|some sz=>rw[hz]at hc;cases hc;cases hx;exact .sl (.nil t)
 .rename_i t i
  split at hc
  .rename_i t' r l hb
   split at hc
   .rename_i e;subst e;cases hz:bj P t with|none=>grind|some sz=>rw[hz]at hc;cases hc;exact .sl (h3 i hv _ _ _ _ (.inl hb) hx)
   .cases hc
  .cases hc
 .cases hc
theorem uJ{ob:Tr ai}{F:Nat->Prop}{us:List SV}(h3:∀i,SV.own i∈us->∀t rows l x,iR ob i t rows l->RV P w (.own i) x->Rd P (w.more F) t rows x):
 ∀{ls:List Lf}{vs:List SV}{xs row:List AV},(∀v,v∈vs->v∈us)->rowOf P ob ls vs=some row->ak P w vs xs->bR P (w.more F) ls row xs
 |[],[],_,row,_,hr,.nil=>by simp only[rowOf,an]at hr;subst hr;exact .nil
 |l::ls,v::vs,_,row,hm,hr,.cons a b=>by
  simp only[rowOf]at hr
  split at hr
  .rename_i c cs h1 h2;cases hr;exact .cons (Sr (hm v (by simp)) h3 h1 a) (uJ h3 (λu hu=>hm u (by simp[hu])) h2 b)
  .cases hr|[],_::_,_,_,_,hr,_=>by simp[rowOf]at hr|_::_,[],_,_,_,hr,_=>by simp[rowOf]at hr
theorem CP{ob:Tr ai}{F:Nat->Prop}{us:List SV}(h3:∀i,SV.own i∈us->∀t rows l x,iR ob i t rows l->RV P w (.own i) x->Rd P (w.more F) t rows x){ls:List Lf}{s:Nat}:
 ∀{n:Nat}{vs:List SV}{xs:List AV}{rows:List (List AV)},(∀v,v∈vs->v∈us)->rowsOf P ob ls s n vs=some rows->ak P w vs xs->bG P (w.more F) ls rows (chunks s n xs)/\rows.length=n
 |0,vs,xs,rows,_,hr,_=>by simp only[rowsOf,an]at hr;subst hr;exact⟨.nil _,rfl⟩
 |n+1,vs,xs,rows,hm,hr,hx=>by
  simp only[rowsOf]at hr
  split at hr
  .rename_i r rs h1 h2;cases hr;obtain⟨q1,q2⟩:=CP h3 (λv hv=>hm v (List.mem_of_mem_drop hv)) h2 (hx.drop s);exact⟨.cons (uJ h3 (λv hv=>hm v (List.mem_of_mem_take hv)) h1 (hx.take s)) q1,by simp[q2]⟩
  .cases hr
theorem U7{el t:TypeId}{len:Nat}{cs:List SV}{xs:List AV}{n:Int}{kd:IntKind}{k:SV->Option ρ}{r:ρ}(hx:ak P w cs xs)(hu:P.underlying t=some (.array len el))(hr:Fl P el len cs n k=some r):
 ∃v y,k v=some r/\qX P t (.agg xs) (.sc (.int kd n))=some y/\RV P w v y:=by
 unfold Fl at hr
 split at hr
 case h_2=>cases hr
 rename_i s g hz hg
 split at hr
 case h_2=>cases hr
 rename_i rows m j
 have hs:=Nat.eq_of_beq_eq_true m
 obtain⟨h0,row,c,hr⟩:=DI hr
 obtain⟨q1,q2⟩:=CP (w:=w) (F:=λ_=>False) (us:=cs) (λi _ t rows l x e=>by rcases e with e|e<;>cases e) (λv hv=>hv) j hx
 rw[Wd.i6]at q1
 obtain⟨dz,e1,e2⟩:=q1.get _ _ c
 have o:n.toNat<len:=by rw[<-q2];exact xI c
 rw[qq _ _ _ o]at e1
 cases e1
 have p:qX P t (.agg xs) (.sc (.int kd n))=apart P el xs (n.toNat*s):=by simp only[qX,hu,n0 h0,hz];grind
 rw[p]
 split at hr
 .exact⟨_,_,hr,by simp only[apart,hg,hz],.agg (xZ e2)⟩
 .split at hr
  .rename_i l hl
   rw[hl]at e2
   have u:=e2.length.2
   cases hd:(xs.drop (n.toNat*s)).take s with
   |nil=>grind
   |cons y E=>
    rw[hd]at e2
    cases e2 with
    |cons a b=>
     cases b
     have q:(xs.drop (n.toNat*s)).head?=some y:=by cases C:xs.drop (n.toNat*s)with|nil=>grind|cons z D=>grind
     grind[u0,apart]
  .cases hr
theorem DJ{t e:TypeId}(h:lj P t=some e):∃c s z,P.underlying t=some (.map c e)/\P.underlying c=some .string/\bj P e=some s/\dN P e=some z/\s=(lay P e).length/\(aO z).length=s:=by
 unfold lj at h
 split at h
 .rename_i c i hu
  split at h
  .rename_i s z hk hs hz
   split at h
   .simp_all
   .cases h
  .cases h
 .cases h
theorem U8{ob:Tr ai}{nx:Nat}(hs:af P w ob nx h){t:TypeId}{v:SV}{y:AV}{rows:List (List AV)}(hd:ni ob t v=some rows)(hv:RV P w v y):
 ∃e o es cl,lj P t=some e/\y=.map o/\h.get o=some (.map es cl)/\sd P w e rows es cl:=by
 unfold ni at hd
 split at hd
 .split at hd
  .rename_i e;subst e;cases hd;cases hv with|md q=>cases q with|mk a b c d=>exact⟨_,_,_,_,a,rfl,by rw[<-hs.g];exact c,d⟩
  .cases hd
 .rename_i i
  split at hd
  .rename_i t' r l hb
   split at hd
   .rename_i e;subst e;cases hd;obtain⟨e,o,es,cl,q1,q2,q3,j,_⟩:=hs.mp _ _ _ _ hb;cases hv with|om q=>grind
   .cases hd
  .cases hd
 .cases hd
theorem KW{e:TypeId}(s:ByteArray):∀{rows:List (List AV)}{es:List (AV×AV×Nat)}(j:Nat),jq P w e rows es->(dy rows s=none->gJ (.string s) es j=some none)/\∀r,dy rows s=some r->∃i v c r',gJ (.string s) es j=some (some (i,v,c))/\bR P w (lay P e) (r.drop 1) r'/\((dG P e=some true/\v=.agg r')\/(dG P e=some false/\r'=[v]))|_,_,j,.nil=>⟨λ_=>rfl,λr h=>by cases h⟩|_,_,j,.cons (s:=q) (r:=m) (r':=o) (v:=v) (c:=c) (rows:=rows) (es:=es) h1 h2 h3=>by have ih:=KW s (j+1) h3;have e1:gJ (.string s) ((.sc (.string q),v,c)::es) j=match some (s==q)with|some true=>some (some (j,v,c))|some false=>gJ (.string s) es (j+1)|none=>none:=rfl;have e2:dy ((.sc (.string q)::m)::rows) s=match s==q with|true=>some (.sc (.string q)::m)|false=>dy rows s:=rfl;grind
theorem U9{e:TypeId}{r r':List AV}{v:AV}{x:SV}(h1:bR P w (lay P e) r r')(h2:(dG P e=some true/\v=.agg r')\/(dG P e=some false/\r'=[v]))(hx:AB P e r=some x):RV P w x v:=by
 unfold AB at hx
 split at hx
 .rename_i hg
  cases hx
  rcases h2 with⟨_,rfl⟩|⟨q,_⟩
  .exact .agg (xZ h1)
  grind
 .rename_i l hg hl
  cases hx
  rcases h2 with⟨q,_⟩|⟨_,rfl⟩
  .grind
  .rw[hl]at h1;cases h1 with|cons a b=>cases b;exact u0 (by simp) a
 .cases hx
theorem look_ok{S:ad}{ρ:Type}(hs:af P w S.ob S.nx h){t:TypeId}{x i:SV}{y z:AV}{ok:Bool}{k:SV->Option ρ}{r:ρ}(hx:RV P w x y)(hi:RV P w i z)(ha:kY h h1 y)(hr:zK P S t x i ok k=some r):
 ∃v u,k v=some r/\sO P h1 t y z ok=some u/\RV P w v u:=by
 unfold zK at hr
 split at hr
 .rename_i e rows s hm hd
  obtain⟨O,o,es,cl,q1,rfl,q3,D⟩:=U8 hs hd hx
  rw[hm]at q1;cases q1
  cases hi
  obtain⟨M,_,_,L,K,_,J,_⟩:=DJ hm
  split at hr
  .rename_i I hz
   unfold M1 at hz
   split at hz
   .rename_i it hit
    cases p:it.zero with
    |none=>grind
    |some m=>
     rw[p]at hz;cases hz
     have E:dN P e=some (bh m):=by simp only[dN,hit,p,Option.map_some]
     have hl:qY h1 (.string s) (.map o)=gJ (.string s) es 0:=by unfold qY;simp only[ha o (by simp[gd]),q3]
     unfold et at hr
     obtain⟨N,G⟩:=KW s 0 D.en
     split at hr
     .rename_i row j
      obtain⟨i,v,c,r',g1,g2,F⟩:=G row j
      cases C:AB P e (row.drop 1)with
      |none=>grind
      |some x'=>
       simp only[C]at hr
       have q:=U9 g2 F C
       refine⟨_,if ok then .tuple [v,.sc (.bool true)]else v,hr,?_,?_⟩
       .simp_all[sO,eQ]
       .cases ok with|true=>exact .bl (.cons q (.cons (.sc rfl) .nil))|false=>exact q
     .rename_i j
      refine⟨_,if ok then .tuple [bh m,.sc (.bool false)]else bh m,hr,?_,?_⟩
      .simp_all[sO,eQ]
      .cases ok with|true=>exact .bl (.cons (vi m) (.cons (.sc rfl) .nil))|false=>exact vi m
   .cases hz
  .cases hr
 .cases hr
theorem HM:∀(a b:List SV),dw (a++b)=dw a++dw b|[],_=>rfl|v::a,b=>by simp only[List.cons_append,dw,HM a b,List.append_assoc]
theorem HY:∀(a b:List SV),eE (a++b)=(eE a&&eE b)|[],_=>rfl|v::a,b=>by simp only[List.cons_append,eE,HY a b,Bool.and_assoc]
theorem HZ(r:List AV):∀(ls:List Lf)(j:Nat),dw (fB r ls j)=[]|[],_=>rfl|l::ls,j=>by cases l<;>simp[fB,gU,dw,wu,HZ r ls]
theorem Im(r:List AV):∀(ls:List Lf)(j:Nat),eE (fB r ls j)=true|[],_=>rfl|l::ls,j=>by cases l<;>simp[fB,gU,eE,gi,Im r ls]
theorem Rl.head{t:TypeId}{r:List AV}{rest:List (List AV)}{x:AV}(hl:Rl P w t (r::rest) x):RV P w (.pb t (fB r (lay P t).dropLast 0++[.ls t rest]) 0) x:=by
 cases hl with
 |cons a b c d e f g i=>
  have hlen:(fB r (lay P t).dropLast 0++[SV.ls t rest]).length=(lay P t).dropLast.length+1:=by simp only[List.length_append,I1,kx,List.length_nil]
  refine .pb a b c (by grind) (by grind) ?_ ?_ ?_
  .rw[HM,HZ];rfl
  .rw[HY,Im];rfl
  .rw[hlen,List.take_succ,g];exact(xZ f).append (.cons (.ls i) .nil)
theorem JW{S:ad}(hs:af P w S.ob S.nx h){o:Oper}{ρ':Operand->AV}(p:∀x,x∈o.op.operands.toList->RV P w (bw S.tm x) (ρ' x))(O:iF o.op=true->∀x,x∈o.op.operands.toList->kY h h1 (ρ' x))
 (hF:bN o.op=true){k:SV->ad->Option ρ}{r:ρ}(hr:gX P A R kp o S k=some r):EV P w h h1 S k r (aJ P ρ' o h1):=by
 have rd:∀x,x∈o.op.operands.toList->∃v y,bw S.tm x=v/\ρ' x=y/\RV P w v y:=λx hx=>⟨_,_,rfl,rfl,p x hx⟩
 have ag:iF o.op=true->∀x,x∈o.op.operands.toList->∀y,ρ' x=y->kY h h1 y:=λh1 x hx y e=>by grind
 unfold gX at hr
 simp only at hr
 split at hr
 case h_1=>simp_all[bN]
 case h_2=>simp_all[bN]
 case h_3=>
  rename_i t parts j
  split at hr
  .rename_i v hv;obtain⟨y,e1,e2⟩:=Tz (P:=P) (w:=w) (pA.map (e:=bw S.tm) (ρ':=ρ') parts.toList λx hx=>p x (by rw[j];simpa[Op.operands]using hx)) hv;exact .one hs hr (by simp only[aJ,j];rw[e1];rfl) e2
  .cases hr
 case h_4=>simp_all[bN]
 case h_5=>rename_i t a j;obtain⟨v,y,e1,e2,e3⟩:=KR (h1:=h1) hs (p a (by rw[j];simp[Op.operands])) (O (by rw[j];rfl) a (by rw[j];simp[Op.operands])) hr;exact .one hs e1 (by simp only[aJ,j];rw[e2];rfl) e3
 case h_6=>simp_all[bN]
 case h_7=>
  rename_i x j
  obtain⟨v,y,ev,C,hv⟩:=rd x (by rw[j];simp[Op.operands])
  rw[ev]at hr
  split at hr
  .cases hv with|ref q=>exact .one hs hr (by simp only[aJ,j,C]) (.ref q)
  .cases hv with|cV q q2=>exact .one hs hr (by simp only[aJ,j,C]) (.cV q q2)
  .cases hv with|cI q=>cases q with|cr q=>exact .one hs hr (by simp only[aJ,j,C]) (.cI (.cr q))|ref a b c d e f g=>exact .one hs hr (by simp only[aJ,j,C]) (.cI (.ref a b c d e f g))
  .cases hv with|fn q=>exact .one hs hr (by simp only[aJ,j,C]) (.fn q)|fp=>exact .one hs hr (by simp only[aJ,j,C]) .fp
  .rcases sS hr with⟨rfl,hr⟩|⟨_,hr⟩
   .cases hv with|fJ q _=>cases q with|ref q=>exact .one hs hr (by simp only[aJ,j,C]) (.ref q)
   .cases hr
  .cases hv with|pb a b c d e f g i=>exact .one hs hr (by simp only[aJ,j,C]) (.pb a b c d e f g i)
  .rename_i t rows;cases rows with|nil=>cases hr|cons r0 rest=>cases hv with|ls hl=>have hp:=hl.head;cases hl with|cons _ _ _ _ _ _ _ _=>exact .one hs hr (by simp only[aJ,j,C]) hp
  .cases hr
 case h_8=>rename_i op t x y t' j;obtain⟨v,e0,e1,e2⟩:=U4 (xo:=x) (yo:=y) (p x (by rw[j];simp[Op.operands])) (p y (by rw[j];simp[Op.operands])) hr;exact .one hs e1 (by simp only[aJ,j];rw[e2];rfl) (.sc e0)
 case h_9=>
  rename_i op t x j
  obtain⟨v,y,ev,C,hv⟩:=rd x (by rw[j];simp[Op.operands])
  rw[ev]at hr
  split at hr
  .cases hv;exact .one hs hr (by simp only[aJ,j,C];rfl) (.sc rfl)
  .cases hv;exact .one hs hr (by simp only[aJ,j,C];rfl) (.sc rfl)
  .cases hr
 case h_10=>
  rename_i s d x j
  obtain⟨v,y,ev,C,hv⟩:=rd x (by rw[j];simp[Op.operands])
  have ha:=ag (by rw[j];rfl) x (by rw[j];simp[Op.operands]) y C
  rw[ev]at hr
  split at hr
  .cases hv
   split at hr
   .rename_i E D;exact .one hs hr (by simp_all[Tv,aJ]) (.sc rfl)
   .cases hr
  .cases hv
   split at hr
   .rename_i E D;exact .one hs hr (by simp_all[Tw,aJ]) (.sc rfl)
   .cases hr
  .cases hv
   split at hr
   .rename_i E D;exact .one hs hr (by simp_all[aJ,fU]) (.sc rfl)
   .rename_i E D;exact .one hs hr (by simp_all[aJ,fU]) (.sc rfl)
   .rename_i E D;exact .one hs hr (by simp_all[aJ,fU]) (.sc rfl)
   .cases hr
  .split at hr
   .rename_i t' cs t hb E D
    split at hr
    .rename_i n hz
     split at hr
     .rename_i hl;have:=(JV (t:=t) (u:=t) hs hb hv ha hl (n:=n) (src:=s) (dst:=d)).1 E D hz;exact .one hs hr (by simp only[aJ,j,C];grind) hv
     .cases hr
    .cases hr
   .rename_i t' cs u hb E D
    split at hr
    .rename_i n hz
     split at hr
     .rename_i hl
      split at hr
      .rename_i V;have:=(JV (t:=u) (u:=u) hs hb hv ha hl (n:=n) (src:=s) (dst:=d)).2 E D hz V;exact .one hs hr (by simp only[aJ,j,C];grind) hv
      .cases hr
     .cases hr
    .cases hr
   .cases hr
  .split at hr
   .rename_i e b l E D hb
    split at hr
    .rename_i Z;exact .one hs hr (by simp only[aJ,j,C];rw[TA hs hb hv ha E Z D];rfl) (.sc rfl)
    .cases hr
   .cases hr
  .cases hr
 case h_11=>
  rename_i t x j
  obtain⟨v,y,ev,C,hv⟩:=rd x (by rw[j];simp[Op.operands])
  rw[ev]at hr
  split at hr
  .cases hr
  .rename_i d hu hd;refine .one hs hr ?_ (.dB hv);simp_all[an,aJ]
  .cases hr
 case h_12=>
  rename_i fn first caps j
  split at hr
  .rename_i f hf;refine .one hs hr (by simp only[aJ,j,hf];rfl) (.fn ?_);simp_all[ak.map,Op.operands]
  .cases hr
 case h_13=>
  rename_i t x T hi mx j
  cases mx with
  |some m=>exfalso;simp only[yU,tK]at hr;grind
  |none=>
   have U:∀v,tK S T=some v->∃y,T.map ρ'=some y/\RV P w v y:=by intro v e;cases T with|none=>cases e|some l=>cases e;simp_all[Op.operands]
   have Y:∀v,tK S hi=some v->∃y,hi.map ρ'=some y/\RV P w v y:=by intro v e;cases hi with|none=>cases e|some l=>cases e;simp_all[Op.operands]
   obtain⟨F,ob,q1,q2,q6,v,y,q3,q4,q5⟩:=Sp hs (p x (by rw[j];simp[Op.operands])) U (by intro e;cases T<;>first|rfl|cases e) Y (by intro e;cases hi<;>first|rfl|cases e) hr;exact⟨F,ob,q1,q2,q6,v,y,q3,by simp only[aJ,j,Option.map_none];rw[q4];rfl,q5⟩
 case h_14=>
  rename_i t x f j
  split at hr
  .rename_i v hv;obtain⟨y,e1,e2⟩:=Rg (p x (by rw[j];simp[Op.operands])) hv;exact .one hs hr (by simp only[aJ,j];rw[e1];rfl) e2
  .cases hr
 case h_15=>
  rename_i t x f j
  split at hr
  .rename_i v hv;obtain⟨y,e1,e2⟩:=To (p x (by rw[j];simp[Op.operands])) hv;exact .one hs hr (by simp only[aJ,j];rw[e1];rfl) e2
  .cases hr
 case h_16=>rename_i t x i j;obtain⟨v,z,e1,e2,e3⟩:=Rh hs (p x (by rw[j];simp[Op.operands])) (p i (by rw[j];simp[Op.operands])) hr;exact .one hs e1 (by simp only[aJ,j];rw[e2];rfl) e3
 case h_17=>
  rename_i t x i j
  obtain⟨v,y,ev,C,hv⟩:=rd x (by rw[j];simp[Op.operands])
  obtain⟨v2,y2,ev2,Q,K⟩:=rd i (by rw[j];simp[Op.operands])
  rw[ev,ev2]at hr
  split at hr
  .rename_i s kd n hu
   cases hv;cases K
   unfold ig at hr
   split at hr
   .rename_i hn
    split at hr
    .rename_i b hb;refine .one hs hr ?_ (.sc rfl);simp only[aJ,j,C,Q,qX,hu,n0 (show 0<=n by grind),hb];rfl
    .cases hr
   .cases hr
  .rename_i len el cs kd n hu;cases hv with|agg hv=>cases K;obtain⟨v3,y3,r1,r2,r3⟩:=U7 (t:=t) (kd:=kd) hv hu hr;refine .one hs r1 ?_ r3;simp only[aJ,j,C,Q,r2];rfl
  .cases hr
 case h_18=>
  rename_i t i j
  obtain⟨v,y,ev,C,hv⟩:=rd t (by rw[j];simp[Op.operands])
  rw[ev]at hr
  split at hr
  .rename_i vs
   cases hv with
   |bl hq=>
    split at hr
    .rename_i v2 K;obtain⟨x2,e1,e2⟩:=hq.get _ _ K;exact .one hs hr (by simp only[aJ,j,C,e1];rfl) e2
    .cases hr
  .cases hr
 case h_19=>
  rename_i c j
  obtain⟨callee,args,ats⟩:=c
  cases callee with
  |invoke x m=>cases hr
  |value f=>rw[j]at hF;cases hF
  |builtin b=>
   simp only at hr
   have G:∀a,a∈args.toList->RV P w (bw S.tm a) (ρ' a):=λa ha=>p a (by simp_all[Op.operands,Call.operands])
   have I:∀x,args.toList.map (bw S.tm)=[x]->∃a,args.toList=[a]/\bw S.tm a=x:=by intro x hl;cases h0:args.toList with|nil=>grind|cons a l=>simp_all
   unfold xS at hr
   split at hr
   .rw[j]at hF;cases hF
   .rename_i x hl
    obtain⟨a,ha,hx⟩:=I x hl
    obtain⟨y,hy⟩:∃y,ρ' a=y:=⟨_,rfl⟩
    have hv:=G a (by grind)
    rw[hx,hy]at hv
    split at hr
    .rename_i n t hn N
     obtain⟨m,rfl,e1,e2⟩:=U5 hs hv hn
     split at hr
     .rename_i e hu J
      refine .one hs hr ?_ (.sc rfl)
      simp only[aJ,j,fE,fe,ha,List.map_cons,List.map_nil,N,rF,hu,hy]
      rcases e2 with e2|⟨s,rfl⟩
      .rw[e2,if_pos rfl,e1];rfl
      .cases hv<;>first|(simp[D8]at J;done)|(simp[l8]at hn;done)|(rename_i hq;cases hq)
     .rename_i hu J
      refine .one hs hr ?_ (.sc rfl)
      simp only[aJ,j,fE,fe,ha,List.map_cons,List.map_nil,N,rF,hu,hy]
      obtain⟨s,rfl⟩:∃s,x=.sc (.string s):=by unfold D8 at J;grind
      cases hv;simp only[eK,an]at e1;subst e1;rfl
     .cases hr
    .cases hr
   .rename_i i hl
    obtain⟨a,ha,hx⟩:=I _ hl
    obtain⟨y,hy⟩:∃y,ρ' a=y:=⟨_,rfl⟩
    have hv:=G a (by grind)
    rw[hx,hy]at hv
    split at hr
    .rename_i s l hb
     rcases sS hr with⟨L,hr⟩|⟨L,hr⟩
     .simp only[decide_eq_true_eq]at L
      cases hv with
      |ck e1=>
       rcases(hs.ba _ _ _ hb).2 with⟨_,q⟩|⟨o,ver,mv,ex,fz,cap,_,q,_⟩
       .omega
       grind
      |bX e1=>
       rcases(hs.ba _ _ _ hb).2 with⟨q,_⟩|⟨o,ver,mv,ex,fz,cap,_,q,_⟩
       .grind
       .have q':=q;rw[e1]at q;simp only[an,Lk.sl.injEq]at q;obtain⟨rfl,rfl,rfl,rfl,rfl,rfl⟩:=q;refine .one hs hr ?_ (.fG q');simp_all[List.map_cons,List.map_nil,if_pos,aJ,fE,fe]
     .simp only[decide_eq_false_iff_not]at L
      cases hv with
      |ck e1=>refine .one hs hr ?_ (.sc rfl);simp only[aJ,j,fE,fe,ha,List.map_cons,List.map_nil,hy]
      |bX e1=>
       rcases(hs.ba _ _ _ hb).2 with⟨q,_⟩|⟨o,ver,mv,ex,fz,cap,q0,q,_⟩
       .grind
       .omega
    .cases hr
   .rename_i hl;obtain⟨a,ha,hx⟩:=I _ hl;obtain⟨y,hy⟩:∃y,ρ' a=y:=⟨_,rfl⟩;have hv:=G a (by grind);rw[hx,hy]at hv;cases hv;refine .one hs hr ?_ (.sc rfl);simp only[aJ,j,fE,fe,ha,List.map_cons,List.map_nil,hy]
   .rw[j]at hF;cases hF
   .rw[j]at hF;cases hF
   .rw[j]at hF;cases hF
   .cases hr
 case h_20=>
  rename_i x t' a ok j
  obtain⟨v,y,ev,C,hv⟩:=rd x (by rw[j];simp[Op.operands])
  rw[ev]at hr
  split at hr
  .cases hr
  .rename_i d t v hn hu
   have has:∀(X:AV),uX P X a ok=(match oH X with|some (t,v)=>if t=a then some (if ok then .tuple [v,.sc (.bool true)]else v)else mT P a ok|none=>match X with|.sc .nilIface=>mT P a ok|_=>none):=by intro X;unfold uX;rw[hu];cases d with|interface m=>grind|_=>rfl
   cases hv with
   |dB q=>
    split at hr
    .rename_i hb;obtain rfl:=Nat.eq_of_beq_eq_true hb;cases ok with|true=>exact .one hs hr (by simp[aJ,j,C,has,oH,val]) (.bl (.cons q (.cons (.sc rfl) .nil)))|false=>exact .one hs hr (by simp[aJ,j,C,has,oH,val]) q
    .rename_i hb
     have hb:=Nat.ne_of_beq_eq_false hb
     split at hr
     .rename_i z hz
      unfold M4 at hz
      split at hz
      .rename_i i hi
       cases M:i.zero with
       |none=>grind
       |some z0=>
        rw[M]at hz;cases hz
        have hzt:dN P a=some (bh z0):=by simp only[dN,hi,M,Option.map_some]
        exact .one hs hr (by simp_all[aJ,oH,val,mT]) (.bl (.cons (vi z0) (.cons (.sc rfl) .nil)))
      .cases hz
     .cases hr
  .cases hr
 case h_21=>simp_all[bN]
 case h_22=>rename_i t x i ok j;obtain⟨v,u,e1,e2,e3⟩:=look_ok (h1:=h1) hs (p x (by rw[j];simp[Op.operands])) (p i (by rw[j];simp[Op.operands])) (O (by rw[j];rfl) x (by rw[j];simp[Op.operands])) hr;exact .one hs e1 (by simp only[aJ,j];rw[e2];rfl) e3
 case h_23=>simp_all[bN]
 grind
end
end Go.AI
end

section
namespace Go.AI
def mG(h:AHeap)(cm:bu)(r:Option (cH×AHeap)):Option (cH×bu×AHeap):=match r with|some (o,h')=>some (o,cm,h.outer h')|none=>none
def i7(P:Program)(R:Rec)(kind:CallKind)(f:FuncId)(args:List AV)(cm:bu)(h:AHeap):Option (cH×bu×AHeap):=
 match P.funcs[f]? with
 |some fn=>
  match fn.body with
  |some code=>match evalCode P R {fn:=f,tn:=max fn.ntmps args.length,kind,round:=none} code {tm:=gC args 0 .leaf,df:=[],cm,h:=h.inner}with|some (.normal,st)=>mG h st.cm (cj P R fn st.tm st.df .ret st.h)|some (.ret,st)=>mG h st.cm (cj P R fn st.tm st.df .ret st.h)|some (.panic v,st)=>mG h st.cm (cj P R fn st.tm st.df (.aE v false) st.h)|_=>none
  |none=>none
 |none=>none
section
variable {P:Program}{R:Rec}{g:Gh}{w:World}{h:AHeap}
theorem Rx{cm cm':bu}{r:Option (cH×AHeap)}{out:cH}{h2:AHeap}(hr:mG h cm r=some (out,cm',h2))(hf:dP h g):cm'=cm/\∃h',r=some (out,h')/\∀(g':Gh)(w':World),Step h.inner g w h' g' w'->W h' g' w'->∃g2,Step h g w h2 g2 w'/\W h2 g2 w'/\g2=g':=by unfold mG at hr;grind[an,aV,xV]
theorem JZ{kind:CallKind}{f:FuncId}{fn:Func}{code:Code}{args:List AV}{cm:bu}{out:cH}{cm':bu}{h2:AHeap}(hP:ProgOK P)(V:cv P R)(hE:mX P R)
 (C:P.funcs[f]?=some fn)(i:fn.body=some code)(hr:i7 P R kind f args cm h=some (out,cm',h2)){vs:List Value}(hw:W h g w)(hf:dP h g)(hv:ay g args vs){cs:List Frame}(hm:fZ g cm cs):
 ∃g2 w' fr aH,Step h g w h2 g2 w'/\W h2 g2 w'/\jo cm cs aH/\(cm=.none->cm'=.none)/\(kind≠.normal->fZ g2 cm' aH)/\Steps P (lone (Frame.enter P f vs.toArray kind) cs w) (lone fr aH w')/\fr.fn=f/\fr.kind=kind/\Left P fn g2 w' fr out:=by
 have o:Frame.enter P f vs.toArray kind=aq {(default:Frame)with fn:=f,kind:=kind} {tmps:=vs.toArray++Array.replicate (fn.ntmps-vs.toArray.size) undef,defers:=[]} [.code code]:=by simp[Frame.enter,aq,C,i];rfl
 unfold i7 at hr
 simp only[C,i]at hr
 have hlen:vs.length=args.length:=hv.length.symm
 have E:gg g (max fn.ntmps args.length) {tm:=gC args 0 .leaf,df:=[],cm,h:=h.inner} {tmps:=vs.toArray++Array.replicate (fn.ntmps-vs.toArray.size) undef,defers:=[]}:=⟨KH hv,by simp;omega,trivial⟩
 cases he:evalCode P R {fn:=f,tn:=max fn.ntmps args.length,kind,round:=none} code {tm:=gC args 0 .leaf,df:=[],cm,h:=h.inner}with
 |none=>grind
 |some p=>
  obtain⟨ex,st⟩:=p
  rw[he]at hr
  obtain⟨g1,w1,I,z,q1,q2,q3,U,T,S,q⟩:=hE _ _ _ _ _ he g w {(default:Frame)with fn:=f,kind:=kind} _ [] cs hw.inner hf.inner ⟨rfl,rfl,rfl⟩ E hm
  rw[<-o]at q
  have fin:∀(m:bu)(c:Frame),mG h st.cm (cj P R fn st.tm st.df m st.h)=some (out,cm',h2)->Steps P (lone (Frame.enter P f vs.toArray kind) cs w) (lone c z w1)->h9 g1 m c.mode->c.fn=f->c.kind=kind->c.defers=I.defers->c.tmps=I.tmps->∃g2 w' fr aH,Step h g w h2 g2 w'/\W h2 g2 w'/\jo cm cs aH/\(cm=.none->cm'=.none)/\(kind≠.normal->fZ g2 cm' aH)/\Steps P (lone (Frame.enter P f vs.toArray kind) cs w) (lone fr aH w')/\fr.fn=f/\fr.kind=kind/\Left P fn g2 w' fr out:=by intro m c D j u e1 e2 e3 e4;obtain⟨rfl,h3,hl,hk⟩:=Rx (w:=w) D hf;obtain⟨g2,w2,F,G,Q,O,N,_,M,Y⟩:=IM hP V _ _ _ _ _ hl g1 w1 c z q2 (hf.inner.step q1) (by grind) u (by rw[e3];exact q3.df) (by rw[e4];exact q3.tm);obtain⟨X,L,K,J⟩:=hk g2 w2 (q1.trans hf.inner G) Q;subst J;refine⟨X,w2,F,z,L,K,U,S,λhn=>T.mono G.le,Steps.trans j M,by rw[N,e1],by rw[O,e2],?_⟩;cases out with|ret v=>grind|aE v=>grind
  cases ex with|normal=>exact fin .ret _ hr (Steps.trans q (.one (IP rfl))) rfl rfl rfl rfl rfl|ret=>obtain⟨Z,q⟩:=q;exact fin .ret _ hr (Steps.trans q (.one (IQ rfl))) rfl rfl rfl rfl rfl|panic v=>obtain⟨todo,x,hx,q⟩:=q;exact fin (.aE v false) _ hr q ⟨x,rfl,hx⟩ rfl rfl rfl rfl|exit id=>cases hr
theorem Ck{kind:CallKind}{f:FuncId}{args:List AV}{cm:bu}{r:cH×bu×AHeap}(hr:i7 P R kind f args cm h=some r):∃fn code,P.funcs[f]?=some fn/\fn.body=some code:=by grind[i7]
theorem TE{f:FuncId}{args:List AV}{out:cH}{cm':bu}{h2:AHeap}(hP:ProgOK P)(z:cv P R)(hE:mX P R)(hr:i7 P R .normal f args .none h=some (out,cm',h2)):dI P f args h out h2:=by intro g w vs hw hf hv cs;obtain⟨fn,code,m,hb⟩:=Ck hr;obtain⟨g2,w',fr,aH,q1,q2,q3,D,C,q,p,u,o⟩:=JZ hP z hE m hb hr hw hf hv (cs:=cs) trivial;obtain rfl:aH=cs:=q3.1 rfl;cases out with|ret v=>obtain⟨j,i,x,c,x4⟩:=o;exact⟨.returned x,w',fr,⟨g2,q1,q2,x4⟩,q,p,j,i,u,fn,by grind,c⟩|aE v=>obtain⟨j,x,i,c⟩:=o;exact⟨.panicked _,w',fr,⟨g2,q1,q2,x,rfl,c⟩,q,p,i,j,fn,by grind⟩
theorem St{f:FuncId}{args:List AV}{cm:bu}{out:cH}{cm':bu}{h2:AHeap}(hP:ProgOK P)(K:cv P R)(hE:mX P R)(hn:cm≠.none)(hr:i7 P R .deferred f args cm h=some (out,cm',h2)):
 DF P f args cm h out cm' h2:=by
 intro g w vs u hw hf hv hm c cs hu
 obtain⟨fn,code,C,hb⟩:=Ck hr
 have z:fZ g cm (c::cs):=by cases cm with|none=>grind|ret=>exact⟨c,cs,rfl,by grind⟩|aE v b=>exact⟨c,cs,rfl,by grind⟩
 obtain⟨g2,w',fr,aH,q1,q2,q3,M,G,F,L,E,D⟩:=JZ hP K hE C hb hr hw hf hv (cs:=c::cs) z
 have i:=G (by simp)
 have dL:∃m,aH={c with mode:=m}::cs:=by
  rcases q3.2 with e|⟨c',r,m,e1,e2⟩
  .exact⟨c.mode,by rw[e]⟩
  .grind
 obtain⟨m,rfl⟩:=dL
 have j:cm'≠.none->h9 g2 cm' m:=by intro I;cases cm' with|none=>grind|ret=>obtain⟨c',r,e,J⟩:=i;grind|aE v b=>obtain⟨c',r,e,J⟩:=i;grind
 cases out with|ret v=>obtain⟨q,p,x,o,x4⟩:=D;exact⟨.returned x,m,w',fr,⟨g2,q1,q2,j,x4⟩,F,E,q,p,fn,by grind,o⟩|aE v=>obtain⟨q,x,p,o⟩:=D;exact⟨.panicked _,m,w',fr,⟨g2,q1,q2,j,x,rfl,o⟩,F,E,p,q,fn,by grind⟩
end
structure Pq where K:FuncId->List AV->AHeap->Option AV
abbrev Kn:=Inhabited Pq
def Kn.K[Kn]:FuncId->List AV->AHeap->Option AV:=(default:Pq).K
def jC[Kn](P:Program)(R:Rec)(kind:CallKind)(f:FuncId)(args:List AV)(cm:bu)(h:AHeap):Option (cH×bu×AHeap):=match kind,cm,Kn.K f args h with|.normal,.none,some v=>some (.ret v,.none,h)|_,_,_=>i7 P R kind f args cm h
def tg(P:Program)[Kn]:Prop:=∀f args h v,Kn.K f args h=some v->dI P f args h (.ret v) h
variable [Kn]
def Rec.ru(P:Program)(R:Rec):Rec:={call:=jC P R,loop:=mD P R,round:=qx P R}
def bz(P:Program):Nat->Rec|0=>Rec.zero|n+1=>Rec.ru P (bz P n)
theorem Su{P:Program}{R:Rec}(hP:ProgOK P)(i:tg P)(c:cv P R):cv P (Rec.ru P R)where
 call:=λf args h out cm' h' e=>by have e:jC P R .normal f args .none h=some (out,cm',h'):=e;unfold jC at e;cases hk:Kn.K f args h with|none=>grind[TE,oy]|some v=>rw[hk]at e;cases e;exact i f args h v hk
 nu:=λf args cm h out cm' h' hn e=>by have e:jC P R .deferred f args cm h=some (out,cm',h'):=e;exact St hP c (oy hP c) hn e
 loop:=λ_ _ _ _ _ h=>KJ c (oy hP c) h
 round:=λ_ _ _ _ _ h=>JF (oy hP c) h
theorem DL{P:Program}(hP:ProgOK P)(c:tg P):∀n,cv P (bz P n)|0=>JH|n+1=>Su hP c (DL hP c n)
structure Rec.Le(R R':Rec):Prop where
 call:∀k f a m h r,R.call k f a m h=some r->R'.call k f a m h=some r
 loop:∀c cx st r,R.loop c cx st=some r->R'.loop c cx st=some r
 round:∀l a h r,R.round l a h=some r->R'.round l a h=some r
section
variable {P:Program}{R R':Rec}(hl:R.Le R')
include hl
theorem sK{cx:Ctx}{ρ:Operand->AV}{o:Oper}{cm:bu}{h:AHeap}{r:wo}(e:cu P R cx ρ o cm h=some r):cu P R' cx ρ o cm h=some r:=by
 unfold cu at e⊢
 split at e
 .exact e
 .exact e
 .exact e
 .rename_i f args h1 _;cases hc:R.call .normal f args .none h1 with|none=>grind|some q=>rw[hc]at e;rw[hl.call _ _ _ _ _ _ hc];exact e
 .rename_i l args h1 _;cases hc:R.round l args h1 with|none=>grind|some q=>rw[hc]at e;rw[hl.round _ _ _ _ hc];exact e
 .exact e
 .exact e
 .exact e
theorem Jb{cx:Ctx}{ops:Array Oper}{o:Oper}{st:av}{r:bP×av}(e:dH P R cx ops o st=some r):dH P R' cx ops o st=some r:=by grind[sK,dH,cu,ev]
theorem xK{cx:Ctx}{ops:Array Oper}:∀{l:List Oper}{st:av}{r:bP×av},fA P R cx ops l st=some r->fA P R' cx ops l st=some r|[],_,_,e=>e|o::rest,st,r,e=>by rw[fA]at e⊢;cases hc:dH P R cx ops o st with|none=>rw[hc]at e;cases e|some q=>rw[hc]at e;rw[Jb hl hc];obtain⟨ex,c⟩:=q;cases ex with|normal=>exact xK e|_=>exact e
theorem qt{cx:Ctx}{ops:Array Oper}:∀{l:List Oper}{i aj:Nat}{k:bY}{st:av}{r:bY×av},ey P R cx ops l i aj k st=some r->ey P R' cx ops l i aj k st=some r
 |[],_,_,_,_,_,e=>e
 |o::rest,i,aj,k,st,r,e=>by
  rw[ey]at e⊢
  split at e
  .rename_i hw
   try rw[hw]
   split at e
   .rename_i c hp
    try rw[hp]
    exact qt e
   .cases e
  .rename_i hw
   try rw[hw]
   split at e
   .rename_i hA
    simp only[hA,if_true]
    split at e
    .rename_i v h1 ha
     try rw[ha]
     split at e
     .rename_i x hx
      try rw[hx]
      split at e
      .rename_i hn
       rw[if_pos hn]
       split at e
       .rename_i c hp
        try rw[hp]
        exact qt e
       .cases e
      .cases e
     .cases e
    .cases e
   .rename_i hA
    split at e
    .rename_i hF
     rw[if_neg hA,if_pos hF]
     split at e
     .rename_i v h1 ha
      try rw[ha]
      split at e
      .rename_i hn
       rw[if_pos hn]
       split at e
       .rename_i c hp
        try rw[hp]
        exact qt e
       .cases e
      .cases e
     .cases e
    .rename_i hF
     rw[if_neg hA,if_neg hF]
     cases hc:cu P R cx (cX (tmpsOf o) st.tm) o .none st.h.inner with
     |none=>rw[hc]at e;cases e
     |some q=>
      rw[hc]at e;rw[sK hl hc]
      cases q with
      |val v cm h1=>
       simp only at e⊢
       split at e
       .rename_i c hp
        try rw[hp]
        exact qt e
       .cases e|b8 _ _=>cases e|aE _ _=>cases e
  .cases e
theorem CA{cx:Ctx}{ops:Array Oper}{b:List Nat}{m:Nat}:∀{l:List Oper}{i aj:Nat}{k:bY}{st:av}{r:bY},hV P R cx ops b m l i aj k st=some r->hV P R' cx ops b m l i aj k st=some r
 |[],_,_,_,_,_,e=>e
 |o::rest,i,aj,k,st,r,e=>by
  unfold hV at e⊢
  split at e
  .split at e
   .exact CA e
   .cases e
  .split at e
   .rename_i c
    simp only[c,if_true]
    split at e
    .rename_i p j hr;rw[qt hl hr];exact CA e
    .cases e
   .cases e
theorem qv{cx:Ctx}{ops:Array Oper}{b:List Nat}:∀{l:List Oper}{i aj:Nat}{k:bY}{st:av}{r:bP×av},ez P R cx ops b l i aj k st=some r->ez P R' cx ops b l i aj k st=some r/\ey P R' cx ops l i aj k st=none
 |[],_,_,_,_,_,e=>by simp[ez]at e
 |o::rest,i,aj,k,st,r,e=>by
  rw[ez]at e⊢
  rw[ey]
  split at e
  .rename_i hw
   try rw[hw]
   split at e
   .rename_i c hp
    try simp only[hp]
    exact qv e
   .cases e
  .rename_i hw
   try rw[hw]
   split at e
   .rename_i hA
    simp only[if_pos hA]
    split at e
    .rename_i v h1 ha
     try simp only[ha]
     split at e
     .rename_i x hx
      try simp only[hx]
      split at e
      .rename_i hn
       try simp only[if_pos hn]
       split at e
       .rename_i c hp
        try simp only[hp]
        exact qv e
       .cases e
      .cases e
     .cases e
    .cases e
   .rename_i hA
    simp only[if_neg hA]
    split at e
    .rename_i hF
     simp only[if_pos hF]
     split at e
     .rename_i v h1 ha
      simp only[ha]
      split at e
      .rename_i hn
       simp only[if_pos hn]
       split at e
       .rename_i c hp
        try simp only[hp]
        exact qv e
       .cases e
      .cases e
     .cases e
    .rename_i hF
     simp only[if_neg hF]
     split at e
     .rename_i v cm h1 hc
      rw[sK hl hc]
      simp only
      split at e
      .rename_i c hp
       try simp only[hp]
       exact qv e
      .cases e
     .rename_i v h1 hc
      rw[sK hl hc]
      split at e
      .rename_i c hp
       simp only[hp]
       split at e
       .rename_i kf hk;rw[CA hl hk];grind
       .cases e
      .cases e
     .cases e
  .cases e
theorem Ry{cx:Ctx}{ops:Array Oper}{st:av}{r:bP×av}(e:oh P R cx ops st=some r):oh P R' cx ops st=some r:=by
 unfold oh at e⊢
 split at e
 .rename_i hc;rw[if_pos hc];grind[qt,qv]
 .cases e
theorem iA{cx:Ctx}:∀{c:Code}{st:av}{r:bP×av},evalCode P R cx c st=some r->evalCode P R' cx c st=some r
 |.skip,_,_,e=>e
 |.label _,_,_,e=>e
 |.region _ ops draw,st,r,e=>by
  rw[evalCode]at e⊢
  split at e
  .rename_i hd;rw[if_pos hd];exact Ry hl e
  .rename_i hd;rw[if_neg hd];exact xK hl e
 |.seq a b,st,r,e=>by rw[evalCode]at e⊢;cases hc:evalCode P R cx a st with|none=>rw[hc]at e;cases e|some q=>rw[hc]at e;rw[iA hc];obtain⟨ex,j⟩:=q;cases ex with|normal=>exact iA e|_=>exact e
 |.cond c a b,st,r,e=>by
  rw[evalCode]at e⊢
  split at e
  .exact iA e
  .exact iA e
  .cases e
 |.block id body,st,r,e=>by rw[evalCode]at e⊢;cases hc:evalCode P R cx body st with|none=>rw[hc]at e;cases e|some q=>rw[hc]at e;rw[iA hc];exact e
 |.loop body,st,r,e=>by rw[evalCode]at e⊢;exact hl.loop _ _ _ _ e
 |.exit _,_,_,e=>e
 |.scope body,st,r,e=>by rw[evalCode]at e⊢;exact iA e
 |.goto _,_,_,e=>e
 |.ret,_,_,e=>e
 |.refuse _,_,_,e=>e
 |.rangeFunc f params assign body,st,r,e=>by
  rw[evalCode]at e⊢
  split at e
  .cases e
  .rename_i i
   try rw[i]
   split at e
   .rename_i g first captured hf
    try rw[hf]
    dsimp only at e⊢
    split at e
    .rename_i g' args h1 ha
     try rw[ha]
     cases hc:R.call .normal g' args .none h1 with
     |none=>grind
     |some q=>
      rw[hc]at e
      try dsimp only
      rw[hl.call _ _ _ _ _ _ hc];exact e
    .cases e
   .cases e
theorem CR{fn:Func}{tm:Tr AV}:∀{ds:List dK}{m:bu}{h:AHeap}{r:cH×AHeap},cj P R fn tm ds m h=some r->cj P R' fn tm ds m h=some r:=by
 intro ds
 induction ds with
 |nil=>intro m h r e;cases m with|none=>exact e|ret=>exact e|aE v b=>cases b<;>exact e
 |cons d ds ih=>
  intro m h r e
  cases d with
  |da d=>grind[cj]
  |fn f captured args=>
   cases f with
   |func f=>
    rw[cj]at e⊢
    split at e
    .rename_i i c h1 ha;cases hc:R.call .deferred i c m h1 with|none=>grind|some q=>rw[hc]at e;rw[hl.call _ _ _ _ _ _ hc];grind
    .cases e|_=>exact e
theorem Rj{k:CallKind}{f:FuncId}{a:List AV}{m:bu}{h:AHeap}{r:cH×bu×AHeap}(e:i7 P R k f a m h=some r):i7 P R' k f a m h=some r:=by
 unfold i7 at e⊢
 split at e
 .rename_i fn hf
  try rw[hf]
  split at e
  .rename_i code hb
   try rw[hb]
   cases hc:evalCode P R {fn:=f,tn:=max fn.ntmps a.length,kind:=k,round:=none} code {tm:=gC a 0 .leaf,df:=[],cm:=m,h:=h.inner}with
   |none=>grind
   |some q=>
    rw[hc]at e
    try dsimp only
    rw[iA hl hc]
    obtain⟨ex,st⟩:=q
    have key:∀md r',mG h st.cm (cj P R fn st.tm st.df md st.h)=some r'->mG h st.cm (cj P R' fn st.tm st.df md st.h)=some r':=by intro md r' e;cases hv:cj P R fn st.tm st.df md st.h with|none=>rw[hv]at e;cases e|some q=>rw[hv]at e;rw[CR hl hv];exact e
    grind
  .cases e
 .cases e
theorem TF:(Rec.ru P R).Le (Rec.ru P R')where
 call:=λk f a m h r e=>by simp only[Rec.ru]at e⊢;unfold jC at e⊢;grind[Rj]
 loop:=λc cx st r e=>by simp only[Rec.ru,mD]at e⊢;cases hc:evalCode P R cx c st with|none=>grind|some q=>rw[hc]at e;rw[iA hl hc];obtain⟨ex,i⟩:=q;cases ex with|normal=>exact hl.loop _ _ _ _ e|_=>exact e
 round:=λl a h r e=>by
  simp only[Rec.ru,qx]at e⊢
  split at e
  .rename_i j o fn tn tm ps assign body dd hg
   try rw[hg]
   try dsimp only
   cases hp:lO tn ps a tm with|none=>grind|some bO=>rw[hp]at e;dsimp only at e⊢;cases hc:evalCode P R {fn,tn,kind:=.normal,round:=some l} assign {tm:=bO,df:=[],cm:=.none,h}with|none=>grind|some q=>rw[hc]at e;rw[iA hl hc];obtain⟨ex,i⟩:=q;grind[iA,evalCode]
  .cases e
end
theorem Jc(P:Program):∀n,(bz P n).Le (bz P (n+1))|0=>⟨λ_ _ _ _ _ _ e=>(by cases e),λ_ _ _ _ e=>(by cases e),λ_ _ _ _ e=>(by cases e)⟩|n+1=>TF (Jc P n)
theorem Rec.Le.refl(R:Rec):R.Le R:=⟨λ_ _ _ _ _ _ e=>e,λ_ _ _ _ e=>e,λ_ _ _ _ e=>e⟩
theorem Rec.Le.trans{a b c:Rec}(h:a.Le b)(h':b.Le c):a.Le c:=⟨λ_ _ _ _ _ _ e=>h'.call _ _ _ _ _ _ (h.call _ _ _ _ _ _ e),λ_ _ _ _ e=>h'.loop _ _ _ _ (h.loop _ _ _ _ e),λ_ _ _ _ e=>h'.round _ _ _ _ (h.round _ _ _ _ e)⟩
theorem hY(P:Program){n m:Nat}(h:n<=m):(bz P n).Le (bz P m):=by induction h with|refl=>exact .refl _|step _ ih=>exact ih.trans (Jc P _)
end Go.AI
end
