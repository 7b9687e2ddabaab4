/- A part of the proof. -/
import Derived.Test.YteibmaelhdbgfaaGreatDoorSa
set_option linter.all false

section
namespace Go.AI
inductive Lk where|box(o n:Nat)|nil|sl(o ver n sz len:Nat)(cap:Option Nat)|mp(o:Nat)
def Lk.obj:Lk->Option Nat|.box o _=>some o|.nil=>none|.sl o _ _ _ _ _=>some o|.mp o=>some o
structure Wd where
 g:Nat->Option cr
 F:Nat->Prop
 s:Nat->Option Lk
section
variable (P:Program)(w:Wd)
mutual
inductive Rd:TypeId->List (List AV)->AV->Prop|nil(t:TypeId):Rd t [] (.sc (.slice none 0 0))|bT(t:TypeId):Rd t [] .bT|aQ{t:TypeId}{rows rows':List (List AV)}:bt P t=some (lay P t).length->0<(lay P t).length->0<rows.length->bW (lay P t) rows rows'->Rd t rows (.aQ rows' (lay P t).length)|sl{t:TypeId}{rows:List (List AV)}{o ver n off v mv fz:Nat}{c:List AV}{el:TypeId}{ex sh:Bool}{cap:Option Nat}:bt P t=some (lay P t).length->0<(lay P t).length->w.F o->w.g o=some (.cells v mv c fz el ex sh)->mv<=ver->ver<=v->off+rows.length*(lay P t).length<=n->off+rows.length*(lay P t).length<=c.length->(∀k,cap=some k->rows.length<=k)->bW (lay P t) rows (chunks (lay P t).length rows.length (c.drop off))->Rd t rows (.sl o ver n off (lay P t).length rows.length cap)
inductive bW:List Lf->List (List AV)->List (List AV)->Prop|nil(ls:List Lf):bW ls [] []|cons{ls:List Lf}{r r':List AV}{rs cZ:List (List AV)}:cf ls r r'->bW ls rs cZ->bW ls (r::rs) (r'::cZ)
inductive cf:List Lf->List AV->List AV->Prop|nil:cf [] [] []|cons{l:Lf}{ls:List Lf}{c y:AV}{r r':List AV}:jO l c y->cf ls r r'->cf (l::ls) (c::r) (y::r')
inductive jO:Lf->AV->AV->Prop|int(k:IntKind)(n:Int):jO (.int k) (.sc (.int k n)) (.sc (.int k n))|bool(b:Bool):jO .bool (.sc (.bool b)) (.sc (.bool b))|str(s:ByteArray):jO .str (.sc (.string s)) (.sc (.string s))|sl{t:TypeId}{rows:List (List AV)}{sz:Nat}{y:AV}:Rd t rows y->jO (.sl t) (.aQ rows sz) y
end
inductive Rp:TypeId->List AV->Nat->AV->Prop|cI{t:TypeId}{row dZ:List AV}{off:Nat}:cf P w (lay P t) row dZ->Rp t row off (.cI (dZ.drop off))|ref{t:TypeId}{row:List AV}{off o ver n p v mv fz:Nat}{c:List AV}{el:TypeId}{ex sh:Bool}:w.F o->w.g o=some (.cells v mv c fz el ex sh)->mv<=ver->ver<=v->p+(lay P t).length<=n->p+(lay P t).length<=c.length->cf P w (lay P t) row ((c.drop p).take (lay P t).length)->Rp t row off (.ref o ver n (p+off))
inductive jK(e:TypeId):List (List AV)->List (AV×AV×Nat)->Prop|nil:jK e [] []|cons{s:ByteArray}{r r':List AV}{v:AV}{c:Nat}{rows:List (List AV)}{es:List (AV×AV×Nat)}:cf P w (lay P e) r r'->(ep P e=some true/\v=.agg r')\/(ep P e=some false/\r'=[v])->jK e rows es->jK e ((.sc (.string s)::r)::rows) ((.sc (.string s),v,c)::es)
structure rb(e:TypeId)(rows:List (List AV))(es:List (AV×AV×Nat))(cl:Nat):Prop where
 en:jK P w e rows es
 lt:∀x,x∈es.map (·.2.2)->x<cl
 nd:(es.map (·.2.2)).Nodup
inductive Rm:TypeId->List (List AV)->AV->Prop|mk{t e:TypeId}{rows:List (List AV)}{o cl:Nat}{es:List (AV×AV×Nat)}:kT P t=some e->w.F o->w.g o=some (.map es cl)->rb P w e rows es cl->Rm t rows (.map o)
inductive Rl(t:TypeId):List (List AV)->AV->Prop|nil:Rl t [] (.sc (.pointer none))|cons{r:List AV}{rows:List (List AV)}{o n v mv fz:Nat}{c:List AV}{el:TypeId}{ex sh:Bool}{y:AV}:w.F o->w.g o=some (.cells v mv c fz el ex sh)->mv=0->(lay P t).dropLast.length+1<=n->(lay P t).dropLast.length+1<=c.length->cf P w (lay P t).dropLast r (c.take (lay P t).dropLast.length)->c[(lay P t).dropLast.length]?=some y->Rl t rows y->Rl t (r::rows) (.ref o 0 n 0)
def wK:AV->Bool|.agg _=>false|_=>true
inductive dn:Code->List Tmp->Code->Code->Prop|here{fo:Operand}{ps:Array Tmp}{a b:Code}:dn (.rangeFunc fo ps a b) ps.toList a b|hd{fo:Operand}{ps:Array Tmp}{a b:Code}{qs:List Tmp}{x y:Code}:dn a qs x y->dn (.rangeFunc fo ps a b) qs x y|bd{fo:Operand}{ps:Array Tmp}{a b:Code}{qs:List Tmp}{x y:Code}:dn b qs x y->dn (.rangeFunc fo ps a b) qs x y|lY{a b x y:Code}{qs:List Tmp}:dn a qs x y->dn (.seq a b) qs x y|j8{a b x y:Code}{qs:List Tmp}:dn b qs x y->dn (.seq a b) qs x y|lQ{c:Operand}{a b x y:Code}{qs:List Tmp}:dn a qs x y->dn (.cond c a b) qs x y|lR{c:Operand}{a b x y:Code}{qs:List Tmp}:dn b qs x y->dn (.cond c a b) qs x y|blk{id:Nat}{b x y:Code}{qs:List Tmp}:dn b qs x y->dn (.block id b) qs x y|loop{b x y:Code}{qs:List Tmp}:dn b qs x y->dn (.loop b) qs x y|scope{b x y:Code}{qs:List Tmp}:dn b qs x y->dn (.scope b) qs x y
theorem dn.kq{c x y:Code}{qs:List Tmp}(h:dn c qs x y):0<eh c:=by induction h<;>simp only[eh]<;>omega
theorem mf:∀{c:Code},eh c=0->fq c=none|.seq a b,h=>by simp only[eh]at h;simp only[fq,mf (c:=a) (by omega),mf (c:=b) (by omega)]|.cond _ a b,h=>by simp only[eh]at h;simp only[fq,mf (c:=a) (by omega),mf (c:=b) (by omega)]|.block _ b,h=>by simp only[eh]at h;simp only[fq,mf (c:=b) h]|.loop b,h=>by simp only[eh]at h;simp only[fq,mf (c:=b) h]|.scope b,h=>by simp only[eh]at h;simp only[fq,mf (c:=b) h]|.rangeFunc _ _ a b,h=>by simp only[eh]at h;omega|.skip,_=>rfl|.label _,_=>rfl|.region _ _ _,_=>rfl|.exit _,_=>rfl|.ret,_=>rfl|.goto _,_=>rfl|.refuse _,_=>rfl
theorem dn.find{c x y:Code}{qs:List Tmp}(h:dn c qs x y):eh c=1->fq c=some (qs,x,y):=by induction h with|here=>intro _;rfl|hd h _=>intro e;have:=h.kq;simp only[eh]at e;omega|bd h _=>intro e;have:=h.kq;simp only[eh]at e;omega|lY h o=>intro e;have:=h.kq;simp only[eh]at e;simp only[fq,o (by omega)]|@j8 a b _ _ _ h o=>intro e;have:=h.kq;simp only[eh]at e;simp only[fq,mf (c:=a) (by omega),o (by omega)]|lQ h o=>intro e;have:=h.kq;simp only[eh]at e;simp only[fq,o (by omega)]|@lR _ a b _ _ _ h o=>intro e;have:=h.kq;simp only[eh]at e;simp only[fq,mf (c:=a) (by omega),o (by omega)]|blk _ o=>intro e;simp only[eh]at e;simp only[fq,o e]|loop _ o=>intro e;simp only[eh]at e;simp only[fq,o e]|scope _ o=>intro e;simp only[eh]at e;simp only[fq,o e]
def Fu(P:Program)(f:FuncId)(tn:Nat)(ps:List Tmp)(hd bd:Code):Prop:=∃fn code,P.funcs[f]?=some fn/\fn.body=some code/\fn.ntmps<=tn/\dn code ps hd bd
mutual
inductive RV:SV->AV->Prop|aM(x:AV):RV .aM x|sc{v:Value}:rU v=true->RV (.sc v) (.sc v)|agg{cs:List SV}{xs:List AV}:au cs xs->RV (.agg cs) (.agg xs)|dl{t:TypeId}{rows:List (List AV)}{x:AV}:Rd P w t rows x->RV (.dl t rows) x|cM{i:Nat}:w.s i=some .nil->RV (.own i) (.sc (.slice none 0 0))|cu{i o ver n sz len:Nat}{cap:Option Nat}:w.s i=some (.sl o ver n sz len cap)->RV (.own i) (.sl o ver n 0 sz len cap)|ref{i off o n:Nat}:w.s i=some (.box o n)->RV (.ref i off) (.ref o 0 n off)|dI{i k off o ver n sz len:Nat}{cap:Option Nat}:w.s i=some (.sl o ver n sz len cap)->k<len->RV (.dI i k off) (.ref o ver n (k*sz+off))|dj{t:TypeId}{row:List AV}{off:Nat}{x:AV}:Rp P w t row off x->RV (.dj t row off) x|fW{i o ver n sz len:Nat}{cap:Option Nat}:w.s i=some (.sl o ver n sz len cap)->RV (.fW i) (.ref o ver n 0)|fY{v:SV}{x:AV}:RV v x->wK x=true->RV (.opt true v) x|iG{v:SV}:RV (.opt false v) (.sc (.pointer none))|fn{f:FuncId}{caps:List SV}{xs:List AV}:au caps xs->RV (.fn f caps) (.func (.func f) [] xs)|fR{f:FuncId}:RV (.fn f []) (.sc (.func (.func f) #[] #[]))|bC{vs:List SV}{xs:List AV}:au vs xs->RV (.bC vs) (.tuple xs)|eb{t:TypeId}{v:SV}{x:AV}:RV v x->RV (.eb t v) (.iface t x)|kY{t:TypeId}{x:AV}:RV (.sW true) (.iface t x)|k0:RV (.sW false) (.sc .nilIface)|aR{x:AV}:dN x=true->RV .aR x|cl{t:TypeId}{rows:List (List AV)}{o ver n off:Nat}:0<rows.length->Rd P w t rows (.sl o ver n off (lay P t).length rows.length (some rows.length))->RV (.cl t rows) (.sl o ver n off (lay P t).length rows.length (some rows.length))|om{i o:Nat}:w.s i=some (.mp o)->RV (.om i) (.map o)|md{t:TypeId}{rows:List (List AV)}{x:AV}:Rm P w t rows x->RV (.md t rows) x|ls{t:TypeId}{rows:List (List AV)}{x:AV}:Rl P w t rows x->RV (.ls t rows) x|pb{t:TypeId}{cs:List SV}{off o n v mv fz:Nat}{c:List AV}{el:TypeId}{ex sh:Bool}:w.F o->w.g o=some (.cells v mv c fz el ex sh)->mv=0->cs.length<=n->cs.length<=c.length->dV cs=[]->fj cs=true->au cs (c.take cs.length)->RV (.pb t cs off) (.ref o 0 n off)|mE{i:Nat}{h:Int}:w.s i=some .nil->h=0->RV (.ni i h) (.sc (.slice none 0 0))|mN{i o ver n sz len:Nat}{cap:Option Nat}{h:Int}:w.s i=some (.sl o ver n sz len cap)->h.toNat<=len->RV (.ni i h) (.sl o ver n 0 sz h.toNat cap)|yl{f:FuncId}{ts ps:List Tmp}{cs:List SV}{l tn dd:Nat}{tm:Tr AV}{hd bd:Code}:w.g l=some (.loop .ready none f tn tm ps hd bd dd)->Fu P f tn ps hd bd->au cs (ts.map λt=>ev tm (.tmp t))->RV (.yl f ts cs) (.eB l)inductive au:List SV->List AV->Prop|nil:au [] []|cons{v:SV}{x:AV}{vs:List SV}{xs:List AV}:RV v x->au vs xs->au (v::vs) (x::xs)end
end
def Grow:Option cr->Option cr->Prop|some (.cells v mv c _ _ _ _),some (.cells v' o c' _ _ _ _)=>v<=v'/\o=mv/\∃d,c'=c++d|_,_=>True
theorem Grow.cells{v mv fz:Nat}{c:List AV}{el:TypeId}{ex sh:Bool}{y:Option cr}(hy:∃v' o c' fF fG eY fw,y=some (.cells v' o c' fF fG eY fw))(h:Grow (some (.cells v mv c fz el ex sh)) y):∃v' d fF fG eY fw,y=some (.cells v' mv (c++d) fF fG eY fw)/\v<=v':=by obtain⟨v',o,c',fF,fG,eY,fw,rfl⟩:=hy;obtain⟨h1,rfl,d,rfl⟩:=h;grind
def nc:cr->Bool|.loop ..=>true|_=>false
def Lp(g:Nat->Option cr)(o:Nat):Prop:=∃x,g o=some x/\nc x=true
structure aX(w w':Wd):Prop where
 F:∀o,w.F o->w'.F o
 l:∀o x,w.g o=some x->nc x=true->w'.g o=some x
 n:∀o,w.g o≠none->w'.g o≠none/\(Lp w'.g o->Lp w.g o)
 g:∀o,w.F o->∀v mv c fz el ex sh,w.g o=some (.cells v mv c fz el ex sh)->∃v' d fF fG eY fw,w'.g o=some (.cells v' mv (c++d) fF fG eY fw)/\v<=v'
 m:∀o,w.F o->∀es cl,w.g o=some (.map es cl)->w'.g o=some (.map es cl)
theorem aX.refl(w:Wd):aX w w:=⟨λ_ h=>h,λ_ _ h _=>h,λ_ h=>⟨h,id⟩,λ_ _ v mv c fz el ex sh h=>⟨v,[],fz,el,ex,sh,by grind,aC _⟩,λ_ _ _ _ h=>h⟩
theorem aX.trans{a b c:Wd}(h:aX a b)(h':aX b c):aX a c:=⟨λo x=>h'.F o (h.F o x),λo x e i=>h'.l o x (h.l o x e i) i,λo e=>⟨(h'.n o (h.n o e).1).1,λq=>(h.n o e).2 ((h'.n o (h.n o e).1).2 q)⟩,λo x v mv cs fz el ex sh e=>by obtain⟨v1,d1,L,e1,D,J,q1,q2⟩:=h.g o x v mv cs fz el ex sh e;obtain⟨E,M,K,e2,z,I,q3,q4⟩:=h'.g o (h.F o x) _ _ _ _ _ _ _ q1;grind,λo f es cl e=>h'.m o (h.F o f) es cl (h.m o f es cl e)⟩
theorem rq{sz:Nat}:∀(n:Nat)(l d:List AV),n*sz<=l.length->chunks sz n (l++d)=chunks sz n l
 |0,_,_,_=>rfl
 |n+1,l,d,h=>by
  have h':sz<=l.length:=by grind
  simp only[chunks];rw[List.take_append_of_le_length h',List.drop_append_of_le_length h',rq n (l.drop sz) d (by grind)]
structure gH(w w':Wd):Prop where
 F:∀o,w.F o->w'.F o
 g:∀o,w.F o->∀v mv c fz el ex sh,w.g o=some (.cells v mv c fz el ex sh)->∃v' d fF fG eY fw,w'.g o=some (.cells v' mv (c++d) fF fG eY fw)/\v<=v'
 m:∀o,w.F o->∀es cl,w.g o=some (.map es cl)->w'.g o=some (.map es cl)
theorem aX.c{w w':Wd}(h:aX w w'):gH w w':=⟨h.F,h.g,h.m⟩
section
variable {P:Program}{w w':Wd}
mutual
theorem Rd.bX(hl:gH w w'):∀{t:TypeId}{rows:List (List AV)}{x:AV},Rd P w t rows x->Rd P w' t rows x|_,_,_,.nil t=>.nil t|_,_,_,.bT t=>.bT t|_,_,_,.aQ a b c h=>.aQ a b c (bW.bX hl h)|_,_,_,.sl a b hF hg h1 h2 h3 h4 hc h=>by obtain⟨v',d,fF,fG,eY,fw,e,hv⟩:=hl.g _ hF _ _ _ _ _ _ _ hg;refine .sl a b (hl.F _ hF) e h1 (Nat.le_trans h2 hv) h3 (by grind) hc ?_;have:=bW.bX hl h;rw[List.drop_append_of_le_length (by omega),rq _ _ _ (by grind)];exact this
theorem bW.bX(hl:gH w w'):∀{ls:List Lf}{rs cZ:List (List AV)},bW P w ls rs cZ->bW P w' ls rs cZ|_,_,_,.nil ls=>.nil ls|_,_,_,.cons a b=>.cons (cf.bX hl a) (bW.bX hl b)theorem cf.bX(hl:gH w w'):∀{ls:List Lf}{r r':List AV},cf P w ls r r'->cf P w' ls r r'|_,_,_,.nil=>.nil|_,_,_,.cons a b=>.cons (jO.bX hl a) (cf.bX hl b)theorem jO.bX(hl:gH w w'):∀{l:Lf}{c y:AV},jO P w l c y->jO P w' l c y|_,_,_,.int k n=>.int k n|_,_,_,.bool b=>.bool b|_,_,_,.str s=>.str s|_,_,_,.sl h=>.sl (Rd.bX hl h)end
theorem Rp.bX(hl:gH w w'){t:TypeId}{row:List AV}{off:Nat}{x:AV}(h:Rp P w t row off x):Rp P w' t row off x:=by cases h with|cI h1=>exact .cI (h1.bX hl)|ref hF hg h1 h2 h3 h4 h=>obtain⟨v',d,fF,fG,eY,fw,e,hv⟩:=hl.g _ hF _ _ _ _ _ _ _ hg;refine .ref (hl.F _ hF) e h1 (Nat.le_trans h2 hv) h3 (by grind) ?_;rw[List.drop_append_of_le_length (by omega),List.take_append_of_le_length (by grind)];exact h.bX hl
theorem jK.bX(hl:gH w w'){e:TypeId}:∀{rows:List (List AV)}{es:List (AV×AV×Nat)},jK P w e rows es->jK P w' e rows es|_,_,.nil=>.nil|_,_,.cons a b c=>.cons (a.bX hl) b (jK.bX hl c)
theorem rb.bX(hl:gH w w'){e:TypeId}{rows:List (List AV)}{es:List (AV×AV×Nat)}{cl:Nat}(h:rb P w e rows es cl):rb P w' e rows es cl:=⟨h.en.bX hl,h.lt,h.nd⟩
theorem Rm.bX(hl:gH w w'){t:TypeId}{rows:List (List AV)}{x:AV}(h:Rm P w t rows x):Rm P w' t rows x:=by cases h with|mk a b c d=>exact .mk a (hl.F _ b) (hl.m _ b _ _ c) (d.bX hl)
theorem Rl.bX(hl:gH w w'){t:TypeId}{rows:List (List AV)}{x:AV}(h:Rl P w t rows x):Rl P w' t rows x:=by
 induction h with
 |nil=>exact .nil
 |cons hF hg h1 h3 h4 hr hy _ c=>
  obtain⟨v',d,fF,fG,eY,fw,e,hv⟩:=hl.g _ hF _ _ _ _ _ _ _ hg
  refine .cons (hl.F _ hF) e h1 h3 (by grind) ?_ ?_ c
  .rw[List.take_append_of_le_length (by omega)];exact hr.bX hl
  grind
theorem Rd.mono(hl:aX w w'){t:TypeId}{rows:List (List AV)}{x:AV}(h:Rd P w t rows x):Rd P w' t rows x:=h.bX hl.c
theorem bW.mono(hl:aX w w'){ls:List Lf}{rs cZ:List (List AV)}(h:bW P w ls rs cZ):bW P w' ls rs cZ:=h.bX hl.c
theorem cf.mono(hl:aX w w'){ls:List Lf}{r r':List AV}(h:cf P w ls r r'):cf P w' ls r r':=h.bX hl.c
theorem Rp.mono(hl:aX w w'){t:TypeId}{row:List AV}{off:Nat}{x:AV}(h:Rp P w t row off x):Rp P w' t row off x:=h.bX hl.c
mutual
theorem RV.kL(hl:gH w w')(hs:∀i k,w.s i=some k->w'.s i=some k):∀{v:SV}{x:AV},gy v=true->RV P w v x->RV P w' v x|_,_,_,.aM x=>.aM x|_,_,_,.sc h=>.sc h|_,_,q,.agg h=>.agg (au.kL hl hs (by simpa[gy]using q) h)|_,_,_,.dl h=>.dl (h.bX hl)|_,_,_,.cM h=>.cM (hs _ _ h)|_,_,_,.cu h=>.cu (hs _ _ h)|_,_,_,.ref h=>.ref (hs _ _ h)|_,_,_,.dI h a=>.dI (hs _ _ h) a|_,_,_,.dj h=>.dj (h.bX hl)|_,_,_,.fW h=>.fW (hs _ _ h)|_,_,q,.fY h a=>.fY (RV.kL hl hs (by simpa[gy]using q) h) a|_,_,_,.iG=>.iG|_,_,q,.fn h=>.fn (au.kL hl hs (by simpa[gy]using q) h)|_,_,_,.fR=>.fR|_,_,q,.bC h=>.bC (au.kL hl hs (by simpa[gy]using q) h)|_,_,q,.eb h=>.eb (RV.kL hl hs (by simpa[gy]using q) h)|_,_,_,.kY=>.kY|_,_,_,.k0=>.k0|_,_,_,.aR h=>.aR h|_,_,_,.cl a h=>.cl a (h.bX hl)|_,_,_,.om h=>.om (hs _ _ h)|_,_,_,.md h=>.md (h.bX hl)|_,_,_,.ls h=>.ls (h.bX hl)|_,_,_,.pb hF hg h1 h3 h4 h5 h6 hr=>by obtain⟨v',d,fF,fG,eY,fw,e,hv⟩:=hl.g _ hF _ _ _ _ _ _ _ hg;refine .pb (hl.F _ hF) e h1 h3 (by grind) h5 h6 ?_;rw[List.take_append_of_le_length (by omega)];exact au.kL hl hs h6 hr|_,_,_,.mE h a=>.mE (hs _ _ h) a|_,_,_,.mN h a=>.mN (hs _ _ h) a|_,_,q,.yl _ _ _=>by cases q
theorem au.kL(hl:gH w w')(hs:∀i k,w.s i=some k->w'.s i=some k):∀{vs:List SV}{xs:List AV},fj vs=true->au P w vs xs->au P w' vs xs|_,_,_,.nil=>.nil|_,_,q,.cons a b=>.cons (RV.kL hl hs (by simp only[fj,bB]at q;exact q.1) a) (au.kL hl hs (by simp only[fj,bB]at q;exact q.2) b)end
theorem NM:∀{v:SV},l3 v=true->gy v=true|.opt _ v,h=>NM (v:=v) h|.fn _ _,h=>h|.eb _ _,h=>h|.aM,_=>rfl|.sc _,_=>rfl|.dl _ _,_=>rfl|.own _,_=>rfl|.ref _ _,_=>rfl|.dI _ _ _,_=>rfl|.dj _ _ _,_=>rfl|.fW _,_=>rfl|.sW _,_=>rfl|.aR,_=>rfl|.cl _ _,_=>rfl|.om _,_=>rfl|.md _ _,_=>rfl|.ls _ _,_=>rfl|.pb _ _ _,_=>rfl|.ni _ _,h=>by cases h|.agg _,h=>by cases h|.bC _,h=>by cases h|.yl _ _ _,h=>by cases h
theorem za:∀{vs:List SV},cJ vs=true->fj vs=true|[],_=>rfl|v::vs,h=>by simp only[cJ,bB]at h;simp only[fj,NM h.1,za h.2,Bool.and_self]
mutual
theorem RV.mono(hl:aX w w')(hs:∀i k,w.s i=some k->w'.s i=some k):∀{v:SV}{x:AV},RV P w v x->RV P w' v x|_,_,.aM x=>.aM x|_,_,.sc h=>.sc h|_,_,.agg h=>.agg (au.mono hl hs h)|_,_,.dl h=>.dl (h.mono hl)|_,_,.cM h=>.cM (hs _ _ h)|_,_,.cu h=>.cu (hs _ _ h)|_,_,.ref h=>.ref (hs _ _ h)|_,_,.dI h a=>.dI (hs _ _ h) a|_,_,.dj h=>.dj (h.mono hl)|_,_,.fW h=>.fW (hs _ _ h)|_,_,.fY h a=>.fY (RV.mono hl hs h) a|_,_,.iG=>.iG|_,_,.fn h=>.fn (au.mono hl hs h)|_,_,.fR=>.fR|_,_,.bC h=>.bC (au.mono hl hs h)|_,_,.eb h=>.eb (RV.mono hl hs h)|_,_,.kY=>.kY|_,_,.k0=>.k0|_,_,.aR h=>.aR h|_,_,.cl a h=>.cl a (h.mono hl)|_,_,.om h=>.om (hs _ _ h)|_,_,.md h=>.md (h.bX hl.c)|_,_,.ls h=>.ls (h.bX hl.c)|_,_,.pb hF hg h1 h3 h4 h5 h6 hr=>by obtain⟨v',d,fF,fG,eY,fw,e,hv⟩:=hl.g _ hF _ _ _ _ _ _ _ hg;refine .pb (hl.F _ hF) e h1 h3 (by grind) h5 h6 ?_;rw[List.take_append_of_le_length (by omega)];exact au.mono hl hs hr|_,_,.mE h a=>.mE (hs _ _ h) a|_,_,.mN h a=>.mN (hs _ _ h) a|_,_,.yl a b h=>.yl (hl.l _ _ a rfl) b (au.mono hl hs h)theorem au.mono(hl:aX w w')(hs:∀i k,w.s i=some k->w'.s i=some k):∀{vs:List SV}{xs:List AV},au P w vs xs->au P w' vs xs|_,_,.nil=>.nil|_,_,.cons a b=>.cons (RV.mono hl hs a) (au.mono hl hs b)end
mutual
theorem RV.lu(hl:gH w w'):∀{v:SV}{x:AV},vy v=[]->gy v=true->RV P w v x->RV P w' v x|_,_,_,_,.aM x=>.aM x|_,_,_,_,.sc h=>.sc h|_,_,a,q,.agg h=>.agg (au.lu hl a (by simpa[gy]using q) h)|_,_,_,_,.dl h=>.dl (h.bX hl)|_,_,a,_,.cM h=>by cases a|_,_,a,_,.cu h=>by cases a|_,_,a,_,.ref h=>by cases a|_,_,a,_,.dI h _=>by cases a|_,_,_,_,.dj h=>.dj (h.bX hl)|_,_,a,_,.fW h=>by cases a|_,_,a,q,.fY h b=>.fY (RV.lu hl a (by simpa[gy]using q) h) b|_,_,_,_,.iG=>.iG|_,_,a,q,.fn h=>.fn (au.lu hl a (by simpa[gy]using q) h)|_,_,_,_,.fR=>.fR|_,_,a,q,.bC h=>.bC (au.lu hl a (by simpa[gy]using q) h)|_,_,a,q,.eb h=>.eb (RV.lu hl a (by simpa[gy]using q) h)|_,_,_,_,.kY=>.kY|_,_,_,_,.k0=>.k0|_,_,_,_,.aR h=>.aR h|_,_,_,_,.cl a h=>.cl a (h.bX hl)|_,_,a,_,.om h=>by cases a|_,_,_,_,.md h=>.md (h.bX hl)|_,_,_,_,.ls h=>.ls (h.bX hl)|_,_,_,_,.pb hF hg h1 h3 h4 h5 h6 hr=>by obtain⟨v',d,fF,fG,eY,fw,e,hv⟩:=hl.g _ hF _ _ _ _ _ _ _ hg;refine .pb (hl.F _ hF) e h1 h3 (by grind) h5 h6 ?_;rw[List.take_append_of_le_length (by omega)];exact au.lu hl h5 h6 hr|_,_,a,_,.mE h _=>by cases a|_,_,a,_,.mN h _=>by cases a|_,_,_,q,.yl _ _ _=>by cases q
theorem au.lu(hl:gH w w'):∀{vs:List SV}{xs:List AV},dV vs=[]->fj vs=true->au P w vs xs->au P w' vs xs|_,_,_,_,.nil=>.nil|_,_,a,q,.cons h1 h2=>by simp only[dV,List.append_eq_nil_iff]at a;simp only[fj,bB]at q;exact .cons (RV.lu hl a.1 q.1 h1) (au.lu hl a.2 q.2 h2)end
theorem au.length:∀{vs:List SV}{xs:List AV},au P w vs xs->vs.length=xs.length|_,_,.nil=>rfl|_,_,.cons _ b=>by simp[au.length b]
theorem au.get:∀{vs:List SV}{xs:List AV},au P w vs xs->∀(i:Nat)(v:SV),vs[i]?=some v->∃x,xs[i]?=some x/\RV P w v x|_,_,.nil,i,v,h=>by simp at h|_,_,.cons a b,0,v,h=>by grind|_,_,.cons a b,i+1,v,h=>by simp at h;obtain⟨x,e,r⟩:=au.get b i v h;grind
theorem au.take:∀{vs:List SV}{xs:List AV}(n:Nat),au P w vs xs->au P w (vs.take n) (xs.take n)|_,_,0,_=>by simp;exact .nil|_,_,n+1,.nil=>by simp;exact .nil|_,_,n+1,.cons a b=>by simp only[List.take_succ_cons];exact .cons a (au.take n b)
theorem au.drop:∀{vs:List SV}{xs:List AV}(n:Nat),au P w vs xs->au P w (vs.drop n) (xs.drop n)|_,_,0,h=>by grind|_,_,n+1,.nil=>by simp;exact .nil|_,_,n+1,.cons a b=>by simp only[List.drop_succ_cons];exact au.drop n b
theorem au.append:∀{vs us:List SV}{xs ys:List AV},au P w vs xs->au P w us ys->au P w (vs++us) (xs++ys)|_,_,_,_,.nil,h=>h|_,_,_,_,.cons a b,h=>.cons a (au.append b h)
theorem au.map{α:Type}{f:α->SV}{c:α->AV}:∀(l:List α),(∀a,a∈l->RV P w (f a) (c a))->au P w (l.map f) (l.map c)|[],_=>.nil|a::l,h=>.cons (h a (by simp)) (au.map l λb hb=>h b (by simp[hb]))
theorem cf.length:∀{ls:List Lf}{r r':List AV},cf P w ls r r'->r.length=ls.length/\r'.length=ls.length|_,_,_,.nil=>⟨rfl,rfl⟩|_,_,_,.cons _ b=>by have:=cf.length b;simp[this]
theorem cf.get:∀{ls:List Lf}{r r':List AV},cf P w ls r r'->∀(j:Nat)(l:Lf),ls[j]?=some l->∃c y,r[j]?=some c/\r'[j]?=some y/\jO P w l c y|_,_,_,.nil,j,l,h=>by simp at h|_,_,_,.cons a b,0,l,h=>by grind|_,_,_,.cons a b,j+1,l,h=>by simp at h;obtain⟨c,y,e1,e2,q⟩:=cf.get b j l h;grind
theorem bW.length:∀{ls:List Lf}{rs cZ:List (List AV)},bW P w ls rs cZ->rs.length=cZ.length|_,_,_,.nil _=>rfl|_,_,_,.cons _ b=>by simp[bW.length b]
theorem bW.get:∀{ls:List Lf}{rs cZ:List (List AV)},bW P w ls rs cZ->∀(i:Nat)(r:List AV),rs[i]?=some r->∃r',cZ[i]?=some r'/\cf P w ls r r'|_,_,_,.nil _,i,r,h=>by simp at h|_,_,_,.cons a b,0,r,h=>by grind|_,_,_,.cons a b,i+1,r,h=>by simp at h;obtain⟨r',e,q⟩:=bW.get b i r h;grind
theorem bW.sub{ls:List Lf}{rs cZ:List (List AV)}(h:bW P w ls rs cZ)(a b:Nat):bW P w ls ((rs.drop a).take b) ((cZ.drop a).take b):=by
 have hd:∀{rs cZ:List (List AV)}(a:Nat),bW P w ls rs cZ->bW P w ls (rs.drop a) (cZ.drop a):=by intro rs cZ a;induction a generalizing rs cZ with|zero=>grind|succ a c=>intro h;cases h with|nil=>simp;exact .nil _|cons x y=>grind
 have ht:∀{rs cZ:List (List AV)}(a:Nat),bW P w ls rs cZ->bW P w ls (rs.take a) (cZ.take a):=by intro rs cZ a;induction a generalizing rs cZ with|zero=>intro _;simp;exact .nil _|succ a c=>intro h;cases h with|nil=>simp;exact .nil _|cons x y=>simpa using .cons x (c y)
 grind
theorem bW.append{ls:List Lf}:∀{a a' b b':List (List AV)},bW P w ls a a'->bW P w ls b b'->bW P w ls (a++b) (a'++b')|_,_,_,_,.nil _,h=>h|_,_,_,_,.cons x y,h=>.cons x (bW.append y h)
theorem uj{l:Lf}{c y:AV}{r:List AV}{j:Nat}(hc:r[j]?=some c)(h:jO P w l c y):RV P w (hY l r j) y:=by cases h with|int k n=>simp only[hY,gI,hc];exact .sc rfl|bool b=>simp only[hY,gB,hc];exact .sc rfl|str s=>simp only[hY,gS,hc];exact .sc rfl|sl h=>simp only[hY,gD,hc];exact .dl h
theorem KY(r:List AV):∀(ls:List Lf)(j:Nat),(fU r ls j).length=ls.length|[],_=>rfl|l::ls,j=>by simp[fU,KY r ls (j+1)]
theorem KZ{r0:List AV}:∀{ls:List Lf}{r r':List AV},cf P w ls r r'->∀(j:Nat),(∀k,r0[j+k]?=r[k]?)->au P w (fU r0 ls j) r'|_,_,_,.nil,j,_=>.nil|_,_,_,.cons (c:=c) a b,j,h=>by refine .cons (uj (c:=c) (by simpa using h 0) a) (KZ b (j+1) λk=>?_);have:=h (k+1);grind
theorem zb{ls:List Lf}{r r':List AV}(h:cf P w ls r r'):au P w (fU r ls 0) r':=KZ h 0 λk=>by simp
end
end Go.AI
end

section
namespace Go.AI
def live(ob:Tr aq)(i:Nat):Prop:=∃x,ob.get i=some x/\x≠.gone
def cQ(s:ByteArray):List AV:=s.data.toList.map λb=>.sc (.int .u8 b.toNat)
structure ah(P:Program)(w:Wd)(ob:Tr aq)(nx:Nat)(h:AHeap):Prop where
 g:∀o,w.g o=h.get o
 box:∀i t cs,ob.get i=some (.box t cs)->∃o c sh,w.s i=some (.box o c.length)/\h.get o=some (.cells 0 0 c 0 t true sh)/\au P w cs c/\cJ cs=true/\¬w.F o
 arr:∀i t rows aY,ob.get i=some (.arr t rows aY)->bt P t=some (lay P t).length/\0<(lay P t).length/\isByte P t=false/\((w.s i=some .nil/\rows=[])\/∃o ver mv c ex sh cap,w.s i=some (.sl o ver (rows.length*(lay P t).length) (lay P t).length rows.length cap)/\(∀k,cap=some k->k=rows.length)/\h.get o=some (.cells ver mv c 0 t ex sh)/\mv<=ver/\c.length=rows.length*(lay P t).length/\bW P w (lay P t) rows (chunks (lay P t).length rows.length c)/\(aY=true->True)/\(aY=false->¬w.F o))
 bh:∀i s el,ob.get i=some (.bh s el)->isByte P el=true/\((w.s i=some .nil/\s.size=0)\/∃o ver mv ex fz cap,0<s.size/\w.s i=some (.sl o ver s.size 1 s.size cap)/\(∀k,cap=some k->k=s.size)/\h.get o=some (.cells ver mv (cQ s) fz el ex false)/\mv<=ver/\fz<=s.size/\¬w.F o)
 inj:∀i j k l o,live ob i->live ob j->w.s i=some k->w.s j=some l->k.obj=some o->l.obj=some o->i=j
 lt:∀i k o,w.s i=some k->k.obj=some o->o<h.next
 nx:∀i,nx<=i->w.s i=none/\ob.get i=none
 bU:∀o,w.F o->o<h.next/\h.get o≠none
 new:∀o,h.next<=o->h.get o=none
 mp:∀i t rows aY,ob.get i=some (.mp t rows aY)->∃e o es cl,kT P t=some e/\w.s i=some (.mp o)/\h.get o=some (.map es cl)/\rb P w e rows es cl/\(aY=false->¬w.F o)tr:∀i t rows aY,ob.get i=some (.tr t rows aY)->bt P t=some (lay P t).length/\0<(lay P t).length/\isByte P t=false/\((w.s i=some .nil/\rows=[])\/∃o ver mv c ex sh n,w.s i=some (.sl o ver n (lay P t).length rows.length none)/\h.get o=some (.cells ver mv c 0 t ex sh)/\mv<=ver/\rows.length*(lay P t).length<=n/\rows.length*(lay P t).length<=c.length/\bW P w (lay P t) rows (chunks (lay P t).length rows.length c)/\(aY=false->¬w.F o))
structure eQ(P:Program)(w:Wd)(tm:Tr SV)(bY:Tr AV):Prop where tm:∀t v,tm.get t=some v->∃x,bY.get t=some x/\RV P w v x
theorem eQ.mono{P:Program}{w w':Wd}{tm:Tr SV}{bY:Tr AV}(h:eQ P w tm bY)(hl:aX w w')(hs:∀i k,w.s i=some k->w'.s i=some k):eQ P w' tm bY:=⟨λt v e=>let⟨x,a,b⟩:=h.tm t v e;⟨x,a,b.mono hl hs⟩⟩
section
variable {P:Program}{w w':Wd}
theorem Pl(v:Value):RV P w (Ca v) (.sc v):=by
 unfold Ca
 split
 .rename_i h;exact .sc h
 .exact .aM _
theorem u4(v:Value):RV P w (gx v) (bz v):=by
 cases v with
 |agg cs=>exact .agg (au.map _ λa _=>Pl a)
 |tuple cs=>exact .bC (au.map _ λa _=>Pl a)
 |func fn a c=>
  cases fn with
  |func f=>
   simp only[gx,bz]
   split
   .rename_i h1 h2
    have e1:a=#[]:=by grind
    have e2:c=#[]:=by grind
    subst e1;subst e2;exact .fR
   .exact .sc rfl|_=>exact .sc rfl
 |_=>exact .sc rfl
theorem fe{tm:Tr SV}{bY:Tr AV}(h:eQ P w tm bY)(o:Operand):RV P w (bH tm o) (ev bY o):=by
 cases o with
 |tmp t=>simp only[bH,ev];cases e:tm.get t with|none=>exact .aM _|some v=>obtain⟨x,a,b⟩:=h.tm t v e;grind
 |const v=>exact u4 v|global g=>exact .aM _|func f=>exact .fR
theorem K0{x:AV}(h:wK x=true):a6 x=[x]:=by cases x<;>first|rfl|cases h
theorem Rd.na{t:TypeId}{rows:List (List AV)}{x:AV}(h:Rd P w t rows x):wK x=true:=by cases h<;>rfl
theorem Rp.na{t:TypeId}{row:List AV}{off:Nat}{x:AV}(h:Rp P w t row off x):wK x=true:=by cases h<;>rfl
theorem RV.na{v:SV}{x:AV}(h:RV P w v x)(hv:v≠.aM)(ha:∀cs,v≠.agg cs):wK x=true:=by
 cases h with
 |aM x=>grind
 |agg h=>grind
 |dl h=>exact h.na
 |dj h=>exact h.na
 |md h=>cases h;rfl
 |ls h=>cases h<;>rfl
 |fY h a=>exact a
 |aR a=>cases x<;>first|rfl|cases a
 |_=>rfl
theorem nF{v:SV}{x:AV}(h:RV P w v x)(hv:v≠.aM):au P w (bl v) (a6 x):=by
 by_cases ha:∃cs,v=.agg cs
 .obtain⟨cs,rfl⟩:=ha;cases h with|agg h=>exact h
 .have ha:∀cs,v≠.agg cs:=λcs e=>ha ⟨cs,e⟩
  rw[K0 (h.na hv ha)]
  have:bl v=[v]:=by cases v<;>first|rfl|exact absurd rfl (ha _)
  rw[this];exact .cons h .nil
theorem Rd.cell{t:TypeId}{rows:List (List AV)}{x:AV}(h:Rd P w t rows x):dN x=true:=by cases h<;>rfl
theorem RV.cell:∀{v:SV}{x:AV},RV P w v x->l3 v=true->dN x=true
 |.aM,_,_,h=>by cases h
 |.agg _,_,_,h=>by cases h
 |.bC _,_,_,h=>by cases h
 |.sc v,_,.sc hp,h=>by cases v<;>first|rfl|cases hp
 |.dl _ _,_,.dl hr,_=>hr.cell|.own _,_,.cM _,_=>rfl|.own _,_,.cu _,_=>rfl|.ref _ _,_,.ref _,_=>rfl|.dI _ _ _,_,.dI _ _,_=>rfl|.dj _ _ _,_,.dj hp,_=>by cases hp<;>rfl|.fW _,_,.fW _,_=>rfl|.opt _ v,_,.fY hr _,h=>RV.cell (v:=v) hr (by simpa[l3]using h)|.opt _ _,_,.iG,_=>rfl|.fn _ _,_,.fn _,_=>rfl|.fn _ _,_,.fR,_=>rfl|.eb _ _,_,.eb _,_=>rfl|.sW _,_,.kY,_=>rfl|.sW _,_,.k0,_=>rfl|.aR,_,.aR h,_=>h|.cl _ _,_,.cl _ _,_=>rfl|.om _,_,.om _,_=>rfl|.md _ _,_,.md h,_=>by cases h;rfl|.ls _ _,_,.ls h,_=>by cases h<;>rfl|.pb _ _ _,_,.pb _ _ _ _ _ _ _ _,_=>rfl|.ni _ _,_,_,h=>by cases h|.yl _ _ _,_,_,h=>by cases h
theorem au.cells:∀{vs:List SV}{xs:List AV},au P w vs xs->cJ vs=true->xs.all dN=true|_,_,.nil,_=>rfl|_,_,.cons a b,h=>by simp only[cJ,bB]at h;simp only[List.all_cons,bB];exact⟨a.cell h.1,b.cells h.2⟩
theorem pK{sz:Nat}:∀(n:Nat)(l:List AV)(i:Nat),i<n->(chunks sz n l)[i]?=some ((l.drop (i*sz)).take sz)|0,_,_,h=>by omega|n+1,l,0,_=>by simp[chunks]|n+1,l,i+1,h=>by simp only[chunks,List.getElem?_cons_succ];rw[pK n (l.drop sz) i (by omega),List.drop_drop];grind
def kM(h h1:AHeap)(x:AV):Prop:=∀o,o∈jD x->h1.get o=h.get o
theorem Jr{row dZ:List AV}{ls:List Lf}(hr:cf P w ls row dZ)(off s:Nat):au P w (((fU row ls 0).drop off).take s) ((dZ.drop off).take s):=(zb hr).drop off|>.take s
variable {ob:Tr aq}{nx:Nat}{h h1:AHeap}
theorem Rp.read(hs:ah P w ob nx h){t:TypeId}{row:List AV}{off s:Nat}{x:AV}(hp:Rp P w t row off x)(ha:kM h h1 x)(hl:off+s<=(lay P t).length):
 ∃dZ,cf P w (lay P t) row dZ/\gW h1 s x=some ((dZ.drop off).take s):=by
 cases hp with
 |cI hr=>rename_i dZ;refine⟨dZ,hr,?_⟩;have:=hr.length;simp only[gW];grind
 |ref hF hg h2 h3 h4 h5 hr=>
  rename_i o ver n p v mv fz c el ex sh
  refine⟨_,hr,?_⟩
  have z:h1.get o=some (.cells v mv c fz el ex sh):=by rw[ha o (by simp[jD]),<-hs.g];exact hg
  simp only[gW,c9,z];rw[if_pos ⟨h2,h3,by omega⟩];rw[List.drop_take,List.take_take,List.drop_drop,Nat.min_eq_left (by omega)]
theorem L7(hs:ah P w ob nx h){i off s:Nat}{t:TypeId}{cs:List SV}{x:AV}(hb:ob.get i=some (.box t cs))(hx:RV P w (.ref i off) x)(ha:kM h h1 x)(hl:off+s<=cs.length):
 ∃xs,gW h1 s x=some ((xs.drop off).take s)/\au P w cs xs:=by
 obtain⟨o,c,sh,e1,e2,e3,_,_⟩:=hs.box i t cs hb
 cases hx with
 |ref e=>
  rw[e1]at e
  simp only[ad,Lk.box.injEq]at e
  obtain⟨rfl,rfl⟩:=e
  have z:h1.get o=some (.cells 0 0 c 0 t true sh):=by rw[ha o (by simp[jD])];exact e2
  refine⟨c,?_,e3⟩;simp only[gW,c9,z];rw[if_pos ⟨aC _,aC _,by rw[<-e3.length];exact hl⟩]
theorem L8(hs:ah P w ob nx h){i k off s:Nat}{t:TypeId}{rows:List (List AV)}{aY:Bool}{row:List AV}{x:AV}(hb:ob.get i=some (.arr t rows aY))(hr:rows[k]?=some row)(hx:RV P w (.dI i k off) x)(ha:kM h h1 x)(hl:off+s<=(lay P t).length):
 ∃dZ,cf P w (lay P t) row dZ/\gW h1 s x=some ((dZ.drop off).take s):=by
 obtain⟨_,_,_,hd⟩:=hs.arr i t rows aY hb
 have hk:k<rows.length:=by grind
 rcases hd with⟨_,rfl⟩|⟨o,ver,mv,c,ex,sh,cap,e1,_,e2,e3,F,E,_⟩
 .simp at hk
 .cases hx with
  |dI e _=>
   rw[e1]at e
   simp only[ad,Lk.sl.injEq]at e
   obtain⟨rfl,rfl,rfl,rfl,rfl,rfl⟩:=e
   have D:h1.get o=some (.cells ver mv c 0 t ex sh):=by rw[ha o (by simp[jD])];exact e2
   obtain⟨dZ,q1,q2⟩:=E.get k row hr;rw[pK _ _ _ hk]at q1;simp only[ad]at q1;subst q1;refine⟨_,q2,?_⟩;have z:(k+1)*(lay P t).length<=rows.length*(lay P t).length:=Nat.mul_le_mul_right _ hk;rw[Nat.add_mul]at z;simp only[gW,c9,D];rw[if_pos ⟨e3,aC _,by omega⟩];rw[List.drop_take,List.take_take,List.drop_drop,Nat.min_eq_left (by omega)]
theorem Av{xs:List AV}{off:Nat}{x:AV}(h:xs[off]?=some x):(xs.drop off).take 1=[x]:=by
 have hlt:off<xs.length:=by grind
 rw[List.getElem?_eq_getElem hlt]at h;simp only[ad]at h;subst h;rw[List.drop_eq_getElem_cons hlt];rfl
variable {ρ:Type}
theorem NN{S:ae}(hs:ah P w S.ob S.nx h){t:TypeId}{a:SV}{x:AV}(hx:RV P w a x)(ha:kM h h1 x){k:SV->Option ρ}{r:ρ}(hr:va P S t a k=some r):
 ∃v y,k v=some r/\iw P h1 t x=some y/\RV P w v y:=by
 unfold va at hr
 split at hr
 .rename_i g s i off hg z
  split at hr
  .rename_i t' cs hb
   split at hr
   .rename_i hl
    cases g with
    |true=>obtain⟨xs,e1,e2⟩:=L7 hs hb hx ha hl;refine⟨_,.agg ((xs.drop off).take s),hr,?_,.agg ((e2.drop off).take s)⟩;simp only[iw,hg,z,e1];rfl
    |false=>
     simp only at hr
     split at hr
     .rename_i v hv
      have hlt:off+1<=cs.length:=by grind
      obtain⟨xs,e1,e2⟩:=L7 hs hb hx ha hlt;obtain⟨y,e3,K⟩:=e2.get off v hv;refine⟨v,y,hr,?_,K⟩;rw[Av e3]at e1;simp only[iw,hg,z,e1]
     .cases hr
   .cases hr
  .cases hr
 .rename_i g s t' row off hg z
  split at hr
  .rename_i hl
   cases hx with
   |dj hp=>
    cases g with
    |true=>obtain⟨dZ,q1,q2⟩:=hp.read hs ha hl;refine⟨_,.agg ((dZ.drop off).take s),hr,?_,.agg (Jr q1 off s)⟩;simp only[iw,hg,z,q2];rfl
    |false=>
     simp only at hr
     split at hr
     .rename_i l hv
      have hlt:off+1<=(lay P t').length:=by grind
      obtain⟨dZ,q1,q2⟩:=hp.read hs ha hlt;obtain⟨c,y,q3,q4,q5⟩:=q1.get off l hv;refine⟨_,y,hr,?_,uj q3 q5⟩;rw[Av q4]at q2;simp only[iw,hg,z,q2]
     .cases hr
  .cases hr
 .rename_i g s i j off hg z
  split at hr
  .rename_i t' rows aY hb
   unfold eJ at hr
   split at hr
   .rename_i row D
    split at hr
    .rename_i hl
     cases g with
     |true=>obtain⟨dZ,q1,q2⟩:=L8 hs hb D hx ha hl;refine⟨_,.agg ((dZ.drop off).take s),hr,?_,.agg (Jr q1 off s)⟩;simp only[iw,hg,z,q2];rfl
     |false=>
      simp only at hr
      split at hr
      .rename_i l hv
       have hlt:off+1<=(lay P t').length:=by grind
       obtain⟨dZ,q1,q2⟩:=L8 hs hb D hx ha hlt;obtain⟨c,y,q3,q4,q5⟩:=q1.get off l hv;refine⟨_,y,hr,?_,uj q3 q5⟩;rw[Av q4]at q2;simp only[iw,hg,z,q2]
      .cases hr
    .cases hr
   .cases hr
  .cases hr
 .rename_i g s t' cs off hg z
  split at hr
  .rename_i hl
   cases hx with
   |pb hF F J h3 h4 h5 h6 hq=>
    rename_i o n v mv fz c el ex sh
    subst J
    have I:h1.get o=some (.cells v 0 c fz el ex sh):=by rw[ha o (by simp[jD]),<-hs.g];exact F
    have hlen:(c.take cs.length).length=cs.length:=by grind
    have E:∀s',off+s'<=cs.length->gW h1 s' (.ref o 0 n off)=some (((c.take cs.length).drop off).take s'):=by intro s' L;simp only[gW,c9,I];rw[if_pos ⟨Nat.zero_le _,Nat.zero_le _,by omega⟩];rw[List.drop_take,List.take_take,Nat.min_eq_left (by omega)]
    cases g with
    |true=>refine⟨_,.agg (((c.take cs.length).drop off).take s),hr,?_,.agg ((hq.drop off).take s)⟩;simp only[iw,hg,z,E s hl];rfl
    |false=>
     simp only at hr
     split at hr
     .rename_i v' hv
      obtain⟨y,e3,K⟩:=hq.get off v' hv
      refine⟨v',y,hr,?_,K⟩
      have hlt:off+1<=cs.length:=by grind
      have e1:=E 1 hlt;rw[Av e3]at e1;simp only[iw,hg,z,e1]
     .cases hr
  .cases hr
 .cases hr
end
end Go.AI
end

section
namespace Go.AI
def Wd.more(w:Wd)(F:Nat->Prop):Wd:={w with F:=λo=>w.F o\/F o}
theorem aX.more(w:Wd)(F:Nat->Prop):aX w (w.more F):=⟨λ_ h=>.inl h,λ_ _ h _=>h,λ_ h=>⟨h,id⟩,λ_ _ v mv c fz el ex sh h=>⟨v,[],fz,el,ex,sh,by simpa[Wd.more]using h,aC _⟩,λ_ _ _ _ h=>h⟩
def Ow(w:Wd)(ob:Tr aq)(o:Nat):Prop:=∃i k,live ob i/\w.s i=some k/\k.obj=some o
theorem aX.imp{w w':Wd}(hg:w'.g=w.g)(hF:∀o,w.F o->w'.F o):aX w w':=⟨hF,λ_ _ h _=>by grind,λ_ h=>by grind,λ_ _ v mv c fz el ex sh h=>⟨v,[],fz,el,ex,sh,by grind,aC _⟩,λ_ _ _ _ h=>by grind⟩
def jd(ob:Tr aq)(i:Nat)(t:TypeId)(rows:List (List AV))(l:Bool):Prop:=ob.get i=some (.arr t rows l)\/ob.get i=some (.tr t rows l)
section
variable {P:Program}{w:Wd}{ob:Tr aq}{nx:Nat}{h:AHeap}
theorem nL{i j:Nat}{x y:aq}(hx:ob.get i=some x)(hg:x≠.gone)(hy:y≠.gone):live (ob.put i y) j↔live ob j:=by
 unfold live
 by_cases e:j=i
 .subst e;rw[Tr.a7];grind
 .rw[Tr.aL _ _ e]
theorem au.Fv{cs:List SV}{c:List AV}(F:Nat->Prop)(hr:au P w cs c):au P (w.more F) cs c:=hr.mono (aX.more w F) λ_ _ e=>e
theorem XP(hs:ah P w ob nx h){i:Nat}{t:TypeId}{rows:List (List AV)}{aY:Bool}(hi:ob.get i=some (.arr t rows aY)):
 ∃F,ah P (w.more F) (ob.put i (.arr t rows true)) nx h/\(∀o,F o->Ow w ob o)/\∀x,RV P w (.own i) x->Rd P (w.more F) t rows x:=by
 have K:live ob i:=⟨_,hi,by simp⟩
 have J:∀j,live (ob.put i (.arr t rows true)) j↔live ob j:=λj=>nL hi (by simp) (by simp)
 obtain⟨S,R,V,O⟩:=hs.arr i t rows aY hi
 have D:∀j,j≠i->∀k o,live ob j->w.s j=some k->k.obj=some o->∀k',w.s i=some k'->k'.obj≠some o:=λj hj k o hl h1 h2 k' h3 h4=>hj (hs.inj j i k k' o hl K h1 h3 h2 h4)
 refine⟨λo=>∃k,w.s i=some k/\k.obj=some o,⟨hs.g,?_,?_,?_,?_,hs.lt,?_,?_,hs.new,?_,?_⟩,λo⟨k,h1,h2⟩=>⟨i,k,K,h1,h2⟩,?_⟩
 .intro j t' cs hj
  by_cases e:j=i
  .subst e;rw[Tr.a7]at hj;cases hj
  .rw[Tr.aL _ _ e]at hj
   obtain⟨o,c,sh,E,I,M,L,U⟩:=hs.box j t' cs hj
   refine⟨o,c,sh,E,I,M.Fv _,L,?_⟩
   rintro(h1|⟨k,h1,h2⟩)
   .exact U h1
   .exact D j e _ o ⟨_,hj,by simp⟩ E rfl k h1 h2
 .intro j t' rows' z hj
  by_cases e:j=i
  .subst e
   rw[Tr.a7]at hj
   simp only[ad,aq.arr.injEq]at hj
   obtain⟨rfl,rfl,rfl⟩:=hj
   refine⟨S,R,V,?_⟩
   rcases O with⟨q1,q2⟩|⟨o,ver,mv,c,ex,sh,cap,q1,q2,q3,q4,q5,q6,q7,q8⟩
   .exact .inl ⟨q1,q2⟩
   .exact .inr ⟨o,ver,mv,c,ex,sh,cap,q1,q2,q3,q4,q5,q6.mono (aX.more w _),λ_=>trivial,λe=>by cases e⟩
  .rw[Tr.aL _ _ e]at hj
   obtain⟨E,I,M,L⟩:=hs.arr j t' rows' z hj
   refine⟨E,I,M,?_⟩
   rcases L with⟨q1,q2⟩|⟨o,ver,mv,c,ex,sh,cap,q1,q2,q3,q4,q5,q6,q7,q8⟩
   .exact .inl ⟨q1,q2⟩
   .refine .inr ⟨o,ver,mv,c,ex,sh,cap,q1,q2,q3,q4,q5,q6.mono (aX.more w _),q7,λe2=>?_⟩
    rintro(h1|⟨k,h1,h2⟩)
    .grind
    .exact D j e _ o ⟨_,hj,by simp⟩ q1 rfl k h1 h2
 .intro j s z hj
  by_cases e:j=i
  .subst e;rw[Tr.a7]at hj;cases hj
  .rw[Tr.aL _ _ e]at hj
   obtain⟨T,q⟩:=hs.bh j s z hj
   refine⟨T,?_⟩
   rcases q with q|⟨o,ver,mv,ex,fz,cap,q0,q1,q2,q3,q4,q5,q7⟩
   .exact .inl q
   .refine .inr ⟨o,ver,mv,ex,fz,cap,q0,q1,q2,q3,q4,q5,?_⟩
    rintro(h1|⟨k,h1,h2⟩)
    .exact q7 h1
    .exact D j e _ o ⟨_,hj,by simp⟩ q1 rfl k h1 h2
 .intro j Q k l o h1 h2 h3 h4 h5 h6;exact hs.inj j Q k l o ((J j).1 h1) ((J Q).1 h2) h3 h4 h5 h6
 .intro j hj
  obtain⟨E,I⟩:=hs.nx j hj
  refine⟨E,?_⟩
  by_cases e:j=i
  .grind
  .rw[Tr.aL _ _ e];exact I
 .rintro o(h1|⟨k,h1,h2⟩)
  .exact hs.bU o h1
  .refine⟨hs.lt i k o h1 h2,?_⟩
   rcases O with⟨q1,q2⟩|⟨o',ver,mv,c,ex,sh,cap,q1,q2,q3,q4,q5,q6,q7,q8⟩
   .rw[q1]at h1;cases h1;cases h2
   .rw[q1]at h1;cases h1;cases h2;grind
 .intro j t' rows' z hj
  by_cases e:j=i
  .subst e;rw[Tr.a7]at hj;cases hj
  .rw[Tr.aL _ _ e]at hj
   obtain⟨e1,o,es,cl,q1,q2,q3,q4,q5⟩:=hs.mp j t' rows' z hj
   refine⟨e1,o,es,cl,q1,q2,q3,q4.bX (aX.more w _).c,λe2=>?_⟩
   rintro(h1|⟨k,h1,h2⟩)
   .grind
   .exact D j e _ o ⟨_,hj,by simp⟩ q2 rfl k h1 h2
 .intro j t' rows' z hj
  by_cases e:j=i
  .subst e;rw[Tr.a7]at hj;cases hj
  .rw[Tr.aL _ _ e]at hj
   obtain⟨E,I,M,L⟩:=hs.tr j t' rows' z hj
   refine⟨E,I,M,?_⟩
   rcases L with⟨q1,q2⟩|⟨o,ver,mv,c,ex,sh,n,q1,q3,q4,q5,N,q6,q8⟩
   .exact .inl ⟨q1,q2⟩
   .refine .inr ⟨o,ver,mv,c,ex,sh,n,q1,q3,q4,q5,N,q6.mono (aX.more w _),λe2=>?_⟩
    rintro(h1|⟨k,h1,h2⟩)
    .grind
    .exact D j e _ o ⟨_,hj,by simp⟩ q1 rfl k h1 h2
 .intro x hx
  rcases O with⟨q1,rfl⟩|⟨o,ver,mv,c,ex,sh,cap,q1,q2,q3,q4,q5,q6,q7,q8⟩
  .cases hx with|cM _=>exact .nil t|cu e=>grind
  .cases hx with|cM e=>grind|cu e=>rw[q1]at e;simp only[ad,Lk.sl.injEq]at e;obtain⟨rfl,rfl,rfl,rfl,rfl,rfl⟩:=e;refine .sl S R (.inr ⟨_,q1,rfl⟩) (by show w.g o=_;rw[hs.g];exact q3) q4 (aC _) (by omega) (by omega) (λk e=>by grind) ?_;rw[List.drop_zero];exact q6.mono (aX.more w _)
theorem aaH(hs:ah P w ob nx h){i:Nat}{t:TypeId}{rows:List (List AV)}{aY:Bool}(hi:ob.get i=some (.mp t rows aY)):
 ∃F,ah P (w.more F) (ob.put i (.mp t rows true)) nx h/\(∀o,F o->Ow w ob o)/\∀x,RV P w (.om i) x->Rm P (w.more F) t rows x:=by
 have K:live ob i:=⟨_,hi,by simp⟩
 have J:∀j,live (ob.put i (.mp t rows true)) j↔live ob j:=λj=>nL hi (by simp) (by simp)
 obtain⟨Z,Y,Q,R,U,N,T,S,m5⟩:=hs.mp i t rows aY hi
 have D:∀j,j≠i->∀k o,live ob j->w.s j=some k->k.obj=some o->∀k',w.s i=some k'->k'.obj≠some o:=λj hj k o hl h1 h2 k' h3 h4=>hj (hs.inj j i k k' o hl K h1 h3 h2 h4)
 refine⟨λo=>∃k,w.s i=some k/\k.obj=some o,⟨hs.g,?_,?_,?_,?_,hs.lt,?_,?_,hs.new,?_,?_⟩,λo⟨k,h1,h2⟩=>⟨i,k,K,h1,h2⟩,?_⟩
 .intro j t' cs hj
  by_cases e:j=i
  .subst e;rw[Tr.a7]at hj;cases hj
  .rw[Tr.aL _ _ e]at hj
   obtain⟨o,c,sh,E,I,M,L,b5⟩:=hs.box j t' cs hj
   refine⟨o,c,sh,E,I,M.Fv _,L,?_⟩
   rintro(h1|⟨k,h1,h2⟩)
   .exact b5 h1
   .exact D j e _ o ⟨_,hj,by simp⟩ E rfl k h1 h2
 .intro j t' rows' z hj
  by_cases e:j=i
  .subst e;rw[Tr.a7]at hj;cases hj
  .rw[Tr.aL _ _ e]at hj
   obtain⟨E,I,M,L⟩:=hs.arr j t' rows' z hj
   refine⟨E,I,M,?_⟩
   rcases L with⟨q1,q2⟩|⟨o,ver,mv,c,ex,sh,cap,q1,q2,q3,q4,q5,q6,q7,q8⟩
   .exact .inl ⟨q1,q2⟩
   .refine .inr ⟨o,ver,mv,c,ex,sh,cap,q1,q2,q3,q4,q5,q6.mono (aX.more w _),q7,λe2=>?_⟩
    rintro(h1|⟨k,h1,h2⟩)
    .grind
    .exact D j e _ o ⟨_,hj,by simp⟩ q1 rfl k h1 h2
 .intro j s z hj
  by_cases e:j=i
  .subst e;rw[Tr.a7]at hj;cases hj
  .rw[Tr.aL _ _ e]at hj
   obtain⟨X,q⟩:=hs.bh j s z hj
   refine⟨X,?_⟩
   rcases q with q|⟨o,ver,mv,ex,fz,cap,q0,q1,q2,q3,q4,q5,q7⟩
   .exact .inl q
   .refine .inr ⟨o,ver,mv,ex,fz,cap,q0,q1,q2,q3,q4,q5,?_⟩
    rintro(h1|⟨k,h1,h2⟩)
    .exact q7 h1
    .exact D j e _ o ⟨_,hj,by simp⟩ q1 rfl k h1 h2
 .intro j V k l o h1 h2 h3 h4 h5 h6;exact hs.inj j V k l o ((J j).1 h1) ((J V).1 h2) h3 h4 h5 h6
 .intro j hj
  obtain⟨E,I⟩:=hs.nx j hj
  refine⟨E,?_⟩
  by_cases e:j=i
  .grind
  .rw[Tr.aL _ _ e];exact I
 .rintro o(h1|⟨k,h1,h2⟩)
  .exact hs.bU o h1
  .refine⟨hs.lt i k o h1 h2,?_⟩;rw[N]at h1;cases h1;cases h2;grind
 .intro j t' rows' z hj
  by_cases e:j=i
  .subst e;rw[Tr.a7]at hj;simp only[ad,aq.mp.injEq]at hj;obtain⟨rfl,rfl,rfl⟩:=hj;exact⟨Z,Y,Q,R,U,N,T,S.bX (aX.more w _).c,λe=>by cases e⟩
  .rw[Tr.aL _ _ e]at hj
   obtain⟨e1,o,es,cl,q1,q2,q3,q4,q5⟩:=hs.mp j t' rows' z hj
   refine⟨e1,o,es,cl,q1,q2,q3,q4.bX (aX.more w _).c,λe2=>?_⟩
   rintro(h1|⟨k,h1,h2⟩)
   .grind
   .exact D j e _ o ⟨_,hj,by simp⟩ q2 rfl k h1 h2
 .intro j t' rows' z hj
  by_cases e:j=i
  .subst e;rw[Tr.a7]at hj;cases hj
  .rw[Tr.aL _ _ e]at hj
   obtain⟨E,I,M,L⟩:=hs.tr j t' rows' z hj
   refine⟨E,I,M,?_⟩
   rcases L with⟨q1,q2⟩|⟨o,ver,mv,c,ex,sh,n,q1,q3,q4,q5,O,q6,q8⟩
   .exact .inl ⟨q1,q2⟩
   .refine .inr ⟨o,ver,mv,c,ex,sh,n,q1,q3,q4,q5,O,q6.mono (aX.more w _),λe2=>?_⟩
    rintro(h1|⟨k,h1,h2⟩)
    .grind
    .exact D j e _ o ⟨_,hj,by simp⟩ q1 rfl k h1 h2
 .intro x hx;cases hx with|om e=>rw[N]at e;cases e;exact .mk U (.inr ⟨_,N,rfl⟩) (by show w.g _=_;rw[hs.g];exact T) (S.bX (aX.more w _).c)
theorem aaI(hs:ah P w ob nx h){i:Nat}{t:TypeId}{rows:List (List AV)}{aY:Bool}(hi:ob.get i=some (.tr t rows aY)):
 ∃F,ah P (w.more F) (ob.put i (.tr t rows true)) nx h/\(∀o,F o->Ow w ob o)/\∀x,RV P w (.own i) x->Rd P (w.more F) t rows x:=by
 have L:live ob i:=⟨_,hi,by simp⟩
 have K:∀j,live (ob.put i (.tr t rows true)) j↔live ob j:=λj=>nL hi (by simp) (by simp)
 obtain⟨S,R,V,O⟩:=hs.tr i t rows aY hi
 have D:∀j,j≠i->∀k o,live ob j->w.s j=some k->k.obj=some o->∀k',w.s i=some k'->k'.obj≠some o:=λj hj k o hl h1 h2 k' h3 h4=>hj (hs.inj j i k k' o hl L h1 h3 h2 h4)
 refine⟨λo=>∃k,w.s i=some k/\k.obj=some o,⟨hs.g,?_,?_,?_,?_,hs.lt,?_,?_,hs.new,?_,?_⟩,λo⟨k,h1,h2⟩=>⟨i,k,L,h1,h2⟩,?_⟩
 .intro j t' cs hj
  by_cases e:j=i
  .subst e;rw[Tr.a7]at hj;cases hj
  .rw[Tr.aL _ _ e]at hj
   obtain⟨o,c,sh,I,J,N,M,U⟩:=hs.box j t' cs hj
   refine⟨o,c,sh,I,J,N.Fv _,M,?_⟩
   rintro(h1|⟨k,h1,h2⟩)
   .exact U h1
   .exact D j e _ o ⟨_,hj,by simp⟩ I rfl k h1 h2
 .intro j t' rows' z hj
  by_cases e:j=i
  .subst e;rw[Tr.a7]at hj;cases hj
  .rw[Tr.aL _ _ e]at hj
   obtain⟨I,J,N,M⟩:=hs.arr j t' rows' z hj
   refine⟨I,J,N,?_⟩
   rcases M with⟨q1,q2⟩|⟨o,ver,mv,c,ex,sh,cap,q1,q2,q3,q4,q5,q6,q7,q8⟩
   .exact .inl ⟨q1,q2⟩
   .refine .inr ⟨o,ver,mv,c,ex,sh,cap,q1,q2,q3,q4,q5,q6.mono (aX.more w _),q7,λe2=>?_⟩
    rintro(h1|⟨k,h1,h2⟩)
    .grind
    .exact D j e _ o ⟨_,hj,by simp⟩ q1 rfl k h1 h2
 .intro j s z hj
  by_cases e:j=i
  .subst e;rw[Tr.a7]at hj;cases hj
  .rw[Tr.aL _ _ e]at hj
   obtain⟨T,q⟩:=hs.bh j s z hj
   refine⟨T,?_⟩
   rcases q with q|⟨o,ver,mv,ex,fz,cap,q0,q1,q2,q3,q4,q5,q7⟩
   .exact .inl q
   .refine .inr ⟨o,ver,mv,ex,fz,cap,q0,q1,q2,q3,q4,q5,?_⟩
    rintro(h1|⟨k,h1,h2⟩)
    .exact q7 h1
    .exact D j e _ o ⟨_,hj,by simp⟩ q1 rfl k h1 h2
 .intro j Q k l o h1 h2 h3 h4 h5 h6;exact hs.inj j Q k l o ((K j).1 h1) ((K Q).1 h2) h3 h4 h5 h6
 .intro j hj
  obtain⟨I,J⟩:=hs.nx j hj
  refine⟨I,?_⟩
  by_cases e:j=i
  .grind
  .rw[Tr.aL _ _ e];exact J
 .rintro o(h1|⟨k,h1,h2⟩)
  .exact hs.bU o h1
  .refine⟨hs.lt i k o h1 h2,?_⟩
   rcases O with⟨q1,q2⟩|⟨o',ver,mv,c,ex,sh,n,q1,q3,q4,q5,E,q6,q8⟩
   .rw[q1]at h1;cases h1;cases h2
   .rw[q1]at h1;cases h1;cases h2;grind
 .intro j t' rows' z hj
  by_cases e:j=i
  .subst e;rw[Tr.a7]at hj;cases hj
  .rw[Tr.aL _ _ e]at hj
   obtain⟨e1,o,es,cl,q1,q2,q3,q4,q5⟩:=hs.mp j t' rows' z hj
   refine⟨e1,o,es,cl,q1,q2,q3,q4.bX (aX.more w _).c,λe2=>?_⟩
   rintro(h1|⟨k,h1,h2⟩)
   .grind
   .exact D j e _ o ⟨_,hj,by simp⟩ q2 rfl k h1 h2
 .intro j t' rows' z hj
  by_cases e:j=i
  .subst e
   rw[Tr.a7]at hj
   simp only[ad,aq.tr.injEq]at hj
   obtain⟨rfl,rfl,rfl⟩:=hj
   refine⟨S,R,V,?_⟩
   rcases O with⟨q1,q2⟩|⟨o,ver,mv,c,ex,sh,n,q1,q3,q4,q5,E,q6,q8⟩
   .exact .inl ⟨q1,q2⟩
   .exact .inr ⟨o,ver,mv,c,ex,sh,n,q1,q3,q4,q5,E,q6.mono (aX.more w _),λe=>by cases e⟩
  .rw[Tr.aL _ _ e]at hj
   obtain⟨I,J,N,M⟩:=hs.tr j t' rows' z hj
   refine⟨I,J,N,?_⟩
   rcases M with⟨q1,q2⟩|⟨o,ver,mv,c,ex,sh,n,q1,q3,q4,q5,E,q6,q8⟩
   .exact .inl ⟨q1,q2⟩
   .refine .inr ⟨o,ver,mv,c,ex,sh,n,q1,q3,q4,q5,E,q6.mono (aX.more w _),λe2=>?_⟩
    rintro(h1|⟨k,h1,h2⟩)
    .grind
    .exact D j e _ o ⟨_,hj,by simp⟩ q1 rfl k h1 h2
 .intro x hx
  rcases O with⟨q1,rfl⟩|⟨o,ver,mv,c,ex,sh,n,q1,q3,q4,q5,E,q6,q8⟩
  .cases hx with|cM _=>exact .nil t|cu e=>grind
  .cases hx with|cM e=>grind|cu e=>rw[q1]at e;simp only[ad,Lk.sl.injEq]at e;obtain⟨rfl,rfl,rfl,rfl,rfl,rfl⟩:=e;refine .sl S R (.inr ⟨_,q1,rfl⟩) (by show w.g o=_;rw[hs.g];exact q3) q4 (aC _) (by omega) (by omega) (λk e=>by cases e) ?_;rw[List.drop_zero];exact q6.mono (aX.more w _)
structure fV(ob ob':Tr aq):Prop where box:∀i t cs,ob'.get i=some (.box t cs)↔ob.get i=some (.box t cs)arr:∀i t rows l,ob.get i=some (.arr t rows l)->∃l',ob'.get i=some (.arr t rows l')/\(l=true->l'=true)S5:∀i t rows l,ob'.get i=some (.arr t rows l)->∃l',ob.get i=some (.arr t rows l')bh:∀i s l,ob'.get i=some (.bh s l)↔ob.get i=some (.bh s l)mp:∀i t rows l,ob.get i=some (.mp t rows l)->∃l',ob'.get i=some (.mp t rows l')/\(l=true->l'=true)Uh:∀i t rows l,ob'.get i=some (.mp t rows l)->∃l',ob.get i=some (.mp t rows l')tr:∀i t rows l,ob.get i=some (.tr t rows l)->∃l',ob'.get i=some (.tr t rows l')/\(l=true->l'=true)re:∀i t rows l,ob'.get i=some (.tr t rows l)->∃l',ob.get i=some (.tr t rows l')live:∀i,live ob' i↔live ob i
theorem fV.refl(ob:Tr aq):fV ob ob:=⟨λ_ _ _=>Iff.rfl,λ_ _ _ l h=>⟨l,h,id⟩,λ_ _ _ l h=>⟨l,h⟩,λ_ _ _=>Iff.rfl,λ_ _ _ l h=>⟨l,h,id⟩,λ_ _ _ l h=>⟨l,h⟩,λ_ _ _ l h=>⟨l,h,id⟩,λ_ _ _ l h=>⟨l,h⟩,λ_=>Iff.rfl⟩
theorem fV.trans{a b c:Tr aq}(h:fV a b)(h':fV b c):fV a c:=⟨λi t cs=>(h'.box i t cs).trans (h.box i t cs),λi t rows l e=>let⟨o,e1,q1⟩:=h.arr i t rows l e;let⟨z,e2,q2⟩:=h'.arr i t rows o e1;⟨z,e2,λe=>q2 (q1 e)⟩,λi t rows l e=>let⟨o,e1⟩:=h'.S5 i t rows l e;h.S5 i t rows o e1,λi s l=>(h'.bh i s l).trans (h.bh i s l),λi t rows l e=>let⟨o,e1,q1⟩:=h.mp i t rows l e;let⟨z,e2,q2⟩:=h'.mp i t rows o e1;⟨z,e2,λe=>q2 (q1 e)⟩,λi t rows l e=>let⟨o,e1⟩:=h'.Uh i t rows l e;h.Uh i t rows o e1,λi t rows l e=>let⟨o,e1,q1⟩:=h.tr i t rows l e;let⟨z,e2,q2⟩:=h'.tr i t rows o e1;⟨z,e2,λe=>q2 (q1 e)⟩,λi t rows l e=>let⟨o,e1⟩:=h'.re i t rows l e;h.re i t rows o e1,λi=>(h'.live i).trans (h.live i)⟩
theorem WZ{i:Nat}{t:TypeId}{rows:List (List AV)}{aY:Bool}(hi:ob.get i=some (.arr t rows aY)):fV ob (ob.put i (.arr t rows true)):=by
 refine⟨?_,?_,?_,?_,?_,?_,?_,?_,λj=>nL hi (by simp) (by simp)⟩<;>intro j<;>by_cases e:j=i
 .subst e;simp[Tr.a7,hi]
 .simp[Tr.aL _ _ e]
 .subst e;intro t' r' l' h';rw[hi]at h';cases h';exact⟨true,by rw[Tr.a7],λ_=>rfl⟩
 .intro t' r' l' h';exact⟨l',by rw[Tr.aL _ _ e];exact h',id⟩
 .subst e;intro t' r' l' h';rw[Tr.a7]at h';grind
 .intro t' r' l' h';rw[Tr.aL _ _ e]at h';grind
 .subst e;intro s l;simp[Tr.a7,hi]
 .intro s l;rw[Tr.aL _ _ e]
 .grind
 .intro t' r' l' h';exact⟨l',by rw[Tr.aL _ _ e];exact h',id⟩
 .subst e;intro t' r' l' h';rw[Tr.a7]at h';cases h'
 .intro t' r' l' h';rw[Tr.aL _ _ e]at h';grind
 .grind
 .intro t' r' l' h';exact⟨l',by rw[Tr.aL _ _ e];exact h',id⟩
 .subst e;intro t' r' l' h';rw[Tr.a7]at h';cases h'
 .intro t' r' l' h';rw[Tr.aL _ _ e]at h';grind
theorem XQ{i:Nat}{t:TypeId}{rows:List (List AV)}{aY:Bool}(hi:ob.get i=some (.mp t rows aY)):fV ob (ob.put i (.mp t rows true)):=by
 refine⟨?_,?_,?_,?_,?_,?_,?_,?_,λj=>nL hi (by simp) (by simp)⟩<;>intro j<;>by_cases e:j=i
 .subst e;simp[Tr.a7,hi]
 .simp[Tr.aL _ _ e]
 .grind
 .intro t' r' l' h';exact⟨l',by rw[Tr.aL _ _ e];exact h',id⟩
 .subst e;intro t' r' l' h';rw[Tr.a7]at h';cases h'
 .intro t' r' l' h';rw[Tr.aL _ _ e]at h';grind
 .subst e;intro s l;simp[Tr.a7,hi]
 .intro s l;rw[Tr.aL _ _ e]
 .subst e;intro t' r' l' h';rw[hi]at h';cases h';exact⟨true,by rw[Tr.a7],λ_=>rfl⟩
 .intro t' r' l' h';exact⟨l',by rw[Tr.aL _ _ e];exact h',id⟩
 .subst e;intro t' r' l' h';rw[Tr.a7]at h';grind
 .intro t' r' l' h';rw[Tr.aL _ _ e]at h';grind
 .grind
 .intro t' r' l' h';exact⟨l',by rw[Tr.aL _ _ e];exact h',id⟩
 .subst e;intro t' r' l' h';rw[Tr.a7]at h';cases h'
 .intro t' r' l' h';rw[Tr.aL _ _ e]at h';grind
theorem XR{i:Nat}{t:TypeId}{rows:List (List AV)}{aY:Bool}(hi:ob.get i=some (.tr t rows aY)):fV ob (ob.put i (.tr t rows true)):=by
 refine⟨?_,?_,?_,?_,?_,?_,?_,?_,λj=>nL hi (by simp) (by simp)⟩<;>intro j<;>by_cases e:j=i
 .subst e;simp[Tr.a7,hi]
 .simp[Tr.aL _ _ e]
 .grind
 .intro t' r' l' h';exact⟨l',by rw[Tr.aL _ _ e];exact h',id⟩
 .subst e;intro t' r' l' h';rw[Tr.a7]at h';cases h'
 .intro t' r' l' h';rw[Tr.aL _ _ e]at h';grind
 .subst e;intro s l;simp[Tr.a7,hi]
 .intro s l;rw[Tr.aL _ _ e]
 .grind
 .intro t' r' l' h';exact⟨l',by rw[Tr.aL _ _ e];exact h',id⟩
 .subst e;intro t' r' l' h';rw[Tr.a7]at h';cases h'
 .intro t' r' l' h';rw[Tr.aL _ _ e]at h';grind
 .subst e;intro t' r' l' h';rw[hi]at h';cases h';exact⟨true,by rw[Tr.a7],λ_=>rfl⟩
 .intro t' r' l' h';exact⟨l',by rw[Tr.aL _ _ e];exact h',id⟩
 .subst e;intro t' r' l' h';rw[Tr.a7]at h';grind
 .intro t' r' l' h';rw[Tr.aL _ _ e]at h';grind
theorem lE(hs:ah P w ob nx h):∀(vs:List SV),∃F,ah P (w.more F) (bo ob vs) nx h/\fV ob (bo ob vs)/\(∀o,F o->Ow w ob o)/\(∀i,SV.own i∈vs->∀t rows l x,jd ob i t rows l->RV P w (.own i) x->Rd P (w.more F) t rows x)/\
 ∀i,SV.om i∈vs->∀t rows l x,ob.get i=some (.mp t rows l)->RV P w (.om i) x->Rm P (w.more F) t rows x:=by
 intro vs
 induction vs generalizing ob w with
 |nil=>exact⟨λ_=>False,by simpa[Wd.more,bo]using hs,.refl ob,λ_ f=>f.elim,(λi hi=>by cases hi),(λi hi=>by cases hi)⟩
 |cons v vs J=>
  have other:(∀i,v=.own i->∀t r l,¬jd ob i t r l)->(∀i,v=.om i->∀t r l,ob.get i≠some (.mp t r l))->bo ob (v::vs)=bo ob vs->∃F,ah P (w.more F) (bo ob (v::vs)) nx h/\fV ob (bo ob (v::vs))/\(∀o,F o->Ow w ob o)/\(∀i,SV.own i∈v::vs->∀t rows l x,jd ob i t rows l->RV P w (.own i) x->Rd P (w.more F) t rows x)/\∀i,SV.om i∈v::vs->∀t rows l x,ob.get i=some (.mp t rows l)->RV P w (.om i) x->Rm P (w.more F) t rows x:=λhv K e=>by grind
  have step:∀{D:Tr aq}{z:Nat->Prop},bo ob (v::vs)=bo D vs->ah P (w.more z) D nx h->fV ob D->(∀o,z o->Ow w ob o)->
   (∀i,SV.own i=v->∀t rows l x,jd ob i t rows l->RV P w (.own i) x->Rd P (w.more z) t rows x)->(∀i,SV.om i=v->∀t rows l x,ob.get i=some (.mp t rows l)->RV P w (.om i) x->Rm P (w.more z) t rows x)->
   ∃F,ah P (w.more F) (bo ob (v::vs)) nx h/\fV ob (bo ob (v::vs))/\(∀o,F o->Ow w ob o)/\(∀i,SV.own i∈v::vs->∀t rows l x,jd ob i t rows l->RV P w (.own i) x->Rd P (w.more F) t rows x)/\∀i,SV.om i∈v::vs->∀t rows l x,ob.get i=some (.mp t rows l)->RV P w (.om i) x->Rm P (w.more F) t rows x:=λ{D z}e q1 hl q3 q2 I=>by
   obtain⟨F,h1,h2,h4,h3,h5⟩:=J q1
   have hm:(w.more z).more F=w.more λo=>z o\/F o:=by simp[Wd.more,or_assoc]
   rw[e]
   refine⟨λo=>z o\/F o,by grind,hl.trans h2,λo f=>f.elim (q3 o) λf=>by obtain⟨j,k,e1,e2,e3⟩:=h4 o f;exact⟨j,k,(hl.live j).1 e1,e2,e3⟩,λj hj t' rows' l' x e hx=>?_,λj hj t' rows' l' x e hx=>?_⟩
   .rw[<-hm]
    rcases List.mem_cons.1 hj with e2|hj
    .exact(q2 j e2 _ _ _ x e hx).mono (aX.more _ _)
    .rcases e with e|e
     .obtain⟨E,e3,_⟩:=hl.arr j t' rows' l' e;exact h3 j hj t' rows' E x (.inl e3) (hx.mono (aX.more _ _) λ_ _ e=>e)
     .obtain⟨E,e3,_⟩:=hl.tr j t' rows' l' e;exact h3 j hj t' rows' E x (.inr e3) (hx.mono (aX.more _ _) λ_ _ e=>e)
   .rw[<-hm]
    rcases List.mem_cons.1 hj with e2|hj
    .exact(I j e2 _ _ _ x e hx).bX (aX.more _ _).c
    .obtain⟨E,e3,_⟩:=hl.mp j t' rows' l' e;exact h5 j hj t' rows' E x e3 (hx.mono (aX.more _ _) λ_ _ e=>e)
  cases v with
  |own i=>cases hb:ob.get i with|none=>exact other (λj e t r l q=>by cases e;rcases q with q|q<;>grind) (λj e=>by cases e) (by simp only[bo,hb])|some y=>cases y with|arr t rows l=>obtain⟨z,q1,q3,q2⟩:=XP hs hb;exact step (by simp only[bo,hb]) q1 (WZ hb) q3 (λj e t' r' l' x q hx=>by cases e;rcases q with q|q<;>(rw[hb]at q;cases q);exact q2 x hx) (λj e=>by cases e)|tr t rows l=>obtain⟨z,q1,q3,q2⟩:=aaI hs hb;exact step (by simp only[bo,hb]) q1 (XR hb) q3 (λj e t' r' l' x q hx=>by cases e;rcases q with q|q<;>(rw[hb]at q;cases q);exact q2 x hx) (λj e=>by cases e)|_=>exact other (λj e t r l q=>by cases e;rcases q with q|q<;>grind) (λj e=>by cases e) (by simp only[bo,hb])
  |om i=>cases hb:ob.get i with|none=>exact other (λj e=>by cases e) (λj e t r l q=>by grind) (by simp only[bo,hb])|some y=>cases y with|mp t rows l=>obtain⟨z,q1,q3,q2⟩:=aaH hs hb;exact step (by simp only[bo,hb]) q1 (XQ hb) q3 (λj e=>by cases e) (λj e t' r' l' x q hx=>by grind)|_=>exact other (λj e=>by cases e) (λj e t r l q=>by grind) (by simp only[bo,hb])
  |_=>exact other (λi e=>by cases e) (λi e=>by cases e) rfl
theorem K3{F:Nat->Prop}{vs:List SV}{v:SV}(hv:v∈vs)(h3:∀i,SV.own i∈vs->∀t rows l x,jd ob i t rows l->RV P w (.own i) x->Rd P (w.more F) t rows x)
 {t:TypeId}{rows:List (List AV)}{x:AV}(hd:asData ob t v=some rows)(hx:RV P w v x):Rd P (w.more F) t rows x:=by
 unfold asData at hd
 split at hd
 .split at hd
  .rename_i e;subst e;simp only[ad]at hd;subst hd;cases hx with|dl hr=>exact hr.mono (aX.more _ _)
  .cases hd
 .simp only[ad]at hd;subst hd;cases hx;exact .nil t
 .rename_i i
  split at hd
  .rename_i t' r l hb
   split at hd
   .rename_i e;subst e;simp only[ad]at hd;subst hd;exact h3 i hv _ _ _ _ (.inl hb) hx
   .cases hd
  .cases hd
 .cases hd
theorem XS{F:Nat->Prop}{vs:List SV}{v:SV}(hv:v∈vs)(h5:∀i,SV.om i∈vs->∀t rows l x,ob.get i=some (.mp t rows l)->RV P w (.om i) x->Rm P (w.more F) t rows x)
 {t:TypeId}{rows:List (List AV)}{x:AV}(hd:mF ob t v=some rows)(hx:RV P w v x):Rm P (w.more F) t rows x:=by
 unfold mF at hd
 split at hd
 .split at hd
  .rename_i e;subst e;simp only[ad]at hd;subst hd;cases hx with|md hr=>exact hr.bX (aX.more _ _).c
  .cases hd
 .grind
 .cases hd
end
end Go.AI
end

section
namespace Go.AI
theorem Wd.jk(w:Wd):w.more (λ_=>False)=w:=by cases w;simp[Wd.more]
section
variable {P:Program}{w:Wd}{h h1:AHeap}{ρ:Type}
def Fw(P:Program)(w:Wd)(h h1:AHeap)(S:ae)(k:SV->ae->Option ρ)(r:ρ)(c:Option (dU×AHeap)):Prop:=∃F ob,ah P (w.more F) ob S.nx h/\fV S.ob ob/\(∀o,F o->Ow w S.ob o)/\∃v y,k v {S with ob:=ob}=some r/\c=some (.val y,h1)/\RV P (w.more F) v y
theorem Fw.one{S:ae}(hs:ah P w S.ob S.nx h){k:SV->ae->Option ρ}{r:ρ}{c:Option (dU×AHeap)}{v:SV}{y:AV}(hr:k v S=some r)(he:c=some (.val y,h1))(hv:RV P w v y):Fw P w h h1 S k r c:=⟨λ_=>False,S.ob,by rw[Wd.jk];exact hs,.refl _,λ_ f=>f.elim,v,y,hr,he,by rw[Wd.jk];exact hv⟩
theorem Vi{t:TypeId}{a v:SV}{x:AV}{f:Nat}(hx:RV P w a x)(he:CX P t a f=some v):∃y,mc P t x f=some y/\RV P w v y:=by
 unfold CX at he
 split at he
 .rename_i o hu
  split at he
  .rename_i fd hf
   split at he
   .rename_i n i off hz;simp only[ad]at he;subst he;cases hx with|ref e=>exact⟨_,by simp only[mc,hu,hf,hz],.ref e⟩
   .rename_i n t' row off hz;simp only[ad]at he;subst he;cases hx with|dj hp=>cases hp with|cI q=>exact⟨_,by simp only[mc,hu,hf,hz];simp_all,.dj (.cI q)⟩|ref a b c d e f g=>exact⟨_,by simp only[mc,hu,hf,hz];grind,.dj (.ref a b c d e f g)⟩
   .rename_i n i j off hz;simp only[ad]at he;subst he;cases hx with|dI e hk=>exact⟨_,by simp only[mc,hu,hf,hz];grind,.dI e hk⟩
   .rename_i n t' cs off hz;simp only[ad]at he;subst he;cases hx with|pb a b c d e f g i=>exact⟨_,by simp only[mc,hu,hf,hz],.pb a b c d e f g i⟩
   .cases he
  .cases he
 .cases he
theorem XT{t:TypeId}{a v:SV}{x:AV}{f:Nat}(hx:RV P w a x)(he:Ei P t a f=some v):∃y,rS P t x f=some y/\RV P w v y:=by
 unfold Ei at he
 split at he
 .rename_i c cs hu
  cases hx with
  |agg hc=>
   rename_i xs
   split at he
   .rename_i fd hf
    split at he
    .rename_i s hg hz
     split at he
     .simp only[ad]at he;subst he;exact⟨_,by simp only[rS,hu,hf,apart,hg,hz],.agg ((hc.drop _).take _)⟩
     .cases he
    .rename_i s hg hz;obtain⟨y,e1,e2⟩:=hc.get _ _ he;refine⟨y,?_,e2⟩;simp only[rS,hu,hf,apart,hg,hz];simp_all
    .cases he
   .cases he
 .cases he
theorem XU{op:BinOp}{t:TypeId}{xo yo:Operand}{kd:IntKind}{a b:Int}{k:SV->Option ρ}{r:ρ}(hr:FH op kd a b k=some r):∃v,rU v=true/\k (.sc v)=some r/\cW P op t xo yo (.sc (.int kd a)) (.sc (.int kd b))=some (.sc v):=by
 have hd:∀{x:SV},(match decide (b=0)with|true=>none|false=>k x)=some r->b≠0/\k x=some r:=by grind
 cases op<;>simp only[FH]at hr<;>try(cases hr;done)
 case quo=>obtain⟨hb,hr⟩:=hd hr;refine⟨_,rfl,hr,?_⟩;simp only[cW,dC,dT];show(b8 P (Go.binOp .quo t (.int kd a) (.int kd b))).map bz=_;simp only[Go.binOp,ne_eq,not_true_eq_false,if_false,Op.intDiv,if_neg hb];rfl
 case rem=>obtain⟨hb,hr⟩:=hd hr;refine⟨_,rfl,hr,?_⟩;simp only[cW,dC,dT];show(b8 P (Go.binOp .rem t (.int kd a) (.int kd b))).map bz=_;simp only[Go.binOp,ne_eq,not_true_eq_false,if_false,Op.intDiv,if_neg hb];rfl
 all_goals refine⟨_,rfl,hr,?_⟩;simp only[cW,dC,dT];first|rfl|(cases kd<;>rfl)
theorem XV{op:BinOp}{t:TypeId}{xo yo:Operand}{a b:ByteArray}{k:SV->Option ρ}{r:ρ}(hr:FI op a b k=some r):∃v,rU v=true/\k (.sc v)=some r/\cW P op t xo yo (.sc (.string a)) (.sc (.string b))=some (.sc v):=by
 cases op<;>simp only[FI]at hr<;>try(cases hr;done)
 case add=>
  unfold i7 at hr
  split at hr
  .cases hr
  .rename_i hd;refine⟨_,rfl,hr,?_⟩;simp only[cW,dC,dT];show(b8 P (Op.stringOp .add a b)).map bz=_;simp only[decide_eq_false_iff_not]at hd;simp only[Op.stringOp,if_neg hd];rfl
 all_goals exact⟨_,rfl,hr,rfl⟩
theorem eN{α β:Type}(P:Program):∀(m:Sem α)(f:α->Sem β),b8 P (m>>=f)=(b8 P m).bind λa=>b8 P (f a)|.pure a,f=>rfl|.program k,f=>eN P (k P) f|.mark m k,f=>eN P k f|.load _ _ _,f=>rfl|.store _ _ _ _,f=>rfl|.new _ _,f=>rfl|.shape _ _,f=>rfl|.freeze _ _ _,f=>rfl|.frozen _ _,f=>rfl|.getObj _ _,f=>rfl|.setObj _ _ _,f=>rfl|.choose _ _,f=>rfl|.sys _ _,f=>rfl|.halt _,f=>rfl
theorem mi{t:TypeId}{d:TypeDesc}(hu:P.underlying t=some d):b8 P (underlying t)=some d:=by unfold underlying;rw[eN];show(some P).bind _=_;simp only[Option.bind_some,hu];rfl
theorem JQ{t:TypeId}{a b:Bool}(hu:P.underlying t=some .bool):b8 P (Op.equal t (.bool a) (.bool b))=some (a==b):=by unfold Op.equal Op.maxDepth;rw[show(10000:Nat)=9999+1 from rfl,Op.equalIn,eN,mi hu];rfl
theorem K4{t e:TypeId}(hu:P.underlying t=some (.pointer e)):b8 P (Op.equal t (.pointer none) (.pointer none))=some true:=by unfold Op.equal Op.maxDepth;rw[show(10000:Nat)=9999+1 from rfl,Op.equalIn,eN,mi hu];rfl
theorem K5{op:BinOp}{t:TypeId}{xo yo:Operand}{a b:Bool}(hu:P.underlying t=some .bool):
 (op=.eql->cW P op t xo yo (.sc (.bool a)) (.sc (.bool b))=some (.sc (.bool (a==b))))/\(op=.neq->cW P op t xo yo (.sc (.bool a)) (.sc (.bool b))=some (.sc (.bool !(a==b)))):=by
 constructor<;>rintro rfl<;>simp only[cW,dC,dT]
 .show(b8 P (Op.equal t (.bool a) (.bool b)>>=λx=>pure (Value.bool x))).map bz=_;rw[eN,JQ hu];rfl
 .show(b8 P (Op.equal t (.bool a) (.bool b)>>=λx=>pure (Value.bool (!x)))).map bz=_;rw[eN,JQ hu];rfl
theorem DM{op:BinOp}{t e:TypeId}{xo yo:Operand}(hu:P.underlying t=some (.pointer e)):
 (op=.eql->cW P op t xo yo (.sc (.pointer none)) (.sc (.pointer none))=some (.sc (.bool true)))/\(op=.neq->cW P op t xo yo (.sc (.pointer none)) (.sc (.pointer none))=some (.sc (.bool false))):=by
 constructor<;>rintro rfl<;>simp only[cW,dC,dT]
 .show(b8 P (Op.equal t (.pointer none) (.pointer none)>>=λx=>pure (Value.bool x))).map bz=_;rw[eN,K4 hu];rfl
 .show(b8 P (Op.equal t (.pointer none) (.pointer none)>>=λx=>pure (Value.bool (!x)))).map bz=_;rw[eN,K4 hu];rfl
theorem K6{t a:TypeId}{v:Value}{m:Array (String×TypeId)}(hu:P.underlying t=some (.interface m)):b8 P (Op.equal t (.iface a v) .nilIface)=some false:=by unfold Op.equal Op.maxDepth;rw[show(10000:Nat)=9999+1 from rfl,Op.equalIn,eN,mi hu];rfl
theorem L9{op:BinOp}{t a:TypeId}{xo yo:Operand}{x:AV}{m:Array (String×TypeId)}(hu:P.underlying t=some (.interface m)):
 (op=.eql->cW P op t xo yo (.iface a x) (.sc .nilIface)=some (.sc (.bool false)))/\(op=.neq->cW P op t xo yo (.iface a x) (.sc .nilIface)=some (.sc (.bool true))):=by
 cases x with
 |sc v=>
  constructor<;>rintro rfl<;>simp only[cW,dC,dT]
  .show(b8 P (Op.equal t (.iface a v) .nilIface>>=λx=>pure (Value.bool x))).map bz=_;rw[eN,K6 hu];rfl
  .show(b8 P (Op.equal t (.iface a v) .nilIface>>=λx=>pure (Value.bool (!x)))).map bz=_;rw[eN,K6 hu];rfl|_=>constructor<;>rintro rfl<;>simp[cW,dC,dT,fQ,hu,gj,eF]
theorem Ma{op:BinOp}{t:TypeId}{xo yo:Operand}{m:Array (String×TypeId)}(hu:P.underlying t=some (.interface m))(hc:(mG xo||mG yo)=true):
 (op=.eql->cW P op t xo yo (.sc .nilIface) (.sc .nilIface)=some (.sc (.bool true)))/\(op=.neq->cW P op t xo yo (.sc .nilIface) (.sc .nilIface)=some (.sc (.bool false))):=by
 have hg:∀op,b8 P (eqGuard op t xo yo .nilIface .nilIface)=some ():=by intro op;cases xo<;>cases yo<;>first|(simp[mG]at hc;done)|(cases op<;>rfl)
 have he:b8 P (Op.equal t .nilIface .nilIface)=some true:=by unfold Op.equal Op.maxDepth;rw[show(10000:Nat)=9999+1 from rfl,Op.equalIn,eN,mi hu];rfl
 constructor<;>rintro rfl<;>simp only[cW,dC,dT]
 .show(b8 P (eqGuard .eql t xo yo .nilIface .nilIface>>=λ_=>Op.equal t .nilIface .nilIface>>=λx=>pure (Value.bool x))).map bz=_;rw[eN,hg,Option.bind_some,eN,he];rfl
 .show(b8 P (eqGuard .neq t xo yo .nilIface .nilIface>>=λ_=>Op.equal t .nilIface .nilIface>>=λx=>pure (Value.bool (!x)))).map bz=_;rw[eN,hg,Option.bind_some,eN,he];rfl
theorem Aw{op:BinOp}{t:TypeId}{xo yo:Operand}{a b:SV}{x y:AV}{e:Bool}(hx:RV P w a x)(hy:RV P w b y)(he:v7 P (mG xo||mG yo) t a b=some e):
 (op=.eql->cW P op t xo yo x y=some (.sc (.bool e)))/\(op=.neq->cW P op t xo yo x y=some (.sc (.bool !e))):=by
 unfold v7 at he
 split at he
 .rename_i el t' r hu
  split at he
  .rename_i r0 rs
   simp only[ad]at he;subst he
   cases hy
   cases hx with
   |dl hr=>
    cases hr with
    |aQ h1 h2 _ c=>cases c with|cons q1 q2=>constructor<;>rintro rfl<;>simp[cW,dC,dT,fQ,hu,gj,eF]
    |sl _ _ _ _ _ _ _ _ _ _=>constructor<;>rintro rfl<;>simp[cW,dC,dT,fQ,hu,gj,eF]
  .cases he
 .rename_i m t' v hu;simp only[ad]at he;subst he;cases hy;cases hx with|eb q=>exact L9 hu
 .rename_i m b hu
  split at he
  .rename_i hc;simp only[ad]at he;subst he;cases hy;cases hx with|kY=>exact L9 hu|k0=>exact Ma hu hc
  .cases he
 .rename_i m hu
  split at he
  .rename_i hc;simp only[ad]at he;subst he;cases hx;cases hy;exact Ma hu hc
  .cases he
 .rename_i i off e' hu;simp only[ad]at he;subst he;cases hx with|ref e1=>cases hy;constructor<;>rintro rfl<;>simp[cW,dC,dT,fQ,hu,gj,eF]
 .rename_i i off b' e' hu
  simp only[ad]at he;subst he
  cases hy
  cases hx with
  |fY h1 h2=>cases h1 with|ref e1=>constructor<;>rintro rfl<;>simp[cW,dC,dT,fQ,hu,gj,eF]
  |iG=>exact DM hu
 .rename_i i o j o' e' hu
  split at he
  .rename_i n hz z;obtain rfl:=Nat.eq_of_beq_eq_true z;simp only[ad]at he;subst he;cases hx with|ref e1=>cases hy with|ref e2=>rw[e1]at e2;simp only[ad,Lk.box.injEq]at e2;obtain⟨rfl,rfl⟩:=e2;constructor<;>rintro rfl<;>simp[cW,dC,dT,fQ,hu,gj,eF,hz]
  .cases he
 .cases he
theorem Js{t e:TypeId}(hu:P.underlying t=some (.slice e)):b8 P (Op.equal t (.slice none 0 0) (.slice none 0 0))=some true:=by unfold Op.equal Op.maxDepth;rw[show(10000:Nat)=9999+1 from rfl,Op.equalIn,eN,mi hu];rfl
theorem NO{t e t':TypeId}{xo yo:Operand}{rows:List (List AV)}{x:AV}{k:Bool->Option ρ}{r:ρ}(hx:Rd P w t' rows x)(hu:P.underlying t=some (.slice e))(hr:emp rows (both (k true) (k false)) (k false)=some r):
 ∃b,k b=some r/\cW P .eql t xo yo x (.sc (.slice none 0 0))=some (.sc (.bool b))/\cW P .neq t xo yo x (.sc (.slice none 0 0))=some (.sc (.bool !b)):=by
 have hf:k false=some r:=by cases rows with|nil=>exact(MC hr).2|cons _ _=>exact hr
 cases hx with
 |nil=>
  refine⟨true,(MC hr).1,?_,?_⟩
  .show(b8 P (Op.equal t (.slice none 0 0) (.slice none 0 0)>>=λx=>pure (Value.bool x))).map bz=_;rw[eN,Js hu];rfl
  .show(b8 P (Op.equal t (.slice none 0 0) (.slice none 0 0)>>=λx=>pure (Value.bool (!x)))).map bz=_;rw[eN,Js hu];rfl
 |bT=>exact⟨false,hf,by simp[cW,dC,dT,fQ,hu,gj,eF],by simp[cW,dC,dT,fQ,hu,gj,eF]⟩
 |aQ _ _ h0 c=>cases c with|nil=>simp at h0|cons q1 q2=>exact⟨false,hf,by simp[cW,dC,dT,fQ,hu,gj,eF],by simp[cW,dC,dT,fQ,hu,gj,eF]⟩
 |sl _ _ _ _ _ _ _ _ _ _=>exact⟨false,hf,by simp[cW,dC,dT,fQ,hu,gj,eF],by simp[cW,dC,dT,fQ,hu,gj,eF]⟩
theorem aaJ{op:BinOp}{t:TypeId}{xo yo:Operand}{a b:SV}{x y:AV}{k:SV->Option ρ}{r:ρ}(hx:RV P w a x)(hy:RV P w b y)(hr:FJ P (mG xo||mG yo) op t a b k=some r):
 ∃v,rU v=true/\k (.sc v)=some r/\cW P op t xo yo x y=some (.sc v):=by
 unfold FJ at hr
 split at hr
 .split at hr
  .rename_i e;subst e;cases hx;cases hy;exact XU hr
  .cases hr
 .cases hx;cases hy;exact XV hr
 .cases hx;cases hy
  split at hr
  .rename_i hb;exact⟨_,rfl,hr,(K5 (by grind)).1 rfl⟩
  .rename_i hb;exact⟨_,rfl,hr,(K5 (by grind)).2 rfl⟩
  .cases hr
 .rename_i t' rows
  cases hx with
  |dl hx=>
  cases hy
  split at hr
  .rename_i e hu;obtain⟨b,h1,h2,_⟩:=NO (k:=λb=>k (.sc (.bool b))) hx hu hr;exact⟨_,rfl,h1,h2⟩
  .rename_i e hu;obtain⟨b,h1,_,h2⟩:=NO (k:=λb=>k (.sc (.bool !b))) hx hu hr;exact⟨_,rfl,h1,h2⟩
  .cases hr
 .rename_i t' rows
  cases hx with
  |ls hx=>
  cases hy
  split at hr
  .rename_i e hu;cases hx with|nil=>exact⟨_,rfl,hr,(DM hu).1 rfl⟩|cons _ _ _ _ _ _ _ _=>exact⟨_,rfl,hr,by simp[cW,dC,dT,fQ,hu,gj,eF]⟩
  .rename_i e hu;cases hx with|nil=>exact⟨_,rfl,hr,(DM hu).2 rfl⟩|cons _ _ _ _ _ _ _ _=>exact⟨_,rfl,hr,by simp[cW,dC,dT,fQ,hu,gj,eF]⟩
  .cases hr
 .rename_i c i o j o'
  cases c with
  |false=>simp only[aa]at hr;cases hr
  |true=>
   simp only[aa]at hr
   cases hx with
   |fY h1 _=>
    split at hr
    .rename_i b' he;exact⟨_,rfl,hr,(Aw h1 hy he).1 rfl⟩
    .rename_i b' he;exact⟨_,rfl,hr,(Aw h1 hy he).2 rfl⟩
    .cases hr
 .split at hr
  .split at hr
   .rename_i b' he;exact⟨_,rfl,hr,(Aw hx hy he).1 rfl⟩
   .cases hr
  .split at hr
   .rename_i b' he;exact⟨_,rfl,hr,(Aw hx hy he).2 rfl⟩
   .cases hr
  .cases hr
end
end Go.AI
end

section
namespace Go.AI
section
variable {P:Program}{w:Wd}{h h1:AHeap}{ρ:Type}
theorem D6{α:Type}{l:List α}{n:Int}{k:α->Option ρ}{r:ρ}(h:ab l n k=some r):0<=n/\∃x,l[n.toNat]?=some x/\k x=some r:=by unfold ab at h;grind
theorem nC{kd:IntKind}{n:Int}(h:0<=n):fK (.sc (.int kd n))=some n.toNat:=by simp[fK,h]
theorem rO{b:Bool}{x y:Option ρ}{r:ρ}(h:aa b x y=some r):(b=true/\x=some r)\/(b=false/\y=some r):=by
 cases b
 .exact .inr ⟨rfl,h⟩
 .exact .inl ⟨rfl,h⟩
theorem Mb{n:Int}{k:Nat->Option ρ}{r:ρ}:∀{c i:Nat},Ay n c i k=some r->∃m:Nat,n=m/\i<=m/\m<i+c/\k m=some r
 |0,_,h=>by cases h
 |c+1,i,h=>by
  simp only[Ay]at h
  rcases rO h with⟨e,h⟩|⟨_,h⟩
  .grind
  .obtain⟨m,e1,e2,e3,o⟩:=Mb h;grind
theorem yK{α:Type}{l:List α}{i:Nat}{x:α}(h:l[i]?=some x):i<l.length:=by grind
theorem Vj{S:ae}(hs:ah P w S.ob S.nx h){t:TypeId}{a i:SV}{x y:AV}{k:SV->Option ρ}{r:ρ}(hx:RV P w a x)(hi:RV P w i y)(hr:CY P S t a i k=some r):
 ∃v z,k v=some r/\nz P t x y=some z/\RV P w v z:=by
 unfold CY at hr
 split at hr
 .rename_i e kd n hu
  cases hi
  split at hr
  .rename_i t' rows
   split at hr
   .rename_i I;subst I;obtain⟨hn,row,D,hr⟩:=D6 hr;have hlt:=yK D;cases hx with|dl hd=>cases hd with|nil=>simp at D|bT=>simp at D|aQ h1 h2 _ E=>obtain⟨dZ,e1,e2⟩:=E.get _ _ D;refine⟨_,.cI dZ,hr,?_,.dj (by have:=Rp.cI (P:=P) (w:=w) (off:=0) e2;grind)⟩;simp only[nz,hu,nC hn,h1,if_true,e1]|sl h1 h2 hF hg h3 h4 h5 h6 J E=>rename_i o ver m off v mv fz c el ex sh cap;obtain⟨dZ,e1,e2⟩:=E.get _ _ D;rw[pK _ _ _ hlt]at e1;simp only[Option.some.injEq]at e1;subst e1;rw[List.drop_drop]at e2;have F:(n.toNat+1)*(lay P t').length<=rows.length*(lay P t').length:=Nat.mul_le_mul_right _ hlt;rw[Nat.add_mul]at F;refine⟨_,.ref o ver m (off+n.toNat*(lay P t').length),hr,?_,.dj (by have:=Rp.ref (P:=P) (w:=w) (off:=0) (t:=t') (row:=row) (n:=m) (p:=off+n.toNat*(lay P t').length) hF hg h3 h4 (by omega) (by omega) e2;grind)⟩;simp only[nz,hu,nC hn,h1];grind
   .cases hr
  .rename_i j
   split at hr
   .rename_i t' rows aY hb
    split at hr
    .rename_i I;subst I
     obtain⟨hn,row,D,hr⟩:=D6 hr
     have hlt:=yK D
     obtain⟨L,N,M,K⟩:=hs.arr _ _ _ _ hb
     cases hx with
     |cM e1=>grind
     |cu e1=>
      rcases K with⟨q,_⟩|⟨o,ver,mv,c,ex,sh,cap,q,_⟩
      .grind
      .rw[e1]at q;simp only[Option.some.injEq,Lk.sl.injEq]at q;obtain⟨rfl,rfl,rfl,rfl,rfl,rfl⟩:=q;refine⟨_,_,hr,?_,.dI (off:=0) e1 hlt⟩;simp only[nz,hu,nC hn,L];grind
    .cases hr
   .cases hr
  .cases hr
 .rename_i len e kd n hu
  cases hi
  split at hr
  .rename_i s j off hz;obtain⟨m,rfl,_,hm,hr⟩:=Mb hr;cases hx with|ref e1=>refine⟨_,_,hr,?_,.ref e1⟩;simp only[nz,hu,nC (kd:=kd) (Int.natCast_nonneg m),hz];grind
  .cases hr
 .cases hr
theorem Rd.len{t:TypeId}{rows:List (List AV)}{x:AV}(hd:Rd P w t rows x):ft x=some rows.length/\kQ x=true:=by cases hd with|nil=>exact⟨rfl,rfl⟩|bT=>exact⟨rfl,rfl⟩|aQ h1 h2 _ c=>exact⟨by simp[ft,c.length],rfl⟩|sl=>exact⟨rfl,rfl⟩
theorem D7{ob:Tr aq}{nx:Nat}(hs:ah P w ob nx h){i:Nat}{x:AV}(hx:RV P w (.own i) x):
 (∀t rows l,ob.get i=some (.arr t rows l)->ft x=some rows.length/\kQ x=true)/\(∀s l,ob.get i=some (.bh s l)->ft x=some s.size/\kQ x=true):=by
 constructor
 .intro t rows l hb
  obtain⟨_,_,_,z⟩:=hs.arr _ _ _ _ hb
  cases hx with
  |cM e1=>
   rcases z with⟨_,rfl⟩|⟨o,ver,mv,c,ex,sh,cap,q,_⟩
   .exact⟨rfl,rfl⟩
   grind
  |cu e1=>
   rcases z with⟨q,_⟩|⟨o,ver,mv,c,ex,sh,cap,q,_⟩
   .grind
   .rw[e1]at q;simp only[Option.some.injEq,Lk.sl.injEq]at q;obtain⟨rfl,rfl,rfl,rfl,rfl,rfl⟩:=q;exact⟨rfl,rfl⟩
 .intro s l hb
  cases hx with
  |cM e1=>
   rcases(hs.bh _ _ _ hb).2 with⟨_,q⟩|⟨o,ver,mv,ex,fz,cap,_,q,_⟩
   .exact⟨by simp[ft,q],rfl⟩
   grind
  |cu e1=>
   rcases(hs.bh _ _ _ hb).2 with⟨q,_⟩|⟨o,ver,mv,ex,fz,cap,_,q,_⟩
   .grind
   .rw[e1]at q;simp only[Option.some.injEq,Lk.sl.injEq]at q;obtain⟨rfl,rfl,rfl,rfl,rfl,rfl⟩:=q;exact⟨rfl,rfl⟩
theorem Pm{ob:Tr aq}{nx:Nat}(hs:ah P w ob nx h){i:Nat}{x:AV}(hx:RV P w (.own i) x){t:TypeId}{rows:List (List AV)}{l:Bool}(hb:ob.get i=some (.tr t rows l)):ft x=some rows.length/\kQ x=true:=by
 obtain⟨_,_,_,z⟩:=hs.tr _ _ _ _ hb
 cases hx with
 |cM e1=>
  rcases z with⟨_,rfl⟩|⟨o,ver,mv,c,ex,sh,n,q,_⟩
  .exact⟨rfl,rfl⟩
  grind
 |cu e1=>
  rcases z with⟨q,_⟩|⟨o,ver,mv,c,ex,sh,n,q,_⟩
  .grind
  .rw[e1]at q;simp only[Option.some.injEq,Lk.sl.injEq]at q;obtain⟨rfl,rfl,rfl,rfl,rfl,rfl⟩:=q;exact⟨rfl,rfl⟩
theorem aaK{S:ae}(hs:ah P w S.ob S.nx h){a:SV}{x:AV}{n:Int}(hx:RV P w a x)(he:lT S a=some n):∃m:Nat,n=m/\ft x=some m/\(kQ x=true\/∃s,x=.sc (.string s)):=by
 unfold lT at he
 split at he
 .cases hx;cases he;exact⟨0,rfl,rfl,.inl rfl⟩
 .cases hx with|dl hd=>cases he;exact⟨_,rfl,hd.len.1,.inl hd.len.2⟩
 .split at he
  .rename_i hb;cases he;have:=(D7 hs hx).1 _ _ _ hb;grind
  .rename_i hb;cases he;have:=Pm hs hx hb;grind
  .rename_i hb;cases he;have:=(D7 hs hx).2 _ _ hb;grind
  .cases he
 .cases hx;cases he;exact⟨_,rfl,rfl,.inr ⟨_,rfl⟩⟩
 .cases he
theorem NP{α:Type}{l:List α}{c hi:Int}{k:List α->Option ρ}{r:ρ}(h:ez l c hi k=some r):0<=c/\c<=hi/\hi<=l.length/\k ((l.drop c.toNat).take (hi.toNat-c.toNat))=some r:=by unfold ez at h;grind
theorem aaL{s:ByteArray}{c hi:Int}{k:ByteArray->Option ρ}{r:ρ}(h:jE s c hi k=some r):0<=c/\c<=hi/\hi<=s.size/\k (s.extract c.toNat hi.toNat)=some r:=by unfold jE at h;grind
theorem yv{sz:Nat}:∀(n a b:Nat)(l:List AV),a+b<=n->((chunks sz n l).drop a).take b=chunks sz b (l.drop (a*sz))|n,0,0,l,_=>by simp[chunks]|n,0,b+1,l,h=>by obtain⟨n,rfl⟩:∃m,n=m+1:=⟨n-1,by omega⟩;simp only[chunks,List.drop_zero,List.take_succ_cons,Nat.zero_mul];have:=yv (sz:=sz) n 0 b (l.drop sz) (by omega);grind|n,a+1,b,l,h=>by obtain⟨n,rfl⟩:∃m,n=m+1:=⟨n-1,by omega⟩;simp only[chunks,List.drop_succ_cons];rw[yv n a b (l.drop sz) (by omega),List.drop_drop,show sz+a*sz=(a+1)*sz by grind]
theorem Rd.slice{t e:TypeId}{rows:List (List AV)}{x:AV}(hd:Rd P w e rows x)(hu:P.underlying t=some (.slice e))(hz:(bt P e).isSome){T hi:Option AV}{l u:Nat}(K:eT T 0=some l)(E:eT hi rows.length=some u)(h1:l<=u)(h2:u<=rows.length):
 ∃y,gk P t x T hi none=some y/\Rd P w e ((rows.drop l).take (u-l)) y:=by
 obtain⟨sz,hz⟩:=Option.isSome_iff_exists.1 hz
 cases hd with
 |nil=>
  obtain rfl:u=0:=by grind
  obtain rfl:l=0:=by omega
  refine⟨.sc (.slice none 0 0),?_,by simp;exact .nil _⟩;simp only[List.length_nil]at E;unfold gk;grind
 |bT=>
  obtain rfl:u=0:=by grind
  obtain rfl:l=0:=by omega
  refine⟨.bT,?_,by simp;exact .bT _⟩;simp only[List.length_nil]at E;unfold gk;grind
 |aQ F M a0 I=>
  rename_i rows'
  have hl:=I.length
  rw[hl]at E h2
  by_cases O:l=u
  .subst O;refine⟨.bT,?_,by simp;exact .bT _⟩;rw[hz]at F;cases F;unfold gk;grind
  refine⟨_,?_,.aQ F M (by grind) (I.sub l (u-l))⟩;rw[hz]at F;cases F;unfold gk;grind
 |sl F M hF hg h3 h4 h5 h6 L I=>
  rename_i o ver n off v mv fz c el ex sh cap
  have hlen:((rows.drop l).take (u-l)).length=u-l:=by grind
  have X:l*(lay P e).length+(u-l)*(lay P e).length=u*(lay P e).length:=by rw[<-Nat.add_mul];congr 1;omega
  have V:u*(lay P e).length<=rows.length*(lay P e).length:=Nat.mul_le_mul_right _ h2
  have J:=I.sub l (u-l)
  rw[yv _ _ _ _ (by omega),List.drop_drop]at J
  have key:∀z,(∀k,z=some k->u-l<=k)->Rd P w e ((rows.drop l).take (u-l)) (.sl o ver n (off+l*(lay P e).length) (lay P e).length (u-l) z):=by intro z Z;have:=Rd.sl (P:=P) (w:=w) (t:=e) (rows:=(rows.drop l).take (u-l)) (ver:=ver) (n:=n) (off:=off+l*(lay P e).length) (cap:=z) F M hF hg h3 h4 (by grind) (by grind) (λk e=>by grind) (by grind);grind
  have U:u=l->∀D z,D<=off+l*(lay P e).length->Rd P w e ((rows.drop l).take (u-l)) (.sl o ver n D (lay P e).length (u-l) z):=by
   intro N D z ho
   have S:(rows.drop l).take (u-l)=[]:=by simp_all
   rw[S,show u-l=([]:List (List AV)).length by simp[N]];exact .sl F M hF hg h3 h4 (by simp;omega) (by simp;omega) (λk _=>by simp) (.nil _)
  rw[hz]at F
  simp only[Option.some.injEq]at F;subst F
  cases cap with
  |some cp=>have Y:=L cp rfl;refine⟨_,by unfold gk;simp only[hu,hz,K,E,Option.map_none];rw[if_pos ⟨trivial,h1,by omega,by omega⟩],?_⟩;grind
  |none=>
   unfold gk;simp only[hu,hz,K,E,Option.map_none]
   rw[if_pos ⟨trivial,h1,h2⟩]
   by_cases R:l=0
   .simp_all
   .rw[if_neg R]
    by_cases Q:l<rows.length
    .simp_all
    .rw[if_neg Q]
     have S:(rows.drop l).take (u-l)=[]:=by grind
     rw[S];exact⟨_,rfl,.bT _⟩
end
end Go.AI
namespace Go.AI
section
variable {P:Program}{w:Wd}{h h1:AHeap}{ρ:Type}
theorem Mc{v:SV}{x:AV}{n:Int}{d:Nat}(hx:RV P w v x)(hv:Bl v=some n)(h0:0<=n):eT (some x) d=some n.toNat:=by
 unfold Bl at hv
 split at hv
 .rename_i kd _;cases hx;cases hv;exact nC (kd:=kd) h0
 .cases hv
theorem W0{S:ae}(hs:ah P w S.ob S.nx h){t:TypeId}{a:SV}{x:AV}{N hi:Option SV}{I J:Option AV}{k:SV->ae->Option ρ}{r:ρ}(hx:RV P w a x)
 (Q:∀v,N=some v->∃y,I=some y/\RV P w v y)(L:N=none->I=none)(R:∀v,hi=some v->∃y,J=some y/\RV P w v y)(M:hi=none->J=none)
 (hr:zE P S t a N hi none k=some r):
 ∃F ob,ah P (w.more F) ob S.nx h/\fV S.ob ob/\(∀o,F o->Ow w S.ob o)/\∃v y,k v {S with ob:=ob}=some r/\gk P t x I J none=some y/\RV P (w.more F) v y:=by
 unfold zE at hr
 split at hr
 .cases hr
 .rename_i l hl
  split at hr
  .cases hr
  .rename_i u hu
   have hL:0<=l->eT I 0=some l.toNat:=by intro h0;cases N with|none=>rw[L rfl];simp only[Option.some.injEq]at hl;subst hl;rfl|some v=>obtain⟨y,rfl,hy⟩:=Q v rfl;exact Mc hy hl h0
   have O:∀d:Nat,(hi=none->u=d)->0<=u->eT J d=some u.toNat:=by intro d hd h0;cases hi with|none=>rw[M rfl,hd rfl];simp[eT]|some v=>obtain⟨y,rfl,hy⟩:=R v rfl;exact Mc hy hu h0
   split at hr
   .cases hr
   split at hr
   .rename_i e t' rows z
    split at hr
    .rename_i E;obtain⟨E,D⟩:=E;subst E;obtain⟨q1,q2,q3,q4⟩:=NP hr;cases hx with|dl hd=>obtain⟨y,e1,e2⟩:=hd.slice z D (hL q1) (O rows.length (λe=>by subst e;simpa[lT]using hu.symm) (by omega)) (by omega) (by omega);exact⟨λ_=>False,S.ob,by rw[Wd.jk];exact hs,.refl _,λ_ f=>f.elim,_,y,q4,e1,by rw[Wd.jk];exact .dl e2⟩
    .cases hr
   .rename_i e j z
    split at hr
    .rename_i t' rows aY hb
     split at hr
     .rename_i E;obtain⟨E,D⟩:=E;subst E;obtain⟨q1,q2,q3,q4⟩:=NP hr;obtain⟨F,p1,p2,V,p3,X⟩:=lE hs [.own j];have hd:=p3 j (by simp) _ _ _ _ (.inl hb) hx;obtain⟨y,e1,e2⟩:=hd.slice z D (hL q1) (O rows.length (λe=>by subst e;simp only[lT,hb]at hu;grind) (by omega)) (by omega) (by omega);exact⟨F,_,p1,p2,V,_,y,q4,e1,.dl e2⟩
     .cases hr
    .rename_i t' rows aY hb
     split at hr
     .split at hr
      .rename_i E;obtain⟨E,D⟩:=E;subst E
       simp only[Option.some.injEq]at hl;subst hl
       rcases rO hr with⟨hd,hr⟩|⟨_,hr⟩
       .simp only[decide_eq_true_eq]at hd
        have hlen:=Pm hs hx hb
        have e2:=O rows.length (λe=>by subst e;simp only[lT,hb]at hu;grind) (by omega)
        have e1:=hL (Int.le_refl _)
        obtain⟨sz,hz⟩:=Option.isSome_iff_exists.1 D
        obtain⟨U,_,_,T⟩:=hs.tr _ _ _ _ hb
        refine⟨λ_=>False,S.ob,by rw[Wd.jk];exact hs,.refl _,λ_ f=>f.elim,?_⟩
        rw[Wd.jk]
        cases hx with
        |cM q=>
         rcases T with⟨_,rfl⟩|⟨o,ver,mv,c,ex,sh,n,K,_⟩
         .obtain rfl:u=0:=by grind
          refine⟨_,.sc (.slice none 0 0),hr,?_,.mE q rfl⟩;simp only[List.length_nil]at e2;unfold gk;grind
         grind|cu q=>rcases T with⟨K,_⟩|⟨o,ver,mv,c,ex,sh,n,K,_⟩
                     .grind
                     .rw[q]at K;simp only[Option.some.injEq,Lk.sl.injEq]at K;obtain⟨rfl,rfl,rfl,rfl,rfl,rfl⟩:=K;refine⟨_,_,hr,?_,.mN q (by omega)⟩;rw[hz]at U;cases U;unfold gk;grind
       .cases hr
      .cases hr
     .cases hr
    .cases hr
   .rename_i s z;obtain⟨q1,q2,q3,q4⟩:=aaL hr;cases hx;exact⟨λ_=>False,S.ob,by rw[Wd.jk];exact hs,.refl _,λ_ f=>f.elim,_,_,q4,VU z (hL q1) (O s.size (λe=>by subst e;simpa[lT]using hu.symm) (by omega)) ⟨by omega,by omega⟩,by rw[Wd.jk];exact .sc rfl⟩
   .cases hr
end
end Go.AI
end

section
namespace Go.AI
section
variable {P:Program}{w:Wd}{h h1:AHeap}{ρ:Type}
theorem XX{s d:TypeId}{ks kd k:IntKind}{n:Int}(hs:P.underlying s=some (.int ks))(hd:P.underlying d=some (.int kd))(hp:AHeap):gg P hp s d (.sc (.int k n))=some (.sc (.int kd (kd.wrap n)),hp):=by
 have e:b8 P (convert s d (.int k n))=some (.int kd (kd.wrap n)):=by unfold convert;rw[eN,mi hs];simp only[Option.bind_some];rw[eN,mi hd];rfl
 unfold gg;simp only[hs,hd,dC,dT,e];rfl
theorem XY{s d:TypeId}{v:ByteArray}(hs:P.underlying s=some .string)(hd:P.underlying d=some .string)(hp:AHeap):gg P hp s d (.sc (.string v))=some (.sc (.string v),hp):=by
 have e:b8 P (convert s d (.string v))=some (.string v):=by unfold convert;rw[eN,mi hs];simp only[Option.bind_some];rw[eN,mi hd];rfl
 unfold gg;simp only[hs,hd,dC,dT,e];rfl
theorem au.dO{cs new:List SV}{xs ys:List AV}(hc:au P w cs xs)(hn:au P w new ys)(off:Nat):au P w (nN cs off new) (dO xs off ys):=by unfold nN AI.dO;rw[hn.length];exact(hc.take off).append (hn.append (hc.drop _))
theorem CV:∀{a b:List SV},cJ a=true->cJ b=true->cJ (a++b)=true|[],_,_,h=>h|x::xs,b,h,h'=>by simp only[cJ,bB,List.cons_append]at h⊢;exact⟨h.1,CV h.2 h'⟩
theorem DN:∀{a:List SV},cJ a=true↔∀x,x∈a->l3 x=true|[]=>by simp[cJ]|x::xs=>by simp[cJ,DN (a:=xs)]
theorem Md{a b:List SV}(h:cJ a=true)(hs:∀x,x∈b->x∈a):cJ b=true:=DN.2 λx hx=>DN.1 h x (hs x hx)
theorem Vv{cs new:List SV}(off:Nat)(h:cJ cs=true)(h':cJ new=true):cJ (nN cs off new)=true:=by unfold nN;exact CV (Md h λx hx=>List.mem_of_mem_take hx) (CV h' (Md h λx hx=>List.mem_of_mem_drop hx))
theorem EZ{v:SV}(h:cJ (bl v)=true):v≠.aM:=by rintro rfl;simp[bl,cJ,l3]at h
def pF(P:Program)(w:Wd):List (Nat×SV)->List (Nat×AV)->Prop|[],[]=>True|(i,v)::ps,(j,x)::qs=>i=j/\RV P w v x/\pF P w ps qs|_,_=>False
theorem pF.map{e:Operand->SV}{ρ':Operand->AV}:∀(l:List (Nat×Operand)),(∀x,x∈l.map (·.2)->RV P w (e x) (ρ' x))->pF P w (l.map λ(i,x)=>(i,e x)) (l.map λ(i,x)=>(i,ρ' x))|[],_=>trivial|(i,x)::l,h=>⟨rfl,h x (by simp),pF.map l λy hy=>h y (by grind)⟩
theorem zw{place:Nat->Option (Nat×Nat)}:∀{ps:List (Nat×SV)}{qs:List (Nat×AV)}{cs aS:List SV}{xs:List AV},pF P w ps qs->au P w cs xs->jX place cs ps=some aS->∃z,iT place xs qs=some z/\au P w aS z
 |[],[],cs,aS,xs,_,hc,he=>by simp only[jX,ad]at he;subst he;exact⟨xs,rfl,hc⟩
 |(i,v)::ps,(j,x)::qs,cs,aS,xs,hp,hc,he=>by
  obtain⟨rfl,hv,hp⟩:=hp
  simp only[jX]at he
  split at he
  .cases he
  .rename_i off size D
   split at he
   .rename_i o;have c:=nF hv (EZ o.2.2);obtain⟨z,e1,e2⟩:=zw hp (hc.dO c off) he;refine⟨z,?_,e2⟩;simp only[iT,D];rw[if_pos ⟨by rw[<-c.length];exact o.1,by rw[<-c.length,<-hc.length,o.1];grind,c.cells o.2.2⟩];exact e1
   .cases he|[],_::_,_,_,_,hp,_,_=>hp.elim|_::_,[],_,_,_,hp,_,_=>hp.elim
theorem ti(z:Value):au P w (bl (gx z)) (a6 (bz z)):=by refine nF (u4 z) ?_;cases z with|func fn a c=>cases fn<;>simp[gx]<;>split<;>simp|_=>simp[gx]
theorem XZ{t:TypeId}{ps:List (Nat×SV)}{qs:List (Nat×AV)}{v:SV}(hp:pF P w ps qs)(he:Ej P t ps=some v):∃y,rT P t qs=some y/\RV P w v y:=by
 unfold Ej at he
 split at he
 .rename_i it c hi hu
  split at he
  .rename_i z places hz o;cases hf:jX (λi=>places[i]?) (bl (gx z)) ps with|none=>grind|some cs=>rw[hf]at he;simp only[Option.map_some,ad]at he;subst he;obtain⟨xs,e1,e2⟩:=zw hp (ti z) hf;refine⟨.agg xs,?_,.agg e2⟩;simp only[rT,hi,hu,hz,o,e1];rfl
  .cases he
 .rename_i it n e hi hu
  split at he
  .rename_i z E hz D;cases hf:jX (λi=>some (i*E.size,E.size)) (bl (gx z)) ps with|none=>grind|some cs=>rw[hf]at he;simp only[Option.map_some,ad]at he;subst he;obtain⟨xs,e1,e2⟩:=zw hp (ti z) hf;refine⟨.agg xs,?_,.agg e2⟩;simp only[rT,hi,hu,hz,D,e1];rfl
  .cases he
 .cases he
theorem UQ(s:ByteArray):iO (cQ s)=some s.data.toList:=by unfold cQ;induction s.data.toList with|nil=>rfl|cons b bs c=>simp only[List.map_cons,iO,c,Option.map_some];simp_all
theorem K7{ob:Tr aq}{nx:Nat}(hs:ah P w ob nx h){i:Nat}{s:ByteArray}{l:TypeId}{x:AV}(hb:ob.get i=some (.bh s l))(hx:RV P w (.own i) x)(ha:kM h h1 x):ft x=some s.size/\kQ x=true/\fT h1 1 s.size x=some (cQ s):=by
 obtain⟨q1,q2⟩:=(D7 hs hx).2 s l hb
 refine⟨q1,q2,?_⟩
 have hlen:(cQ s).length=s.size:=by simp[cQ]
 cases hx with
 |cM e1=>
  rcases(hs.bh _ _ _ hb).2 with⟨_,q⟩|⟨o,ver,mv,ex,fz,cap,_,q,_⟩
  .simp only[fT,q,if_true];grind
  grind
 |cu e1=>
  rcases(hs.bh _ _ _ hb).2 with⟨q,_⟩|⟨o,ver,mv,ex,fz,cap,_,q,_,hg,hm,_⟩
  .grind
  .rw[e1]at q;simp only[ad,Lk.sl.injEq]at q
   obtain⟨rfl,rfl,rfl,rfl,rfl,rfl⟩:=q
   rename_i o ver cap _ _ _
   have c:h1.get o=some (.cells ver mv (cQ s) fz l ex false):=by rw[ha o (by simp[jD])];exact hg
   simp only[fT];rw[if_pos ⟨trivial,aC _⟩];simp only[c9,c];grind
theorem X0{ob:Tr aq}{nx:Nat}(hs:ah P w ob nx h){i:Nat}{s:ByteArray}{l:TypeId}{x:AV}{src dst e:TypeId}(hb:ob.get i=some (.bh s l))(hx:RV P w (.own i) x)(ha:kM h h1 x)
 (hu:P.underlying src=some (.slice e))(he:isByte P e=true)(hd:P.underlying dst=some .string):gg P h1 src dst x=some (.sc (.string s),h1):=by
 obtain⟨q1,q2,q3⟩:=K7 hs hb hx ha
 have c:P.underlying e=some (.int .u8):=by
  unfold isByte at he
  split at he
  .assumption
  .cases he
 unfold gg;simp only[hu,hd,c,q1,q2,q3,UQ,Option.map_some]
theorem Me{ob:Tr aq}{nx:Nat}(hs:ah P w ob nx h){i off:Nat}{t' t u:TypeId}{cs:List SV}{x:AV}{src dst:TypeId}(hb:ob.get i=some (.box t' cs))(hx:RV P w (.ref i off) x)(ha:kM h h1 x)(hl:off+1<=cs.length){n:Nat}:
 (P.underlying src=some (.pointer t)->P.underlying dst=some .unsafePointer->bt P t=some (n+1)->gg P h1 src dst x=some (x,h1))/\
 (P.underlying src=some .unsafePointer->P.underlying dst=some (.pointer u)->bt P u=some (n+1)->liesAt P P.depth t' (cs.length/P.cellsOf t') off u 1=true->gg P h1 src dst x=some (x,h1)):=by
 obtain⟨o,c,sh,e1,e2,e3,_,_⟩:=hs.box i t' cs hb
 cases hx with
 |ref e=>
  rw[e1]at e
  simp only[ad,Lk.box.injEq]at e
  obtain⟨rfl,rfl⟩:=e
  have z:h1.get o=some (.cells 0 0 c 0 t' true sh):=by rw[ha o (by simp[jD])];exact e2
  have F:off+1<=c.length:=by rw[<-e3.length];exact hl
  have D:c9 h1 o 0 c.length off 1=some ((c.drop off).take 1):=by simp only[c9,z];grind
  constructor
  .intro hs hd hz;unfold gg;grind
  .intro hs hd hz E;unfold gg;simp only[hs,hd,hz,D,z];rw[e3.length]at E;grind
variable {A:dr}{R:dJ A.pn}{kp:TypeId->List AV->ae->Option ρ}
theorem W1{ob:Tr aq}{F:Nat->Prop}{vs:List SV}{v:SV}(hv:v∈vs)(h3:∀i,SV.own i∈vs->∀t rows l x,jd ob i t rows l->RV P w (.own i) x->Rd P (w.more F) t rows x)
 {l:Lf}{c x:AV}(hc:cellOf P ob l v=some c)(hx:RV P w v x):jO P (w.more F) l c x:=by
 unfold cellOf at hc
 split at hc
 .split at hc
  .rename_i e;subst e;cases hc;cases hx;exact .int _ _
  .cases hc
 .cases hc;cases hx;exact .bool _
 .cases hc;cases hx;exact .str _
 .split at hc
  .rename_i e;subst e;cases hz:bt P _ with|none=>rw[hz]at hc;cases hc|some sz=>rw[hz]at hc;cases hc;cases hx with|dl hr=>exact .sl (hr.mono (aX.more _ _))
  .cases hc
 .rename_i t;cases hz:bt P t with|none=>grind|some sz=>rw[hz]at hc;cases hc;cases hx;exact .sl (.nil t)
 .rename_i t i
  split at hc
  .rename_i t' r l hb
   split at hc
   .rename_i e;subst e;cases hz:bt P t with|none=>grind|some sz=>rw[hz]at hc;cases hc;exact .sl (h3 i hv _ _ _ _ (.inl hb) hx)
   .cases hc
  .cases hc
 .cases hc
theorem tT{ob:Tr aq}{F:Nat->Prop}{us:List SV}(h3:∀i,SV.own i∈us->∀t rows l x,jd ob i t rows l->RV P w (.own i) x->Rd P (w.more F) t rows x):
 ∀{ls:List Lf}{vs:List SV}{xs row:List AV},(∀v,v∈vs->v∈us)->rowOf P ob ls vs=some row->au P w vs xs->cf P (w.more F) ls row xs
 |[],[],_,row,_,hr,.nil=>by simp only[rowOf,ad]at hr;subst hr;exact .nil
 |l::ls,v::vs,_,row,hm,hr,.cons a b=>by
  simp only[rowOf]at hr
  split at hr
  .rename_i c cs h1 h2;simp only[ad]at hr;subst hr;exact .cons (W1 (hm v (by simp)) h3 h1 a) (tT h3 (λu hu=>hm u (by simp[hu])) h2 b)
  .cases hr|[],_::_,_,_,_,hr,_=>by simp[rowOf]at hr|_::_,[],_,_,_,hr,_=>by simp[rowOf]at hr
theorem Di{ob:Tr aq}{F:Nat->Prop}{us:List SV}(h3:∀i,SV.own i∈us->∀t rows l x,jd ob i t rows l->RV P w (.own i) x->Rd P (w.more F) t rows x){ls:List Lf}{s:Nat}:
 ∀{n:Nat}{vs:List SV}{xs:List AV}{rows:List (List AV)},(∀v,v∈vs->v∈us)->rowsOf P ob ls s n vs=some rows->au P w vs xs->bW P (w.more F) ls rows (chunks s n xs)/\rows.length=n
 |0,vs,xs,rows,_,hr,_=>by simp only[rowsOf,ad]at hr;subst hr;exact⟨.nil _,rfl⟩
 |n+1,vs,xs,rows,hm,hr,hx=>by
  simp only[rowsOf]at hr
  split at hr
  .rename_i r rs h1 h2;simp only[ad]at hr;subst hr;obtain⟨q1,q2⟩:=Di h3 (λv hv=>hm v (List.mem_of_mem_drop hv)) h2 (hx.drop s);exact⟨.cons (tT h3 (λv hv=>hm v (List.mem_of_mem_take hv)) h1 (hx.take s)) q1,by simp[q2]⟩
  .cases hr
theorem aaM{el t:TypeId}{len:Nat}{cs:List SV}{xs:List AV}{n:Int}{kd:IntKind}{k:SV->Option ρ}{r:ρ}(hx:au P w cs xs)(hu:P.underlying t=some (.array len el))(hr:FE P el len cs n k=some r):
 ∃v y,k v=some r/\qd P t (.agg xs) (.sc (.int kd n))=some y/\RV P w v y:=by
 unfold FE at hr
 split at hr
 case h_2=>cases hr
 rename_i s g hz hg
 split at hr
 case h_2=>cases hr
 rename_i rows I o
 have hs:=Nat.eq_of_beq_eq_true I
 obtain⟨h0,row,c,hr⟩:=D6 hr
 obtain⟨q1,q2⟩:=Di (w:=w) (F:=λ_=>False) (us:=cs) (λi _ t rows l x e=>by rcases e with e|e<;>cases e) (λv hv=>hv) o hx
 rw[Wd.jk]at q1
 obtain⟨dZ,e1,e2⟩:=q1.get _ _ c
 have hlt:n.toNat<len:=by rw[<-q2];exact yK c
 rw[pK _ _ _ hlt]at e1
 cases e1
 have K:qd P t (.agg xs) (.sc (.int kd n))=apart P el xs (n.toNat*s):=by simp only[qd,hu,nC h0,hz];rw[if_pos hlt]
 rw[K]
 split at hr
 .exact⟨_,_,hr,by simp only[apart,hg,hz],.agg (zb e2)⟩
 .split at hr
  .rename_i l hl
   rw[hl]at e2
   have D:=e2.length.2
   cases hd:(xs.drop (n.toNat*s)).take s with
   |nil=>rw[hd]at D;simp at D
   |cons y M=>
    rw[hd]at e2
    cases e2 with
    |cons a b=>
     cases b
     have J:(xs.drop (n.toNat*s)).head?=some y:=by cases E:xs.drop (n.toNat*s)with|nil=>rw[E]at hd;simp at hd|cons z L=>rw[E]at hd;cases s with|zero=>simp at hd|succ s=>simp only[List.take_succ_cons,List.cons.injEq]at hd;rw[hd.1];rfl
     exact⟨_,y,hr,by simp only[apart,hg,hz];exact J,uj (by simp) a⟩
  .cases hr
theorem D8{t e:TypeId}(h:kT P t=some e):∃c s z,P.underlying t=some (.map c e)/\P.underlying c=some .string/\bt P e=some s/\eE P e=some z/\s=(lay P e).length/\(a6 z).length=s:=by
 unfold kT at h
 split at h
 .rename_i c e' hu
  split at h
  .rename_i s z hk hs hz
   split at h
   .simp_all
   .cases h
  .cases h
 .cases h
theorem aaN{ob:Tr aq}{nx:Nat}(hs:ah P w ob nx h){t:TypeId}{v:SV}{y:AV}{rows:List (List AV)}(hd:mF ob t v=some rows)(hv:RV P w v y):
 ∃e o es cl,kT P t=some e/\y=.map o/\h.get o=some (.map es cl)/\rb P w e rows es cl:=by
 unfold mF at hd
 split at hd
 .split at hd
  .rename_i e;subst e;simp only[ad]at hd;subst hd;cases hv with|md q=>cases q with|mk a b c d=>exact⟨_,_,_,_,a,rfl,by rw[<-hs.g];exact c,d⟩
  .cases hd
 .rename_i i
  split at hd
  .rename_i t' r l hb
   split at hd
   .rename_i e;subst e;simp only[ad]at hd;subst hd;obtain⟨e,o,es,cl,q1,q2,q3,q4,_⟩:=hs.mp _ _ _ _ hb;cases hv with|om q=>grind
   .cases hd
  .cases hd
 .cases hd
theorem NQ{e:TypeId}(s:ByteArray):∀{rows:List (List AV)}{es:List (AV×AV×Nat)}(j:Nat),jK P w e rows es->(mP rows s=none->gR (.string s) es j=some none)/\∀r,mP rows s=some r->∃i v c r',gR (.string s) es j=some (some (i,v,c))/\cf P w (lay P e) (r.drop 1) r'/\((ep P e=some true/\v=.agg r')\/(ep P e=some false/\r'=[v]))|_,_,j,.nil=>⟨λ_=>rfl,λr h=>by cases h⟩|_,_,j,.cons (s:=q) (r:=r0) (r':=r1) (v:=v) (c:=c) (rows:=rows) (es:=es) h1 h2 h3=>by have o:=NQ s (j+1) h3;have e1:gR (.string s) ((.sc (.string q),v,c)::es) j=match some (s==q)with|some true=>some (some (j,v,c))|some false=>gR (.string s) es (j+1)|none=>none:=rfl;have e2:mP ((.sc (.string q)::r0)::rows) s=match s==q with|true=>some (.sc (.string q)::r0)|false=>mP rows s:=rfl;grind
theorem aaO{e:TypeId}{r r':List AV}{v:AV}{x:SV}(h1:cf P w (lay P e) r r')(h2:(ep P e=some true/\v=.agg r')\/(ep P e=some false/\r'=[v]))(hx:Bk P e r=some x):RV P w x v:=by
 unfold Bk at hx
 split at hx
 .rename_i hg
  cases hx
  rcases h2 with⟨_,rfl⟩|⟨q,_⟩
  .exact .agg (zb h1)
  grind
 .rename_i l hg hl
  cases hx
  rcases h2 with⟨q,_⟩|⟨_,rfl⟩
  .grind
  .rw[hl]at h1;cases h1 with|cons a b=>cases b;exact uj (by simp) a
 .cases hx
theorem look_ok{S:ae}{ρ:Type}(hs:ah P w S.ob S.nx h){t:TypeId}{x i:SV}{y z:AV}{ok:Bool}{k:SV->Option ρ}{r:ρ}(hx:RV P w x y)(hi:RV P w i z)(ha:kM h h1 y)(hr:Az P S t x i ok k=some r):
 ∃v u,k v=some r/\rJ P h1 t y z ok=some u/\RV P w v u:=by
 unfold Az at hr
 split at hr
 .rename_i e rows s hm hd
  obtain⟨e',o,es,cl,q1,rfl,q3,q4⟩:=aaN hs hd hx
  rw[hm]at q1;cases q1
  cases hi
  obtain⟨X,_,_,M,L,_,V,_⟩:=D8 hm
  split at hr
  .rename_i U hz
   unfold PD at hz
   split at hz
   .rename_i it hit
    cases F:it.zero with
    |none=>grind
    |some E=>
     rw[F]at hz;cases hz
     have I:eE P e=some (bz E):=by simp only[eE,hit,F,Option.map_some]
     have hl:qe h1 (.string s) (.map o)=gR (.string s) es 0:=by unfold qe;simp only[ha o (by simp[jD]),q3]
     unfold jx at hr
     obtain⟨T,Q⟩:=NQ s 0 q4.en
     split at hr
     .rename_i row D
      obtain⟨i,v,c,r',O,g2,N⟩:=Q row D
      cases K:Bk P e (row.drop 1)with
      |none=>grind
      |some x'=>
       simp only[K]at hr
       have J:=aaO g2 N K
       refine⟨_,if ok then .tuple [v,.sc (.bool true)]else v,hr,?_,?_⟩
       .simp only[rJ,M,L,I,fx,hl,O];rfl
       .cases ok with|true=>exact .bC (.cons J (.cons (.sc rfl) .nil))|false=>exact J
     .rename_i D
      refine⟨_,if ok then .tuple [bz E,.sc (.bool false)]else bz E,hr,?_,?_⟩
      .simp only[rJ,M,L,I,fx,hl,T D];rfl
      .cases ok with|true=>exact .bC (.cons (u4 E) (.cons (.sc rfl) .nil))|false=>exact u4 E
   .cases hz
  .cases hr
 .cases hr
theorem Jh:∀(a b:List SV),dV (a++b)=dV a++dV b|[],_=>rfl|v::a,b=>by simp only[List.cons_append,dV,Jh a b,List.append_assoc]
theorem Jt:∀(a b:List SV),fj (a++b)=(fj a&&fj b)|[],_=>rfl|v::a,b=>by simp only[List.cons_append,fj,Jt a b,Bool.and_assoc]
theorem Ju(r:List AV):∀(ls:List Lf)(j:Nat),dV (fU r ls j)=[]|[],_=>rfl|l::ls,j=>by cases l<;>simp[fU,hY,dV,vy,Ju r ls]
theorem JR(r:List AV):∀(ls:List Lf)(j:Nat),fj (fU r ls j)=true|[],_=>rfl|l::ls,j=>by cases l<;>simp[fU,hY,fj,gy,JR r ls]
theorem Rl.head{t:TypeId}{r:List AV}{rest:List (List AV)}{x:AV}(hl:Rl P w t (r::rest) x):RV P w (.pb t (fU r (lay P t).dropLast 0++[.ls t rest]) 0) x:=by
 cases hl with
 |cons a b c d e f g i=>
  have hlen:(fU r (lay P t).dropLast 0++[SV.ls t rest]).length=(lay P t).dropLast.length+1:=by simp only[List.length_append,KY,lC,List.length_nil]
  refine .pb a b c (by grind) (by grind) ?_ ?_ ?_
  .rw[Jh,Ju];rfl
  .rw[Jt,JR];rfl
  .rw[hlen,List.take_succ,g];exact(zb f).append (.cons (.ls i) .nil)
theorem Mf{S:ae}(hs:ah P w S.ob S.nx h){o:Oper}{ρ':Operand->AV}(E:∀x,x∈o.op.operands.toList->RV P w (bH S.tm x) (ρ' x))(hag:jt o.op=true->∀x,x∈o.op.operands.toList->kM h h1 (ρ' x))
 (hF:cd o.op=true){k:SV->ae->Option ρ}{r:ρ}(hr:h9 P A R kp o S k=some r):Fw P w h h1 S k r (aV P ρ' o h1):=by
 have rd:∀x,x∈o.op.operands.toList->∃v y,bH S.tm x=v/\ρ' x=y/\RV P w v y:=λx hx=>⟨_,_,rfl,rfl,E x hx⟩
 have ag:jt o.op=true->∀x,x∈o.op.operands.toList->∀y,ρ' x=y->kM h h1 y:=λh1 x hx y e=>by grind
 unfold h9 at hr
 simp only at hr
 split at hr
 case h_1=>simp_all[cd]
 case h_2=>simp_all[cd]
 case h_3=>
  rename_i t parts D
  split at hr
  .rename_i v hv;obtain⟨y,e1,e2⟩:=XZ (P:=P) (w:=w) (pF.map (e:=bH S.tm) (ρ':=ρ') parts.toList λx hx=>E x (by rw[D];simpa[Op.operands]using hx)) hv;exact .one hs hr (by simp only[aV,D];rw[e1];rfl) e2
  .cases hr
 case h_4=>simp_all[cd]
 case h_5=>rename_i t a D;obtain⟨v,y,e1,e2,e3⟩:=NN (h1:=h1) hs (E a (by rw[D];simp[Op.operands])) (hag (by rw[D];rfl) a (by rw[D];simp[Op.operands])) hr;exact .one hs e1 (by simp only[aV,D];rw[e2];rfl) e3
 case h_6=>simp_all[cd]
 case h_7=>
  rename_i x D
  obtain⟨v,y,ev,I,hv⟩:=rd x (by rw[D];simp[Op.operands])
  rw[ev]at hr
  split at hr
  .cases hv with|ref q=>exact .one hs hr (by simp only[aV,D,I]) (.ref q)
  .cases hv with|dI q q2=>exact .one hs hr (by simp only[aV,D,I]) (.dI q q2)
  .cases hv with|dj q=>cases q with|cI q=>exact .one hs hr (by simp only[aV,D,I]) (.dj (.cI q))|ref a b c d e f g=>exact .one hs hr (by simp only[aV,D,I]) (.dj (.ref a b c d e f g))
  .cases hv with|fn q=>exact .one hs hr (by simp only[aV,D,I]) (.fn q)|fR=>exact .one hs hr (by simp only[aV,D,I]) .fR
  .rcases rO hr with⟨rfl,hr⟩|⟨_,hr⟩
   .cases hv with|fY q _=>cases q with|ref q=>exact .one hs hr (by simp only[aV,D,I]) (.ref q)
   .cases hr
  .cases hv with|pb a b c d e f g i=>exact .one hs hr (by simp only[aV,D,I]) (.pb a b c d e f g i)
  .rename_i t rows;cases rows with|nil=>cases hr|cons r0 rest=>cases hv with|ls hl=>have hp:=hl.head;cases hl with|cons _ _ _ _ _ _ _ _=>exact .one hs hr (by simp only[aV,D,I]) hp
  .cases hr
 case h_8=>rename_i op t x y t' D;obtain⟨v,e0,e1,e2⟩:=aaJ (xo:=x) (yo:=y) (E x (by rw[D];simp[Op.operands])) (E y (by rw[D];simp[Op.operands])) hr;exact .one hs e1 (by simp only[aV,D];rw[e2];rfl) (.sc e0)
 case h_9=>
  rename_i op t x D
  obtain⟨v,y,ev,I,hv⟩:=rd x (by rw[D];simp[Op.operands])
  rw[ev]at hr
  split at hr
  .cases hv;exact .one hs hr (by simp only[aV,D,I];rfl) (.sc rfl)
  .cases hv;exact .one hs hr (by simp only[aV,D,I];rfl) (.sc rfl)
  .cases hr
 case h_10=>
  rename_i s d x D
  obtain⟨v,y,ev,I,hv⟩:=rd x (by rw[D];simp[Op.operands])
  have ha:=ag (by rw[D];rfl) x (by rw[D];simp[Op.operands]) y I
  rw[ev]at hr
  split at hr
  .cases hv
   split at hr
   .rename_i K J;exact .one hs hr (by simp only[aV,D,I];rw[XX K J];rfl) (.sc rfl)
   .cases hr
  .cases hv
   split at hr
   .rename_i K J;exact .one hs hr (by simp only[aV,D,I];rw[XY K J];rfl) (.sc rfl)
   .cases hr
  .cases hv
   split at hr
   .rename_i K J;exact .one hs hr (by simp only[aV,D,I];unfold gg;grind) (.sc rfl)
   .rename_i K J;exact .one hs hr (by simp only[aV,D,I];unfold gg;grind) (.sc rfl)
   .rename_i K J;exact .one hs hr (by simp only[aV,D,I];unfold gg;grind) (.sc rfl)
   .cases hr
  .split at hr
   .rename_i t' cs t hb K J
    split at hr
    .rename_i n hz
     split at hr
     .rename_i hl;have:=(Me (t:=t) (u:=t) hs hb hv ha hl (n:=n) (src:=s) (dst:=d)).1 K J hz;exact .one hs hr (by simp only[aV,D,I];grind) hv
     .cases hr
    .cases hr
   .rename_i t' cs u hb K J
    split at hr
    .rename_i n hz
     split at hr
     .rename_i hl
      split at hr
      .rename_i hli;have:=(Me (t:=u) (u:=u) hs hb hv ha hl (n:=n) (src:=s) (dst:=d)).2 K J hz hli;exact .one hs hr (by simp only[aV,D,I];grind) hv
      .cases hr
     .cases hr
    .cases hr
   .cases hr
  .split at hr
   .rename_i e b l K J hb
    split at hr
    .rename_i hby;exact .one hs hr (by simp only[aV,D,I];rw[X0 hs hb hv ha K hby J];rfl) (.sc rfl)
    .cases hr
   .cases hr
  .cases hr
 case h_11=>
  rename_i t x D
  obtain⟨v,y,ev,I,hv⟩:=rd x (by rw[D];simp[Op.operands])
  rw[ev]at hr
  split at hr
  .cases hr
  .rename_i d hu hd;refine .one hs hr ?_ (.eb hv);simp only[aV,D,I];grind
  .cases hr
 case h_12=>
  rename_i fn first caps D
  split at hr
  .rename_i f hf;refine .one hs hr (by simp only[aV,D,hf];rfl) (.fn ?_);exact au.map _ λx hx=>E x (by rw[D];simp[Op.operands];grind)
  .cases hr
 case h_13=>
  rename_i t x Y hi mx D
  cases mx with
  |some m=>exfalso;simp only[zE,sG]at hr;grind
  |none=>
   have hlo:∀v,sG S Y=some v->∃y,Y.map ρ'=some y/\RV P w v y:=by intro v e;cases Y with|none=>cases e|some l=>cases e;exact⟨_,rfl,E l (by rw[D];simp[Op.operands])⟩
   have hhi:∀v,sG S hi=some v->∃y,hi.map ρ'=some y/\RV P w v y:=by intro v e;cases hi with|none=>cases e|some l=>cases e;exact⟨_,rfl,E l (by rw[D];simp[Op.operands])⟩
   obtain⟨F,ob,q1,q2,q6,v,y,q3,q4,q5⟩:=W0 hs (E x (by rw[D];simp[Op.operands])) hlo (by intro e;cases Y<;>first|rfl|cases e) hhi (by intro e;cases hi<;>first|rfl|cases e) hr;exact⟨F,ob,q1,q2,q6,v,y,q3,by simp only[aV,D,Option.map_none];rw[q4];rfl,q5⟩
 case h_14=>
  rename_i t x f D
  split at hr
  .rename_i v hv;obtain⟨y,e1,e2⟩:=Vi (E x (by rw[D];simp[Op.operands])) hv;exact .one hs hr (by simp only[aV,D];rw[e1];rfl) e2
  .cases hr
 case h_15=>
  rename_i t x f D
  split at hr
  .rename_i v hv;obtain⟨y,e1,e2⟩:=XT (E x (by rw[D];simp[Op.operands])) hv;exact .one hs hr (by simp only[aV,D];rw[e1];rfl) e2
  .cases hr
 case h_16=>rename_i t x i D;obtain⟨v,z,e1,e2,e3⟩:=Vj hs (E x (by rw[D];simp[Op.operands])) (E i (by rw[D];simp[Op.operands])) hr;exact .one hs e1 (by simp only[aV,D];rw[e2];rfl) e3
 case h_17=>
  rename_i t x i D
  obtain⟨v,y,ev,I,hv⟩:=rd x (by rw[D];simp[Op.operands])
  obtain⟨v2,y2,ev2,V,O⟩:=rd i (by rw[D];simp[Op.operands])
  rw[ev,ev2]at hr
  split at hr
  .rename_i s kd n hu
   cases hv;cases O
   unfold i6 at hr
   split at hr
   .rename_i hn
    split at hr
    .rename_i b hb;refine .one hs hr ?_ (.sc rfl);simp only[aV,D,I,V,qd,hu,nC (show 0<=n by grind),hb];rfl
    .cases hr
   .cases hr
  .rename_i len el cs kd n hu;cases hv with|agg hv=>cases O;obtain⟨v3,y3,r1,r2,r3⟩:=aaM (t:=t) (kd:=kd) hv hu hr;refine .one hs r1 ?_ r3;simp only[aV,D,I,V,r2];rfl
  .cases hr
 case h_18=>
  rename_i t i D
  obtain⟨v,y,ev,I,hv⟩:=rd t (by rw[D];simp[Op.operands])
  rw[ev]at hr
  split at hr
  .rename_i vs
   cases hv with
   |bC hq=>
    split at hr
    .rename_i v2 O;obtain⟨x2,e1,e2⟩:=hq.get _ _ O;exact .one hs hr (by simp only[aV,D,I,e1];rfl) e2
    .cases hr
  .cases hr
 case h_19=>
  rename_i c D
  obtain⟨callee,args,Ci⟩:=c
  cases callee with
  |invoke x m=>cases hr
  |value f=>rw[D]at hF;cases hF
  |builtin b=>
   simp only at hr
   have L:∀a,a∈args.toList->RV P w (bH S.tm a) (ρ' a):=λa ha=>E a (by rw[D];simp only[Op.operands,Call.operands];grind)
   have M:∀x,args.toList.map (bH S.tm)=[x]->∃a,args.toList=[a]/\bH S.tm a=x:=by simp_all
   unfold yQ at hr
   split at hr
   .rw[D]at hF;cases hF
   .rename_i x hl
    obtain⟨a,ha,hx⟩:=M x hl
    obtain⟨y,hy⟩:∃y,ρ' a=y:=⟨_,rfl⟩
    have hv:=L a (by grind)
    rw[hx,hy]at hv
    split at hr
    .rename_i n t hn U
     obtain⟨m,rfl,e1,e2⟩:=aaK hs hv hn
     split at hr
     .rename_i e hu N
      refine .one hs hr ?_ (.sc rfl)
      simp only[aV,D,gT,hN,ha,List.map_cons,List.map_nil,U,qC,hu,hy]
      rcases e2 with e2|⟨s,rfl⟩
      .rw[e2,if_pos rfl,e1];rfl
      .cases hv<;>first|(simp[Ek]at N;done)|(simp[lT]at hn;done)|(rename_i hq;cases hq)
     .rename_i hu N
      refine .one hs hr ?_ (.sc rfl)
      simp only[aV,D,gT,hN,ha,List.map_cons,List.map_nil,U,qC,hu,hy]
      obtain⟨s,rfl⟩:∃s,x=.sc (.string s):=by unfold Ek at N;grind
      cases hv;simp only[ft,ad]at e1;subst e1;rfl
     .cases hr
    .cases hr
   .rename_i i hl
    obtain⟨a,ha,hx⟩:=M _ hl
    obtain⟨y,hy⟩:∃y,ρ' a=y:=⟨_,rfl⟩
    have hv:=L a (by grind)
    rw[hx,hy]at hv
    split at hr
    .rename_i s l hb
     rcases rO hr with⟨Q,hr⟩|⟨Q,hr⟩
     .simp only[decide_eq_true_eq]at Q
      cases hv with
      |cM e1=>
       rcases(hs.bh _ _ _ hb).2 with⟨_,q⟩|⟨o,ver,mv,ex,fz,cap,_,q,_⟩
       .omega
       grind
      |cu e1=>
       rcases(hs.bh _ _ _ hb).2 with⟨q,_⟩|⟨o,ver,mv,ex,fz,cap,_,q,_⟩
       .grind
       .have q':=q;rw[e1]at q;simp only[ad,Lk.sl.injEq]at q;obtain⟨rfl,rfl,rfl,rfl,rfl,rfl⟩:=q;refine .one hs hr ?_ (.fW q');simp only[aV,D,gT,hN,ha,List.map_cons,List.map_nil,hy];grind
     .simp only[decide_eq_false_iff_not]at Q
      cases hv with
      |cM e1=>refine .one hs hr ?_ (.sc rfl);simp only[aV,D,gT,hN,ha,List.map_cons,List.map_nil,hy]
      |cu e1=>
       rcases(hs.bh _ _ _ hb).2 with⟨q,_⟩|⟨o,ver,mv,ex,fz,cap,q0,q,_⟩
       .grind
       .omega
    .cases hr
   .rename_i hl;obtain⟨a,ha,hx⟩:=M _ hl;obtain⟨y,hy⟩:∃y,ρ' a=y:=⟨_,rfl⟩;have hv:=L a (by grind);rw[hx,hy]at hv;cases hv;refine .one hs hr ?_ (.sc rfl);simp only[aV,D,gT,hN,ha,List.map_cons,List.map_nil,hy]
   .rw[D]at hF;cases hF
   .rw[D]at hF;cases hF
   .cases hr
 case h_20=>
  rename_i x t' a ok D
  obtain⟨v,y,ev,I,hv⟩:=rd x (by rw[D];simp[Op.operands])
  rw[ev]at hr
  split at hr
  .cases hr
  .rename_i d t v hn hu
   have has:∀(X:AV),tY P X a ok=(match nW X with|some (t,v)=>if t=a then some (if ok then .tuple [v,.sc (.bool true)]else v)else my P a ok|none=>match X with|.sc .nilIface=>my P a ok|_=>none):=by intro X;unfold tY;rw[hu];cases d with|interface m=>grind|_=>rfl
   cases hv with
   |eb q=>
    split at hr
    .rename_i hb;obtain rfl:=Nat.eq_of_beq_eq_true hb;cases ok with|true=>exact .one hs hr (by simp[aV,D,I,has,nW,val]) (.bC (.cons q (.cons (.sc rfl) .nil)))|false=>exact .one hs hr (by simp[aV,D,I,has,nW,val]) q
    .rename_i hb
     have hb:=Nat.ne_of_beq_eq_false hb
     split at hr
     .rename_i z hz
      unfold PF at hz
      split at hz
      .rename_i i hi
       cases T:i.zero with
       |none=>grind
       |some z0=>
        rw[T]at hz;cases hz
        have Z:eE P a=some (bz z0):=by simp only[eE,hi,T,Option.map_some]
        exact .one hs hr (by simp[aV,D,I,has,nW,val,my,hb,Z]) (.bC (.cons (u4 z0) (.cons (.sc rfl) .nil)))
      .cases hz
     .cases hr
  .cases hr
 case h_21=>simp_all[cd]
 case h_22=>rename_i t x i ok D;obtain⟨v,u,e1,e2,e3⟩:=look_ok (h1:=h1) hs (E x (by rw[D];simp[Op.operands])) (E i (by rw[D];simp[Op.operands])) (hag (by rw[D];rfl) x (by rw[D];simp[Op.operands])) hr;exact .one hs e1 (by simp only[aV,D];rw[e2];rfl) e3
 case h_23=>simp_all[cd]
 grind
end
end Go.AI
end

section
namespace Go.AI
def mj(h:AHeap)(cm:bD)(r:Option (di×AHeap)):Option (di×bD×AHeap):=match r with|some (o,h')=>some (o,cm,h.outer h')|none=>none
def jm(P:Program)(R:Rec)(kind:CallKind)(f:FuncId)(args:List AV)(cm:bD)(h:AHeap):Option (di×bD×AHeap):=
 match P.funcs[f]? with
 |some fn=>
  match fn.body with
  |some code=>match evalCode P R {fn:=f,tn:=max fn.ntmps args.length,kind,round:=none} code {tm:=gN args 0 .leaf,df:=[],cm,h:=h.inner}with|some (.normal,st)=>mj h st.cm (cH P R fn st.tm st.df .ret st.h)|some (.ret,st)=>mj h st.cm (cH P R fn st.tm st.df .ret st.h)|some (.panic v,st)=>mj h st.cm (cH P R fn st.tm st.df (.aN v false) st.h)|_=>none
  |none=>none
 |none=>none
section
variable {P:Program}{R:Rec}{g:Gh}{w:World}{h:AHeap}
theorem Vw{cm cm':bD}{r:Option (di×AHeap)}{out:di}{h2:AHeap}(hr:mj h cm r=some (out,cm',h2))(hf:eI h g):
 cm'=cm/\∃h',r=some (out,h')/\∀(g':Gh)(w':World),Step h.inner g w h' g' w'->W h' g' w'->∃g2,Step h g w h2 g2 w'/\W h2 g2 w'/\g2=g':=by
 unfold mj at hr
 split at hr
 .rename_i o h';simp only[ad,av]at hr;obtain⟨rfl,rfl,rfl⟩:=hr;refine⟨rfl,h',rfl,λg' w' hs hw=>?_⟩;obtain⟨q1,q2⟩:=yT hf hs hw;grind
 .cases hr
theorem Mi{kind:CallKind}{f:FuncId}{fn:Func}{code:Code}{args:List AV}{cm:bD}{out:di}{cm':bD}{h2:AHeap}(hP:ProgOK P)(T:dX P R)(U:mC P R)
 (hfn:P.funcs[f]?=some fn)(o:fn.body=some code)(hr:jm P R kind f args cm h=some (out,cm',h2)){vs:List Value}(hw:W h g w)(hf:eI h g)(hv:aG g args vs){cs:List Frame}(hm:gn g cm cs):
 ∃g2 w' fr aS,Step h g w h2 g2 w'/\W h2 g2 w'/\jG cm cs aS/\(cm=.none->cm'=.none)/\(kind≠.normal->gn g2 cm' aS)/\Steps P (lone (Frame.enter P f vs.toArray kind) cs w) (lone fr aS w')/\fr.fn=f/\fr.kind=kind/\Left P fn g2 w' fr out:=by
 have D:Frame.enter P f vs.toArray kind=ax {(default:Frame)with fn:=f,kind:=kind} {tmps:=vs.toArray++Array.replicate (fn.ntmps-vs.toArray.size) undef,defers:=[]} [.code code]:=by simp[Frame.enter,ax,hfn,o];rfl
 unfold jm at hr
 simp only[hfn,o]at hr
 have hlen:vs.length=args.length:=hv.length.symm
 have J:gp g (max fn.ntmps args.length) {tm:=gN args 0 .leaf,df:=[],cm,h:=h.inner} {tmps:=vs.toArray++Array.replicate (fn.ntmps-vs.toArray.size) undef,defers:=[]}:=⟨MI hv,by simp;omega,trivial⟩
 cases he:evalCode P R {fn:=f,tn:=max fn.ntmps args.length,kind,round:=none} code {tm:=gN args 0 .leaf,df:=[],cm,h:=h.inner}with
 |none=>grind
 |some p=>
  obtain⟨ex,st⟩:=p
  rw[he]at hr
  obtain⟨M,w1,N,F,q1,q2,q3,q4,q5,q6,q7⟩:=U _ _ _ _ _ he g w {(default:Frame)with fn:=f,kind:=kind} _ [] cs hw.inner hf.inner ⟨rfl,rfl,rfl⟩ J hm
  rw[<-D]at q7
  have fin:∀(m:bD)(c:Frame),mj h st.cm (cH P R fn st.tm st.df m st.h)=some (out,cm',h2)->Steps P (lone (Frame.enter P f vs.toArray kind) cs w) (lone c F w1)->ix M m c.mode->c.fn=f->c.kind=kind->c.defers=N.defers->c.tmps=N.tmps->∃g2 w' fr aS,Step h g w h2 g2 w'/\W h2 g2 w'/\jG cm cs aS/\(cm=.none->cm'=.none)/\(kind≠.normal->gn g2 cm' aS)/\Steps P (lone (Frame.enter P f vs.toArray kind) cs w) (lone fr aS w')/\fr.fn=f/\fr.kind=kind/\Left P fn g2 w' fr out:=by intro m c I z E e1 e2 e3 X;obtain⟨rfl,h3,hl,hk⟩:=Vw (w:=w) I hf;obtain⟨g2,L,K,r1,r2,r3,r4,_,r5,r6⟩:=Kd hP T _ _ _ _ _ hl M w1 c F q2 (hf.inner.step q1) (by grind) E (by rw[e3];exact q3.df) (by rw[X];exact q3.tm);obtain⟨V,S,Q,O⟩:=hk g2 L (q1.trans hf.inner r1) r2;subst O;refine⟨V,L,K,F,S,Q,q4,q6,λhn=>q5.mono r1.le,Steps.trans z r5,by rw[r4,e1],by rw[r3,e2],?_⟩;cases out with|ret v=>grind|aN v=>grind
  cases ex with|normal=>exact fin .ret _ hr (Steps.trans q7 (.one (Ke rfl))) rfl rfl rfl rfl rfl|ret=>obtain⟨Y,q7⟩:=q7;exact fin .ret _ hr (Steps.trans q7 (.one (Kf rfl))) rfl rfl rfl rfl rfl|panic v=>obtain⟨todo,x,hx,q7⟩:=q7;exact fin (.aN v false) _ hr q7 ⟨x,rfl,hx⟩ rfl rfl rfl rfl|exit id=>cases hr
theorem CN{kind:CallKind}{f:FuncId}{args:List AV}{cm:bD}{r:di×bD×AHeap}(hr:jm P R kind f args cm h=some r):∃fn code,P.funcs[f]?=some fn/\fn.body=some code:=by unfold jm at hr;grind
theorem X4{f:FuncId}{args:List AV}{out:di}{cm':bD}{h2:AHeap}(hP:ProgOK P)(E:dX P R)(F:mC P R)(hr:jm P R .normal f args .none h=some (out,cm',h2)):fc P f args h out h2:=by intro g w vs hw hf hv cs;obtain⟨fn,code,hfn,hb⟩:=CN hr;obtain⟨g2,w',fr,aS,q1,q2,q3,q4,q5,q6,q7,q8,q9⟩:=Mi hP E F hfn hb hr hw hf hv (cs:=cs) trivial;obtain rfl:aS=cs:=q3.1 rfl;cases out with|ret v=>obtain⟨z,o,x,c,D⟩:=q9;exact⟨.returned x,w',fr,⟨g2,q1,q2,D⟩,q6,q7,z,o,q8,fn,by grind,c⟩|aN v=>obtain⟨z,x,o,c⟩:=q9;exact⟨.panicked _,w',fr,⟨g2,q1,q2,x,rfl,c⟩,q6,q7,o,z,fn,by grind⟩
theorem W4{f:FuncId}{args:List AV}{cm:bD}{out:di}{cm':bD}{h2:AHeap}(hP:ProgOK P)(L:dX P R)(M:mC P R)(hn:cm≠.none)(hr:jm P R .deferred f args cm h=some (out,cm',h2)):
 DY P f args cm h out cm' h2:=by
 intro g w vs u hw hf hv hm c cs hu
 obtain⟨fn,code,hfn,hb⟩:=CN hr
 have I:gn g cm (c::cs):=by cases cm with|none=>grind|ret=>exact⟨c,cs,rfl,by grind⟩|aN v b=>exact⟨c,cs,rfl,by grind⟩
 obtain⟨g2,w',fr,aS,q1,q2,q3,q4,q5,q6,q7,q8,q9⟩:=Mi hP L M hfn hb hr hw hf hv (cs:=c::cs) I
 have o:=q5 (by simp)
 have fk:∃m,aS={c with mode:=m}::cs:=by
  rcases q3.2 with e|⟨c',r,m,e1,e2⟩
  .exact⟨c.mode,by rw[e]⟩
  .grind
 obtain⟨m,rfl⟩:=fk
 have z:cm'≠.none->ix g2 cm' m:=by intro K;cases cm' with|none=>grind|ret=>obtain⟨c',r,e,hh⟩:=o;grind|aN v b=>obtain⟨c',r,e,hh⟩:=o;grind
 cases out with|ret v=>obtain⟨F,E,x,D,J⟩:=q9;exact⟨.returned x,m,w',fr,⟨g2,q1,q2,z,J⟩,q6,q8,F,E,fn,by grind,D⟩|aN v=>obtain⟨F,x,E,D⟩:=q9;exact⟨.panicked _,m,w',fr,⟨g2,q1,q2,z,x,rfl,D⟩,q6,q8,E,F,fn,by grind⟩
end
structure Um where K:FuncId->List AV->AHeap->Option AV
abbrev Kn:=Inhabited Um
def Kn.K[Kn]:FuncId->List AV->AHeap->Option AV:=(default:Um).K
def jP[Kn](P:Program)(R:Rec)(kind:CallKind)(f:FuncId)(args:List AV)(cm:bD)(h:AHeap):Option (di×bD×AHeap):=match kind,cm,Kn.K f args h with|.normal,.none,some v=>some (.ret v,.none,h)|_,_,_=>jm P R kind f args cm h
def sk(P:Program)[Kn]:Prop:=∀f args h v,Kn.K f args h=some v->fc P f args h (.ret v) h
variable [Kn]
def Rec.qA(P:Program)(R:Rec):Rec:={call:=jP P R,loop:=mg P R,round:=pO P R}
def bE(P:Program):Nat->Rec|0=>Rec.zero|n+1=>Rec.qA P (bE P n)
theorem W5{P:Program}{R:Rec}(hP:ProgOK P)(o:sk P)(c:dX P R):dX P (Rec.qA P R)where
 call:=λf args h out cm' h' e=>by have e:jP P R .normal f args .none h=some (out,cm',h'):=e;unfold jP at e;cases hk:Kn.K f args h with|none=>rw[hk]at e;exact X4 hP c (nS hP c) e|some v=>rw[hk]at e;cases e;exact o f args h v hk
 vf:=λf args cm h out cm' h' hn e=>by have e:jP P R .deferred f args cm h=some (out,cm',h'):=e;exact W4 hP c (nS hP c) hn e
 loop:=λ_ _ _ _ _ h=>MK c (nS hP c) h
 round:=λ_ _ _ _ _ h=>LA (nS hP c) h
theorem Ea{P:Program}(hP:ProgOK P)(c:sk P):∀n,dX P (bE P n)|0=>LC|n+1=>W5 hP c (Ea hP c n)
structure Rec.Le(R R':Rec):Prop where
 call:∀k f a m h r,R.call k f a m h=some r->R'.call k f a m h=some r
 loop:∀c cx st r,R.loop c cx st=some r->R'.loop c cx st=some r
 round:∀l a h r,R.round l a h=some r->R'.round l a h=some r
section
variable {P:Program}{R R':Rec}(hl:R.Le R')
include hl
theorem rI{cx:Ctx}{ρ:Operand->AV}{o:Oper}{cm:bD}{h:AHeap}{r:vw}(e:cV P R cx ρ o cm h=some r):cV P R' cx ρ o cm h=some r:=by
 unfold cV at e⊢
 split at e
 .exact e
 .exact e
 .exact e
 .rename_i f args h1 _;cases hc:R.call .normal f args .none h1 with|none=>grind|some q=>rw[hc]at e;rw[hl.call _ _ _ _ _ _ hc];exact e
 .rename_i l args h1 _;cases hc:R.round l args h1 with|none=>grind|some q=>rw[hc]at e;rw[hl.round _ _ _ _ hc];exact e
 .exact e
 .exact e
 .exact e
theorem La{cx:Ctx}{ops:Array Oper}{o:Oper}{st:aD}{r:b7×aD}(e:eu P R cx ops o st=some r):eu P R' cx ops o st=some r:=by
 unfold eu at e⊢
 split at e
 .cases hc:cV P R cx (ev st.tm) o st.cm st.h with|none=>grind|some q=>rw[hc]at e;rw[rI hl hc];exact e
 .exact e
 .exact e
theorem yM{cx:Ctx}{ops:Array Oper}:∀{l:List Oper}{st:aD}{r:b7×aD},fL P R cx ops l st=some r->fL P R' cx ops l st=some r|[],_,_,e=>e|o::rest,st,r,e=>by rw[fL]at e⊢;cases hc:eu P R cx ops o st with|none=>grind|some q=>rw[hc]at e;rw[La hl hc];obtain⟨ex,c⟩:=q;cases ex with|normal=>exact yM e|_=>exact e
theorem pL{cx:Ctx}{ops:Array Oper}:∀{l:List Oper}{i ao:Nat}{k:cz}{st:aD}{r:cz×aD},e9 P R cx ops l i ao k st=some r->e9 P R' cx ops l i ao k st=some r
 |[],_,_,_,_,_,e=>e
 |o::rest,i,ao,k,st,r,e=>by
  rw[e9]at e⊢
  split at e
  .rename_i hw
   try rw[hw]
   split at e
   .rename_i c hp
    try rw[hp]
    exact pL e
   .cases e
  .rename_i hw
   try rw[hw]
   split at e
   .rename_i hA
    simp only[hA,if_true]
    split at e
    .rename_i v h1 ha
     try rw[ha]
     split at e
     .rename_i x hx
      try rw[hx]
      split at e
      .rename_i hn
       rw[if_pos hn]
       split at e
       .rename_i c hp
        try rw[hp]
        exact pL e
       .cases e
      .cases e
     .cases e
    .cases e
   .rename_i hA
    split at e
    .rename_i hF
     rw[if_neg hA,if_pos hF]
     split at e
     .rename_i v h1 ha
      try rw[ha]
      split at e
      .rename_i hn
       rw[if_pos hn]
       split at e
       .rename_i c hp
        try rw[hp]
        exact pL e
       .cases e
      .cases e
     .cases e
    .rename_i hF
     rw[if_neg hA,if_neg hF]
     cases hc:cV P R cx (dy (tmpsOf o) st.tm) o .none st.h.inner with
     |none=>grind
     |some q=>
      rw[hc]at e;rw[rI hl hc]
      cases q with
      |val v cm h1=>
       simp only at e⊢
       split at e
       .rename_i c hp
        try rw[hp]
        exact pL e
       .cases e|cE _ _=>cases e|aN _ _=>cases e
  .cases e
theorem C1{cx:Ctx}{ops:Array Oper}{b:List Nat}{m:Nat}:∀{l:List Oper}{i ao:Nat}{k:cz}{st:aD}{r:cz},ir P R cx ops b m l i ao k st=some r->ir P R' cx ops b m l i ao k st=some r
 |[],_,_,_,_,_,e=>e
 |o::rest,i,ao,k,st,r,e=>by
  unfold ir at e⊢
  split at e
  .split at e
   .exact C1 e
   .cases e
  .split at e
   .rename_i c
    simp only[c,if_true]
    split at e
    .rename_i D z hr;rw[pL hl hr];exact C1 e
    .cases e
   .cases e
theorem pM{cx:Ctx}{ops:Array Oper}{b:List Nat}:∀{l:List Oper}{i ao:Nat}{k:cz}{st:aD}{r:b7×aD},fa P R cx ops b l i ao k st=some r->fa P R' cx ops b l i ao k st=some r/\e9 P R' cx ops l i ao k st=none
 |[],_,_,_,_,_,e=>by simp[fa]at e
 |o::rest,i,ao,k,st,r,e=>by
  rw[fa]at e⊢
  rw[e9]
  split at e
  .rename_i hw
   try rw[hw]
   split at e
   .rename_i c hp
    try simp only[hp]
    exact pM e
   .cases e
  .rename_i hw
   try rw[hw]
   split at e
   .rename_i hA
    simp only[if_pos hA]
    split at e
    .rename_i v h1 ha
     try simp only[ha]
     split at e
     .rename_i x hx
      try simp only[hx]
      split at e
      .rename_i hn
       try simp only[if_pos hn]
       split at e
       .rename_i c hp
        try simp only[hp]
        exact pM e
       .cases e
      .cases e
     .cases e
    .cases e
   .rename_i hA
    simp only[if_neg hA]
    split at e
    .rename_i hF
     simp only[if_pos hF]
     split at e
     .rename_i v h1 ha
      simp only[ha]
      split at e
      .rename_i hn
       simp only[if_pos hn]
       split at e
       .rename_i c hp
        try simp only[hp]
        exact pM e
       .cases e
      .cases e
     .cases e
    .rename_i hF
     simp only[if_neg hF]
     split at e
     .rename_i v cm h1 hc
      rw[rI hl hc]
      simp only
      split at e
      .rename_i c hp
       try simp only[hp]
       exact pM e
      .cases e
     .rename_i v h1 hc
      rw[rI hl hc]
      split at e
      .rename_i c hp
       simp only[hp]
       split at e
       .rename_i kf hk;rw[C1 hl hk];grind
       .cases e
      .cases e
     .cases e
  .cases e
theorem Vx{cx:Ctx}{ops:Array Oper}{st:aD}{r:b7×aD}(e:nG P R cx ops st=some r):nG P R' cx ops st=some r:=by
 unfold nG at e⊢
 split at e
 .rename_i hc
  rw[if_pos hc]
  split at e
  .rename_i k c hr;rw[pL hl hr];exact e
  .have:=pM hl e;grind
 .cases e
theorem iL{cx:Ctx}:∀{c:Code}{st:aD}{r:b7×aD},evalCode P R cx c st=some r->evalCode P R' cx c st=some r
 |.skip,_,_,e=>e
 |.label _,_,_,e=>e
 |.region _ ops draw,st,r,e=>by
  rw[evalCode]at e⊢
  split at e
  .rename_i hd;rw[if_pos hd];exact Vx hl e
  .rename_i hd;rw[if_neg hd];exact yM hl e
 |.seq a b,st,r,e=>by rw[evalCode]at e⊢;cases hc:evalCode P R cx a st with|none=>grind|some q=>rw[hc]at e;rw[iL hc];obtain⟨ex,z⟩:=q;cases ex with|normal=>exact iL e|_=>exact e
 |.cond c a b,st,r,e=>by
  rw[evalCode]at e⊢
  split at e
  .exact iL e
  .exact iL e
  .cases e
 |.block id body,st,r,e=>by rw[evalCode]at e⊢;cases hc:evalCode P R cx body st with|none=>grind|some q=>rw[hc]at e;rw[iL hc];exact e
 |.loop body,st,r,e=>by rw[evalCode]at e⊢;exact hl.loop _ _ _ _ e
 |.exit _,_,_,e=>e
 |.scope body,st,r,e=>by rw[evalCode]at e⊢;exact iL e
 |.goto _,_,_,e=>e
 |.ret,_,_,e=>e
 |.refuse _,_,_,e=>e
 |.rangeFunc f params assign body,st,r,e=>by
  rw[evalCode]at e⊢
  split at e
  .cases e
  .rename_i o
   try rw[o]
   split at e
   .rename_i g first captured hf
    try rw[hf]
    dsimp only at e⊢
    split at e
    .rename_i g' args h1 ha
     try rw[ha]
     cases hc:R.call .normal g' args .none h1 with
     |none=>grind
     |some q=>
      rw[hc]at e
      try dsimp only
      rw[hl.call _ _ _ _ _ _ hc];exact e
    .cases e
   .cases e
theorem Dk{fn:Func}{tm:Tr AV}:∀{ds:List ey}{m:bD}{h:AHeap}{r:di×AHeap},cH P R fn tm ds m h=some r->cH P R' fn tm ds m h=some r:=by
 intro ds
 induction ds with
 |nil=>intro m h r e;cases m with|none=>exact e|ret=>exact e|aN v b=>cases b<;>exact e
 |cons d ds z=>
  intro m h r e
  cases d with
  |dD d=>rw[cH]at e⊢;grind
  |fn f captured args=>
   cases f with
   |func f=>
    rw[cH]at e⊢
    split at e
    .rename_i o c h1 ha;cases hc:R.call .deferred o c m h1 with|none=>grind|some q=>rw[hc]at e;rw[hl.call _ _ _ _ _ _ hc];grind
    .cases e|_=>exact e
theorem Vl{k:CallKind}{f:FuncId}{a:List AV}{m:bD}{h:AHeap}{r:di×bD×AHeap}(e:jm P R k f a m h=some r):jm P R' k f a m h=some r:=by
 unfold jm at e⊢
 split at e
 .rename_i fn hf
  try rw[hf]
  split at e
  .rename_i code hb
   try rw[hb]
   cases hc:evalCode P R {fn:=f,tn:=max fn.ntmps a.length,kind:=k,round:=none} code {tm:=gN a 0 .leaf,df:=[],cm:=m,h:=h.inner}with
   |none=>grind
   |some q=>
    rw[hc]at e
    try dsimp only
    rw[iL hl hc]
    obtain⟨ex,st⟩:=q
    have key:∀md r',mj h st.cm (cH P R fn st.tm st.df md st.h)=some r'->mj h st.cm (cH P R' fn st.tm st.df md st.h)=some r':=by intro md r' e;cases hv:cH P R fn st.tm st.df md st.h with|none=>rw[hv]at e;cases e|some q=>rw[hv]at e;rw[Dk hl hv];exact e
    grind
  .cases e
 .cases e
theorem X5:(Rec.qA P R).Le (Rec.qA P R')where
 call:=λk f a m h r e=>by
  simp only[Rec.qA]at e⊢
  unfold jP at e⊢
  split
  .grind
  .rename_i hn
   split at e
   .grind
   .exact Vl hl e
 loop:=λc cx st r e=>by simp only[Rec.qA,mg]at e⊢;cases hc:evalCode P R cx c st with|none=>grind|some q=>rw[hc]at e;rw[iL hl hc];obtain⟨ex,z⟩:=q;cases ex with|normal=>exact hl.loop _ _ _ _ e|_=>exact e
 round:=λl a h r e=>by
  simp only[Rec.qA,pO]at e⊢
  split at e
  .rename_i N p0 fn tn tm ps assign body dd hg
   try rw[hg]
   try dsimp only
   cases hp:ly tn ps a tm with
   |none=>grind
   |some bY=>
    rw[hp]at e
    dsimp only at e⊢
    cases hc:evalCode P R {fn,tn,kind:=.normal,round:=some l} assign {tm:=bY,df:=[],cm:=.none,h}with
    |none=>grind
    |some q=>
     rw[hc]at e
     rw[iL hl hc]
     obtain⟨ex,z⟩:=q
     cases ex with
     |normal=>
      dsimp only at e⊢
      split at e
      .rename_i p L F I J o D M K
       try rw[K]
       try dsimp only
       cases E:evalCode P R {fn,tn,kind:=.normal,round:=some l} body {z with h:=z.h.aU l (.loop .busy p L F I J o D M)}with|none=>grind|some q2=>rw[E]at e;rw[iL hl E];exact e
      .cases e|_=>cases e
  .cases e
end
theorem Lb(P:Program):∀n,(bE P n).Le (bE P (n+1))|0=>⟨λ_ _ _ _ _ _ e=>(by cases e),λ_ _ _ _ e=>(by cases e),λ_ _ _ _ e=>(by cases e)⟩|n+1=>X5 (Lb P n)
theorem Rec.Le.refl(R:Rec):R.Le R:=⟨λ_ _ _ _ _ _ e=>e,λ_ _ _ _ e=>e,λ_ _ _ _ e=>e⟩
theorem Rec.Le.trans{a b c:Rec}(h:a.Le b)(h':b.Le c):a.Le c:=⟨λ_ _ _ _ _ _ e=>h'.call _ _ _ _ _ _ (h.call _ _ _ _ _ _ e),λ_ _ _ _ e=>h'.loop _ _ _ _ (h.loop _ _ _ _ e),λ_ _ _ _ e=>h'.round _ _ _ _ (h.round _ _ _ _ e)⟩
theorem iu(P:Program){n m:Nat}(h:n<=m):(bE P n).Le (bE P m):=by induction h with|refl=>exact .refl _|step _ c=>exact c.trans (Lb P _)
end Go.AI
end
