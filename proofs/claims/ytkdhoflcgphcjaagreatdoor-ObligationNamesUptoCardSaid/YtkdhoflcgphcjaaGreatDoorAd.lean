/- A part of the proof. -/
import Derived.Test.YtkdhoflcgphcjaaGreatDoorAc
set_option linter.all false

section
namespace Go.AI
def aq(b:Frame)(a:Act)(todo:List Item):Frame:={b with tmps:=a.tmps,todo:=todo,defers:=a.defers,mode:=.run}
theorem C8(b:Frame)(a:Act)(todo:List Item):(aq b a todo).eval=a.eval:=by funext x;cases x<;>rfl
section moves
variable {P:Program}{b:Frame}{a:Act}{k:List Item}{cs:List Frame}{w:World}
theorem RM:step P (lone (aq b a (.code .skip::k)) cs w)=.next (lone (aq b a k) cs w):=step_lone_go (by simp[stepG,stepG.exec,aq])
theorem Rq{l:Nat}:step P (lone (aq b a (.code (.label l)::k)) cs w)=.next (lone (aq b a k) cs w):=step_lone_go (by simp[stepG,stepG.exec,aq])
theorem Q3{id:Nat}:step P (lone (aq b a (.inBlock id::k)) cs w)=.next (lone (aq b a k) cs w):=step_lone_go (by simp[stepG,stepG.exec,aq])
theorem Q4{c:Code}:step P (lone (aq b a (.inScope c::k)) cs w)=.next (lone (aq b a k) cs w):=step_lone_go (by simp[stepG,stepG.exec,aq])
theorem xD{x y:Code}:step P (lone (aq b a (.code (.seq x y)::k)) cs w)=.next (lone (aq b a (.code x::.code y::k)) cs w):=step_lone_go (by simp[stepG,stepG.exec,aq])
theorem Ic{c:Operand}{x y:Code}{t:Bool}(h:a.eval c=.bool t):
 step P (lone (aq b a (.code (.cond c x y)::k)) cs w)=.next (lone (aq b a (.code (if t then x else y)::k)) cs w):=by
 have he:(aq b a (.code (.cond c x y)::k)).eval c=.bool t:=by rw[C8];exact h
 refine step_lone_go ?_;simp_all[aq,stepG,stepG.exec]
theorem uz{id:Nat}{c:Code}:step P (lone (aq b a (.code (.block id c)::k)) cs w)=.next (lone (aq b a (.code c::.inBlock id::k)) cs w):=step_lone_go (by simp[stepG,stepG.exec,aq])
theorem xr{c:Code}:step P (lone (aq b a (.code (.scope c)::k)) cs w)=.next (lone (aq b a (.code c::.inScope c::k)) cs w):=step_lone_go (by simp[stepG,stepG.exec,aq])
theorem RN{c:Code}:step P (lone (aq b a (.code (.loop c)::k)) cs w)=.next (lone (aq b a (.code c::.inLoop c::k)) cs w):=step_lone_go (by simp[stepG,stepG.exec,aq])
theorem Ra{c:Code}:step P (lone (aq b a (.inLoop c::k)) cs w)=.next (lone (aq b a (.code c::.inLoop c::k)) cs w):=step_lone_go (by simp[stepG,stepG.exec,aq])
theorem Ie{id:Nat}{k':List Item}(h:exitTo id k=some k'):step P (lone (aq b a (.code (.exit id)::k)) cs w)=.next (lone (aq b a k') cs w):=step_lone_go (by simp[stepG,stepG.exec,aq,h])
theorem Rb{id:Nat}{ops:Array Oper}:step P (lone (aq b a (.code (.region id ops false)::k)) cs w)=.next (lone (aq b a (.inRegion ops (List.range ops.size)::k)) cs w):=step_lone_go (by simp[stepG,stepG.exec,aq])
theorem Hk{id:Nat}{ops:Array Oper}:step P (lone (aq b a (.code (.region id ops true)::k)) cs w)=.next (lone (aq b a (.inRegion ops (Region.schedule (P.follows .mixedOrders) ops (w.tape w.drawn (.order b.fn id)))::k)) cs {w with drawn:=w.drawn+1}):=step_lone_go (by simp[stepG,stepG.exec,aq,choose,Sem.run,Question.forced,Question.cut])
theorem Hm{ops:Array Oper}:step P (lone (aq b a (.inRegion ops []::k)) cs w)=.next (lone (aq b a k) cs w):=step_lone_go (by simp[stepG,stepG.exec,aq])
theorem qp(ops:Array Oper)(i:Nat)(rest:List Nat)(v:Value):(aq b a (.inRegion ops (i::rest)::k)).finish v=aq b (a.put ((ops[i]?).bind (·.dst)) v) (.inRegion ops rest::k):=by grind[Frame.finish,aq,Act.put]
theorem Hy{ops:Array Oper}{i:Nat}{rest:List Nat}(h:((ops[i]?).map (Region.wanted . (yielded ops a.tmps))).getD false=false):step P (lone (aq b a (.inRegion ops (i::rest)::k)) cs w)=.next (lone (aq b (a.put ((ops[i]?).bind (·.dst)) undef) (.inRegion ops rest::k)) cs w):=by rw[<-qp];exact step_lone_go (by simp_all[aq,stepG,stepG.exec])
def kB(b:Frame)(o:Oper):Prop:=b.roundOf=none\/∀c,o.op≠.defer c
theorem oa{ops:Array Oper}{i:Nat}{rest:List Nat}{o:Oper}(ho:ops[i]?=some o)(hw:Region.wanted o (yielded ops a.tmps)=true)(hd:kB b o):
 stepG P true {frame:=aq b a (.inRegion ops (i::rest)::k),callers:=cs,status:=.running,dying:=none} w=stepG.apply P true (aq b a (.inRegion ops (i::rest)::k)) cs none (execOp a.eval o) w:=by
 have he:=C8 b a (.inRegion ops (i::rest)::k)
 simp only[aq]at he
 have:stepG.oper P true (aq b a (.inRegion ops (i::rest)::k)) cs none w=stepG.apply P true (aq b a (.inRegion ops (i::rest)::k)) cs none (execOp a.eval o) w:=by
  unfold stepG.oper
  simp only[Frame.oper?,aq,ho,he]
  rcases hd with hr|hd
  .rw[hr]
  .grind
 simp_all[stepG,stepG.exec,aq]
theorem Cq{ops:Array Oper}{i:Nat}{rest:List Nat}{o:Oper}{x:Value}{w':World}(ho:ops[i]?=some o)(hw:Region.wanted o (yielded ops a.tmps)=true)(hd:kB b o)(hr:(execOp a.eval o).run P w=.ok (.value x) w'):step P (lone (aq b a (.inRegion ops (i::rest)::k)) cs w)=.next (lone (aq b (a.put o.dst x) (.inRegion ops rest::k)) cs w'):=by have c:=qp (b:=b) (a:=a) (k:=k) ops i rest x;rw[ho]at c;refine step_lone_go ?_;rw[oa ho hw hd,<-show(aq b a (.inRegion ops (i::rest)::k)).finish x=aq b (a.put o.dst x) (.inRegion ops rest::k)from c];simp[stepG.apply,hr]
theorem Rr{ops:Array Oper}{i:Nat}{rest:List Nat}{o:Oper}{w':World}(ho:ops[i]?=some o)(hw:Region.wanted o (yielded ops a.tmps)=true)(hd:kB b o)(hr:(execOp a.eval o).run P w=.ok .skip w'):step P (lone (aq b a (.inRegion ops (i::rest)::k)) cs w)=.next (lone (aq b (a.put o.dst undef) (.inRegion ops rest::k)) cs w'):=by have c:=qp (b:=b) (a:=a) (k:=k) ops i rest undef;rw[ho]at c;refine step_lone_go ?_;rw[oa ho hw hd,<-show(aq b a (.inRegion ops (i::rest)::k)).finish undef=aq b (a.put o.dst undef) (.inRegion ops rest::k)from c];simp[stepG.apply,hr]
theorem Rt{ops:Array Oper}{i:Nat}{rest:List Nat}{o:Oper}{d:Deferred}{w':World}(ho:ops[i]?=some o)(hw:Region.wanted o (yielded ops a.tmps)=true)(hd:kB b o)(hr:(execOp a.eval o).run P w=.ok (.defer d) w'):step P (lone (aq b a (.inRegion ops (i::rest)::k)) cs w)=.next (lone (aq b ({a with defers:=d::a.defers}.put o.dst undef) (.inRegion ops rest::k)) cs w'):=by have c:=qp (b:=b) (a:={a with defers:=d::a.defers}) (k:=k) ops i rest undef;rw[ho]at c;refine step_lone_go ?_;rw[oa ho hw hd];have e:({aq b a (.inRegion ops (i::rest)::k)with defers:=d::a.defers}:Frame).finish undef=aq b ({a with defers:=d::a.defers}.put o.dst undef) (.inRegion ops rest::k):=c;simp only[stepG.apply,Sem.runT_eq,hr,GStep.bare_after];exact congrArg (λfr=>GStep.go {frame:=fr,callers:=cs,status:=.running,dying:=none} w') e
theorem HR{ops:Array Oper}{i:Nat}{rest:List Nat}{o:Oper}{f:FuncId}{args:Array Value}{w':World}(ho:ops[i]?=some o)(hw:Region.wanted o (yielded ops a.tmps)=true)(hd:kB b o)(hr:(execOp a.eval o).run P w=.ok (.enter f args) w'):step P (lone (aq b a (.inRegion ops (i::rest)::k)) cs w)=.next (lone (Frame.enter P f args .normal) (aq b a (.inRegion ops (i::rest)::k)::cs) w'):=by refine step_lone_go ?_;rw[oa ho hw hd];simp[stepG.apply,hr,aq]
theorem HS{ops:Array Oper}{i:Nat}{rest:List Nat}{o:Oper}{l:Nat}{f:FuncId}{tmps:Array Value}{assign body:Code}{w':World}(ho:ops[i]?=some o)(hw:Region.wanted o (yielded ops a.tmps)=true)(hd:kB b o)(hr:(execOp a.eval o).run P w=.ok (.round l f tmps assign body) w'):step P (lone (aq b a (.inRegion ops (i::rest)::k)) cs w)=.next (lone (Frame.round l f tmps assign body .normal) (aq b a (.inRegion ops (i::rest)::k)::cs) w'):=by refine step_lone_go ?_;rw[oa ho hw hd];simp[stepG.apply,hr]
theorem Ru{ops:Array Oper}{i:Nat}{rest:List Nat}{o:Oper}{x:Value}{w':World}(ho:ops[i]?=some o)(hw:Region.wanted o (yielded ops a.tmps)=true)(hd:kB b o)(hr:(execOp a.eval o).run P w=.halt (.panic x) w'):step P (lone (aq b a (.inRegion ops (i::rest)::k)) cs w)=.next (lone {aq b a (.inRegion ops (i::rest)::k)with mode:=.panicking [{v:=x,recovered:=false}]} cs w'):=by refine step_lone_go ?_;rw[oa ho hw hd];simp[stepG.apply,hr,aq,Frame.raise]
theorem Hz{ops:Array Oper}{i:Nat}{rest:List Nat}{o:Oper}{w':World}(ho:ops[i]?=some o)(hw:Region.wanted o (yielded ops a.tmps)=true)(hd:kB b o)(hn:b.roundOf=none)(hr:(execOp a.eval o).run P w=.ok .recover w'):step P (lone (aq b a (.inRegion ops (i::rest)::k)) cs w)=.next (match tryRecover (aq b a (.inRegion ops (i::rest)::k)) cs with|some (v,aH)=>lone (aq b (a.put o.dst v) (.inRegion ops rest::k)) aH w'|none=>lone (aq b (a.put o.dst .nilIface) (.inRegion ops rest::k)) cs w'):=by have c:=λx=>qp (b:=b) (a:=a) (k:=k) ops i rest x;rw[ho]at c;cases ht:tryRecover (aq b a (.inRegion ops (i::rest)::k)) cs with|none=>simp only;refine step_lone_go ?_;rw[oa ho hw hd,<-show(aq b a (.inRegion ops (i::rest)::k)).finish .nilIface=aq b (a.put o.dst .nilIface) (.inRegion ops rest::k)from c _];simp_all[aq,stepG.apply]|some p=>obtain⟨v,aH⟩:=p;simp only;refine step_lone_go ?_;rw[oa ho hw hd,<-show(aq b a (.inRegion ops (i::rest)::k)).finish v=aq b (a.put o.dst v) (.inRegion ops rest::k)from c _];simp_all[aq,stepG.apply]
end moves
end Go.AI
end

section
namespace Go.AI
def iN(g:Gh):List dK->List Deferred->Prop|[],[]=>True|d::ds,e::es=>tL g d e/\iN g ds es|_,_=>False
theorem iN.mono{g g':Gh}(hl:g.Le g'):∀{ds:List dK}{es:List Deferred},iN g ds es->iN g' ds es|[],[],_=>trivial|_::_,_::_,h=>⟨h.1.mono hl,iN.mono hl h.2⟩|[],_::_,h=>h.elim|_::_,[],h=>h.elim
structure gg(g:Gh)(tn:Nat)(st:av)(a:Act):Prop where
 tm:TR g st.tm a.tmps
 size:a.tmps.size=tn
 df:iN g st.df a.defers
theorem gg.mono{g g':Gh}{tn:Nat}{st:av}{a:Act}(hl:g.Le g')(h:gg g tn st a):gg g' tn st a:=⟨h.tm.mono hl,h.size,h.df.mono hl⟩
def WY(g:Gh):Option Nat->Option Nat->Prop|none,r=>r=none|some l,r=>∃b s n,g.B l 0=some (b,s,n)/\r=some b
structure ll(g:Gh)(cx:Ctx)(b:Frame):Prop where
 fn:b.fn=cx.fn
 kind:b.kind=cx.kind
 round:WY g cx.round b.roundOf
theorem ll.mono{g g':Gh}{cx:Ctx}{b:Frame}(hl:g.Le g')(h:ll g cx b):ll g' cx b:=by refine⟨h.fn,h.kind,?_⟩;have hr:=h.round;cases hc:cx.round with|none=>rw[hc]at hr;exact hr|some l=>rw[hc]at hr;obtain⟨b',s,n,h1,h2⟩:=hr;exact⟨b',s,n,hl.b _ _ _ h1,h2⟩
def h9(g:Gh):bu->FrameMode->Prop|.none,_=>False|.ret,m=>m=.returning|.aE v r,m=>∃x,m=.panicking [{v:=x,recovered:=r}]/\VR g v x
theorem h9.mono{g g':Gh}(hl:g.Le g'){cm:bu}{m:FrameMode}(h:h9 g cm m):h9 g' cm m:=by cases cm with|none=>exact h|ret=>exact h|aE v r=>obtain⟨x,h1,h2⟩:=h;exact⟨x,h1,h2.mono hl⟩
def fZ(g:Gh)(cm:bu)(cs:List Frame):Prop:=match cm with|.none=>True|cm=>∃c r,cs=c::r/\h9 g cm c.mode
theorem fZ.mono{g g':Gh}(hl:g.Le g'){cm:bu}{cs:List Frame}(h:fZ g cm cs):fZ g' cm cs:=by cases cm with|none=>trivial|ret=>obtain⟨c,r,e,h1⟩:=h;exact⟨c,r,e,h1.mono hl⟩|aE v b=>obtain⟨c,r,e,h1⟩:=h;exact⟨c,r,e,h1.mono hl⟩
def jo(cm:bu)(cs aH:List Frame):Prop:=(cm=.none->aH=cs)/\(aH=cs\/∃c r m,cs=c::r/\aH={c with mode:=m}::r)
theorem jo.refl(cm:bu)(cs:List Frame):jo cm cs cs:=⟨λ_=>rfl,.inl rfl⟩
theorem jo.trans{cm cm':bu}{a b c:List Frame}(hn:cm=.none->cm'=.none)(h:jo cm a b)(h':jo cm' b c):jo cm a c:=by
 refine⟨λe=>(h'.1 (hn e)).trans (h.1 e),?_⟩
 rcases h'.2 with e|⟨x,r,m,e1,e2⟩
 .rw[e];exact h.2
 .rcases h.2 with e3|⟨y,r',i,e3,e4⟩
  .grind
  grind
def NY(g:Gh):cH->Ending->Prop|.ret v,.returned x=>VR g v x|.aE v,.panicked c=>∃x,c=[{v:=x,recovered:=false}]/\VR g v x|_,_=>False
def dI(P:Program)(f:FuncId)(args:List AV)(h:AHeap)(out:cH)(h':AHeap):Prop:=∀(g:Gh)(w:World)(vs:List Value),W h g w->dP h g->ay g args vs->Calls P f vs.toArray w λe w'=>∃g',Step h g w h' g' w'/\W h' g' w'/\NY g' out e
def DF(P:Program)(f:FuncId)(args:List AV)(cm:bu)(h:AHeap)(out:cH)(cm':bu)(h':AHeap):Prop:=∀(g:Gh)(w:World)(vs:List Value)(u:FrameMode),W h g w->dP h g->ay g args vs->h9 g cm u->CallsD P f vs.toArray u w λe c w'=>∃g',Step h g w h' g' w'/\W h' g' w'/\(cm'≠.none->h9 g' cm' c)/\NY g' out e
def KF(P:Program)(l:Nat)(args:List AV)(h:AHeap)(out:cH)(h':AHeap):Prop:=∀(g:Gh)(w:World)(vs:List Value)(i s n:Nat),W h g w->dP h g->ay g args vs->g.B l 0=some (i,s,n)->∃f tmps assign body,(Instr.yield i vs.toArray).run P w=.ok (.round i f tmps assign body) w/\∀(c:Frame)(cs:List Frame),∃g' w',Step h g w h' g' w'/\W h' g' w'/\(match out with|.ret v=>∃x,VR g' v x/\Steps P (lone (Frame.round i f tmps assign body .normal) (c::cs) w) (lone (c.finish x) cs w')|.aE v=>∃x,VR g' v x/\Steps P (lone (Frame.round i f tmps assign body .normal) (c::cs) w) (lone (c.raise [{v:=x,recovered:=false}]) cs w'))
def di(P:Program)(m:Machine)(b:Frame)(k:List Item)(cs:List Frame)(g:Gh):bP->Act->World->Prop|.normal,a,w=>Steps P m (lone (aq b a k) cs w)|.exit id,a,w=>(∀k',exitTo id k=some k'->Steps P m (lone (aq b a k') cs w))/\(exitTo id k=none->∃c,exitTo id c=none/\Steps P m (lone (aq b a (.code (.exit id)::c)) cs w))|.ret,a,w=>∃c,Steps P m (lone (aq b a (.code .ret::c)) cs w)|.panic v,a,w=>∃todo x,VR g v x/\Steps P m (lone {aq b a todo with mode:=.panicking [{v:=x,recovered:=false}]} cs w)
theorem di.of_steps{P:Program}{m i:Machine}{b:Frame}{k:List Item}{cs:List Frame}{g:Gh}{ex:bP}{a:Act}{w:World}(h:Steps P m i)(h':di P i b k cs g ex a w):di P m b k cs g ex a w:=by cases ex with|normal=>exact h.trans h'|exit id=>exact⟨λk' e=>h.trans (h'.1 k' e),λe=>let⟨c,e2,s⟩:=h'.2 e;⟨c,e2,h.trans s⟩⟩|ret=>obtain⟨c,s⟩:=h';exact⟨c,h.trans s⟩|panic v=>obtain⟨t,x,hx,s⟩:=h';exact⟨t,x,hx,h.trans s⟩
def rL(P:Program)(cx:Ctx)(st:av)(ex:bP)(st':av)(todo:List Item->List Item):Prop:=∀(g:Gh)(w:World)(b:Frame)(a:Act)(k:List Item)(cs:List Frame),W st.h g w->dP st.h g->ll g cx b->gg g cx.tn st a->fZ g st.cm cs->∃g' w' a' aH,Step st.h g w st'.h g' w'/\W st'.h g' w'/\gg g' cx.tn st' a'/\jo st.cm cs aH/\fZ g' st'.cm aH/\(st.cm=.none->st'.cm=.none)/\di P (lone (aq b a (todo k)) cs w) b k aH g' ex a' w'
structure cv(P:Program)(R:Rec):Prop where
 call:∀f args h out cm' h',R.call .normal f args .none h=some (out,cm',h')->dI P f args h out h'
 nu:∀f args cm h out cm' h',cm≠.none->R.call .deferred f args cm h=some (out,cm',h')->DF P f args cm h out cm' h'
 loop:∀body cx st ex st',R.loop body cx st=some (ex,st')->rL P cx st ex st' (λk=>.code body::.inLoop body::k)round:∀l args h out h',R.round l args h=some (out,h')->KF P l args h out h'
section
variable {P:Program}{R:Rec}{g:Gh}{w:World}{cx:Ctx}{st st':av}{a:Act}
theorem gg.ev{tn:Nat}(h:gg g tn st a)(x:Operand):VR g (ev st.tm x) (a.eval x):=by
 cases x with
 |tmp t=>show VR g (match st.tm.get t with|some v=>v|none=>.aA) (a.tmps.getD t undef);cases ht:st.tm.get t with|none=>exact .aA _|some v=>obtain⟨u,h1,h2⟩:=h.tm t v ht;simp_all
 |const v=>exact VR.bh v|global n=>exact .sc _|func f=>exact .sc _
theorem gg.put{tn:Nat}{dst:Option Tmp}{v:AV}{x:Value}(h:gg g tn st a)(hp:st.put tn dst v=some st')(hv:VR g v x):gg g tn st' (a.put dst x):=by
 unfold av.put at hp
 cases dst with
 |none=>cases hp;exact h
 |some d=>
  simp only at hp
  split at hp
  .rename_i hd
   cases hp
   refine⟨?_,by simp[Act.put,h.size],h.df⟩
   intro t y hy
   simp only at hy
   rw[Tr.qH]at hy
   simp only[Act.put]
   by_cases e:t=d
   .subst e;rw[if_pos rfl]at hy;cases hy;exact⟨x,by simp[h.size,hd],hv⟩
   .rw[if_neg e]at hy;obtain⟨u,h1,h2⟩:=h.tm t y hy;grind
  .cases hp
theorem cU{tn:Nat}{dst:Option Tmp}{v:AV}(hp:st.put tn dst v=some st'):st'.h=st.h/\st'.cm=st.cm/\st'.df=st.df:=by unfold av.put at hp;grind
theorem IL{tn:Nat}{ops:Array Oper}{o:Oper}{b:Bool}(h:gg g tn st a)(hr:cf ops o st.tm=some b):Region.wanted o (yielded ops a.tmps)=b:=by
 unfold cf at hr
 unfold Region.wanted
 cases hg:o.guard with
 |none=>grind
 |some p=>
  obtain⟨j,want⟩:=p
  rw[hg]at hr
  simp only at hr⊢
  unfold yielded
  cases hd:(ops[j]?).bind (·.dst)with
  |none=>grind
  |some d=>
   rw[hd]at hr
   simp only at hr
   cases ht:st.tm.get d with
   |none=>grind
   |some v=>
    rw[ht]at hr
    obtain⟨u,h1,h2⟩:=h.tm d v ht
    simp only[Option.bind_some,h1]
    split at hr
    .rename_i q hq;cases hq;cases h2;simp_all
    .rename_i q hq;cases hq;obtain⟨cs,rfl,_⟩:=VR.eo.1 h2;grind
    .cases hr
theorem RO{o:Oper}{b:Frame}{ρ:Operand->AV}{cm:bu}{h:AHeap}{r:wo}(hc:ll g cx b)(hr:cu P R cx ρ o cm h=some r):kB b o:=by cases i:cx.round with|none=>exact .inl (by have:=hc.round;rw[i]at this;exact this)|some l=>right;intro c e;unfold cu at hr;cases j:aJ P ρ o h with|none=>grind|some p=>obtain⟨r',h2⟩:=p;rw[j]at hr;unfold aJ at j;rw[e]at j;grind[an,aV,vd]
def WZ(P:Program)(g:Gh)(w:World)(h:AHeap)(cm:bu)(b:Frame)(a:Act)(cs:List Frame)(ops:Array Oper)(i:Nat)(rest:List Nat)(k:List Item)(dst:Option Tmp):wo->Prop|.val v cm' h'=>∃g' w' x aH,Step h g w h' g' w'/\W h' g' w'/\VR g' v x/\jo cm cs aH/\fZ g' cm' aH/\(cm=.none->cm'=.none)/\Steps P (lone (aq b a (.inRegion ops (i::rest)::k)) cs w) (lone (aq b (a.put dst x) (.inRegion ops rest::k)) aH w')|.b8 d h'=>h'=h/\∃c,tL g d c/\Steps P (lone (aq b a (.inRegion ops (i::rest)::k)) cs w) (lone (aq b ({a with defers:=c::a.defers}.put dst undef) (.inRegion ops rest::k)) cs w)|.aE v h'=>∃g' w' x todo,Step h g w h' g' w'/\W h' g' w'/\VR g' v x/\Steps P (lone (aq b a (.inRegion ops (i::rest)::k)) cs w) (lone {aq b a todo with mode:=.panicking [{v:=x,recovered:=false}]} cs w')
theorem VR.undef:VR g dm undef:=VR.eo.2 ⟨#[],rfl,trivial⟩
theorem C9{ops:Array Oper}{o:Oper}{i:Nat}{rest:List Nat}{k:List Item}{b:Frame}{cs:List Frame}{ρ:Operand->AV}{cm:bu}{h:AHeap}{r:wo}
 (hP:ProgOK P)(L:cv P R)(hr:cu P R cx ρ o cm h=some r)(hw:W h g w)(hf:dP h g)(hc:ll g cx b)(C:∀x,VR g (ρ x) (a.eval x))(hm:fZ g cm cs)
 (ho:ops[i]?=some o)(j:Region.wanted o (yielded ops a.tmps)=true):WZ P g w h cm b a cs ops i rest k o.dst r:=by
 have p:=RO hc hr
 unfold cu at hr
 split at hr
 .rename_i v h2 m;cases hr;obtain⟨g',w',x,h1,h3,h4,h5⟩:=oJ hP hw (hf h.next (ao _)) C m;exact⟨g',w',x,cs,h5,h4,h3,.refl _ _,hm.mono h5.le,id,.one (Cq ho j p h1)⟩
 .rename_i h2 m;cases hr;obtain⟨g',w',h1,h4,h5⟩:=oJ hP hw (hf h.next (ao _)) C m;exact⟨g',w',undef,cs,h5,h4,VR.undef,.refl _ _,hm.mono h5.le,id,.one (Rr ho j p h1)⟩
 .rename_i d h2 m
  split at hr
  .cases hr
  .cases hr;obtain⟨rfl,O,h1,h3⟩:=oJ hP hw (hf h.next (ao _)) C m;exact⟨rfl,O,h3,.one (Rt ho j p h1)⟩
 .rename_i f args h2 m
  obtain⟨rfl,vs,h1,h3⟩:=oJ hP hw (hf h.next (ao _)) C m
  split at hr
  .rename_i v cm' h4 D;cases hr;obtain⟨e,w',fr,⟨g',q1,q2,q3⟩,z,M,u⟩:=L.call _ _ _ _ _ _ D g w vs hw hf h3 (aq b a (.inRegion ops (i::rest)::k)::cs);cases e with|returned x=>refine⟨g',w',x,cs,q1,q2,q3,.refl _ _,hm.mono q1.le,id,?_⟩;have E:=qp (b:=b) (a:=a) (k:=k) ops i rest x;rw[ho]at E;refine Steps.head (HR ho j p h1) (Steps.trans z ?_);rw[<-show(aq b a (.inRegion ops (i::rest)::k)).finish x=aq b (a.put o.dst x) (.inRegion ops rest::k)from E];exact .one (step_leave_returned u)|panicked _=>exact q3.elim|outgrown=>exact q3.elim
  .rename_i v cm' h4 D;cases hr;obtain⟨e,w',fr,⟨g',q1,q2,q3⟩,z,M,u⟩:=L.call _ _ _ _ _ _ D g w vs hw hf h3 (aq b a (.inRegion ops (i::rest)::k)::cs);cases e with|returned _=>exact q3.elim|panicked Q=>obtain⟨x,rfl,K⟩:=q3;refine⟨g',w',x,.inRegion ops (i::rest)::k,q1,q2,K,?_⟩;refine Steps.head (HR ho j p h1) (Steps.trans z ?_);exact .one (step_leave_panicked u)|outgrown=>exact q3.elim
  .cases hr
 .rename_i l args h2 m
  obtain⟨rfl,N,s,n,vs,hB,h3,h1⟩:=oJ hP hw (hf h.next (ao _)) C m
  split at hr
  .rename_i v h4 q;cases hr;obtain⟨f,tmps,assign,body,hy,F⟩:=L.round _ _ _ _ _ q g w vs N s n hw hf h3 hB;obtain⟨g',w',q1,q2,x,q3,K⟩:=F (aq b a (.inRegion ops (i::rest)::k)) cs;refine⟨g',w',x,cs,q1,q2,q3,.refl _ _,hm.mono q1.le,id,?_⟩;have E:=qp (b:=b) (a:=a) (k:=k) ops i rest x;rw[ho]at E;refine Steps.head (HS ho j p (h1.trans hy)) ?_;grind
  .rename_i v h4 q;cases hr;obtain⟨f,tmps,assign,body,hy,F⟩:=L.round _ _ _ _ _ q g w vs N s n hw hf h3 hB;obtain⟨g',w',q1,q2,x,q3,K⟩:=F (aq b a (.inRegion ops (i::rest)::k)) cs;exact⟨g',w',x,.inRegion ops (i::rest)::k,q1,q2,q3,Steps.head (HS ho j p (h1.trans hy)) K⟩
  .cases hr
 .rename_i v h2 m;cases hr;obtain⟨rfl,x,h1,h3⟩:=oJ hP hw (hf h.next (ao _)) C m;exact⟨g,w,x,.inRegion ops (i::rest)::k,.refl _ _ _,hw,h3,.one (Ru ho j p h1)⟩
 .rename_i h2 m
  obtain⟨rfl,h1⟩:=oJ hP hw (hf h.next (ao _)) C m
  split at hr
  .rename_i v hk I
   cases hr
   have G:b.roundOf=none:=by have:=hc.round;rw[I]at this;exact this
   have J:b.kind=.deferred:=hc.kind.trans hk
   obtain⟨c,r',rfl,x,hx,hv⟩:=hm
   have dY:=Hz (k:=k) (cs:=c::r') (rest:=rest) ho j p G h1
   have ht:tryRecover (aq b a (.inRegion ops (i::rest)::k)) (c::r')=some (x,{c with mode:=.panicking [{v:=x,recovered:=true}]}::r'):=by simp_all[tryRecover,aq]
   rw[ht]at dY;refine⟨g,w,x,{c with mode:=.panicking [{v:=x,recovered:=true}]}::r',.refl _ _ _,hw,hv,⟨(λe=>by cases e),.inr ⟨c,r',_,rfl,rfl⟩⟩,⟨_,r',rfl,x,rfl,hv⟩,(λe=>by cases e),.one dY⟩
  .rename_i hk I
   cases hr
   have G:b.roundOf=none:=by have:=hc.round;rw[I]at this;exact this
   have J:b.kind=.deferred:=hc.kind.trans hk
   obtain⟨c,r',rfl,hx⟩:=hm
   have dY:=Hz (k:=k) (cs:=c::r') (rest:=rest) ho j p G h1
   have ht:tryRecover (aq b a (.inRegion ops (i::rest)::k)) (c::r')=none:=by unfold tryRecover;have e1:(aq b a (.inRegion ops (i::rest)::k)).kind=.deferred:=J;have e2:c.mode=.returning:=hx;rw[e1];simp only[e2]
   rw[ht]at dY;exact⟨g,w,.nilIface,c::r',.refl _ _ _,hw,.sc _,.refl _ _,⟨c,r',rfl,hx⟩,(λe=>by cases e),.one dY⟩
  .cases hr
 .cases hr
end
end Go.AI
end

section
namespace Go.AI
section
variable {P:Program}{R:Rec}{cx:Ctx}
theorem Sg{ops:Array Oper}{o:Oper}{i:Nat}{rest:List Nat}{st st':av}{ex:bP}(hP:ProgOK P)(D:cv P R)(ho:ops[i]?=some o)(hs:dH P R cx ops o st=some (ex,st'))
 {g:Gh}{w:World}{b:Frame}{a:Act}{k:List Item}{cs:List Frame}(hw:W st.h g w)(hf:dP st.h g)(hc:ll g cx b)(ha:gg g cx.tn st a)(hm:fZ g st.cm cs):
 ∃g' w' a' aH,Step st.h g w st'.h g' w'/\W st'.h g' w'/\gg g' cx.tn st' a'/\jo st.cm cs aH/\fZ g' st'.cm aH/\(st.cm=.none->st'.cm=.none)/\(match ex with|.normal=>Steps P (lone (aq b a (.inRegion ops (i::rest)::k)) cs w) (lone (aq b a' (.inRegion ops rest::k)) aH w')|.panic v=>∃todo x,VR g' v x/\Steps P (lone (aq b a (.inRegion ops (i::rest)::k)) cs w) (lone {aq b a' todo with mode:=.panicking [{v:=x,recovered:=false}]} aH w')|_=>False):=by
 unfold dH at hs
 split at hs
 .rename_i j
  have c:=IL ha j
  cases p:cu P R cx (ev st.tm) o st.cm st.h with
  |none=>grind
  |some r=>
   rw[p]at hs
   have hk:=C9 (rest:=rest) (k:=k) hP D p hw hf hc ha.ev hm ho c
   cases r with
   |val v cm' h'=>simp only at hs;cases hp:av.put {st with cm:=cm',h:=h'} cx.tn o.dst v with|none=>grind|some u=>rw[hp]at hs;simp only[Option.map_some,an,aV]at hs;obtain⟨rfl,rfl⟩:=hs;obtain⟨g',w',x,aH,q1,q2,q3,q,F,E,C⟩:=hk;obtain⟨e1,e2,e3⟩:=cU hp;simp only at e1 e2 e3;refine⟨g',w',a.put o.dst x,aH,by grind,by grind,?_,q,by grind,by grind,C⟩;have m:gg g' cx.tn {st with cm:=cm',h:=h'} a:=⟨(ha.mono q1.le).tm,ha.size,(ha.mono q1.le).df⟩;exact m.put hp q3
   |b8 d h'=>simp only at hs;cases hp:av.put {st with h:=h',df:=d::st.df} cx.tn o.dst dm with|none=>grind|some u=>rw[hp]at hs;simp only[Option.map_some,an,aV]at hs;obtain⟨rfl,rfl⟩:=hs;obtain⟨rfl,z,q1,q2⟩:=hk;obtain⟨e1,e2,e3⟩:=cU hp;simp only at e1 e2 e3;refine⟨g,w,Act.put {a with defers:=z::a.defers} o.dst undef,cs,by rw[e1];exact .refl _ _ _,by grind,?_,.refl _ _,by grind,by grind,q2⟩;have m:gg g cx.tn {st with h:=st.h,df:=d::st.df} {a with defers:=z::a.defers}:=⟨ha.tm,ha.size,q1,ha.df⟩;exact m.put hp VR.undef
   |aE v h'=>cases hs;obtain⟨g',w',x,todo,q1,q2,q3,q⟩:=hk;exact⟨g',w',a,cs,q1,q2,⟨(ha.mono q1.le).tm,ha.size,(ha.mono q1.le).df⟩,.refl _ _,hm.mono q1.le,id,todo,x,q3,q⟩
 .rename_i j;have c:=IL ha j;cases hp:st.put cx.tn o.dst dm with|none=>grind|some u=>rw[hp]at hs;simp only[Option.map_some,an,aV]at hs;obtain⟨rfl,rfl⟩:=hs;obtain⟨e1,e2,e3⟩:=cU hp;refine⟨g,w,a.put o.dst undef,cs,by rw[e1];exact .refl _ _ _,by grind,ha.put hp VR.undef,.refl _ _,by grind,by grind,?_⟩;have:=Hy (P:=P) (b:=b) (a:=a) (k:=k) (cs:=cs) (w:=w) (ops:=ops) (i:=i) (rest:=rest) (by grind);rw[ho]at this;exact .one this
 .cases hs
theorem Si{ops:Array Oper}(hP:ProgOK P)(M:cv P R):∀(n i:Nat)(st:av)(ex:bP)(st':av),i+n=ops.size->fA P R cx ops (ops.toList.drop i) st=some (ex,st')->
 rL P cx st ex st' (λk=>.inRegion ops (List.range' i n)::k):=by
 intro n
 induction n with
 |zero=>intro i st ex st' hn hr g w b a k cs hw hf hc ha hm;have:ops.toList.drop i=[]:=List.drop_eq_nil_of_le (by simp;omega);rw[this]at hr;simp only[fA,an,aV]at hr;obtain⟨rfl,rfl⟩:=hr;exact⟨g,w,a,cs,.refl _ _ _,hw,ha,.refl _ _,hm,id,.one Hm⟩
 |succ n ih=>
  intro i st ex st' hn hr g w b a k cs hw hf hc ha hm
  have hi:i<ops.size:=by omega
  have ho:ops[i]?=some ops[i]:=by simp[hi]
  have hd:ops.toList.drop i=ops[i]::ops.toList.drop (i+1):=by simp_all[List.drop_eq_getElem_cons]
  rw[hd]at hr;simp only[fA]at hr;cases hs:dH P R cx ops ops[i] st with|none=>grind|some p=>obtain⟨q,j⟩:=p;rw[hs]at hr;obtain⟨g1,w1,D,c,q1,q2,q3,C,z,o,m⟩:=Sg (rest:=List.range' (i+1) n) (k:=k) hP M ho hs hw hf hc ha hm;cases q with|normal=>simp only at hr m;obtain⟨g2,w2,N,u,L,K,J,I,G,F,E⟩:=ih (i+1) j ex st' (by omega) hr g1 w1 b D k c q2 (hf.step q1) (hc.mono q1.le) q3 z;refine⟨g2,w2,N,u,q1.trans hf L,K,J,C.trans o I,G,λe=>F (o e),?_⟩;exact di.of_steps m E|panic v=>cases hr;obtain⟨todo,x,h1,h2⟩:=m;exact⟨g1,w1,D,c,q1,q2,q3,C,z,o,todo,x,h1,h2⟩|exit id=>grind|ret=>grind
theorem di.pass{m:Machine}{b:Frame}{k c:List Item}{cs:List Frame}{g:Gh}{ex:bP}{a:Act}{w:World}(he:ex≠.normal)(hx:∀id,exitTo id c=exitTo id k)(h:di P m b c cs g ex a w):di P m b k cs g ex a w:=by cases ex with|normal=>grind|exit id=>exact⟨λk' e=>h.1 k' (by grind),λe=>h.2 (by grind)⟩|ret=>exact h|panic v=>exact h
def LV(P:Program)(R:Rec):Prop:=∀(cx:Ctx)(id:Nat)(ops:Array Oper)(st:av)(ex:bP)(st':av),oh P R cx ops st=some (ex,st')->rL P cx st ex st' (λk=>.code (.region id ops true)::k)
def KG(P:Program)(R:Rec):Prop:=∀(cx:Ctx)(f:Operand)(params:Array Tmp)(assign body:Code)(st:av)(ex:bP)(st':av),evalCode P R cx (.rangeFunc f params assign body) st=some (ex,st')->rL P cx st ex st' (λk=>.code (.rangeFunc f params assign body)::k)
theorem Rv(hP:ProgOK P)(K:cv P R)(Y:LV P R)(hF:KG P R):∀(c:Code)(st:av)(ex:bP)(st':av),evalCode P R cx c st=some (ex,st')->rL P cx st ex st' (λk=>.code c::k):=by
 intro c
 induction c with
 |skip=>intro st ex st' hr g w b a k cs hw hf hc ha hm;simp only[evalCode,an,aV]at hr;obtain⟨rfl,rfl⟩:=hr;exact⟨g,w,a,cs,.refl _ _ _,hw,ha,.refl _ _,hm,id,.one RM⟩
 |label l=>intro st ex st' hr g w b a k cs hw hf hc ha hm;simp only[evalCode,an,aV]at hr;obtain⟨rfl,rfl⟩:=hr;exact⟨g,w,a,cs,.refl _ _ _,hw,ha,.refl _ _,hm,id,.one Rq⟩
 |region id ops draw=>intro st ex st' hr;cases draw with|true=>simp only[evalCode,if_true]at hr;exact Y cx id ops st ex st' hr|false=>simp only[evalCode,Bool.false_eq_true,if_false]at hr;intro g w b a k cs hw hf hc ha hm;obtain⟨g',w',a',aH,q1,q2,q3,q,o,m,j⟩:=Si (ops:=ops) hP K ops.size 0 st ex st' (by simp) (by grind) g w b a k cs hw hf hc ha hm;refine⟨g',w',a',aH,q1,q2,q3,q,o,m,di.of_steps (.one Rb) ?_⟩;rw[List.range_eq_range'];exact j
 |seq x y F E=>intro st ex st' hr g w b a k cs hw hf hc ha hm;simp only[evalCode]at hr;cases hx:evalCode P R cx x st with|none=>grind|some p=>obtain⟨z,C⟩:=p;rw[hx]at hr;obtain⟨g1,w1,u,i,q1,q2,q3,q,o,m,j⟩:=F st z C hx g w b a (.code y::k) cs hw hf hc ha hm;cases z with|normal=>simp only at hr;obtain⟨g2,w2,a2,J,U,T,S,Q,O,N,M⟩:=E C ex st' hr g1 w1 b u k i q2 (hf.step q1) (hc.mono q1.le) q3 o;exact⟨g2,w2,a2,J,q1.trans hf U,T,S,q.trans m Q,O,λe=>N (m e),di.of_steps (.head xD j) M⟩|exit id=>cases hr;exact⟨g1,w1,u,i,q1,q2,q3,q,o,m,di.of_steps (.one xD) (di.pass (by simp) (λ_=>rfl) j)⟩|ret=>cases hr;exact⟨g1,w1,u,i,q1,q2,q3,q,o,m,di.of_steps (.one xD) (di.pass (by simp) (λ_=>rfl) j)⟩|panic v=>cases hr;exact⟨g1,w1,u,i,q1,q2,q3,q,o,m,di.of_steps (.one xD) (di.pass (by simp) (λ_=>rfl) j)⟩
 |cond c x y F E=>
  intro st ex st' hr g w b a k cs hw hf hc ha hm
  simp only[evalCode]at hr
  have D:=ha.ev c
  split at hr
  .rename_i e;rw[e]at D;have hv:=VR.kD D;obtain⟨g',w',a',aH,q1,q2,q3,q,o,m,j⟩:=F st ex st' hr g w b a k cs hw hf hc ha hm;exact⟨g',w',a',aH,q1,q2,q3,q,o,m,di.of_steps (.one (Ic hv)) j⟩
  .rename_i e;rw[e]at D;have hv:=VR.kD D;obtain⟨g',w',a',aH,q1,q2,q3,q,o,m,j⟩:=E st ex st' hr g w b a k cs hw hf hc ha hm;exact⟨g',w',a',aH,q1,q2,q3,q,o,m,di.of_steps (.one (Ic hv)) j⟩
  .cases hr
 |block id body ih=>
  intro st ex st' hr g w b a k cs hw hf hc ha hm
  simp only[evalCode]at hr
  cases hx:evalCode P R cx body st with
  |none=>grind
  |some p=>
   obtain⟨z,C⟩:=p
   rw[hx]at hr
   obtain⟨g1,w1,u,i,q1,q2,q3,q,o,m,j⟩:=ih st z C hx g w b a (.inBlock id::k) cs hw hf hc ha hm
   cases z with
   |normal=>cases hr;exact⟨g1,w1,u,i,q1,q2,q3,q,o,m,.head uz (Steps.trans j (.one Q3))⟩
   |exit G=>
    simp only at hr
    split at hr
    .rename_i e;cases hr;exact⟨g1,w1,u,i,q1,q2,q3,q,o,m,.head uz (j.1 k (by simp[exitTo,e]))⟩
    .rename_i e
     cases hr
     have I:(id==G)=false:=by grind
     have hex:exitTo G (.inBlock id::k)=exitTo G k:=by simp[exitTo,I]
     refine⟨g1,w1,u,i,q1,q2,q3,q,o,m,di.of_steps (.one uz) ?_⟩;exact⟨λk' Z=>j.1 k' (by grind),λZ=>j.2 (by grind)⟩|ret=>cases hr;exact⟨g1,w1,u,i,q1,q2,q3,q,o,m,di.of_steps (k:=k) (.one uz) j⟩|panic v=>cases hr;exact⟨g1,w1,u,i,q1,q2,q3,q,o,m,di.of_steps (k:=k) (ex:=.panic v) (.one uz) j⟩
 |loop body ih=>intro st ex st' hr g w b a k cs hw hf hc ha hm;simp only[evalCode]at hr;obtain⟨g',w',a',aH,q1,q2,q3,q,o,m,j⟩:=K.loop body cx st ex st' hr g w b a k cs hw hf hc ha hm;exact⟨g',w',a',aH,q1,q2,q3,q,o,m,di.of_steps (.one RN) j⟩
 |exit id=>intro st ex st' hr g w b a k cs hw hf hc ha hm;simp only[evalCode,an,aV]at hr;obtain⟨rfl,rfl⟩:=hr;exact⟨g,w,a,cs,.refl _ _ _,hw,ha,.refl _ _,hm,λe=>e,λk' e=>.one (Ie e),λe=>⟨k,e,.refl _ _⟩⟩
 |scope body ih=>intro st ex st' hr g w b a k cs hw hf hc ha hm;simp only[evalCode]at hr;obtain⟨g1,w1,u,i,q1,q2,q3,q,o,m,j⟩:=ih st ex st' hr g w b a (.inScope body::k) cs hw hf hc ha hm;refine⟨g1,w1,u,i,q1,q2,q3,q,o,m,?_⟩;cases ex with|normal=>exact .head xr (Steps.trans j (.one Q4))|exit id=>exact di.of_steps (.one xr) (di.pass (by simp) (λ_=>rfl) j)|ret=>exact di.of_steps (k:=k) (.one xr) (di.pass (by simp) (λ_=>rfl) j)|panic v=>exact di.of_steps (k:=k) (.one xr) (di.pass (by simp) (λ_=>rfl) j)
 |goto l=>intro st ex st' hr;simp[evalCode]at hr|ret=>intro st ex st' hr g w b a k cs hw hf hc ha hm;simp only[evalCode,an,aV]at hr;obtain⟨rfl,rfl⟩:=hr;exact⟨g,w,a,cs,.refl _ _ _,hw,ha,.refl _ _,hm,id,k,.refl _ _⟩|refuse L=>intro st ex st' hr;simp[evalCode]at hr|rangeFunc f params assign body X V=>intro st ex st' hr;exact hF cx f params assign body st ex st' hr
end
end Go.AI
end

section
namespace Go.AI
section
variable {P:Program}{R:Rec}{g:Gh}{w:World}{h:AHeap}
theorem RP{t:TypeId}{x y:AV}{v:Value}(hw:W h g w)(hr:h8 P h t x=some y)(hx:VR g x v):
 ∃a u,v=.pointer (some a)/\(loadVar t a).run P w=.ok u w/\VR g y u:=by
 have hv:∃a,v=.pointer (some a):=by
  unfold h8 at hr
  split at hr
  .rename_i s _ _;cases c:gK h s x with|none=>grind|some cs=>grind[sQ]
  .grind[sQ]
  .cases hr
 grind[C5,Instr.loadAt,Instr.sureAddr]
theorem TR.ev{tm:Tr AV}{tmps:Array Value}(ht:TR g tm tmps)(t:Tmp):VR g (ev tm (.tmp t)) (tmps.getD t undef):=by show VR g (match tm.get t with|some v=>v|none=>.aA) (tmps.getD t undef);cases hg:tm.get t with|none=>exact .aA _|some v=>obtain⟨u,h1,h2⟩:=ht t v hg;simp_all
theorem Cr{fn:Func}{tm:Tr AV}{tmps:Array Value}{f:ResultVar->Sem Value}(i:∀t,f (.tmp t)=pure (tmps.getD t undef))(c:∀a t,f (.cell a t)=(do loadVar t (<-asAddr (tmps.getD a undef))))
 (hw:W h g w)(ht:TR g tm tmps):∀{rs:List ResultVar}{xs:List AV},ja P fn tm h rs=some xs->∃vs:List Value,(rs.mapM f).run P w=.ok vs w/\ay g xs vs
 |[],xs,hr=>by simp[ja]at hr;subst hr;exact⟨[],by simp,trivial⟩
 |.tmp t::rs,xs,hr=>by simp only[ja]at hr;cases hq:ja P fn tm h rs with|none=>grind|some ys=>rw[hq]at hr;cases hr;obtain⟨vs,h1,h2⟩:=Cr i c hw ht hq;exact⟨_::vs,by simp_all,ht.ev t,h2⟩
 |.cell a t::rs,xs,hr=>by
  simp only[ja]at hr
  split at hr
  .rename_i y ys hl hq;cases hr;obtain⟨vs,h1,h2⟩:=Cr i c hw ht hq;obtain⟨j,u,e,h3,h4⟩:=RP (P:=P) hw hl (ht.ev a);refine⟨u::vs,?_,h4,h2⟩;simp_all[List.mapM_cons,Sem.run_bind,Sem.run_pure,Result.andThen_ok,asAddr]
  .cases hr
theorem US{fn:Func}{tm:Tr AV}{tmps:Array Value}{v:AV}(hw:W h g w)(ht:TR g tm tmps)(hr:lh P fn tm h=some v):∃x,(results fn tmps).run P w=.ok x w/\VR g v x:=by
 unfold lh at hr
 have key:∀xs,ja P fn tm h fn.results.toList=some xs->∃vs:List Value,(results fn tmps).run P w=.ok (if h:vs.toArray.size=1 then vs.toArray[0]else .tuple vs.toArray) w/\ay g xs vs:=by
  intro xs hx
  have c:∀f:ResultVar->Sem Value,(∀t,f (.tmp t)=pure (tmps.getD t undef))->(∀a t,f (.cell a t)=(do loadVar t (<-asAddr (tmps.getD a undef))))->∃vs:List Value,(do let vs<-fn.results.mapM f;pure (if h:vs.size=1 then vs[0]else .tuple vs):Sem Value).run P w=.ok (if h:vs.toArray.size=1 then vs.toArray[0]else .tuple vs.toArray) w/\ay g xs vs:=by intro f m j;obtain⟨vs,h1,h2⟩:=Cr m j hw ht hx;refine⟨vs,?_,h2⟩;simp only[Array.mapM_eq_mapM_toList,bind_map_left,Sem.run_bind,h1,Result.andThen_ok,Sem.run_pure]
  exact c _ (λ_=>rfl) (λ_ _=>rfl)
 split at hr
 .rename_i x hx;cases hr;obtain⟨vs,h1,h2⟩:=key _ hx;match vs,h2 with|[u],h2=>exact⟨u,by grind,h2.1⟩
 .rename_i xs i hx;cases hr;obtain⟨vs,h1,h2⟩:=key _ hx;refine⟨.tuple vs.toArray,?_,VR.eo.2 ⟨_,rfl,by grind⟩⟩;rw[h1,dif_neg];intro e;have hl:=h2.length;match xs,hl with|[x],_=>grind|[],hl=>grind|_::_::_,hl=>grind
 .cases hr
def Left(P:Program)(fn:Func)(g:Gh)(w:World)(fr:Frame):cH->Prop|.ret v=>fr.mode=.returning/\fr.defers=[]/\∃x,(results fn fr.tmps).run P w=.ok x w/\VR g v x|.aE v=>fr.defers=[]/\∃x,fr.mode=.panicking [{v:=x,recovered:=false}]/\VR g v x
theorem Sj{fr:Frame}{cs:List Frame}{blk:Nat}{ds:List Deferred}(hm:fr.mode≠.run)(hd:fr.defers={target:=.collected blk,args:=#[]}::ds)(hb:w.heap[blk]?=some (.deferred (some []))):
 step P (lone fr cs w)=.next (lone {fr with defers:=ds} cs (cJ w blk (.deferred none))):=by
 have ht:(Instr.takeDeferred blk).run P w=.ok [] (cJ w blk (.deferred none)):=by unfold Instr.takeDeferred;simp only[Sem.run_bind,fc hb rfl,Result.andThen_ok,ko hb rfl,Sem.run_pure]
 refine step_lone_go ?_;simp_all[stepG,unwind]
theorem IM{fn:Func}{tm:Tr AV}(hP:ProgOK P)(hR:cv P R):∀(df:List dK)(m:bu)(h:AHeap)(out:cH)(h':AHeap),cj P R fn tm df m h=some (out,h')->
 ∀(g:Gh)(w:World)(fr:Frame)(cs:List Frame),W h g w->dP h g->P.funcs[fr.fn]?=some fn->h9 g m fr.mode->iN g df fr.defers->TR g tm fr.tmps->
 ∃g' w' i,Step h g w h' g' w'/\W h' g' w'/\i.kind=fr.kind/\i.fn=fr.fn/\i.roundOf=fr.roundOf/\Steps P (lone fr cs w) (lone i cs w')/\Left P fn g' w' i out:=by
 intro df
 induction df with
 |nil=>
  intro m h out h' hr g w fr cs hw hf G hm hd ht
  have Q:fr.defers=[]:=by cases hx:fr.defers with|nil=>rfl|cons _ _=>rw[hx]at hd;exact hd.elim
  cases m with
  |none=>exact hm.elim
  |ret=>simp only[cj]at hr;cases hv:lh P fn tm h with|none=>grind|some v=>rw[hv]at hr;simp only[Option.map_some,an,aV]at hr;obtain⟨rfl,rfl⟩:=hr;exact⟨g,w,fr,.refl _ _ _,hw,rfl,rfl,rfl,.refl _ _,hm,Q,US hw ht hv⟩
  |aE v r=>cases r with|true=>simp[cj]at hr|false=>simp only[cj,an,aV]at hr;obtain⟨rfl,rfl⟩:=hr;obtain⟨x,h1,h2⟩:=hm;exact⟨g,w,fr,.refl _ _ _,hw,rfl,rfl,rfl,.refl _ _,Q,x,h1,h2⟩
 |cons d ds ih=>
  intro m h out h' hr g w fr cs hw hf G hm hd ht
  have L:fr.mode≠.run:=by cases m with|none=>exact hm.elim|ret=>have:fr.mode=.returning:=hm;grind|aE v r=>obtain⟨x,e,_⟩:=hm;rw[e];simp
  cases z:fr.defers with
  |nil=>rw[z]at hd;exact hd.elim
  |cons d' D=>
   rw[z]at hd
   obtain⟨O,N⟩:=hd
   cases d with
   |da o=>
    obtain⟨blk,s,n,hB,rfl⟩:=O
    simp only[cj]at hr
    split at hr
    .rename_i hg;have T:=hw.obj o _ hg blk s n hB;have p:=jJ (x':=.b8 none) hw hg hB (w':=cJ w blk (.deferred none)) rfl (by intro b' s' n' hb';simp_all[an,aV,hQ,hO]);obtain⟨g',w',i,q1,q2,q3,X,q5,q6,q7⟩:=ih m _ out h' hr g _ {fr with defers:=D} cs p.1 (hf.step p.2) G hm N ht;exact⟨g',w',i,p.2.trans hf q1,q2,q3,X,q5,.head (Sj L z T) q6,q7⟩
    .cases hr
   |fn f captured args=>
    obtain⟨E,q,rfl,h1,h2⟩:=O
    cases f with
    |func f=>
     simp only[cj]at hr
     split at hr
     .rename_i f' I U GW
      have S:=Cp (vs:=q++E) hP hw (hf h.next (ao _)) (h2.append h1) GW
      obtain⟨rfl,vs,AM,nT⟩:=S
      have M:(invoke (.fn (.func f) E.toArray) q.toArray).run P w=.ok (.enter f' vs.toArray) w:=by simp_all[invoke]
      have dY:=step_defer (P:=P) (cs:=cs) L z rfl M
      have hmn:m≠.none:=by rintro rfl;exact hm.elim
      have key:∀(v:AV)(cm' Y:bu)(h3:AHeap),R.call .deferred f' I m U=some (.ret v,cm',h3)->cj P R fn tm ds Y h3=some (out,h')->cm'≠.none->(∀g u,h9 g cm' u->h9 g Y (settle u))->∃g' w' i,Step U g w h' g' w'/\W h' g' w'/\i.kind=fr.kind/\i.fn=fr.fn/\i.roundOf=fr.roundOf/\Steps P (lone fr cs w) (lone i cs w')/\Left P fn g' w' i out:=by intro v cm' Y h3 j F GX J;obtain⟨e,Z,w1,frX,⟨g1,q1,q2,q3,X⟩,C,hkX,hgo⟩:=hR.nu _ _ _ _ _ _ _ hmn j g w vs fr.mode hw hf nT hm {fr with defers:=D} cs rfl;cases e with|returned x=>have K:=step_going_returned (P:=P) (c:={{fr with defers:=D}with mode:=Z}) (cs:=cs) hkX hgo;obtain⟨g2,w2,fr2,r1,r2,r3,r4,r5,r6,r7⟩:=ih Y h3 out h' F g1 w1 {{{fr with defers:=D}with mode:=Z}with mode:=settle Z} cs q2 (hf.step q1) G (J _ _ (q3 GX)) (N.mono q1.le) (ht.mono q1.le);exact⟨g2,w2,fr2,q1.trans hf r1,r2,r3,r4,r5,.head dY (Steps.trans C (.head K r6)),r7⟩|panicked _=>exact X.elim|outgrown=>exact X.elim
      split at hr
      .rename_i v V h3 j;refine key v (.aE V true) .ret h3 j hr (by simp) λg u hu=>?_;obtain⟨x,rfl,_⟩:=hu;simp[settle,h9]
      .rename_i v V h3 j;refine key v (.aE V false) (.aE V false) h3 j hr (by simp) λg u hu=>?_;obtain⟨x,rfl,hx⟩:=hu;exact⟨x,by simp[settle],hx⟩
      .grind[settle,h9]
      .cases hr
     .cases hr|_=>simp[cj]at hr
end
end Go.AI
end

section
namespace Go.AI
section
variable {P:Program}{R:Rec}{g:Gh}{w:World}{h:AHeap}
theorem qn:∀{xs:List AV},dF xs=true->∀(i:Nat)(x:AV),xs[i]?=some x->fw x=true|[],_,i,x,hx=>by simp at hx|y::ys,c,0,x,hx=>by simp[dF]at c hx;grind|y::ys,c,i+1,x,hx=>by simp[dF]at c hx;exact qn c.2 i x hx
theorem VR.free{g g':Gh}(hm:∀b i v,g.M b i=some v->g'.M b i=some v){x:AV}{v:Value}(hr:VR g x v):fw x=true->VR g' x v:=by induction hr with|aA v=>intro _;exact .aA v|sc v=>intro _;exact .sc v|ref _=>intro e;simp[fw]at e|sl _ _ _ _=>intro e;simp[fw]at e|bC a c=>intro _;exact .bC a c|cr f h1 _ ih=>intro e;simp[fw]at e;exact .cr f (λi x hx=>hm _ _ _ (h1 i x hx)) (λi x hx=>ih i x hx (qn e i x hx))|aN f h1 _ a b c ih=>intro e;simp[fw]at e;exact .aN f (λi x hx=>hm _ _ _ (h1 i x hx)) (λi x hx=>ih i x hx (qn e i x hx)) a b c|iQ a b c d e f=>intro _;exact .iQ a b c d e f|gG=>intro _;exact .gG|gL a=>intro _;exact .gL a|aI hl j _ ih=>intro _;exact .aI hl j (ih (by simp only[fw];exact j))|map _=>intro e;simp[fw]at e|func h1 _ h2 _ o m=>intro e;simp[fw]at e;exact .func h1 (λi x v a b=>o i x v a b (qn e.1 i x a)) h2 (λi x v a b=>m i x v a b (qn e.2 i x a))|ej _=>intro e;simp[fw]at e|iface _ ih=>intro e;simp[fw]at e;exact .iface (ih e)|agg h1 _ ih=>intro e;simp[fw]at e;exact .agg h1 (λi x v a b=>ih i x v a b (qn e i x a))|tuple h1 _ ih=>intro e;simp[fw]at e;exact .tuple h1 (λi x v a b=>ih i x v a b (qn e i x a))
theorem Hr{floor o:Nat}(os:List Nat):∀{l:List Nat},o∈l->o∈s5 l floor os:=by induction os with|nil=>intro l h;exact h|cons p os ih=>intro l h;exact ih (xB h)
theorem Hn{floor o:Nat}(os:List Nat):∀{l:List Nat},o∈os->o<floor->o∈s5 l floor os:=by
 induction os with
 |nil=>grind
 |cons p os ih=>
  intro l h hf
  rcases List.mem_cons.1 h with rfl|h
  .exact Hr os (sv hf)
  .exact ih h hf
theorem W.congr{h':AHeap}(hw:W h g w)(he:∀o,h'.get o=h.get o):W h' g w:=⟨λo x hx=>hw.obj o x (by grind),hw.cR,hw.inj,hw.ro,hw.eU,hw.gl⟩
theorem W.inner(hw:W h g w):W h.inner g w:=hw.congr λ_=>rfl
theorem dP.inner(hf:dP h g):dP h.inner g:=hf
theorem xV{h':AHeap}{g':Gh}{w':World}(hf:dP h g)(hs:Step h.inner g w h' g' w')(hw:W h' g' w'):Step h g w (h.outer h') g' w'/\W (h.outer h') g' w':=by
 refine⟨⟨hs.le,hs.gj,rfl,λo ho=>Hr _ ho,?_,hs.ph,hs.gone,hs.ij,hs.size,hs.old,?_,hs.tape,hs.os,hs.out,hs.fI⟩,hw.congr λ_=>rfl⟩
 .intro o h1 h2 h3;exact hs.b0 o h2 h2 λh4=>h3 (Hn _ h4 h1)
 .intro b hb h1
  refine hs.fr b hb λo v s n e=>?_
  rcases h1 o v s n e with⟨h2,h3⟩|h2
  .refine .inl ⟨?_,λh4=>h3 (Hn _ h4 h2)⟩
   rcases Nat.lt_or_ge o h.next with h4|h4
   .exact h4
   .rw[hf o h4 v]at e;cases e
  .exact .inr h2
theorem RQ{h':AHeap}{g':Gh}{w':World}(hf:dP h g)(q:W h g w)(hs:Step h.inner g w h' g' w')(hw:W h' g' w')(he:h'.wr=[]):
 Step h g w h ⟨g.B,g'.M⟩ w'/\W h ⟨g.B,g'.M⟩ w':=by
 have p:g.Le ⟨g.B,g'.M⟩:=⟨λ_ _ _ e=>e,hs.le.m⟩
 have c:∀b,b<w.heap.size->w'.heap[b]?=w.heap[b]?:=by
  intro b hb
  refine hs.fr b hb λo v s n e=>.inl ⟨?_,by simp[he]⟩
  rcases Nat.lt_or_ge o h.next with h4|h4
  .exact h4
  .rw[hf o h4 v]at e;cases e
 have j:=q.same hs.size c;refine⟨⟨p,ao _,rfl,λ_ h=>h,λ_ _ _ _=>rfl,λ_ _ _=>rfl,λ_ _ h=>h,λ_ _ _ h=>.inl h,hs.size,λo v b s n e _=>⟨v,s,n,e⟩,λb hb _=>c b hb,hs.tape,hs.os,hs.out,hs.fI⟩,?_⟩;refine⟨λo x hx=>(j.obj o x hx).move p (λ_ _ e=>e) (λ_ _ _ _ _=>rfl),j.cR,j.inj,hw.ro,?_,hw.gl⟩;intro b i u hm o v s n e;exact hw.eU b i u hm o v s n (hs.le.b _ _ _ e)
theorem RR{kind:CallKind}{cm cm':bu}{r:Option (cH×AHeap)}{out:cH}{h2:AHeap}(hr:sP kind h cm r=some (out,cm',h2))(i:W h g w)(hf:dP h g):
 cm'=cm/\∃h',r=some (out,h')/\∀(g':Gh)(w':World),Step h.inner g w h' g' w'->W h' g' w'->∃g2,Step h g w h2 g2 w'/\W h2 g2 w'/\(kind≠.normal->g2=g')/\(∀v x,(out=.ret v\/out=.aE v)->VR g' v x->VR g2 v x):=by
 unfold sP at hr
 split at hr
 .rename_i o h'
  split at hr
  .rename_i hc
   cases hr
   obtain⟨hk,j,c⟩:=hc
   refine⟨rfl,h',rfl,λg' w' hs hw=>?_⟩
   obtain⟨q1,q2⟩:=RQ hf i hs hw (by grind)
   refine⟨_,q1,q2,λhn=>absurd hk hn,?_⟩
   intro v x ho hx
   refine VR.free (g:=g') (g':=⟨g.B,g'.M⟩) (λ_ _ _ e=>e) hx ?_
   rcases ho with rfl|rfl
   .exact c
   .exact c
  .cases hr;refine⟨rfl,h',rfl,λg' w' hs hw=>?_⟩;obtain⟨q1,q2⟩:=xV hf hs hw;grind
 .cases hr
theorem Cs:∀(xs:List AV)(i:Nat)(t:Tr AV)(k:Nat),(gC xs i t).get k=if i<=k/\k<i+xs.length then xs[k-i]? else t.get k
 |[],i,t,k=>by simp[gC];grind
 |x::xs,i,t,k=>by
  simp only[gC]
  rw[Cs xs (i+1) (t.put i x) k]
  by_cases h1:k=i
  .subst h1;rw[if_neg (by omega),if_pos (by simp),Tr.aQ];simp
  .rw[Tr.aB _ _ h1];grind
theorem KH{args:List AV}{vs:List Value}{n:Nat}(hv:ay g args vs):TR g (gC args 0 .leaf) (vs.toArray++Array.replicate (n-vs.toArray.size) undef):=by
 intro t x hx
 rw[Cs]at hx
 split at hx
 .rename_i hc
  simp only[Nat.sub_zero]at hx
  have c:t<vs.length:=by rw[<-hv.length];omega
  refine⟨vs[t],?_,hv.get t x vs[t] hx (by simp[c])⟩;grind
 .simp[Tr.get]at hx
theorem IP{b:Frame}{a:Act}{cs:List Frame}(hn:b.roundOf=none):step P (lone (aq b a []) cs w)=.next (lone {aq b a []with mode:=.returning} cs w):=step_lone_go (by simp[stepG,stepG.exec,aq,hn])
theorem IQ{b:Frame}{a:Act}{k:List Item}{cs:List Frame}(hn:b.roundOf=none):step P (lone (aq b a (.code .ret::k)) cs w)=.next (lone {aq b a (.code .ret::k)with mode:=.returning} cs w):=step_lone_go (by simp[stepG,stepG.exec,aq,hn])
def mX(P:Program)(R:Rec):Prop:=∀(cx:Ctx)(c:Code)(st:av)(ex:bP)(st':av),evalCode P R cx c st=some (ex,st')->rL P cx st ex st' (λk=>.code c::k)
theorem KI{kind:CallKind}{f:FuncId}{fn:Func}{code:Code}{args:List AV}{cm:bu}{out:cH}{cm':bu}{h2:AHeap}(hP:ProgOK P)(hR:cv P R)(hE:mX P R)
 (C:P.funcs[f]?=some fn)(i:fn.body=some code)(hr:qz P R kind f args cm h=some (out,cm',h2)){vs:List Value}(hw:W h g w)(hf:dP h g)(hv:ay g args vs){cs:List Frame}(hm:fZ g cm cs):
 ∃g2 w' fr aH,Step h g w h2 g2 w'/\W h2 g2 w'/\jo cm cs aH/\(cm=.none->cm'=.none)/\(kind≠.normal->fZ g2 cm' aH)/\Steps P (lone (Frame.enter P f vs.toArray kind) cs w) (lone fr aH w')/\fr.fn=f/\fr.kind=kind/\Left P fn g2 w' fr out:=by
 have o:Frame.enter P f vs.toArray kind=aq {(default:Frame)with fn:=f,kind:=kind} {tmps:=vs.toArray++Array.replicate (fn.ntmps-vs.toArray.size) undef,defers:=[]} [.code code]:=by simp[Frame.enter,aq,C,i];rfl
 unfold qz at hr
 simp only[C,i]at hr
 have hlen:vs.length=args.length:=hv.length.symm
 have E:gg g (max fn.ntmps args.length) {tm:=gC args 0 .leaf,df:=[],cm,h:=h.inner} {tmps:=vs.toArray++Array.replicate (fn.ntmps-vs.toArray.size) undef,defers:=[]}:=⟨KH hv,by simp;omega,trivial⟩
 cases he:evalCode P R {fn:=f,tn:=max fn.ntmps args.length,kind,round:=none} code {tm:=gC args 0 .leaf,df:=[],cm,h:=h.inner}with
 |none=>grind
 |some p=>
  obtain⟨ex,st⟩:=p
  rw[he]at hr
  obtain⟨g1,w1,N,z,q1,q2,q3,q4,Z,Y,q⟩:=hE _ _ _ _ _ he g w {(default:Frame)with fn:=f,kind:=kind} _ [] cs hw.inner hf.inner ⟨rfl,rfl,rfl⟩ E hm
  rw[<-o]at q
  have fin:∀(m:bu)(c:Frame),sP kind h st.cm (cj P R fn st.tm st.df m st.h)=some (out,cm',h2)->Steps P (lone (Frame.enter P f vs.toArray kind) cs w) (lone c z w1)->h9 g1 m c.mode->c.fn=f->c.kind=kind->c.defers=N.defers->c.tmps=N.tmps->∃g2 w' fr aH,Step h g w h2 g2 w'/\W h2 g2 w'/\jo cm cs aH/\(cm=.none->cm'=.none)/\(kind≠.normal->fZ g2 cm' aH)/\Steps P (lone (Frame.enter P f vs.toArray kind) cs w) (lone fr aH w')/\fr.fn=f/\fr.kind=kind/\Left P fn g2 w' fr out:=by intro m c D j u e1 e2 e3 e4;obtain⟨rfl,h3,hl,hk⟩:=RR D hw hf;obtain⟨g2,w2,J,M,X,V,U,_,T,L⟩:=IM hP hR _ _ _ _ _ hl g1 w1 c z q2 (hf.inner.step q1) (by grind) u (by rw[e3];exact q3.df) (by rw[e4];exact q3.tm);obtain⟨g3,S,Q,O,K⟩:=hk g2 w2 (q1.trans hf.inner M) X;refine⟨g3,w2,J,z,S,Q,q4,Y,λhn=>by rw[O hn];exact Z.mono M.le,Steps.trans j T,by rw[U,e1],by rw[V,e2],?_⟩;cases out with|ret v=>obtain⟨I,G,x,F,x4⟩:=L;exact⟨I,G,x,F,K v x (.inl rfl) x4⟩|aE v=>obtain⟨I,x,G,F⟩:=L;exact⟨I,x,G,K v x (.inr rfl) F⟩
  cases ex with|normal=>exact fin .ret _ hr (Steps.trans q (.one (IP rfl))) rfl rfl rfl rfl rfl|ret=>obtain⟨k2,q⟩:=q;exact fin .ret _ hr (Steps.trans q (.one (IQ rfl))) rfl rfl rfl rfl rfl|panic v=>obtain⟨todo,x,hx,q⟩:=q;exact fin (.aE v false) _ hr q ⟨x,rfl,hx⟩ rfl rfl rfl rfl|exit id=>cases hr
theorem HT{kind:CallKind}{f:FuncId}{args:List AV}{cm:bu}{r:cH×bu×AHeap}(hr:qz P R kind f args cm h=some r):∃fn code,P.funcs[f]?=some fn/\fn.body=some code:=by grind[qz]
theorem UT{f:FuncId}{args:List AV}{out:cH}{cm':bu}{h2:AHeap}(hP:ProgOK P)(z:cv P R)(hE:mX P R)(hr:qz P R .normal f args .none h=some (out,cm',h2)):dI P f args h out h2:=by intro g w vs hw hf hv cs;obtain⟨fn,code,m,hb⟩:=HT hr;obtain⟨g2,w',fr,aH,q1,q2,q3,D,C,q,p,u,o⟩:=KI hP z hE m hb hr hw hf hv (cs:=cs) trivial;obtain rfl:aH=cs:=q3.1 rfl;cases out with|ret v=>obtain⟨j,i,x,c,x4⟩:=o;exact⟨.returned x,w',fr,⟨g2,q1,q2,x4⟩,q,p,j,i,u,fn,by grind,c⟩|aE v=>obtain⟨j,x,i,c⟩:=o;exact⟨.panicked _,w',fr,⟨g2,q1,q2,x,rfl,c⟩,q,p,i,j,fn,by grind⟩
theorem S7{f:FuncId}{args:List AV}{cm:bu}{out:cH}{cm':bu}{h2:AHeap}(hP:ProgOK P)(K:cv P R)(hE:mX P R)(hn:cm≠.none)(hr:qz P R .deferred f args cm h=some (out,cm',h2)):
 DF P f args cm h out cm' h2:=by
 intro g w vs u hw hf hv hm c cs hu
 obtain⟨fn,code,C,hb⟩:=HT hr
 have z:fZ g cm (c::cs):=by cases cm with|none=>grind|ret=>exact⟨c,cs,rfl,by grind⟩|aE v b=>exact⟨c,cs,rfl,by grind⟩
 obtain⟨g2,w',fr,aH,q1,q2,q3,M,G,F,L,E,D⟩:=KI hP K hE C hb hr hw hf hv (cs:=c::cs) z
 have i:=G (by simp)
 have dL:∃m,aH={c with mode:=m}::cs:=by
  rcases q3.2 with e|⟨c',r,m,e1,e2⟩
  .exact⟨c.mode,by rw[e]⟩
  .grind
 obtain⟨m,rfl⟩:=dL
 have j:cm'≠.none->h9 g2 cm' m:=by intro I;cases cm' with|none=>grind|ret=>obtain⟨c',r,e,J⟩:=i;grind|aE v b=>obtain⟨c',r,e,J⟩:=i;grind
 cases out with|ret v=>obtain⟨q,p,x,o,x4⟩:=D;exact⟨.returned x,m,w',fr,⟨g2,q1,q2,j,x4⟩,F,E,q,p,fn,by grind,o⟩|aE v=>obtain⟨q,x,p,o⟩:=D;exact⟨.panicked _,m,w',fr,⟨g2,q1,q2,j,x,rfl,o⟩,F,E,p,q,fn,by grind⟩
theorem KJ{body:Code}{cx:Ctx}{st st':av}{ex:bP}(L:cv P R)(hE:mX P R)(hr:mD P R body cx st=some (ex,st')):rL P cx st ex st' (λk=>.code body::.inLoop body::k):=by intro g w b a k cs hw hf hc ha hm;unfold mD at hr;cases hx:evalCode P R cx body st with|none=>grind|some p=>obtain⟨z,u⟩:=p;rw[hx]at hr;obtain⟨g1,w1,q,c,q1,q2,q3,o,m,i,j⟩:=hE _ _ _ _ _ hx g w b a (.inLoop body::k) cs hw hf hc ha hm;cases z with|normal=>simp only at hr;obtain⟨g2,w2,M,C,K,J,I,G,F,E,D⟩:=L.loop body cx u ex st' hr g1 w1 b q k c q2 (hf.step q1) (hc.mono q1.le) q3 m;exact⟨g2,w2,M,C,q1.trans hf K,J,I,o.trans i G,F,λe=>E (i e),di.of_steps (Steps.trans j (.one Ra)) D⟩|exit id=>cases hr;exact⟨g1,w1,q,c,q1,q2,q3,o,m,i,di.pass (by simp) (λ_=>rfl) j⟩|ret=>cases hr;exact⟨g1,w1,q,c,q1,q2,q3,o,m,i,di.pass (by simp) (λ_=>rfl) j⟩|panic v=>cases hr;exact⟨g1,w1,q,c,q1,q2,q3,o,m,i,di.pass (by simp) (λ_=>rfl) j⟩
end
end Go.AI
end

section
namespace Go.AI
section
variable {P:Program}{R:Rec}{g:Gh}{w:World}{h:AHeap}
theorem HJ{tn:Nat}:∀{ps:List Tmp}{args:List AV}{vs:List Value}{tm bO:Tr AV}{tmps:Array Value},lO tn ps args tm=some bO->ay g args vs->tmps.size=tn->TR g tm tmps->
 ps.length=vs.length/\((ps.zip vs).foldl (λ(tmps:Array Value)(p:Tmp×Value)=>tmps.setIfInBounds p.1 p.2) tmps).size=tn/\TR g bO ((ps.zip vs).foldl (λ(tmps:Array Value)(p:Tmp×Value)=>tmps.setIfInBounds p.1 p.2) tmps)
 |[],[],[],tm,bO,tmps,hr,_,hs,ht=>by simp_all[an,lO]
 |p::ps,x::xs,v::vs,tm,bO,tmps,hr,hv,hs,ht=>by
  simp only[lO]at hr
  split at hr
  .rename_i hp
   have i:TR g (tm.put p x) (tmps.setIfInBounds p v):=by
    intro t y hy
    rw[Tr.qH]at hy
    by_cases e:t=p
    .subst e;rw[if_pos rfl]at hy;cases hy;exact⟨v,by grind,hv.1⟩
    .rw[if_neg e]at hy;obtain⟨u,h1,h2⟩:=ht t y hy;grind
   obtain⟨q1,q2,q3⟩:=HJ hr hv.2 (by simp[hs]) i;simp_all
  .cases hr|[],x::xs,_,_,_,_,hr,_,_,_=>by simp[lO]at hr|p::ps,[],_,_,_,_,hr,_,_,_=>by simp[lO]at hr|[],[],v::vs,_,_,_,_,hv,_,_=>hv.elim|p::ps,x::xs,[],_,_,_,_,hv,_,_=>hv.elim
theorem QN{b:Frame}{a:Act}{k:List Item}{cs:List Frame}{l:Nat}{w':World}(hb:b.roundOf=some l)(hr:(Instr.beginRound l).run P w=.ok () w'):step P (lone (aq b a (.beginRound::k)) cs w)=.next (lone (aq b a k) cs w'):=step_lone_go (by simp[stepG,stepG.exec,stepG.apply,aq,hb,Sem.runT_eq,hr,Result.andThen,Frame.finish])
variable {c:Frame}
theorem QU{b:Frame}{a:Act}{cs:List Frame}{l:Nat}{v:Value}{w':World}(hb:b.roundOf=some l)(hk:b.kind=.normal)(hr:(Instr.endRound l none).run P w=.ok v w'):step P (lone (aq b a []) (c::cs) w)=.next (lone (c.finish v) cs w'):=step_lone_go (by simp[stepG,stepG.exec,aq,hb,hk,Sem.runT_eq,hr,doReturn])
theorem QV{b:Frame}{a:Act}{k:List Item}{cs:List Frame}{l:Nat}{v:Value}{w':World}(hb:b.roundOf=some l)(hk:b.kind=.normal)(hr:(Instr.endRound l (some .ret)).run P w=.ok v w'):step P (lone (aq b a (.code .ret::k)) (c::cs) w)=.next (lone (c.finish v) cs w'):=step_lone_go (by simp[stepG,stepG.exec,aq,hb,hk,Sem.runT_eq,hr,doReturn])
theorem QO{b:Frame}{a:Act}{k:List Item}{cs:List Frame}{l id:Nat}{v:Value}{w':World}(hb:b.roundOf=some l)(hk:b.kind=.normal)(hx:exitTo id k=none)(hr:(Instr.endRound l (some (.exit id))).run P w=.ok v w'):step P (lone (aq b a (.code (.exit id)::k)) (c::cs) w)=.next (lone (c.finish v) cs w'):=step_lone_go (by simp[stepG,stepG.exec,aq,hb,hk,hx,Sem.runT_eq,hr,doReturn])
theorem Rc{fr:Frame}{cs:List Frame}{i:List PanicEntry}{fn:Func}(hm:fr.mode=.panicking i)(hd:fr.defers=[])(hf:P.funcs[fr.fn]?=some fn):step P (lone fr (c::cs) w)=.next (lone (c.raise i) cs w):=step_lone_go (by simp[stepG,unwind,hm,hd,Frame.catches,hf])
theorem Ci{l:Nat}{jump:Option Code}{out:cH}{h':AHeap}(hw:W h g w)(hr:sD l jump h=some (out,h')){j s n:Nat}(hB:g.B l 0=some (j,s,n)):
 out=.ret (.sc (.bool jump.isNone))/\∃w',(Instr.endRound j jump).run P w=.ok (.bool jump.isNone) w'/\W h' g w'/\Step h g w h' g w':=by
 unfold sD at hr
 split at hr
 .rename_i st gW fn tn tm ps assign body dd hg
  cases hr
  obtain⟨tmps,m,s',n',h1,h2,h3,h4⟩:=hw.obj l _ hg j s n hB
  refine⟨rfl,cJ w j (.loop {state:=if jump.isNone then .ready else .done,pending:=jump,fn,tmps,params:=ps.toArray,assign,body,defers:=m}),?_,?_⟩
  .unfold Instr.endRound Instr.getLoop;simp only[Sem.run_bind,fc h1 rfl,Result.andThen_ok,ko h1 rfl,Sem.run_pure]
  .exact jJ hw hg hB rfl (by intro b' o n1 i;rw[hB]at i;simp only[an,aV]at i;obtain⟨rfl,rfl,rfl⟩:=i;exact⟨tmps,m,s',n',hQ (hO h1),h2,h3,h4⟩)
 .cases hr
theorem JF{l:Nat}{args:List AV}{out:cH}{h':AHeap}(hE:mX P R)(hr:qx P R l args h=some (out,h')):KF P l args h out h':=by
 intro g w vs z s n hw hf hv hB
 unfold qx at hr
 split at hr
 .rename_i lst gW fn tn tm ps assign body dd hg
  obtain⟨tmps,db,s',n',h1,h2,h3,h4⟩:=hw.obj l _ hg z s n hB
  split at hr
  .cases hr
  .rename_i bO Z
   obtain⟨p1,p2,p3⟩:=HJ Z hv h2 h3
   refine⟨fn,(ps.zip vs).foldl (λ(tmps:Array Value)(p:Tmp×Value)=>tmps.setIfInBounds p.1 p.2) tmps,assign,body,?_,?_⟩
   .unfold Instr.yield Instr.getLoop;simp only[Sem.run_bind,fc h1 rfl,Result.andThen_ok,Sem.run_pure];simp_all
   .intro c cs
    have q:Frame.round z fn ((ps.zip vs).foldl (λ(tmps:Array Value)(p:Tmp×Value)=>tmps.setIfInBounds p.1 p.2) tmps) assign body .normal=aq {(default:Frame)with fn:=fn,kind:=.normal,roundOf:=some z} {tmps:=(ps.zip vs).foldl (λ(tmps:Array Value)(p:Tmp×Value)=>tmps.setIfInBounds p.1 p.2) tmps,defers:=[]} [.code assign,.beginRound,.code body]:=rfl
    generalize(ps.zip vs).foldl (λ(tmps:Array Value)(p:Tmp×Value)=>tmps.setIfInBounds p.1 p.2) tmps=G at p2 p3 q⊢
    simp only at hr
    split at hr
    .rename_i st he
     obtain⟨g1,w1,a1,cs1,q1,q2,q3,q4,q5,q6,q7⟩:=hE _ _ _ _ _ he g w {(default:Frame)with fn:=fn,kind:=.normal,roundOf:=some z} {tmps:=G,defers:=[]} [.beginRound,.code body] (c::cs) hw hf ⟨rfl,rfl,z,s,n,hB,rfl⟩ ⟨p3,p2,trivial⟩ trivial
     obtain rfl:cs1=c::cs:=q4.1 rfl
     rw[<-q]at q7
     split at hr
     .rename_i p E O Q C i m U T
      have D:=q1.le.b _ _ _ hB
      obtain⟨u,V,s1,n1,r1,r2,r3,r4⟩:=q2.obj l _ T z s n D
      have hbr:(Instr.beginRound z).run P w1=.ok () (cJ w1 z (.loop {state:=.busy,pending:=p,fn:=E,tmps:=u,params:=C.toArray,assign:=i,body:=m,defers:=V})):=by unfold Instr.beginRound Instr.getLoop;simp only[Sem.run_bind,fc r1 rfl,Result.andThen_ok,ko r1 rfl,Sem.run_pure]
      have S:=jJ (x':=.loop .busy p E O Q C i m U) q2 T D (w':=cJ w1 z (.loop {state:=.busy,pending:=p,fn:=E,tmps:=u,params:=C.toArray,assign:=i,body:=m,defers:=V})) rfl (by intro b' s2 n2 hb';grind[an,aV,hQ,hO])
      have F:=q1.trans hf S.2
      have j:=Steps.trans q7 (.one (QN (P:=P) rfl hbr))
      cases hx:evalCode P R {fn:=fn,tn:=tn,kind:=.normal,round:=some l} body {st with h:=st.h.aG l (.loop .busy p E O Q C i m U)}with
      |none=>grind
      |some pr=>
       obtain⟨ex,BI⟩:=pr
       rw[hx]at hr
       obtain⟨g2,w2,a2,cs2,t1,t2,t3,t4,t5,t6,t7⟩:=hE _ _ _ _ _ hx g1 _ {(default:Frame)with fn:=fn,kind:=.normal,roundOf:=some z} a1 [] (c::cs) S.1 (hf.step F) ⟨rfl,rfl,z,s,n,D,rfl⟩ ⟨q3.tm,q3.size,q3.df⟩ q5
       obtain rfl:cs2=c::cs:=t4.1 (q6 rfl)
       have J:=t1.le.b _ _ _ D
       have o:=F.trans hf t1
       cases ex with
       |normal=>obtain⟨rfl,K,N,M,L⟩:=Ci (P:=P) t2 hr J;exact⟨g2,K,o.trans hf L,M,_,.sc _,Steps.trans j (Steps.trans t7 (.one (QU rfl rfl N)))⟩
       |ret=>obtain⟨rfl,K,N,M,L⟩:=Ci (P:=P) t2 hr J;obtain⟨k2,t7⟩:=t7;exact⟨g2,K,o.trans hf L,M,_,.sc _,Steps.trans j (Steps.trans t7 (.one (QV rfl rfl N)))⟩
       |exit id=>obtain⟨rfl,K,N,M,L⟩:=Ci (P:=P) t2 hr J;obtain⟨k2,BJ,t7⟩:=t7.2 rfl;exact⟨g2,K,o.trans hf L,M,_,.sc _,Steps.trans j (Steps.trans t7 (.one (QO rfl rfl BJ N)))⟩
       |panic v=>
        obtain⟨todo,x,X,t7⟩:=t7
        simp only at hr
        split at hr
        .rename_i fn' hdf BK
         cases hr
         have I:=t3.df
         rw[hdf]at I
         have hd0:a2.defers=[]:=by cases Y:a2.defers with|nil=>rfl|cons _ _=>rw[Y]at I;exact I.elim
         exact⟨g2,w2,o,t2,x,X,Steps.trans j (Steps.trans t7 (.one (Rc rfl hd0 BK)))⟩
        .cases hr
     .cases hr
    .cases hr
 .cases hr
end
end Go.AI
end

section
namespace Go.AI
section
variable {P:Program}{R:Rec}
theorem QL{w:World}(fn:FuncId)(tmps:Array Value)(ps:Array Tmp)(assign body:Code):(Instr.enterLoop fn tmps ps assign body none).run P w=.ok (w.heap.size+1,[{target:=.collected w.heap.size,args:=#[]}]) (fY (fY w (.deferred (some []))) (.loop {state:=.ready,pending:=none,fn,tmps,params:=ps,assign,body,defers:=w.heap.size})):=by simp_all[Sem.run_bind,Result.andThen_ok,Sem.run_pure,H5,Instr.enterLoop,newObj,fY,Sem.run]
theorem QW{b:Frame}{a:Act}{k:List Item}{cs:List Frame}{f:Operand}{ps:Array Tmp}{assign body:Code}{l:Nat}{mark:List Deferred}{w i c:World}{m j:FuncId}{first captured args:Array Value}
 (he:(Instr.enterLoop b.fn a.tmps ps assign body b.roundOf).run P w=.ok (l,mark) i)(hv:a.eval f=.func (.func m) first captured)
 (p:(callFunc m (first++#[.func (.yield l) #[] #[]]++captured)).run P i=.ok (.enter j args) c):
 step P (lone (aq b a (.code (.rangeFunc f ps assign body)::k)) cs w)=.next (lone (Frame.enter P j args .normal) (aq b {a with defers:=mark++a.defers} (.inRangeFunc l::k)::cs) c):=by
 refine step_lone_go ?_
 have o:=C8 b {a with defers:=mark++a.defers} (.inRangeFunc l::k)
 simp only[aq]at o
 have q:({tmps:=a.tmps,defers:=mark++a.defers}:Act).eval f=.func (.func m) first captured:=by rw[<-hv];cases f<;>rfl
 have u:Sem.run P (do let d<-resolve ({tmps:=a.tmps,defers:=mark++a.defers}:Act).eval {callee:=.value f,args:=#[.const (.func (.yield l) #[] #[])],argTypes:=#[]} 0;invoke d.target d.args) i=.ok (.enter j args) c:=by simp_all[Sem.run_bind,Sem.run_pure,Result.andThen_ok,resolve,Deferred.ofValue,invoke,Act.eval]
 simp_all[Sem.runT_eq,GStep.bare_after,stepG,stepG.exec,aq,stepG.apply]
theorem Q0{b:Frame}{a:Act}{k:List Item}{cs:List Frame}{l:Nat}{jump:Option Code}{w w':World}(hr:(Instr.endLoop l).run P w=.ok jump w'):step P (lone (aq b a (.endRangeFunc l::k)) cs w)=.next (lone (aq b a ((jump.map Item.code).toList++k)) cs w'):=step_lone_go (by simp[stepG,stepG.exec,aq,Sem.runT_eq,hr,GStep.bare_after])
theorem S8(hP:ProgOK P)(hR:cv P R):KG P R:=by
 intro cx f params assign body st ex st' hr g w b a k cs hw hf hc ha hm
 simp only[evalCode]at hr
 split at hr
 .cases hr
 .rename_i I
  have hrn:b.roundOf=none:=by have:=hc.round;rw[I]at this;exact this
  have h1:=qC (x:=.b8 (some [])) (s:=0) (n:=0) hw (hf st.h.next (ao _)) (w':=fY w (.deferred (some []))) rfl (by intro b' s' n' D;grind[Gh.fT,an,aV,kq])
  have K:=hf.step h1.2
  have U:(g.dc st.h.next 0 (w.heap.size,0,0)).B st.h.next 0=some (w.heap.size,0,0):=Gh.fT _ _ _ _
  generalize hg1:g.dc st.h.next 0 (w.heap.size,0,0)=g1 at h1 K U
  have h2:=qC (x:=.loop .ready none cx.fn cx.tn st.tm params.toList assign body st.h.next) (s:=0) (n:=0) h1.1 (K _ (ao _)) (w':=fY (fY w (.deferred (some []))) (.loop {state:=.ready,pending:=none,fn:=cx.fn,tmps:=a.tmps,params,assign,body,defers:=w.heap.size})) rfl (by intro b' s' n' D;rw[Gh.fT]at D;simp only[an,aV]at D;obtain⟨rfl,rfl,rfl⟩:=D;refine⟨a.tmps,w.heap.size,0,0,?_,ha.size,(ha.tm.mono h1.2.le).mono (Gh.kA (K _ (ao _) 0)),(Gh.kA (K _ (ao _) 0)).b _ _ _ U⟩;rw[kq])
  have T:(g1.dc (st.h.alloc (.b8 (some []))).next 0 ((fY w (.deferred (some []))).heap.size,0,0)).B (st.h.next+1) 0=some (w.heap.size+1,0,0):=by rw[show(st.h.alloc (.b8 (some []))).next=st.h.next+1 from rfl,H5,Gh.fT]
  have S:=h2.2.le.b _ _ _ U
  generalize g1.dc (st.h.alloc (.b8 (some []))).next 0 ((fY w (.deferred (some []))).heap.size,0,0)=g2 at h2 T S
  have q:=h1.2.trans hf h2.2
  have J:=hf.step q
  generalize aba:fY (fY w (.deferred (some []))) (.loop {state:=.ready,pending:=none,fn:=cx.fn,tmps:=a.tmps,params,assign,body,defers:=w.heap.size})=w2 at h2 q
  generalize((st.h.alloc (.b8 (some []))).alloc (.loop .ready none cx.fn cx.tn st.tm params.toList assign body st.h.next))=hA at h2 q J hr
  have abb:(Instr.enterLoop b.fn a.tmps params assign body b.roundOf).run P w=.ok (w.heap.size+1,[{target:=.collected w.heap.size,args:=#[]}]) w2:=by rw[hrn,hc.fn,QL,aba]
  split at hr
  .rename_i Ph first captured BK
   obtain⟨z,m,hv,hv1,hv2⟩:=DE (ha.ev f) BK
   split at hr
   .rename_i abc args hA' GW
    have abd:VR g2 (.ej (st.h.next+1)) (.func (.yield (w.heap.size+1)) #[] #[]):=.ej T
    have nT:ay g2 (first++[.ej (st.h.next+1)]++captured) (z.toList++[.func (.yield (w.heap.size+1)) #[] #[]]++m.toList):=((hv1.mono q.le).append (show ay g2 [.ej (st.h.next+1)] [.func (.yield (w.heap.size+1)) #[] #[]]from⟨abd,trivial⟩)).append (hv2.mono q.le)
    have abe:=Cp hP h2.1 (J _ (ao _)) nT GW
    obtain⟨rfl,vs,AM,M⟩:=abe
    have O:(callFunc Ph (z++#[.func (.yield (w.heap.size+1)) #[] #[]]++m)).run P w2=.ok (.enter abc vs.toArray) w2:=by rw[<-AM];exact congrArg (λv=>Sem.run P (callFunc Ph v) w2) (by simp_all)
    have dY:=QW (b:=b) (a:=a) (k:=k) (cs:=cs) abb hv O
    split at hr
    .rename_i rv cm' h3 u
     obtain⟨e,X,fr,⟨V,q1,q2,q3⟩,p,abf,o⟩:=hR.call _ _ _ _ _ _ u g2 w2 vs h2.1 J M (aq b {a with defers:=[{target:=.collected w.heap.size,args:=#[]}]++a.defers} (.inRangeFunc (w.heap.size+1)::k)::cs)
     cases e with
     |panicked _=>exact q3.elim
     |outgrown=>exact q3.elim
     |returned x=>
      split at hr
      .rename_i ls gW L Y Z F a1 b1 Pj Pk
       split at hr
       .cases hr
       .rename_i Q
        have Pl:=q1.le.b _ _ _ T
        have abg:=q1.le.b _ _ _ S
        obtain⟨C,Pm,s1,n1,r1,r2,r3,r4⟩:=q2.obj _ _ Pk _ _ _ Pl
        have abh:(Instr.endLoop (w.heap.size+1)).run P X=.ok gW (cJ X (w.heap.size+1) (.loop {state:=.exhausted,pending:=gW,fn:=L,tmps:=C,params:=F.toArray,assign:=a1,body:=b1,defers:=Pm})):=by unfold Instr.endLoop Instr.getLoop;simp only[Sem.run_bind,fc r1 rfl,Result.andThen_ok,Sem.run_pure];rw[if_neg Q];simp only[Sem.run_bind,ko r1 rfl,Result.andThen_ok,Sem.run_pure]
        have G:=jJ (x':=.loop .exhausted gW L Y Z F a1 b1 Pj) q2 Pk Pl (w':=cJ X (w.heap.size+1) (.loop {state:=.exhausted,pending:=gW,fn:=L,tmps:=C,params:=F.toArray,assign:=a1,body:=b1,defers:=Pm})) rfl (by intro b' s2 n2 D;grind[an,aV,hQ,hO]);have j:=q.trans hf q1;have N:=j.trans hf G.2;have i:=Steps.head dY (Steps.trans p (.head (step_leave_returned o) (.one (Q0 (b:=b) (a:={a with defers:=[{target:=.collected w.heap.size,args:=#[]}]++a.defers}) (k:=k) (cs:=cs) abh))));have E:gg V cx.tn {st with h:=h3.aG (st.h.next+1) (.loop .exhausted gW L Y Z F a1 b1 Pj),df:=.da st.h.next::st.df} {a with defers:=[{target:=.collected w.heap.size,args:=#[]}]++a.defers}:=⟨ha.tm.mono j.le,ha.size,⟨w.heap.size,0,0,abg,rfl⟩,ha.df.mono j.le⟩;cases gW with|none=>cases hr;exact⟨V,_,_,cs,N,G.1,E,.refl _ _,hm.mono j.le,id,i⟩|some c=>cases c with|exit id=>cases hr;exact⟨V,_,_,cs,N,G.1,E,.refl _ _,hm.mono j.le,λe=>e,λk' e=>Steps.trans i (.one (Ie e)),λe=>⟨k,e,i⟩⟩|ret=>cases hr;exact⟨V,_,_,cs,N,G.1,E,.refl _ _,hm.mono j.le,λe=>e,k,i⟩|_=>simp at hr
      .cases hr
    .rename_i v cm' h3 u;cases hr;obtain⟨e,X,fr,⟨V,q1,q2,q3⟩,p,abf,o⟩:=hR.call _ _ _ _ _ _ u g2 w2 vs h2.1 J M (aq b {a with defers:=[{target:=.collected w.heap.size,args:=#[]}]++a.defers} (.inRangeFunc (w.heap.size+1)::k)::cs);cases e with|returned _=>exact q3.elim|outgrown=>exact q3.elim|panicked ch=>obtain⟨x,rfl,q4⟩:=q3;have j:=q.trans hf q1;refine⟨V,X,{a with defers:=[{target:=.collected w.heap.size,args:=#[]}]++a.defers},cs,j,q2,⟨ha.tm.mono j.le,ha.size,⟨w.heap.size,0,0,q1.le.b _ _ _ S,rfl⟩,ha.df.mono j.le⟩,.refl _ _,hm.mono j.le,λe=>e,.inRangeFunc (w.heap.size+1)::k,x,q4,?_⟩;exact Steps.head dY (Steps.trans p (.one (step_leave_panicked o)))
    .cases hr
   .cases hr
  .cases hr
end
end Go.AI
end

section
namespace Go.AI
section
variable {P:Program}{h h':AHeap}{g:Gh}{w:World}
def cZ(P:Program)(h:AHeap)(g:Gh)(w:World)(s:Sem Next)(r:dv)(h':AHeap):Prop:=h'.next=h.next->match r with|.val v=>∃x,s.run P w=.ok (.value x) w/\VR g v x|_=>True
theorem cZ.same{s:Sem Next}{v:AV}{x:Value}(_:W h g w)(hr:s.run P w=.ok (.value x) w)(hv:VR g v x):cZ P h g w s (.val v) h:=λ_=>⟨x,hr,hv⟩
theorem iD{s:Sem Value}{c:Option AV}{r:dv}(hw:W h g w)(e:val h c=some (r,h'))(hs:∀v,c=some v->∃x,s.run P w=.ok x w/\VR g v x):cZ P h g w (do pure (.value (<-s))) r h':=by unfold val at e;cases c with|none=>cases e|some v=>simp only[Option.map_some,an,aV]at e;obtain⟨rfl,rfl⟩:=e;obtain⟨x,h1,h2⟩:=hs v rfl;exact cZ.same hw (by simp[h1]) h2
theorem UU{s:Sem Next}{q:Option (AV×AHeap)}{r:dv}(hr:(q.map λ(x:AV×AHeap)=>(dv.val x.1,x.2))=some (r,h'))(hk:∀v h2,q=some (v,h2)->cZ P h g w s (.val v) h2):cZ P h g w s r h':=by cases q with|none=>cases hr|some x=>grind
def nI:Builtin->Bool|.len|.cap|.min|.max|.unsafeSliceData=>true|_=>false
theorem Re{src dst:TypeId}{x r:AV}{v:Value}(hw:W h g w)(hx:VR g x v)(hr:fU P h src dst x=some (r,h')):
 cZ P h g w (do pure (.value (<-convert src dst v))) (.val r) h':=by
 unfold fU at hr
 split at hr
 .rename_i e hs hd
  split at hr
  .rename_i n he hn F
   split at hr
   .rename_i l I
    cases D:iC l with
    |none=>grind
    |some bs=>
     rw[D]at hr
     simp only[Option.map_some,an,aV]at hr
     obtain⟨rfl,rfl⟩:=hr
     obtain⟨vs,q1,q2,q3⟩:=sE (P:=P) hw hx I
     obtain⟨E,e1,e2⟩:=xq D q1
     have q3:=q3 w.drawn
     have z:∃a c,v=.slice a n c:=by
      unfold eK at hn
      split at hn
      .cases hx<;>simp at hn<;>subst_vars<;>grind
      .cases hx<;>simp at hn<;>subst_vars<;>grind
      .cases hx with|gG=>grind|gL _=>grind|aI _ _ _=>grind
      .cases hx<;>simp at hn<;>subst_vars<;>grind
      .cases hx<;>simp at hn<;>subst_vars<;>grind
      .simp[lg]at F
      .cases hn
     obtain⟨a,c,rfl⟩:=z
     refine cZ.same hw (x:=.string ⟨bs.toArray⟩) ?_ (.sc _)
     simp only[Sem.run_bind]
     rw[run_convert_bytes_string w src dst e a n c hs he hd]
     cases a with
     |none=>
      simp only[Builtin.firstCells,Sem.run_pure,Result.ok.injEq,and_true]at q3
      have:vs=[]:=by grind
      rw[this]at e1
      have:E=[]:=by grind
      subst this
      subst e2
      simp[Conv.bytesToString]
      rfl|some a=>have hl:(loadCells a n).run P w=.ok (E.map (Value.int .u8)).toArray w:=by simp_all[Nat.mul_one,Builtin.firstCells,loadCells]
                  rw[run_bytesToString w a n c E hl,foldl_push_bytes,e2,show ByteArray.empty.data=#[]from rfl,Array.empty_append];rfl
   .cases hr
  .cases hr
 .rename_i e hs hd
  split at hr
  .rename_i s he
   split at hr
   .cases hr;intro hn;simp[AHeap.alloc]at hn
   .cases hr
  .cases hr
 .rename_i t hs hd
  split at hr
  .rename_i o ver n off k j
   split at hr
   .rename_i cs m
    cases hr
    have i:=hx
    cases hx with
    |ref hB=>
     rename_i b J
     obtain⟨v',K,c',fz,el,ex,sh,_,ca,f,hk,G⟩:=xT hw m hB
     refine cZ.same hw (x:=.pointer (some ⟨b,off,none⟩)) ?_ i
     have h1:¬ca.size<=off:=by have:=hk.lG;have:=hk.size;omega
     simp[convert,run_underlying hs,run_underlying hd,Conv.unsafePointer,xy hk.here,cellsIn,sJ hk.here,run_sizeOf j,h1]
   .cases hr
  .cases hr;cases hx;refine cZ.same hw (x:=.pointer none) ?_ (.sc _);simp[convert,run_underlying hs,run_underlying hd,Conv.unsafePointer]
  .cases hr
 .rename_i hs hd
  split at hr
  .cases hr;have i:=hx;cases hx with|ref hB=>refine cZ.same hw ?_ i;simp[convert,run_underlying hs,run_underlying hd,Conv.unsafePointer]
  .cases hr;cases hx;refine cZ.same hw (x:=.pointer none) ?_ (.sc _);simp[convert,run_underlying hs,run_underlying hd,Conv.unsafePointer]
  .cases hr
 .rename_i u hs hd
  split at hr
  .rename_i o ver n off k j
   split at hr
   .rename_i cs N m2 c2 L M cG m C
    split at hr
    .rename_i p
     cases hr
     have i:=hx
     cases hx with
     |ref hB=>
      rename_i b J
      obtain⟨v',K,c',fz,el,ex,sh,q,ca,f,hk,G⟩:=xT hw m hB
      rw[C]at q
      simp only[an,bT.cells.injEq]at q
      obtain⟨rfl,rfl,rfl,rfl,rfl,rfl,rfl⟩:=q
      refine cZ.same hw (x:=.pointer (some ⟨b,off,none⟩)) ?_ i
      have dL:ca.size=c2.length:=by rw[hk.size,hk.exact rfl]
      simp[convert,run_underlying hs,run_underlying hd,Conv.unsafePointer,xy hk.here,variablesAt,sJ hk.here,run_sizeOf j,dL,p]
    .cases hr
   .cases hr
  .cases hr;cases hx;refine cZ.same hw (x:=.pointer none) ?_ (.sc _);simp[convert,run_underlying hs,run_underlying hd,Conv.unsafePointer]
  .cases hr
 .split at hr
  .rename_i v' hv;cases hp:bp P (convert src dst v')with|none=>grind|some u=>rw[hp]at hr;simp only[Option.map_some,an,aV]at hr;obtain⟨rfl,rfl⟩:=hr;rw[qB hv hx];simp_all[cZ.same,lP,VR.bh]
  .cases hr
 .cases hr
theorem Rf{b:Builtin}{i:Array TypeId}{ty:TypeId}{cs:Array Bool}{xs:List AV}{vs:List Value}{r:dv}(hw:W h g w)(hv:ay g xs vs)
 (hb:nI b=true)(hr:fe P h b i ty xs=some (r,h')):cZ P h g w (builtin b i ty cs vs.toArray) r h':=by
 unfold fe at hr
 split at hr
 .simp[nI]at hb
 .simp[nI]at hb
 .rename_i x
  obtain⟨u,rfl,hu⟩:=ox rfl hv
  split at hr
  .rename_i t h0;refine iD (s:=Builtin.len_ i ty #[u]) hw hr λv e=>?_;cases hl:rF P h t x with|none=>grind|some n=>rw[hl]at e;simp at e;subst e;exact⟨_,LS hw h0 hu hl,.sc _⟩
  .cases hr
 .rename_i x
  obtain⟨u,rfl,hu⟩:=ox rfl hv
  split at hr
  .rename_i t h0;refine iD (s:=Builtin.cap_ i ty #[u]) hw hr λv e=>?_;cases hl:wm P t x with|none=>grind|some n=>rw[hl]at e;simp at e;subst e;exact⟨_,LU h0 hu hl,.sc _⟩
  .cases hr
 .simp[nI]at hb
 .simp[nI]at hb
 .simp[nI]at hb
 .simp[nI]at hb
 .split at hr
  .rename_i us j
   split at hr
   .rename_i u hp;cases hr;rw[sB j hv];exact cZ.same hw (lP hp w) (VR.bh u)
   .cases hr
  .cases hr
 .split at hr
  .rename_i us j
   split at hr
   .rename_i u hp;cases hr;rw[sB j hv];exact cZ.same hw (lP hp w) (VR.bh u)
   .cases hr
  .cases hr
 .obtain⟨u,rfl,hu⟩:=ox rfl hv
  have m:builtin .unsafeSliceData i ty cs [u].toArray=(do pure (.value (<-Builtin.unsafeSliceData_ i ty #[u]))):=rfl
  rw[m]
  split at hr
  .cases hr;cases hu;exact cZ.same hw (x:=.pointer none) rfl (.sc _)
  .split at hr
   .rename_i hc
    cases hr
    cases hu with
    |sl hB p1 p2 p3=>
     rename_i o ver n off sz len cap b s c
     have q:c≠0:=by
      rcases hc with hc|hc
      .omega
      .cases cap with|none=>simp[lZ]at hc|some k=>have:=p3 k rfl;simp[lZ]at hc;omega
     refine cZ.same hw (x:=.pointer (some ⟨b,off,none⟩)) ?_ (.ref hB);have p:Builtin.unsafeSliceData_ i ty #[.slice (some ⟨b,off,none⟩) len c]=(do if c≠0 then pure (.pointer (some ⟨b,off,none⟩))else if(<-viewAt b).isSome then pure (.pointer (some ⟨b,off,none⟩))else pure (.pointer (some ⟨<-newObj (.view ⟨b,off,none⟩ (<-elemOf ty)),0,none⟩))):=rfl;simp_all
   .cases hr
  .cases hr
 .simp[nI]at hb
 .cases hr
theorem S9{ρ:Operand->AV}{ρ':Operand->Value}{o:Oper}{r:dv}(hF:bN o.op=true)(hw:W h g w)(j:∀x,VR g (ρ x) (ρ' x))
 (hr:aJ P ρ o h=some (r,h')):cZ P h g w (execOp ρ' o) r h':=by
 obtain⟨dst,op,type,pos,after,guard⟩:=o
 cases op<;>first|(simp[bN]at hF;done)|skip
 all_goals(try simp only[aJ]at hr)
 all_goals(try simp only[execOp])
 case move x=>cases hr;exact cZ.same hw rfl (j x)
 case assign x=>cases hr;exact cZ.same hw rfl (j x)
 case pick c a b=>
  have hc:=j c
  split at hr
  .rename_i t ht;cases hr;rw[ht]at hc;have hv:ρ' c=.bool t:=VR.kD hc;rw[hv];cases t with|true=>exact cZ.same hw rfl (j a)|false=>exact cZ.same hw rfl (j b)
  .cases hr
 case build t parts=>exact iD hw hr λv e=>Jz e (by rw[Array.toList_map];exact lT.map j _)
 case load t a=>grind[iD,C5]
 case nilCheck x=>
  have hx:=j x
  split at hr
  .rename_i m;cases hr;have q:=hx;rw[m]at hx;cases hv:ρ' x with|pointer p=>rw[hv]at hx q;cases hx;exact cZ.same hw rfl q|_=>rw[hv]at hx;cases hx
  .rename_i m;cases hr;have q:=hx;rw[m]at hx;cases hv:ρ' x with|pointer p=>rw[hv]at hx q;cases hx;exact cZ.same hw rfl q|_=>rw[hv]at hx;cases hx
  .rename_i f a c m;cases hr;rw[m]at hx;obtain⟨a',c',hv,h1,h2⟩:=VR.qA.1 hx;simp_all[cZ.same]
  .rename_i l m;cases hr;rw[m]at hx;cases hv:ρ' x with|func fn a D=>rw[hv]at hx;have q:=hx;cases hx;exact cZ.same hw rfl q|_=>rw[hv]at hx;cases hx
  .rename_i f a c m;cases hr;rw[m]at hx;have hv:ρ' x=.func (.func f) a c:=VR.kD hx;rw[hv];exact cZ.same hw rfl (.sc _)
  .rename_i t v m;cases hr;rw[m]at hx;cases hv:ρ' x with|iface t' u=>simp_all[cZ.same]|_=>rw[hv]at hx;cases hx
  .cases hr
 case binOp op xt x y yt=>exact iD hw hr λv e=>LR (j x) (j y) e
 case unOp op xt x=>
  split at hr
  .rename_i v hv;rw[qB hv (j x)];exact iD hw hr λv e=>DD e
  .cases hr
 case convert s d x=>grind[UU,Re]
 case makeInterface t x=>
  split at hr
  .cases hr
  .rename_i d hd hu;cases hr;refine cZ.same hw ?_ (.iface (j x));simp_all[Sem.run_bind,run_underlying,Result.andThen_ok,Instr.makeInterface]
  .cases hr
 case makeFunc fn first captured=>cases hr;exact cZ.same hw rfl (VR.qA.2 ⟨_,_,rfl,ay.ops j _,ay.ops j _⟩)
 case slice t x lo hi mx=>exact iD hw hr λv e=>JC (j x) (jn.map j lo) (jn.map j hi) (jn.map j mx) e
 case fieldAddr s x f=>exact iD hw hr λv e=>HG (j x) e
 case field t x f=>exact iD hw hr λv e=>Jx (j x) e
 case indexAddr t x i=>exact iD hw hr λv e=>HH (j x) (j i) e
 case index t x i=>exact iD hw hr λv e=>Jy (j x) (j i) e
 case lookup t x i ok=>grind[iD,II]
 case typeAssert x xt a ok=>exact iD hw hr λv e=>IK (j x) e
 case extract t i=>
  have hx:=j t
  split at hr
  .rename_i vs m
   rw[m]at hx
   obtain⟨us,hv,h1⟩:=VR.eo.1 hx
   rw[hv]
   refine iD hw hr λv e=>?_
   have hi:i<us.size:=by
    have:=h1.length
    have h2:i<vs.length:=by grind
    simp at this;omega
   refine⟨us[i],by simp[Instr.extract,hi],h1.get i v us[i] e (by simp[hi])⟩
  .cases hr
 case call c=>
  obtain⟨callee,args,C⟩:=c
  cases callee with
  |builtin b=>
   have hb:nI b=true:=by cases b<;>first|rfl|simp[bN]at hF
   have z:=ay.ops j args;have:=Rf (cs:=args.map λ|.const _=>true|_=>false) hw z hb hr;rwa[Array.toArray_toList]at this|invoke _ _=>simp[bN]at hF|value _=>simp[bN]at hF
end
end Go.AI
end
