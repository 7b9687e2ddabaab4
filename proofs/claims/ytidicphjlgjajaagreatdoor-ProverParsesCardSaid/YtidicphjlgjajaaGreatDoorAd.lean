/-
  A part of the proof: AiStep AiCode AiEval AiLeave AiRec AiRound AiRange AiPure.
-/
import Derived.Defers
import Derived.Test.YtidicphjlgjajaaGreatDoorAc
set_option linter.all false

section
namespace Go.AI
def aw(b:Frame)(a:Act)(todo:List Item):Frame:={b with tmps:=a.tmps,todo:=todo,defers:=a.defers,mode:=.run}
theorem C8(b:Frame)(a:Act)(todo:List Item):(aw b a todo).eval=a.eval:=by funext x;cases x<;>rfl
section moves
variable {P:Program}{b:Frame}{a:Act}{k:List Item}{cs:List Frame}{w:World}
theorem Qw:step P (lone (aw b a (.code .skip::k)) cs w)=.next (lone (aw b a k) cs w):=step_lone_go (by simp[stepG,stepG.exec,aw])
theorem Qa{l:Nat}:step P (lone (aw b a (.code (.label l)::k)) cs w)=.next (lone (aw b a k) cs w):=step_lone_go (by simp[stepG,stepG.exec,aw])
theorem PL{id:Nat}:step P (lone (aw b a (.inBlock id::k)) cs w)=.next (lone (aw b a k) cs w):=step_lone_go (by simp[stepG,stepG.exec,aw])
theorem PM{c:Code}:step P (lone (aw b a (.inScope c::k)) cs w)=.next (lone (aw b a k) cs w):=step_lone_go (by simp[stepG,stepG.exec,aw])
theorem xR{x y:Code}:step P (lone (aw b a (.code (.seq x y)::k)) cs w)=.next (lone (aw b a (.code x::.code y::k)) cs w):=step_lone_go (by simp[stepG,stepG.exec,aw])
theorem Hx{c:Operand}{x y:Code}{t:Bool}(h:a.eval c=.bool t):
 step P (lone (aw b a (.code (.cond c x y)::k)) cs w)=.next (lone (aw b a (.code (if t then x else y)::k)) cs w):=by
 have e:(aw b a (.code (.cond c x y)::k)).eval c=.bool t:=by rw[C8];exact h
 refine step_lone_go ?_;simp only[aw]at e;simp[stepG,stepG.exec,aw,e]
theorem uk{id:Nat}{c:Code}:step P (lone (aw b a (.code (.block id c)::k)) cs w)=.next (lone (aw b a (.code c::.inBlock id::k)) cs w):=step_lone_go (by simp[stepG,stepG.exec,aw])
theorem xB{c:Code}:step P (lone (aw b a (.code (.scope c)::k)) cs w)=.next (lone (aw b a (.code c::.inScope c::k)) cs w):=step_lone_go (by simp[stepG,stepG.exec,aw])
theorem Qx{c:Code}:step P (lone (aw b a (.code (.loop c)::k)) cs w)=.next (lone (aw b a (.code c::.inLoop c::k)) cs w):=step_lone_go (by simp[stepG,stepG.exec,aw])
theorem PU{c:Code}:step P (lone (aw b a (.inLoop c::k)) cs w)=.next (lone (aw b a (.code c::.inLoop c::k)) cs w):=step_lone_go (by simp[stepG,stepG.exec,aw])
theorem Hy{id:Nat}{c:List Item}(h:exitTo id k=some c):step P (lone (aw b a (.code (.exit id)::k)) cs w)=.next (lone (aw b a c) cs w):=step_lone_go (by simp[stepG,stepG.exec,aw,h])
theorem PV{id:Nat}{ops:Array Oper}:step P (lone (aw b a (.code (.region id ops false)::k)) cs w)=.next (lone (aw b a (.inRegion ops (List.range ops.size)::k)) cs w):=step_lone_go (by simp[stepG,stepG.exec,aw])
theorem GC{id:Nat}{ops:Array Oper}:step P (lone (aw b a (.code (.region id ops true)::k)) cs w)=.next (lone (aw b a (.inRegion ops (Region.schedule (P.follows .mixedOrders) ops (w.tape w.drawn (.order b.fn id)))::k)) cs {w with drawn:=w.drawn+1}):=step_lone_go (by simp[stepG,stepG.exec,aw,choose,Sem.run,Question.forced,Question.cut])
theorem GG{ops:Array Oper}:step P (lone (aw b a (.inRegion ops []::k)) cs w)=.next (lone (aw b a k) cs w):=step_lone_go (by simp[stepG,stepG.exec,aw])
theorem pS(ops:Array Oper)(i:Nat)(rest:List Nat)(v:Value):(aw b a (.inRegion ops (i::rest)::k)).finish v=aw b (a.put ((ops[i]?).bind (·.dst)) v) (.inRegion ops rest::k):=by cases h:(ops[i]?).bind (·.dst)<;>simp[Frame.finish,aw,Act.put,h]
theorem GX{ops:Array Oper}{i:Nat}{rest:List Nat}(h:((ops[i]?).map (Region.wanted . (yielded ops a.tmps))).getD false=false):step P (lone (aw b a (.inRegion ops (i::rest)::k)) cs w)=.next (lone (aw b (a.put ((ops[i]?).bind (·.dst)) undef) (.inRegion ops rest::k)) cs w):=by rw[<-pS];exact step_lone_go (by have h':=h;simp only[aw]at*;simp[stepG,stepG.exec,h'])
def lr(b:Frame)(o:Oper):Prop:=b.roundOf=none\/∀c,o.op≠.defer c
theorem oq{ops:Array Oper}{i:Nat}{rest:List Nat}{o:Oper}(ho:ops[i]?=some o)(hw:Region.wanted o (yielded ops a.tmps)=true)(hd:lr b o):
 stepG P true {frame:=aw b a (.inRegion ops (i::rest)::k),callers:=cs,status:=.running,dying:=none} w=stepG.apply P true (aw b a (.inRegion ops (i::rest)::k)) cs none (execOp a.eval o) w:=by
 have e:=C8 b a (.inRegion ops (i::rest)::k)
 simp only[aw]at e
 have:stepG.oper P true (aw b a (.inRegion ops (i::rest)::k)) cs none w=stepG.apply P true (aw b a (.inRegion ops (i::rest)::k)) cs none (execOp a.eval o) w:=by
  unfold stepG.oper
  simp only[Frame.oper?,aw,ho,e]
  rcases hd with hr|hd
  .rw[hr]
  .cases hb:b.roundOf with|none=>rfl|some l=>cases c:o.op<;>first|rfl|exact absurd c (hd _)
 rw[<-this];simp[stepG,stepG.exec,aw,ho,hw]
theorem Cr{ops:Array Oper}{i:Nat}{rest:List Nat}{o:Oper}{x:Value}{w':World}(ho:ops[i]?=some o)(hw:Region.wanted o (yielded ops a.tmps)=true)(hd:lr b o)(hr:(execOp a.eval o).run P w=.ok (.value x) w'):step P (lone (aw b a (.inRegion ops (i::rest)::k)) cs w)=.next (lone (aw b (a.put o.dst x) (.inRegion ops rest::k)) cs w'):=by have c:=pS (b:=b) (a:=a) (k:=k) ops i rest x;rw[ho]at c;refine step_lone_go ?_;rw[oq ho hw hd,<-show(aw b a (.inRegion ops (i::rest)::k)).finish x=aw b (a.put o.dst x) (.inRegion ops rest::k)from c];simp[stepG.apply,hr]
theorem Qb{ops:Array Oper}{i:Nat}{rest:List Nat}{o:Oper}{w':World}(ho:ops[i]?=some o)(hw:Region.wanted o (yielded ops a.tmps)=true)(hd:lr b o)(hr:(execOp a.eval o).run P w=.ok .skip w'):step P (lone (aw b a (.inRegion ops (i::rest)::k)) cs w)=.next (lone (aw b (a.put o.dst undef) (.inRegion ops rest::k)) cs w'):=by have c:=pS (b:=b) (a:=a) (k:=k) ops i rest undef;rw[ho]at c;refine step_lone_go ?_;rw[oq ho hw hd,<-show(aw b a (.inRegion ops (i::rest)::k)).finish undef=aw b (a.put o.dst undef) (.inRegion ops rest::k)from c];simp[stepG.apply,hr]
theorem Qc{ops:Array Oper}{i:Nat}{rest:List Nat}{o:Oper}{d:Deferred}{w':World}(ho:ops[i]?=some o)(hw:Region.wanted o (yielded ops a.tmps)=true)(hd:lr b o)(hr:(execOp a.eval o).run P w=.ok (.defer d) w'):step P (lone (aw b a (.inRegion ops (i::rest)::k)) cs w)=.next (lone (aw b ({a with defers:=d::a.defers}.put o.dst undef) (.inRegion ops rest::k)) cs w'):=by have c:=pS (b:=b) (a:={a with defers:=d::a.defers}) (k:=k) ops i rest undef;rw[ho]at c;refine step_lone_go ?_;rw[oq ho hw hd];have e:({aw b a (.inRegion ops (i::rest)::k)with defers:=d::a.defers}:Frame).finish undef=aw b ({a with defers:=d::a.defers}.put o.dst undef) (.inRegion ops rest::k):=c;simp only[stepG.apply,Sem.runT_eq,hr,GStep.bare_after];exact congrArg (λfr=>GStep.go {frame:=fr,callers:=cs,status:=.running,dying:=none} w') e
theorem Hf{ops:Array Oper}{i:Nat}{rest:List Nat}{o:Oper}{f:FuncId}{args:Array Value}{w':World}(ho:ops[i]?=some o)(hw:Region.wanted o (yielded ops a.tmps)=true)(hd:lr b o)(hr:(execOp a.eval o).run P w=.ok (.enter f args) w'):step P (lone (aw b a (.inRegion ops (i::rest)::k)) cs w)=.next (lone (Frame.enter P f args .normal) (aw b a (.inRegion ops (i::rest)::k)::cs) w'):=by refine step_lone_go ?_;rw[oq ho hw hd];simp[stepG.apply,hr,aw]
theorem Hg{ops:Array Oper}{i:Nat}{rest:List Nat}{o:Oper}{l:Nat}{f:FuncId}{tmps:Array Value}{assign body:Code}{w':World}(ho:ops[i]?=some o)(hw:Region.wanted o (yielded ops a.tmps)=true)(hd:lr b o)(hr:(execOp a.eval o).run P w=.ok (.round l f tmps assign body) w'):step P (lone (aw b a (.inRegion ops (i::rest)::k)) cs w)=.next (lone (Frame.round l f tmps assign body .normal) (aw b a (.inRegion ops (i::rest)::k)::cs) w'):=by refine step_lone_go ?_;rw[oq ho hw hd];simp[stepG.apply,hr]
theorem Qd{ops:Array Oper}{i:Nat}{rest:List Nat}{o:Oper}{x:Value}{w':World}(ho:ops[i]?=some o)(hw:Region.wanted o (yielded ops a.tmps)=true)(hd:lr b o)(hr:(execOp a.eval o).run P w=.halt (.panic x) w'):step P (lone (aw b a (.inRegion ops (i::rest)::k)) cs w)=.next (lone {aw b a (.inRegion ops (i::rest)::k)with mode:=.panicking [{v:=x,recovered:=false}]} cs w'):=by refine step_lone_go ?_;rw[oq ho hw hd];simp[stepG.apply,hr,aw,Frame.raise]
theorem GY{ops:Array Oper}{i:Nat}{rest:List Nat}{o:Oper}{w':World}(ho:ops[i]?=some o)(hw:Region.wanted o (yielded ops a.tmps)=true)(hd:lr b o)(hn:b.roundOf=none)(hr:(execOp a.eval o).run P w=.ok .recover w'):step P (lone (aw b a (.inRegion ops (i::rest)::k)) cs w)=.next (match tryRecover (aw b a (.inRegion ops (i::rest)::k)) cs with|some (v,aP)=>lone (aw b (a.put o.dst v) (.inRegion ops rest::k)) aP w'|none=>lone (aw b (a.put o.dst .nilIface) (.inRegion ops rest::k)) cs w'):=by have c:=λx=>pS (b:=b) (a:=a) (k:=k) ops i rest x;rw[ho]at c;cases f:tryRecover (aw b a (.inRegion ops (i::rest)::k)) cs with|none=>simp only;refine step_lone_go ?_;rw[oq ho hw hd,<-show(aw b a (.inRegion ops (i::rest)::k)).finish .nilIface=aw b (a.put o.dst .nilIface) (.inRegion ops rest::k)from c _];have e:(aw b a (.inRegion ops (i::rest)::k)).roundOf=none:=hn;simp[stepG.apply,hr,e,f]|some p=>obtain⟨v,aP⟩:=p;simp only;refine step_lone_go ?_;rw[oq ho hw hd,<-show(aw b a (.inRegion ops (i::rest)::k)).finish v=aw b (a.put o.dst v) (.inRegion ops rest::k)from c _];have e:(aw b a (.inRegion ops (i::rest)::k)).roundOf=none:=hn;simp[stepG.apply,hr,e,f]
end moves
end Go.AI
end

section
namespace Go.AI
def jA(g:Gh):List ep->List Deferred->Prop|[],[]=>True|d::ds,e::es=>tI g d e/\jA g ds es|_,_=>False
theorem jA.mono{g g':Gh}(hl:g.Le g'):∀{ds:List ep}{es:List Deferred},jA g ds es->jA g' ds es|[],[],_=>trivial|_::_,_::_,h=>⟨h.1.mono hl,jA.mono hl h.2⟩|[],_::_,h=>h.elim|_::_,[],h=>h.elim
structure gW(g:Gh)(tn:Nat)(st:aD)(a:Act):Prop where
 tm:TR g st.tm a.tmps
 size:a.tmps.size=tn
 df:jA g st.df a.defers
theorem gW.mono{g g':Gh}{tn:Nat}{st:aD}{a:Act}(hl:g.Le g')(h:gW g tn st a):gW g' tn st a:=⟨h.tm.mono hl,h.size,h.df.mono hl⟩
def U7(g:Gh):Option Nat->Option Nat->Prop|none,r=>r=none|some l,r=>∃b s n,g.B l 0=some (b,s,n)/\r=some b
structure lM(g:Gh)(cx:Ctx)(b:Frame):Prop where
 fn:b.fn=cx.fn
 kind:b.kind=cx.kind
 round:U7 g cx.round b.roundOf
theorem lM.mono{g g':Gh}{cx:Ctx}{b:Frame}(hl:g.Le g')(h:lM g cx b):lM g' cx b:=by refine⟨h.fn,h.kind,?_⟩;have hr:=h.round;cases hc:cx.round with|none=>rw[hc]at hr;exact hr|some l=>rw[hc]at hr;obtain⟨b',s,n,h1,h2⟩:=hr;exact⟨b',s,n,hl.b _ _ _ h1,h2⟩
def i7(g:Gh):bo->FrameMode->Prop|.none,_=>False|.ret,m=>m=.returning|.aB v r,m=>∃x,m=.panicking [{v:=x,recovered:=r}]/\VR g v x
theorem i7.mono{g g':Gh}(hl:g.Le g'){cm:bo}{m:FrameMode}(h:i7 g cm m):i7 g' cm m:=by cases cm with|none=>exact h|ret=>exact h|aB v r=>obtain⟨x,h1,h2⟩:=h;exact⟨x,h1,h2.mono hl⟩
def gV(g:Gh)(cm:bo)(cs:List Frame):Prop:=match cm with|.none=>True|cm=>∃c r,cs=c::r/\i7 g cm c.mode
theorem gV.mono{g g':Gh}(hl:g.Le g'){cm:bo}{cs:List Frame}(h:gV g cm cs):gV g' cm cs:=by cases cm with|none=>trivial|ret=>obtain⟨c,r,e,h1⟩:=h;exact⟨c,r,e,h1.mono hl⟩|aB v b=>obtain⟨c,r,e,h1⟩:=h;exact⟨c,r,e,h1.mono hl⟩
def kc(cm:bo)(cs aP:List Frame):Prop:=(cm=.none->aP=cs)/\(aP=cs\/∃c r m,cs=c::r/\aP={c with mode:=m}::r)
theorem kc.refl(cm:bo)(cs:List Frame):kc cm cs cs:=⟨λ_=>rfl,.inl rfl⟩
theorem kc.trans{cm aW:bo}{a b c:List Frame}(hn:cm=.none->aW=.none)(h:kc cm a b)(h':kc aW b c):kc cm a c:=by
 refine⟨λe=>(h'.1 (hn e)).trans (h.1 e),?_⟩
 rcases h'.2 with e|⟨x,r,m,f,j⟩
 .rw[e];exact h.2
 .rcases h.2 with i|⟨y,r',l,i,k⟩
  .rw[<-i];exact .inr ⟨x,r,m,f,j⟩
  .rw[k]at f;simp only[List.cons.injEq]at f;obtain⟨rfl,rfl⟩:=f;exact .inr ⟨y,r',m,i,j⟩
def NF(g:Gh):cP->Ending->Prop|.ret v,.returned x=>VR g v x|.aB v,.panicked b=>∃x,b=[{v:=x,recovered:=false}]/\VR g v x|_,_=>False
def dq(P:Program)(f:FuncId)(args:List AV)(h:AHeap)(out:cP)(h':AHeap):Prop:=∀(g:Gh)(w:World)(vs:List Value),W h g w->eC h g->aE g args vs->Calls P f vs.toArray w λe w'=>∃g',Step h g w h' g' w'/\W h' g' w'/\NF g' out e
def DI(P:Program)(f:FuncId)(args:List AV)(cm:bo)(h:AHeap)(out:cP)(aW:bo)(h':AHeap):Prop:=∀(g:Gh)(w:World)(vs:List Value)(u:FrameMode),W h g w->eC h g->aE g args vs->i7 g cm u->CallsD P f vs.toArray u w λe b w'=>∃g',Step h g w h' g' w'/\W h' g' w'/\(aW≠.none->i7 g' aW b)/\NF g' out e
def Kb(P:Program)(l:Nat)(args:List AV)(h:AHeap)(out:cP)(h':AHeap):Prop:=∀(g:Gh)(w:World)(vs:List Value)(b s n:Nat),W h g w->eC h g->aE g args vs->g.B l 0=some (b,s,n)->∃f tmps assign body,(Instr.yield b vs.toArray).run P w=.ok (.round b f tmps assign body) w/\∀(c:Frame)(cs:List Frame),∃g' w',Step h g w h' g' w'/\W h' g' w'/\(match out with|.ret v=>∃x,VR g' v x/\Steps P (lone (Frame.round b f tmps assign body .normal) (c::cs) w) (lone (c.finish x) cs w')|.aB v=>∃x,VR g' v x/\Steps P (lone (Frame.round b f tmps assign body .normal) (c::cs) w) (lone (c.raise [{v:=x,recovered:=false}]) cs w'))
def dH(P:Program)(m:Machine)(b:Frame)(k:List Item)(cs:List Frame)(g:Gh):bM->Act->World->Prop|.normal,a,w=>Steps P m (lone (aw b a k) cs w)|.exit id,a,w=>(∀e,exitTo id k=some e->Steps P m (lone (aw b a e) cs w))/\(exitTo id k=none->∃c,exitTo id c=none/\Steps P m (lone (aw b a (.code (.exit id)::c)) cs w))|.ret,a,w=>∃c,Steps P m (lone (aw b a (.code .ret::c)) cs w)|.panic v,a,w=>∃todo x,VR g v x/\Steps P m (lone {aw b a todo with mode:=.panicking [{v:=x,recovered:=false}]} cs w)
theorem dH.of_steps{P:Program}{m f:Machine}{b:Frame}{k:List Item}{cs:List Frame}{g:Gh}{ex:bM}{a:Act}{w:World}(h:Steps P m f)(h':dH P f b k cs g ex a w):dH P m b k cs g ex a w:=by cases ex with|normal=>exact h.trans h'|exit id=>exact⟨λi e=>h.trans (h'.1 i e),λe=>let⟨c,j,s⟩:=h'.2 e;⟨c,j,h.trans s⟩⟩|ret=>obtain⟨c,s⟩:=h';exact⟨c,h.trans s⟩|panic v=>obtain⟨t,x,hx,s⟩:=h';exact⟨t,x,hx,h.trans s⟩
def qS(P:Program)(cx:Ctx)(st:aD)(ex:bM)(ah:aD)(todo:List Item->List Item):Prop:=∀(g:Gh)(w:World)(b:Frame)(a:Act)(k:List Item)(cs:List Frame),W st.h g w->eC st.h g->lM g cx b->gW g cx.tn st a->gV g st.cm cs->∃g' w' a' aP,Step st.h g w ah.h g' w'/\W ah.h g' w'/\gW g' cx.tn ah a'/\kc st.cm cs aP/\gV g' ah.cm aP/\(st.cm=.none->ah.cm=.none)/\dH P (lone (aw b a (todo k)) cs w) b k aP g' ex a' w'
structure dS(P:Program)(R:Rec):Prop where
 call:∀f args h out aW h',R.call .normal f args .none h=some (out,aW,h')->dq P f args h out h'
 vR:∀f args cm h out aW h',cm≠.none->R.call .deferred f args cm h=some (out,aW,h')->DI P f args cm h out aW h'
 loop:∀body cx st ex ah,R.loop body cx st=some (ex,ah)->qS P cx st ex ah (λk=>.code body::.inLoop body::k)round:∀l args h out h',R.round l args h=some (out,h')->Kb P l args h out h'
section
variable {P:Program}{R:Rec}{g:Gh}{w:World}{cx:Ctx}{st ah:aD}{a:Act}
theorem gW.ev{tn:Nat}(h:gW g tn st a)(x:Operand):VR g (ev st.tm x) (a.eval x):=by
 cases x with
 |tmp t=>show VR g (match st.tm.get t with|some v=>v|none=>.aO) (a.tmps.getD t undef);cases b:st.tm.get t with|none=>exact .aO _|some v=>obtain⟨u,h1,h2⟩:=h.tm t v b;rw[Array.getD_eq_getD_getElem?,h1];exact h2
 |const v=>exact VR.bn v|global n=>exact .sc _|func f=>exact .sc _
theorem gW.put{tn:Nat}{dst:Option Tmp}{v:AV}{x:Value}(h:gW g tn st a)(hp:st.put tn dst v=some ah)(hv:VR g v x):gW g tn ah (a.put dst x):=by
 unfold aD.put at hp
 cases dst with
 |none=>simp only[ab]at hp;subst hp;exact h
 |some d=>
  simp only at hp
  split at hp
  .rename_i hd
   simp only[ab]at hp;subst hp
   refine⟨?_,by simp[Act.put,h.size],h.df⟩
   intro t y hy
   simp only at hy
   rw[Tr.p7]at hy
   simp only[Act.put]
   by_cases e:t=d
   .subst e;rw[if_pos rfl]at hy;simp only[ab]at hy;subst hy;exact⟨x,by simp[h.size,hd],hv⟩
   .rw[if_neg e]at hy;obtain⟨u,h1,h2⟩:=h.tm t y hy;exact⟨u,by rw[Array.getElem?_setIfInBounds_ne (Ne.symm e)];exact h1,h2⟩
  .cases hp
theorem du{tn:Nat}{dst:Option Tmp}{v:AV}(hp:st.put tn dst v=some ah):ah.h=st.h/\ah.cm=st.cm/\ah.df=st.df:=by
 unfold aD.put at hp
 cases dst with
 |none=>simp only[ab]at hp;subst hp;exact⟨rfl,rfl,rfl⟩
 |some d=>
  simp only at hp
  split at hp
  .simp only[ab]at hp;subst hp;exact⟨rfl,rfl,rfl⟩
  .cases hp
theorem HW{tn:Nat}{ops:Array Oper}{o:Oper}{b:Bool}(h:gW g tn st a)(hr:cE ops o st.tm=some b):Region.wanted o (yielded ops a.tmps)=b:=by
 unfold cE at hr
 unfold Region.wanted
 cases hg:o.guard with
 |none=>rw[hg]at hr;simpa using hr
 |some p=>
  obtain⟨j,want⟩:=p
  rw[hg]at hr
  simp only at hr⊢
  unfold yielded
  cases hd:(ops[j]?).bind (·.dst)with
  |none=>rw[hd]at hr;cases hr
  |some d=>
   rw[hd]at hr
   simp only at hr
   cases e:st.tm.get d with
   |none=>rw[e]at hr;cases hr
   |some v=>
    rw[e]at hr
    obtain⟨u,h1,h2⟩:=h.tm d v e
    simp only[Option.bind_some,h1]
    split at hr
    .rename_i q c;simp only[ab]at c;subst c;cases h2;simp at hr⊢;rw[<-hr];try(cases q<;>cases want<;>rfl)
    .rename_i q c;simp only[ab]at c;subst c;obtain⟨cs,rfl,_⟩:=VR.fZ.1 h2;simp at hr;subst hr;rfl
    .cases hr
theorem Qy{o:Oper}{b:Frame}{ρ:Operand->AV}{cm:bo}{h:AHeap}{r:wi}(hc:lM g cx b)(hr:dc P R cx ρ o cm h=some r):lr b o:=by
 cases i:cx.round with
 |none=>exact .inl (by have:=hc.round;rw[i]at this;exact this)
 |some l=>
  right
  intro c e
  unfold dc at hr
  cases f:aU P ρ o h with
  |none=>rw[f]at hr;cases hr
  |some p=>
   obtain⟨r',h2⟩:=p
   rw[f]at hr
   unfold aU at f
   rw[e]at f
   simp only[u2]at f
   split at f
   .split at f
    .simp only[ab,an]at f;obtain⟨rfl,rfl⟩:=f;simp[i]at hr
    .cases f
   .cases f
def U8(P:Program)(g:Gh)(w:World)(h:AHeap)(cm:bo)(b:Frame)(a:Act)(cs:List Frame)(ops:Array Oper)(i:Nat)(rest:List Nat)(k:List Item)(dst:Option Tmp):wi->Prop|.val v aW h'=>∃g' w' x aP,Step h g w h' g' w'/\W h' g' w'/\VR g' v x/\kc cm cs aP/\gV g' aW aP/\(cm=.none->aW=.none)/\Steps P (lone (aw b a (.inRegion ops (i::rest)::k)) cs w) (lone (aw b (a.put dst x) (.inRegion ops rest::k)) aP w')|.cf d h'=>h'=h/\∃d',tI g d d'/\Steps P (lone (aw b a (.inRegion ops (i::rest)::k)) cs w) (lone (aw b ({a with defers:=d'::a.defers}.put dst undef) (.inRegion ops rest::k)) cs w)|.aB v h'=>∃g' w' x todo,Step h g w h' g' w'/\W h' g' w'/\VR g' v x/\Steps P (lone (aw b a (.inRegion ops (i::rest)::k)) cs w) (lone {aw b a todo with mode:=.panicking [{v:=x,recovered:=false}]} cs w')
theorem VR.undef:VR g dZ undef:=VR.fZ.2 ⟨#[],rfl,trivial⟩
theorem C9{ops:Array Oper}{o:Oper}{i:Nat}{rest:List Nat}{k:List Item}{b:Frame}{cs:List Frame}{ρ:Operand->AV}{cm:bo}{h:AHeap}{r:wi}
 (hP:cZ P)(hR:dS P R)(hr:dc P R cx ρ o cm h=some r)(hw:W h g w)(hf:eC h g)(hc:lM g cx b)(B:∀x,VR g (ρ x) (a.eval x))(hm:gV g cm cs)
 (ho:ops[i]?=some o)(j:Region.wanted o (yielded ops a.tmps)=true):U8 P g w h cm b a cs ops i rest k o.dst r:=by
 have p:=Qy hc hr
 unfold dc at hr
 split at hr
 .rename_i v h2 m;simp only[ab]at hr;subst hr;obtain⟨g',w',x,h1,h3,h4,J⟩:=oL hP hw (hf h.next (ak _)) B m;exact⟨g',w',x,cs,J,h4,h3,.refl _ _,hm.mono J.le,id,.one (Cr ho j p h1)⟩
 .rename_i h2 m;simp only[ab]at hr;subst hr;obtain⟨g',w',h1,h4,J⟩:=oL hP hw (hf h.next (ak _)) B m;exact⟨g',w',undef,cs,J,h4,VR.undef,.refl _ _,hm.mono J.le,id,.one (Qb ho j p h1)⟩
 .rename_i d h2 m
  split at hr
  .cases hr
  .simp only[ab]at hr;subst hr;obtain⟨rfl,d',h1,h3⟩:=oL hP hw (hf h.next (ak _)) B m;exact⟨rfl,d',h3,.one (Qc ho j p h1)⟩
 .rename_i f args h2 m
  obtain⟨rfl,vs,h1,h3⟩:=oL hP hw (hf h.next (ak _)) B m
  split at hr
  .rename_i v aW h4 C;simp only[ab]at hr;subst hr;obtain⟨e,w',fr,⟨g',q1,q2,q3⟩,u,L,t⟩:=hR.call _ _ _ _ _ _ C g w vs hw hf h3 (aw b a (.inRegion ops (i::rest)::k)::cs);cases e with|returned x=>refine⟨g',w',x,cs,q1,q2,q3,.refl _ _,hm.mono q1.le,id,?_⟩;have z:=pS (b:=b) (a:=a) (k:=k) ops i rest x;rw[ho]at z;refine Steps.head (Hf ho j p h1) (Steps.trans u ?_);rw[<-show(aw b a (.inRegion ops (i::rest)::k)).finish x=aw b (a.put o.dst x) (.inRegion ops rest::k)from z];exact .one (step_leave_returned t)|panicked _=>exact q3.elim|outgrown=>exact q3.elim
  .rename_i v aW h4 C;simp only[ab]at hr;subst hr;obtain⟨e,w',fr,⟨g',q1,q2,q3⟩,u,L,t⟩:=hR.call _ _ _ _ _ _ C g w vs hw hf h3 (aw b a (.inRegion ops (i::rest)::k)::cs);cases e with|returned _=>exact q3.elim|panicked Q=>obtain⟨x,rfl,I⟩:=q3;refine⟨g',w',x,.inRegion ops (i::rest)::k,q1,q2,I,?_⟩;refine Steps.head (Hf ho j p h1) (Steps.trans u ?_);exact .one (step_leave_panicked t)|outgrown=>exact q3.elim
  .cases hr
 .rename_i l args h2 m
  obtain⟨rfl,N,s,n,vs,hB,h3,h1⟩:=oL hP hw (hf h.next (ak _)) B m
  split at hr
  .rename_i v h4 q;simp only[ab]at hr;subst hr;obtain⟨f,tmps,assign,body,hy,D⟩:=hR.round _ _ _ _ _ q g w vs N s n hw hf h3 hB;obtain⟨g',w',q1,q2,x,q3,I⟩:=D (aw b a (.inRegion ops (i::rest)::k)) cs;refine⟨g',w',x,cs,q1,q2,q3,.refl _ _,hm.mono q1.le,id,?_⟩;have z:=pS (b:=b) (a:=a) (k:=k) ops i rest x;rw[ho]at z;refine Steps.head (Hg ho j p (h1.trans hy)) ?_;rw[<-show(aw b a (.inRegion ops (i::rest)::k)).finish x=aw b (a.put o.dst x) (.inRegion ops rest::k)from z];exact I
  .rename_i v h4 q;simp only[ab]at hr;subst hr;obtain⟨f,tmps,assign,body,hy,D⟩:=hR.round _ _ _ _ _ q g w vs N s n hw hf h3 hB;obtain⟨g',w',q1,q2,x,q3,I⟩:=D (aw b a (.inRegion ops (i::rest)::k)) cs;exact⟨g',w',x,.inRegion ops (i::rest)::k,q1,q2,q3,Steps.head (Hg ho j p (h1.trans hy)) I⟩
  .cases hr
 .rename_i v h2 m;simp only[ab]at hr;subst hr;obtain⟨rfl,x,h1,h3⟩:=oL hP hw (hf h.next (ak _)) B m;exact⟨g,w,x,.inRegion ops (i::rest)::k,.refl _ _ _,hw,h3,.one (Qd ho j p h1)⟩
 .rename_i h2 m
  obtain⟨rfl,h1⟩:=oL hP hw (hf h.next (ak _)) B m
  split at hr
  .rename_i v hk F
   simp only[ab]at hr;subst hr
   have E:b.roundOf=none:=by have:=hc.round;rw[F]at this;exact this
   have G:b.kind=.deferred:=hc.kind.trans hk
   obtain⟨c,r',rfl,x,hx,hv⟩:=hm
   have eL:=GY (k:=k) (cs:=c::r') (rest:=rest) ho j p E h1
   have K:tryRecover (aw b a (.inRegion ops (i::rest)::k)) (c::r')=some (x,{c with mode:=.panicking [{v:=x,recovered:=true}]}::r'):=by unfold tryRecover;have M:(aw b a (.inRegion ops (i::rest)::k)).kind=.deferred:=G;rw[M];simp only[hx]
   rw[K]at eL;refine⟨g,w,x,{c with mode:=.panicking [{v:=x,recovered:=true}]}::r',.refl _ _ _,hw,hv,⟨(λe=>by cases e),.inr ⟨c,r',_,rfl,rfl⟩⟩,⟨_,r',rfl,x,rfl,hv⟩,(λe=>by cases e),.one eL⟩
  .rename_i hk F
   simp only[ab]at hr;subst hr
   have E:b.roundOf=none:=by have:=hc.round;rw[F]at this;exact this
   have G:b.kind=.deferred:=hc.kind.trans hk
   obtain⟨c,r',rfl,hx⟩:=hm
   have eL:=GY (k:=k) (cs:=c::r') (rest:=rest) ho j p E h1
   have K:tryRecover (aw b a (.inRegion ops (i::rest)::k)) (c::r')=none:=by unfold tryRecover;have M:(aw b a (.inRegion ops (i::rest)::k)).kind=.deferred:=G;have O:c.mode=.returning:=hx;rw[M];simp only[O]
   rw[K]at eL;exact⟨g,w,.nilIface,c::r',.refl _ _ _,hw,.sc _,.refl _ _,⟨c,r',rfl,hx⟩,(λe=>by cases e),.one eL⟩
  .cases hr
 .cases hr
end
end Go.AI
end

section
namespace Go.AI
section
variable {P:Program}{R:Rec}{cx:Ctx}
theorem Rf{ops:Array Oper}{o:Oper}{i:Nat}{rest:List Nat}{st ah:aD}{ex:bM}(hP:cZ P)(hR:dS P R)(ho:ops[i]?=some o)(hs:eS P R cx ops o st=some (ex,ah))
 {g:Gh}{w:World}{b:Frame}{a:Act}{k:List Item}{cs:List Frame}(hw:W st.h g w)(hf:eC st.h g)(hc:lM g cx b)(ha:gW g cx.tn st a)(hm:gV g st.cm cs):
 ∃g' w' a' aP,Step st.h g w ah.h g' w'/\W ah.h g' w'/\gW g' cx.tn ah a'/\kc st.cm cs aP/\gV g' ah.cm aP/\(st.cm=.none->ah.cm=.none)/\(match ex with|.normal=>Steps P (lone (aw b a (.inRegion ops (i::rest)::k)) cs w) (lone (aw b a' (.inRegion ops rest::k)) aP w')|.panic v=>∃todo x,VR g' v x/\Steps P (lone (aw b a (.inRegion ops (i::rest)::k)) cs w) (lone {aw b a' todo with mode:=.panicking [{v:=x,recovered:=false}]} aP w')|_=>False):=by
 unfold eS at hs
 split at hs
 .rename_i j
  have c:=HW ha j
  cases l:dc P R cx (ev st.tm) o st.cm st.h with
  |none=>rw[l]at hs;cases hs
  |some r=>
   rw[l]at hs
   have hk:=C9 (rest:=rest) (k:=k) hP hR l hw hf hc ha.ev hm ho c
   cases r with
   |val v aW h'=>simp only at hs;cases hp:aD.put {st with cm:=aW,h:=h'} cx.tn o.dst v with|none=>rw[hp]at hs;cases hs|some q=>rw[hp]at hs;simp only[Option.map_some,ab,an]at hs;obtain⟨rfl,rfl⟩:=hs;obtain⟨g',w',x,aP,q1,q2,q3,p,z,u,t⟩:=hk;obtain⟨f,e,n⟩:=du hp;simp only at f e n;refine⟨g',w',a.put o.dst x,aP,by rw[f];exact q1,by rw[f];exact q2,?_,p,by rw[e];exact z,by rw[e];exact u,t⟩;have m:gW g' cx.tn {st with cm:=aW,h:=h'} a:=⟨(ha.mono q1.le).tm,ha.size,(ha.mono q1.le).df⟩;exact m.put hp q3
   |cf d h'=>simp only at hs;cases hp:aD.put {st with h:=h',df:=d::st.df} cx.tn o.dst dZ with|none=>rw[hp]at hs;cases hs|some q=>rw[hp]at hs;simp only[Option.map_some,ab,an]at hs;obtain⟨rfl,rfl⟩:=hs;obtain⟨rfl,d',q1,q2⟩:=hk;obtain⟨f,e,n⟩:=du hp;simp only at f e n;refine⟨g,w,Act.put {a with defers:=d'::a.defers} o.dst undef,cs,by rw[f];exact .refl _ _ _,by rw[f];exact hw,?_,.refl _ _,by rw[e];exact hm,by rw[e];exact id,q2⟩;have m:gW g cx.tn {st with h:=st.h,df:=d::st.df} {a with defers:=d'::a.defers}:=⟨ha.tm,ha.size,q1,ha.df⟩;exact m.put hp VR.undef
   |aB v h'=>simp only[ab,an]at hs;obtain⟨rfl,rfl⟩:=hs;obtain⟨g',w',x,todo,q1,q2,q3,p⟩:=hk;exact⟨g',w',a,cs,q1,q2,⟨(ha.mono q1.le).tm,ha.size,(ha.mono q1.le).df⟩,.refl _ _,hm.mono q1.le,id,todo,x,q3,p⟩
 .rename_i j;have c:=HW ha j;cases hp:st.put cx.tn o.dst dZ with|none=>rw[hp]at hs;cases hs|some q=>rw[hp]at hs;simp only[Option.map_some,ab,an]at hs;obtain⟨rfl,rfl⟩:=hs;obtain⟨f,e,n⟩:=du hp;refine⟨g,w,a.put o.dst undef,cs,by rw[f];exact .refl _ _ _,by rw[f];exact hw,ha.put hp VR.undef,.refl _ _,by rw[e];exact hm,by rw[e];exact id,?_⟩;have:=GX (P:=P) (b:=b) (a:=a) (k:=k) (cs:=cs) (w:=w) (ops:=ops) (i:=i) (rest:=rest) (by simp[ho,c]);rw[ho]at this;exact .one this
 .cases hs
theorem Rg{ops:Array Oper}(hP:cZ P)(hR:dS P R):∀(n i:Nat)(st:aD)(ex:bM)(ah:aD),i+n=ops.size->gd P R cx ops (ops.toList.drop i) st=some (ex,ah)->
 qS P cx st ex ah (λk=>.inRegion ops (List.range' i n)::k):=by
 intro n
 induction n with
 |zero=>intro i st ex ah hn hr g w b a k cs hw hf hc ha hm;have:ops.toList.drop i=[]:=List.drop_eq_nil_of_le (by simp;omega);rw[this]at hr;simp only[gd,ab,an]at hr;obtain⟨rfl,rfl⟩:=hr;exact⟨g,w,a,cs,.refl _ _ _,hw,ha,.refl _ _,hm,id,.one GG⟩
 |succ n ih=>
  intro i st ex ah hn hr g w b a k cs hw hf hc ha hm
  have hi:i<ops.size:=by omega
  have ho:ops[i]?=some ops[i]:=by simp[hi]
  have hd:ops.toList.drop i=ops[i]::ops.toList.drop (i+1):=by rw[List.drop_eq_getElem_cons (by simpa using hi)];simp
  rw[hd]at hr;simp only[gd]at hr;cases hs:eS P R cx ops ops[i] st with|none=>rw[hs]at hr;cases hr|some p=>obtain⟨l,h⟩:=p;rw[hs]at hr;obtain⟨t,w1,u,f,q1,q2,q3,q,o,j,c⟩:=Rf (rest:=List.range' (i+1) n) (k:=k) hP hR ho hs hw hf hc ha hm;cases l with|normal=>simp only at hr c;obtain⟨g2,z,J,m,I,G,F,E,D,C,B⟩:=ih (i+1) h ex ah (by omega) hr t w1 b u k f q2 (hf.step q1) (hc.mono q1.le) q3 o;refine⟨g2,z,J,m,q1.trans hf I,G,F,q.trans j E,D,λe=>C (j e),?_⟩;exact dH.of_steps c B|panic v=>simp only[ab,an]at hr;obtain⟨rfl,rfl⟩:=hr;obtain⟨todo,x,h1,h2⟩:=c;exact⟨t,w1,u,f,q1,q2,q3,q,o,j,todo,x,h1,h2⟩|exit id=>exact c.elim|ret=>exact c.elim
theorem dH.pass{m:Machine}{b:Frame}{k c:List Item}{cs:List Frame}{g:Gh}{ex:bM}{a:Act}{w:World}(i:ex≠.normal)(hx:∀id,exitTo id c=exitTo id k)(h:dH P m b c cs g ex a w):dH P m b k cs g ex a w:=by cases ex with|normal=>exact absurd rfl i|exit id=>exact⟨λf e=>h.1 f (by rw[hx];exact e),λe=>h.2 (by rw[hx];exact e)⟩|ret=>exact h|panic v=>exact h
def Ls(P:Program)(R:Rec):Prop:=∀(cx:Ctx)(id:Nat)(ops:Array Oper)(st:aD)(ex:bM)(ah:aD),ot P R cx ops st=some (ex,ah)->qS P cx st ex ah (λk=>.code (.region id ops true)::k)
def Kc(P:Program)(R:Rec):Prop:=∀(cx:Ctx)(f:Operand)(params:Array Tmp)(assign body:Code)(st:aD)(ex:bM)(ah:aD),evalCode P R cx (.rangeFunc f params assign body) st=some (ex,ah)->qS P cx st ex ah (λk=>.code (.rangeFunc f params assign body)::k)
theorem Qe(hP:cZ P)(hR:dS P R)(X:Ls P R)(hF:Kc P R):∀(c:Code)(st:aD)(ex:bM)(ah:aD),evalCode P R cx c st=some (ex,ah)->qS P cx st ex ah (λk=>.code c::k):=by
 intro c
 induction c with
 |skip=>intro st ex ah hr g w b a k cs hw hf hc ha hm;simp only[evalCode,ab,an]at hr;obtain⟨rfl,rfl⟩:=hr;exact⟨g,w,a,cs,.refl _ _ _,hw,ha,.refl _ _,hm,id,.one Qw⟩
 |label l=>intro st ex ah hr g w b a k cs hw hf hc ha hm;simp only[evalCode,ab,an]at hr;obtain⟨rfl,rfl⟩:=hr;exact⟨g,w,a,cs,.refl _ _ _,hw,ha,.refl _ _,hm,id,.one Qa⟩
 |region id ops draw=>intro st ex ah hr;cases draw with|true=>simp only[evalCode,if_true]at hr;exact X cx id ops st ex ah hr|false=>simp only[evalCode,Bool.false_eq_true,if_false]at hr;intro g w b a k cs hw hf hc ha hm;obtain⟨g',w',a',aP,q1,q2,q3,o,n,m,j⟩:=Rg (ops:=ops) hP hR ops.size 0 st ex ah (by simp) (by simpa using hr) g w b a k cs hw hf hc ha hm;refine⟨g',w',a',aP,q1,q2,q3,o,n,m,dH.of_steps (.one PV) ?_⟩;rw[List.range_eq_range'];exact j
 |seq x y D C=>intro st ex ah hr g w b a k cs hw hf hc ha hm;simp only[evalCode]at hr;cases hx:evalCode P R cx x st with|none=>rw[hx]at hr;cases hr|some p=>obtain⟨u,z⟩:=p;rw[hx]at hr;obtain⟨q,w1,t,i,q1,q2,q3,o,n,m,j⟩:=D st u z hx g w b a (.code y::k) cs hw hf hc ha hm;cases u with|normal=>simp only at hr;obtain⟨g2,L,Y,I,U,T,S,Q,O,N,M⟩:=C z ex ah hr q w1 b t k i q2 (hf.step q1) (hc.mono q1.le) q3 n;exact⟨g2,L,Y,I,q1.trans hf U,T,S,o.trans m Q,O,λe=>N (m e),dH.of_steps (.head xR j) M⟩|exit id=>simp only[ab,an]at hr;obtain⟨rfl,rfl⟩:=hr;exact⟨q,w1,t,i,q1,q2,q3,o,n,m,dH.of_steps (.one xR) (dH.pass (by simp) (λ_=>rfl) j)⟩|ret=>simp only[ab,an]at hr;obtain⟨rfl,rfl⟩:=hr;exact⟨q,w1,t,i,q1,q2,q3,o,n,m,dH.of_steps (.one xR) (dH.pass (by simp) (λ_=>rfl) j)⟩|panic v=>simp only[ab,an]at hr;obtain⟨rfl,rfl⟩:=hr;exact⟨q,w1,t,i,q1,q2,q3,o,n,m,dH.of_steps (.one xR) (dH.pass (by simp) (λ_=>rfl) j)⟩
 |cond c x y D C=>
  intro st ex ah hr g w b a k cs hw hf hc ha hm
  simp only[evalCode]at hr
  have B:=ha.ev c
  split at hr
  .rename_i e;rw[e]at B;have hv:=VR.mc B;obtain⟨g',w',a',aP,q1,q2,q3,o,n,m,j⟩:=D st ex ah hr g w b a k cs hw hf hc ha hm;exact⟨g',w',a',aP,q1,q2,q3,o,n,m,dH.of_steps (.one (Hx hv)) j⟩
  .rename_i e;rw[e]at B;have hv:=VR.mc B;obtain⟨g',w',a',aP,q1,q2,q3,o,n,m,j⟩:=C st ex ah hr g w b a k cs hw hf hc ha hm;exact⟨g',w',a',aP,q1,q2,q3,o,n,m,dH.of_steps (.one (Hx hv)) j⟩
  .cases hr
 |block id body ih=>
  intro st ex ah hr g w b a k cs hw hf hc ha hm
  simp only[evalCode]at hr
  cases hx:evalCode P R cx body st with
  |none=>rw[hx]at hr;cases hr
  |some p=>
   obtain⟨u,z⟩:=p
   rw[hx]at hr
   obtain⟨q,w1,t,i,q1,q2,q3,o,n,m,j⟩:=ih st u z hx g w b a (.inBlock id::k) cs hw hf hc ha hm
   cases u with
   |normal=>simp only[ab,an]at hr;obtain⟨rfl,rfl⟩:=hr;exact⟨q,w1,t,i,q1,q2,q3,o,n,m,.head uk (Steps.trans j (.one PL))⟩
   |exit E=>
    simp only at hr
    split at hr
    .rename_i e;simp only[ab,an]at hr;obtain⟨rfl,rfl⟩:=hr;exact⟨q,w1,t,i,q1,q2,q3,o,n,m,.head uk (j.1 k (by simp[exitTo,e]))⟩
    .rename_i e
     simp only[ab,an]at hr
     obtain⟨rfl,rfl⟩:=hr
     have F:(id==E)=false:=by simp;exactλh=>e h.symm
     have hex:exitTo E (.inBlock id::k)=exitTo E k:=by simp[exitTo,F]
     refine⟨q,w1,t,i,q1,q2,q3,o,n,m,dH.of_steps (.one uk) ?_⟩;exact⟨λJ G=>j.1 J (by rw[hex];exact G),λG=>j.2 (by rw[hex];exact G)⟩|ret=>simp only[ab,an]at hr;obtain⟨rfl,rfl⟩:=hr;exact⟨q,w1,t,i,q1,q2,q3,o,n,m,dH.of_steps (k:=k) (.one uk) j⟩|panic v=>simp only[ab,an]at hr;obtain⟨rfl,rfl⟩:=hr;exact⟨q,w1,t,i,q1,q2,q3,o,n,m,dH.of_steps (k:=k) (ex:=.panic v) (.one uk) j⟩
 |loop body ih=>intro st ex ah hr g w b a k cs hw hf hc ha hm;simp only[evalCode]at hr;obtain⟨g',w',a',aP,q1,q2,q3,o,n,m,j⟩:=hR.loop body cx st ex ah hr g w b a k cs hw hf hc ha hm;exact⟨g',w',a',aP,q1,q2,q3,o,n,m,dH.of_steps (.one Qx) j⟩
 |exit id=>intro st ex ah hr g w b a k cs hw hf hc ha hm;simp only[evalCode,ab,an]at hr;obtain⟨rfl,rfl⟩:=hr;exact⟨g,w,a,cs,.refl _ _ _,hw,ha,.refl _ _,hm,λe=>e,λJ e=>.one (Hy e),λe=>⟨k,e,.refl _ _⟩⟩
 |scope body ih=>intro st ex ah hr g w b a k cs hw hf hc ha hm;simp only[evalCode]at hr;obtain⟨q,w1,t,i,q1,q2,q3,o,n,m,j⟩:=ih st ex ah hr g w b a (.inScope body::k) cs hw hf hc ha hm;refine⟨q,w1,t,i,q1,q2,q3,o,n,m,?_⟩;cases ex with|normal=>exact .head xB (Steps.trans j (.one PM))|exit id=>exact dH.of_steps (.one xB) (dH.pass (by simp) (λ_=>rfl) j)|ret=>exact dH.of_steps (k:=k) (.one xB) (dH.pass (by simp) (λ_=>rfl) j)|panic v=>exact dH.of_steps (k:=k) (.one xB) (dH.pass (by simp) (λ_=>rfl) j)
 |goto l=>intro st ex ah hr;simp[evalCode]at hr|ret=>intro st ex ah hr g w b a k cs hw hf hc ha hm;simp only[evalCode,ab,an]at hr;obtain⟨rfl,rfl⟩:=hr;exact⟨g,w,a,cs,.refl _ _ _,hw,ha,.refl _ _,hm,id,k,.refl _ _⟩|refuse K=>intro st ex ah hr;simp[evalCode]at hr|rangeFunc f params assign body W V=>intro st ex ah hr;exact hF cx f params assign body st ex ah hr
end
end Go.AI
end

section
namespace Go.AI
section
variable {P:Program}{R:Rec}{g:Gh}{w:World}{h:AHeap}
theorem Qz{t:TypeId}{x y:AV}{v:Value}(hw:W h g w)(hr:j5 P h t x=some y)(hx:VR g x v):
 ∃a u,v=.pointer (some a)/\(loadVar t a).run P w=.ok u w/\VR g y u:=by
 have hv:∃a,v=.pointer (some a):=by
  unfold j5 at hr
  split at hr
  .rename_i s _ _;cases b:jc h s x with|none=>rw[b]at hr;cases hr|some cs=>obtain⟨a,e,_⟩:=sq hw b hx;exact⟨a,e⟩
  .split at hr
   .rename_i b;obtain⟨a,e,_⟩:=sq hw b hx;exact⟨a,e⟩
   .cases hr
  .cases hr
 obtain⟨a,rfl⟩:=hv;obtain⟨u,h1,h2⟩:=C5 hw hr hx;refine⟨a,u,rfl,?_,h2⟩;simpa[Instr.loadAt,Instr.sureAddr]using h1
theorem TR.ev{tm:Tr AV}{tmps:Array Value}(b:TR g tm tmps)(t:Tmp):VR g (ev tm (.tmp t)) (tmps.getD t undef):=by show VR g (match tm.get t with|some v=>v|none=>.aO) (tmps.getD t undef);cases hg:tm.get t with|none=>exact .aO _|some v=>obtain⟨u,h1,h2⟩:=b t v hg;rw[Array.getD_eq_getD_getElem?,h1];exact h2
theorem Cs{fn:Func}{tm:Tr AV}{tmps:Array Value}{f:ResultVar->Sem Value}(j:∀t,f (.tmp t)=pure (tmps.getD t undef))(i:∀a t,f (.cell a t)=(do loadVar t (<-asAddr (tmps.getD a undef))))
 (hw:W h g w)(c:TR g tm tmps):∀{rs:List ResultVar}{xs:List AV},jU P fn tm h rs=some xs->∃vs:List Value,(rs.mapM f).run P w=.ok vs w/\aE g xs vs
 |[],xs,hr=>by simp[jU]at hr;subst hr;exact⟨[],by simp,trivial⟩
 |.tmp t::rs,xs,hr=>by simp only[jU]at hr;cases b:jU P fn tm h rs with|none=>rw[b]at hr;cases hr|some ys=>rw[b]at hr;simp only[ab]at hr;subst hr;obtain⟨vs,h1,h2⟩:=Cs j i hw c b;exact⟨_::vs,by simp only[List.mapM_cons,j,Sem.run_bind,Sem.run_pure,Result.andThen_ok,h1],c.ev t,h2⟩
 |.cell a t::rs,xs,hr=>by
  simp only[jU]at hr
  split at hr
  .rename_i y ys hl b;simp only[ab]at hr;subst hr;obtain⟨vs,h1,h2⟩:=Cs j i hw c b;obtain⟨k,u,e,h3,h4⟩:=Qz (P:=P) hw hl (c.ev a);refine⟨u::vs,?_,h4,h2⟩;simp only[List.mapM_cons,i,Sem.run_bind,e,show asAddr (.pointer (some k))=pure k from rfl,Sem.run_pure,Result.andThen_ok,h3,h1]
  .cases hr
theorem Tv{fn:Func}{tm:Tr AV}{tmps:Array Value}{v:AV}(hw:W h g w)(i:TR g tm tmps)(hr:lH P fn tm h=some v):∃x,(results fn tmps).run P w=.ok x w/\VR g v x:=by
 unfold lH at hr
 have key:∀xs,jU P fn tm h fn.results.toList=some xs->∃vs:List Value,(results fn tmps).run P w=.ok (if h:vs.toArray.size=1 then vs.toArray[0]else .tuple vs.toArray) w/\aE g xs vs:=by
  intro xs hx
  have b:∀f:ResultVar->Sem Value,(∀t,f (.tmp t)=pure (tmps.getD t undef))->(∀a t,f (.cell a t)=(do loadVar t (<-asAddr (tmps.getD a undef))))->∃vs:List Value,(do let vs<-fn.results.mapM f;pure (if h:vs.size=1 then vs[0]else .tuple vs):Sem Value).run P w=.ok (if h:vs.toArray.size=1 then vs.toArray[0]else .tuple vs.toArray) w/\aE g xs vs:=by intro f k j;obtain⟨vs,h1,h2⟩:=Cs k j hw i hx;refine⟨vs,?_,h2⟩;simp only[Array.mapM_eq_mapM_toList,bind_map_left,Sem.run_bind,h1,Result.andThen_ok,Sem.run_pure]
  exact b _ (λ_=>rfl) (λ_ _=>rfl)
 split at hr
 .rename_i x hx;simp only[ab]at hr;subst hr;obtain⟨vs,h1,h2⟩:=key _ hx;match vs,h2 with|[u],h2=>exact⟨u,by simpa using h1,h2.1⟩
 .rename_i xs c hx;simp only[ab]at hr;subst hr;obtain⟨vs,h1,h2⟩:=key _ hx;refine⟨.tuple vs.toArray,?_,VR.fZ.2 ⟨_,rfl,by simpa using h2⟩⟩;rw[h1,dif_neg];intro e;have hl:=h2.length;match xs,hl with|[x],_=>exact c x rfl|[],hl=>simp at e hl;rw[e]at hl;cases hl|_::_::_,hl=>simp at e hl;omega
 .cases hr
def Left(P:Program)(fn:Func)(g:Gh)(w:World)(fr:Frame):cP->Prop|.ret v=>fr.mode=.returning/\fr.defers=[]/\∃x,(results fn fr.tmps).run P w=.ok x w/\VR g v x|.aB v=>fr.defers=[]/\∃x,fr.mode=.panicking [{v:=x,recovered:=false}]/\VR g v x
theorem Rh{fr:Frame}{cs:List Frame}{bu:Nat}{ds:List Deferred}(hm:fr.mode≠.run)(hd:fr.defers={target:=.collected bu,args:=#[]}::ds)(hb:w.heap[bu]?=some (.deferred (some []))):
 step P (lone fr cs w)=.next (lone {fr with defers:=ds} cs (cS w bu (.deferred none))):=by
 have c:(Instr.takeDeferred bu).run P w=.ok [] (cS w bu (.deferred none)):=by unfold Instr.takeDeferred;simp only[Sem.run_bind,fY hb rfl,Result.andThen_ok,ld hb rfl,Sem.run_pure]
 refine step_lone_go ?_;cases b:fr.mode with|run=>exact absurd b hm|returning=>simp[stepG,unwind,b,hd,c]|panicking chain=>simp[stepG,unwind,b,hd,c]
theorem HX{fn:Func}{tm:Tr AV}(hP:cZ P)(hR:dS P R):∀(df:List ep)(m:bo)(h:AHeap)(out:cP)(h':AHeap),ct P R fn tm df m h=some (out,h')->
 ∀(g:Gh)(w:World)(fr:Frame)(cs:List Frame),W h g w->eC h g->P.funcs[fr.fn]?=some fn->i7 g m fr.mode->jA g df fr.defers->TR g tm fr.tmps->
 ∃g' w' i,Step h g w h' g' w'/\W h' g' w'/\i.kind=fr.kind/\i.fn=fr.fn/\i.roundOf=fr.roundOf/\Steps P (lone fr cs w) (lone i cs w')/\Left P fn g' w' i out:=by
 intro df
 induction df with
 |nil=>
  intro m h out h' hr g w fr cs hw hf C hm hd X
  have O:fr.defers=[]:=by cases hx:fr.defers with|nil=>rfl|cons _ _=>rw[hx]at hd;exact hd.elim
  cases m with
  |none=>exact hm.elim
  |ret=>simp only[ct]at hr;cases hv:lH P fn tm h with|none=>rw[hv]at hr;cases hr|some v=>rw[hv]at hr;simp only[Option.map_some,ab,an]at hr;obtain⟨rfl,rfl⟩:=hr;exact⟨g,w,fr,.refl _ _ _,hw,rfl,rfl,rfl,.refl _ _,hm,O,Tv hw X hv⟩
  |aB v r=>cases r with|true=>simp[ct]at hr|false=>simp only[ct,ab,an]at hr;obtain⟨rfl,rfl⟩:=hr;obtain⟨x,h1,h2⟩:=hm;exact⟨g,w,fr,.refl _ _ _,hw,rfl,rfl,rfl,.refl _ _,O,x,h1,h2⟩
 |cons d ds ih=>
  intro m h out h' hr g w fr cs hw hf C hm hd X
  have K:fr.mode≠.run:=by cases m with|none=>exact hm.elim|ret=>have:fr.mode=.returning:=hm;rw[this];simp|aB v r=>obtain⟨x,e,_⟩:=hm;rw[e];simp
  cases l:fr.defers with
  |nil=>rw[l]at hd;exact hd.elim
  |cons d' q=>
   rw[l]at hd
   obtain⟨N,M⟩:=hd
   cases d with
   |dK o=>
    obtain⟨bu,s,n,hB,rfl⟩:=N
    simp only[ct]at hr
    split at hr
    .rename_i hg;have t:=hw.obj o _ hg bu s n hB;have j:=kE (x':=.cf none) hw hg hB (w':=cS w bu (.deferred none)) rfl (by intro b' s' n' D;rw[hB]at D;simp only[ab,an]at D;obtain⟨rfl,rfl,rfl⟩:=D;exact iV (lt_of_heap t));obtain⟨g',w',i,q1,q2,q3,U,q5,q6,q7⟩:=ih m _ out h' hr g _ {fr with defers:=q} cs j.1 (hf.step j.2) C hm M X;exact⟨g',w',i,j.2.trans hf q1,q2,q3,U,q5,.head (Rh K l t) q6,q7⟩
    .cases hr
   |fn f captured args=>
    obtain⟨z,k,rfl,h1,h2⟩:=N
    cases f with
    |func f=>
     simp only[ct]at hr
     split at hr
     .rename_i f' E S Gl
      have Q:=Cq (vs:=k++z) hP hw (hf h.next (ak _)) (h2.append h1) Gl
      obtain⟨rfl,vs,I,rl⟩:=Q
      have L:(invoke (.fn (.func f) z.toArray) k.toArray).run P w=.ok (.enter f' vs.toArray) w:=by rw[<-I];simp[invoke]
      have eL:=step_defer (P:=P) (cs:=cs) K l rfl L
      have hmn:m≠.none:=by rintro rfl;exact hm.elim
      have key:∀(v:AV)(aW V:bo)(h3:AHeap),R.call .deferred f' E m S=some (.ret v,aW,h3)->ct P R fn tm ds V h3=some (out,h')->aW≠.none->(∀g u,i7 g aW u->i7 g V (settle u))->∃g' w' i,Step S g w h' g' w'/\W h' g' w'/\i.kind=fr.kind/\i.fn=fr.fn/\i.roundOf=fr.roundOf/\Steps P (lone fr cs w) (lone i cs w')/\Left P fn g' w' i out:=by intro v aW V h3 b B Z G;obtain⟨e,Y,w1,frX,⟨g1,q1,q2,q3,U⟩,p,hkX,hgo⟩:=hR.vR _ _ _ _ _ _ _ hmn b g w vs fr.mode hw hf rl hm {fr with defers:=q} cs rfl;cases e with|returned x=>have J:=step_going_returned (P:=P) (c:={{fr with defers:=q}with mode:=Y}) (cs:=cs) hkX hgo;obtain⟨g2,w2,fr2,r1,r2,r3,r4,r5,r6,r7⟩:=ih V h3 out h' B g1 w1 {{{fr with defers:=q}with mode:=Y}with mode:=settle Y} cs q2 (hf.step q1) C (G _ _ (q3 Z)) (M.mono q1.le) (X.mono q1.le);exact⟨g2,w2,fr2,q1.trans hf r1,r2,r3,r4,r5,.head eL (Steps.trans p (.head J r6)),r7⟩|panicked _=>exact U.elim|outgrown=>exact U.elim
      split at hr
      .rename_i v T h3 b;refine key v (.aB T true) .ret h3 b hr (by simp) λg u F=>?_;obtain⟨x,rfl,_⟩:=F;simp[settle,i7]
      .rename_i v T h3 b;refine key v (.aB T false) (.aB T false) h3 b hr (by simp) λg u F=>?_;obtain⟨x,rfl,hx⟩:=F;exact⟨x,by simp[settle],hx⟩
      .rename_i v h3 b;refine key v .ret .ret h3 b hr (by simp) λg u F=>?_;have:u=.returning:=F;subst this;simp[settle,i7]
      .cases hr
     .cases hr|_=>simp[ct]at hr
end
end Go.AI
end

section
namespace Go.AI
section
variable {P:Program}{R:Rec}{g:Gh}{w:World}{h:AHeap}
theorem pK:∀{xs:List AV},ej xs=true->∀(i:Nat)(x:AV),xs[i]?=some x->eQ x=true|[],_,i,x,hx=>by simp at hx|y::ys,b,0,x,hx=>by simp[ej]at b hx;subst hx;exact b.1|y::ys,b,i+1,x,hx=>by simp[ej]at b hx;exact pK b.2 i x hx
theorem VR.free{g g':Gh}(hm:∀b i v,g.M b i=some v->g'.M b i=some v){x:AV}{v:Value}(hr:VR g x v):eQ x=true->VR g' x v:=by induction hr with|aO v=>intro _;exact .aO v|sc v=>intro _;exact .sc v|ref _=>intro e;simp[eQ]at e|sl _ _ _ _=>intro e;simp[eQ]at e|cq a c=>intro _;exact .cq a c|cH f h1 _ ih=>intro e;simp[eQ]at e;exact .cH f (λi x hx=>hm _ _ _ (h1 i x hx)) (λi x hx=>ih i x hx (pK e i x hx))|b9 f h1 _ a b c ih=>intro e;simp[eQ]at e;exact .b9 f (λi x hx=>hm _ _ _ (h1 i x hx)) (λi x hx=>ih i x hx (pK e i x hx)) a b c|hU=>intro _;exact .hU|h9 a=>intro _;exact .h9 a|aG hl j _ ih=>intro _;exact .aG hl j (ih (by simp only[eQ];exact j))|map _=>intro e;simp[eQ]at e|func h1 _ h2 _ l k=>intro e;simp[eQ]at e;exact .func h1 (λi x v a b=>l i x v a b (pK e.1 i x a)) h2 (λi x v a b=>k i x v a b (pK e.2 i x a))|e9 _=>intro e;simp[eQ]at e|iface _ ih=>intro e;simp[eQ]at e;exact .iface (ih e)|agg h1 _ ih=>intro e;simp[eQ]at e;exact .agg h1 (λi x v a b=>ih i x v a b (pK e i x a))|tuple h1 _ ih=>intro e;simp[eQ]at e;exact .tuple h1 (λi x v a b=>ih i x v a b (pK e i x a))
theorem GL{floor o:Nat}(os:List Nat):∀{l:List Nat},o∈l->o∈sC l floor os:=by induction os with|nil=>intro l h;exact h|cons p os ih=>intro l h;exact ih (xP h)
theorem GI{floor o:Nat}(os:List Nat):∀{l:List Nat},o∈os->o<floor->o∈sC l floor os:=by
 induction os with
 |nil=>intro l h;cases h
 |cons p os ih=>
  intro l h hf
  rcases List.mem_cons.1 h with rfl|h
  .exact GL os (rp hf)
  .exact ih h hf
theorem W.congr{h':AHeap}(hw:W h g w)(b:∀o,h'.get o=h.get o):W h' g w:=⟨λo x hx=>hw.obj o x (by rw[<-b];exact hx),hw.dG,hw.inj,hw.ro,hw.gG,hw.gl⟩
theorem W.inner(hw:W h g w):W h.inner g w:=hw.congr λ_=>rfl
theorem eC.inner(hf:eC h g):eC h.inner g:=hf
theorem yd{h':AHeap}{g':Gh}{w':World}(hf:eC h g)(hs:Step h.inner g w h' g' w')(hw:W h' g' w'):Step h g w (h.outer h') g' w'/\W (h.outer h') g' w':=by
 refine⟨⟨hs.le,hs.bI,rfl,λo ho=>GL _ ho,?_,hs.ph,hs.gone,hs.je,hs.size,hs.dC,?_,hs.tape,hs.os,hs.out,hs.gz⟩,hw.congr λ_=>rfl⟩
 .intro o h1 h2 h3;exact hs.cb o h2 h2 λh4=>h3 (GI _ h4 h1)
 .intro b hb h1
  refine hs.fr b hb λo v s n e=>?_
  rcases h1 o v s n e with⟨h2,h3⟩|h2
  .refine .inl ⟨?_,λh4=>h3 (GI _ h4 h2)⟩
   rcases Nat.lt_or_ge o h.next with h4|h4
   .exact h4
   .rw[hf o h4 v]at e;cases e
  .exact .inr h2
theorem QA{h':AHeap}{g':Gh}{w':World}(hf:eC h g)(k:W h g w)(hs:Step h.inner g w h' g' w')(hw:W h' g' w')(l:h'.wr=[]):
 Step h g w h ⟨g.B,g'.M⟩ w'/\W h ⟨g.B,g'.M⟩ w':=by
 have j:g.Le ⟨g.B,g'.M⟩:=⟨λ_ _ _ e=>e,hs.le.m⟩
 have c:∀b,b<w.heap.size->w'.heap[b]?=w.heap[b]?:=by
  intro b hb
  refine hs.fr b hb λo v s n e=>.inl ⟨?_,by simp[l]⟩
  rcases Nat.lt_or_ge o h.next with h4|h4
  .exact h4
  .rw[hf o h4 v]at e;cases e
 have f:=k.same hs.size c;refine⟨⟨j,ak _,rfl,λ_ h=>h,λ_ _ _ _=>rfl,λ_ _ _=>rfl,λ_ _ h=>h,λ_ _ _ h=>.inl h,hs.size,λo v b s n e _=>⟨v,s,n,e⟩,λb hb _=>c b hb,hs.tape,hs.os,hs.out,hs.gz⟩,?_⟩;refine⟨λo x hx=>(f.obj o x hx).move j (λ_ _ e=>e) (λ_ _ _ _ _=>rfl),f.dG,f.inj,hw.ro,?_,hw.gl⟩;intro b i u hm o v s n e;exact hw.gG b i u hm o v s n (hs.le.b _ _ _ e)
theorem QB{kind:CallKind}{cm aW:bo}{r:Option (cP×AHeap)}{out:cP}{h2:AHeap}(hr:sj kind h cm r=some (out,aW,h2))(c:W h g w)(hf:eC h g):
 aW=cm/\∃h',r=some (out,h')/\∀(g':Gh)(w':World),Step h.inner g w h' g' w'->W h' g' w'->∃g2,Step h g w h2 g2 w'/\W h2 g2 w'/\(kind≠.normal->g2=g')/\(∀v x,(out=.ret v\/out=.aB v)->VR g' v x->VR g2 v x):=by
 unfold sj at hr
 split at hr
 .rename_i o h'
  split at hr
  .rename_i hc
   simp only[ab,an]at hr
   obtain⟨rfl,rfl,rfl⟩:=hr
   obtain⟨hk,f,b⟩:=hc
   refine⟨rfl,h',rfl,λg' w' hs hw=>?_⟩
   obtain⟨q1,q2⟩:=QA hf c hs hw (by simpa using f)
   refine⟨_,q1,q2,λhn=>absurd hk hn,?_⟩
   intro v x ho hx
   refine VR.free (g:=g') (g':=⟨g.B,g'.M⟩) (λ_ _ _ e=>e) hx ?_
   rcases ho with rfl|rfl
   .exact b
   .exact b
  .simp only[ab,an]at hr;obtain⟨rfl,rfl,rfl⟩:=hr;refine⟨rfl,h',rfl,λg' w' hs hw=>?_⟩;obtain⟨q1,q2⟩:=yd hf hs hw;exact⟨g',q1,q2,λ_=>rfl,λv x _ hx=>hx⟩
 .cases hr
theorem Ct:∀(xs:List AV)(i:Nat)(t:Tr AV)(k:Nat),(hO xs i t).get k=if i<=k/\k<i+xs.length then xs[k-i]? else t.get k
 |[],i,t,k=>by simp[hO];intro h1 h2;omega
 |x::xs,i,t,k=>by
  simp only[hO]
  rw[Ct xs (i+1) (t.put i x) k]
  by_cases h1:k=i
  .subst h1;rw[if_neg (by omega),if_pos (by simp),Tr.bS];simp
  .rw[Tr.a8 _ _ h1]
   by_cases h2:i+1<=k/\k<i+1+xs.length
   .rw[if_pos h2,if_pos (by simp;omega),show k-i=(k-(i+1))+1 by omega];simp
   .rw[if_neg h2,if_neg (by simp;omega)]
theorem Kd{args:List AV}{vs:List Value}{n:Nat}(hv:aE g args vs):TR g (hO args 0 .leaf) (vs.toArray++Array.replicate (n-vs.toArray.size) undef):=by
 intro t x hx
 rw[Ct]at hx
 split at hx
 .rename_i hc
  simp only[Nat.sub_zero]at hx
  have b:t<vs.length:=by rw[<-hv.length];omega
  refine⟨vs[t],?_,hv.get t x vs[t] hx (by simp[b])⟩;rw[Array.getElem?_append_left (by simpa using b)];simp[b]
 .simp[Tr.get]at hx
theorem HY{b:Frame}{a:Act}{cs:List Frame}(hn:b.roundOf=none):step P (lone (aw b a []) cs w)=.next (lone {aw b a []with mode:=.returning} cs w):=step_lone_go (by simp[stepG,stepG.exec,aw,hn])
theorem HZ{b:Frame}{a:Act}{k:List Item}{cs:List Frame}(hn:b.roundOf=none):step P (lone (aw b a (.code .ret::k)) cs w)=.next (lone {aw b a (.code .ret::k)with mode:=.returning} cs w):=step_lone_go (by simp[stepG,stepG.exec,aw,hn])
def nA(P:Program)(R:Rec):Prop:=∀(cx:Ctx)(c:Code)(st:aD)(ex:bM)(ah:aD),evalCode P R cx c st=some (ex,ah)->qS P cx st ex ah (λk=>.code c::k)
theorem Ke{kind:CallKind}{f:FuncId}{fn:Func}{code:Code}{args:List AV}{cm:bo}{out:cP}{aW:bo}{h2:AHeap}(hP:cZ P)(hR:dS P R)(Z:nA P R)
 (l:P.funcs[f]?=some fn)(c:fn.body=some code)(hr:pX P R kind f args cm h=some (out,aW,h2)){vs:List Value}(hw:W h g w)(hf:eC h g)(hv:aE g args vs){cs:List Frame}(hm:gV g cm cs):
 ∃g2 w' fr aP,Step h g w h2 g2 w'/\W h2 g2 w'/\kc cm cs aP/\(cm=.none->aW=.none)/\(kind≠.normal->gV g2 aW aP)/\Steps P (lone (Frame.enter P f vs.toArray kind) cs w) (lone fr aP w')/\fr.fn=f/\fr.kind=kind/\Left P fn g2 w' fr out:=by
 have i:Frame.enter P f vs.toArray kind=aw {(default:Frame)with fn:=f,kind:=kind} {tmps:=vs.toArray++Array.replicate (fn.ntmps-vs.toArray.size) undef,defers:=[]} [.code code]:=by simp[Frame.enter,aw,l,c];rfl
 unfold pX at hr
 simp only[l,c]at hr
 have hlen:vs.length=args.length:=hv.length.symm
 have q:gW g (max fn.ntmps args.length) {tm:=hO args 0 .leaf,df:=[],cm,h:=h.inner} {tmps:=vs.toArray++Array.replicate (fn.ntmps-vs.toArray.size) undef,defers:=[]}:=⟨Kd hv,by simp;omega,trivial⟩
 cases B:evalCode P R {fn:=f,tn:=max fn.ntmps args.length,kind,round:=none} code {tm:=hO args 0 .leaf,df:=[],cm,h:=h.inner}with
 |none=>rw[B]at hr;cases hr
 |some p=>
  obtain⟨ex,st⟩:=p
  rw[B]at hr
  obtain⟨I,w1,K,n,q1,q2,q3,Y,X,V,j⟩:=Z _ _ _ _ _ B g w {(default:Frame)with fn:=f,kind:=kind} _ [] cs hw.inner hf.inner ⟨rfl,rfl,rfl⟩ q hm
  rw[<-i]at j
  have fin:∀(m:bo)(b:Frame),sj kind h st.cm (ct P R fn st.tm st.df m st.h)=some (out,aW,h2)->Steps P (lone (Frame.enter P f vs.toArray kind) cs w) (lone b n w1)->i7 I m b.mode->b.fn=f->b.kind=kind->b.defers=K.defers->b.tmps=K.tmps->∃g2 w' fr aP,Step h g w h2 g2 w'/\W h2 g2 w'/\kc cm cs aP/\(cm=.none->aW=.none)/\(kind≠.normal->gV g2 aW aP)/\Steps P (lone (Frame.enter P f vs.toArray kind) cs w) (lone fr aP w')/\fr.fn=f/\fr.kind=kind/\Left P fn g2 w' fr out:=by intro m b o e k J e2 e3 e4;obtain⟨rfl,h3,hl,hk⟩:=QB o hw hf;obtain⟨g2,D,C,G,U,T,S,_,Q,F⟩:=HX hP hR _ _ _ _ _ hl I w1 b n q2 (hf.inner.step q1) (by rw[J];exact l) k (by rw[e3];exact q3.df) (by rw[e4];exact q3.tm);obtain⟨g3,O,N,M,E⟩:=hk g2 D (q1.trans hf.inner G) U;refine⟨g3,D,C,n,O,N,Y,V,λhn=>by rw[M hn];exact X.mono G.le,Steps.trans e Q,by rw[S,J],by rw[T,e2],?_⟩;cases out with|ret v=>obtain⟨z,u,x,t,L⟩:=F;exact⟨z,u,x,t,E v x (.inl rfl) L⟩|aB v=>obtain⟨z,x,u,t⟩:=F;exact⟨z,x,u,E v x (.inr rfl) t⟩
  cases ex with|normal=>exact fin .ret _ hr (Steps.trans j (.one (HY rfl))) rfl rfl rfl rfl rfl|ret=>obtain⟨k2,j⟩:=j;exact fin .ret _ hr (Steps.trans j (.one (HZ rfl))) rfl rfl rfl rfl rfl|panic v=>obtain⟨todo,x,hx,j⟩:=j;exact fin (.aB v false) _ hr j ⟨x,rfl,hx⟩ rfl rfl rfl rfl|exit id=>cases hr
theorem Hh{kind:CallKind}{f:FuncId}{args:List AV}{cm:bo}{r:cP×bo×AHeap}(hr:pX P R kind f args cm h=some r):∃fn code,P.funcs[f]?=some fn/\fn.body=some code:=by
 unfold pX at hr
 split at hr
 .rename_i fn b
  split at hr
  .rename_i code hb;exact⟨fn,code,b,hb⟩
  .cases hr
 .cases hr
theorem Tw{f:FuncId}{args:List AV}{out:cP}{aW:bo}{h2:AHeap}(hP:cZ P)(hR:dS P R)(o:nA P R)(hr:pX P R .normal f args .none h=some (out,aW,h2)):dq P f args h out h2:=by intro g w vs hw hf hv cs;obtain⟨fn,code,b,hb⟩:=Hh hr;obtain⟨g2,w',fr,aP,q1,q2,q3,q,p,l,c,n,k⟩:=Ke hP hR o b hb hr hw hf hv (cs:=cs) trivial;obtain rfl:aP=cs:=q3.1 rfl;cases out with|ret v=>obtain⟨j,i,x,e,m⟩:=k;exact⟨.returned x,w',fr,⟨g2,q1,q2,m⟩,l,c,j,i,n,fn,by rw[c];exact b,e⟩|aB v=>obtain⟨j,x,i,e⟩:=k;exact⟨.panicked _,w',fr,⟨g2,q1,q2,x,rfl,e⟩,l,c,i,j,fn,by rw[c];exact b⟩
theorem R9{f:FuncId}{args:List AV}{cm:bo}{out:cP}{aW:bo}{h2:AHeap}(hP:cZ P)(hR:dS P R)(J:nA P R)(hn:cm≠.none)(hr:pX P R .deferred f args cm h=some (out,aW,h2)):
 DI P f args cm h out aW h2:=by
 intro g w vs u hw hf hv hm c cs E
 obtain⟨fn,code,j,hb⟩:=Hh hr
 have q:gV g cm (c::cs):=by cases cm with|none=>exact absurd rfl hn|ret=>exact⟨c,cs,rfl,by rw[E];exact hm⟩|aB v b=>exact⟨c,cs,rfl,by rw[E];exact hm⟩
 obtain⟨g2,w',fr,aP,q1,q2,q3,L,I,D,C,B,z⟩:=Ke hP hR J j hb hr hw hf hv (cs:=c::cs) q
 have i:=I (by simp)
 have eY:∃m,aP={c with mode:=m}::cs:=by
  rcases q3.2 with e|⟨c',r,m,F,K⟩
  .exact⟨c.mode,by rw[e]⟩
  .simp only[List.cons.injEq]at F;obtain⟨rfl,rfl⟩:=F;exact⟨m,K⟩
 obtain⟨m,rfl⟩:=eY
 have k:aW≠.none->i7 g2 aW m:=by intro p;cases aW with|none=>exact absurd rfl p|ret=>obtain⟨c',r,e,t⟩:=i;simp only[List.cons.injEq]at e;obtain⟨rfl,rfl⟩:=e;exact t|aB v b=>obtain⟨c',r,e,t⟩:=i;simp only[List.cons.injEq]at e;obtain⟨rfl,rfl⟩:=e;exact t
 cases out with|ret v=>obtain⟨o,n,x,l,G⟩:=z;exact⟨.returned x,m,w',fr,⟨g2,q1,q2,k,G⟩,D,B,o,n,fn,by rw[C];exact j,l⟩|aB v=>obtain⟨o,x,n,l⟩:=z;exact⟨.panicked _,m,w',fr,⟨g2,q1,q2,k,x,rfl,l⟩,D,B,n,o,fn,by rw[C];exact j⟩
theorem Kf{body:Code}{cx:Ctx}{st ah:aD}{ex:bM}(hR:dS P R)(I:nA P R)(hr:nf P R body cx st=some (ex,ah)):qS P cx st ex ah (λk=>.code body::.inLoop body::k):=by intro g w b a k cs hw hf hc ha hm;unfold nf at hr;cases hx:evalCode P R cx body st with|none=>rw[hx]at hr;cases hr|some p=>obtain⟨q,o⟩:=p;rw[hx]at hr;obtain⟨m,w1,n,c,q1,q2,q3,l,j,f,i⟩:=I _ _ _ _ _ hx g w b a (.inLoop body::k) cs hw hf hc ha hm;cases q with|normal=>simp only at hr;obtain⟨g2,u,J,t,G,F,E,D,C,B,z⟩:=hR.loop body cx o ex ah hr m w1 b n k c q2 (hf.step q1) (hc.mono q1.le) q3 j;exact⟨g2,u,J,t,q1.trans hf G,F,E,l.trans f D,C,λe=>B (f e),dH.of_steps (Steps.trans i (.one PU)) z⟩|exit id=>simp only[ab,an]at hr;obtain⟨rfl,rfl⟩:=hr;exact⟨m,w1,n,c,q1,q2,q3,l,j,f,dH.pass (by simp) (λ_=>rfl) i⟩|ret=>simp only[ab,an]at hr;obtain⟨rfl,rfl⟩:=hr;exact⟨m,w1,n,c,q1,q2,q3,l,j,f,dH.pass (by simp) (λ_=>rfl) i⟩|panic v=>simp only[ab,an]at hr;obtain⟨rfl,rfl⟩:=hr;exact⟨m,w1,n,c,q1,q2,q3,l,j,f,dH.pass (by simp) (λ_=>rfl) i⟩
end
end Go.AI
end

section
namespace Go.AI
section
variable {P:Program}{R:Rec}{g:Gh}{w:World}{h:AHeap}
theorem G5{tn:Nat}:∀{ps:List Tmp}{args:List AV}{vs:List Value}{tm bL:Tr AV}{tmps:Array Value},lX tn ps args tm=some bL->aE g args vs->tmps.size=tn->TR g tm tmps->
 ps.length=vs.length/\((ps.zip vs).foldl (λ(tmps:Array Value)(p:Tmp×Value)=>tmps.setIfInBounds p.1 p.2) tmps).size=tn/\TR g bL ((ps.zip vs).foldl (λ(tmps:Array Value)(p:Tmp×Value)=>tmps.setIfInBounds p.1 p.2) tmps)
 |[],[],[],tm,bL,tmps,hr,_,hs,f=>by simp only[lX,ab]at hr;subst hr;exact⟨rfl,by simpa using hs,by simpa using f⟩
 |p::ps,x::xs,v::vs,tm,bL,tmps,hr,hv,hs,f=>by
  simp only[lX]at hr
  split at hr
  .rename_i hp
   have b:TR g (tm.put p x) (tmps.setIfInBounds p v):=by
    intro t y hy
    rw[Tr.p7]at hy
    by_cases e:t=p
    .subst e;rw[if_pos rfl]at hy;simp only[ab]at hy;subst hy;exact⟨v,by simp[hs,hp],hv.1⟩
    .rw[if_neg e]at hy;obtain⟨u,h1,h2⟩:=f t y hy;exact⟨u,by rw[Array.getElem?_setIfInBounds_ne (Ne.symm e)];exact h1,h2⟩
   obtain⟨q1,q2,q3⟩:=G5 hr hv.2 (by simp[hs]) b;exact⟨by simp[q1],by simpa using q2,by simpa using q3⟩
  .cases hr|[],x::xs,_,_,_,_,hr,_,_,_=>by simp[lX]at hr|p::ps,[],_,_,_,_,hr,_,_,_=>by simp[lX]at hr|[],[],v::vs,_,_,_,_,hv,_,_=>hv.elim|p::ps,x::xs,[],_,_,_,_,hv,_,_=>hv.elim
theorem Pa{b:Frame}{a:Act}{k:List Item}{cs:List Frame}{l:Nat}{w':World}(hb:b.roundOf=some l)(hr:(Instr.beginRound l).run P w=.ok () w'):step P (lone (aw b a (.beginRound::k)) cs w)=.next (lone (aw b a k) cs w'):=step_lone_go (by simp[stepG,stepG.exec,stepG.apply,aw,hb,Sem.runT_eq,hr,Result.andThen,Frame.finish])
variable {c:Frame}
theorem Pk{b:Frame}{a:Act}{cs:List Frame}{l:Nat}{v:Value}{w':World}(hb:b.roundOf=some l)(hk:b.kind=.normal)(hr:(Instr.endRound l none).run P w=.ok v w'):step P (lone (aw b a []) (c::cs) w)=.next (lone (c.finish v) cs w'):=step_lone_go (by simp[stepG,stepG.exec,aw,hb,hk,Sem.runT_eq,hr,doReturn])
theorem Pm{b:Frame}{a:Act}{k:List Item}{cs:List Frame}{l:Nat}{v:Value}{w':World}(hb:b.roundOf=some l)(hk:b.kind=.normal)(hr:(Instr.endRound l (some .ret)).run P w=.ok v w'):step P (lone (aw b a (.code .ret::k)) (c::cs) w)=.next (lone (c.finish v) cs w'):=step_lone_go (by simp[stepG,stepG.exec,aw,hb,hk,Sem.runT_eq,hr,doReturn])
theorem Pb{b:Frame}{a:Act}{k:List Item}{cs:List Frame}{l id:Nat}{v:Value}{w':World}(hb:b.roundOf=some l)(hk:b.kind=.normal)(hx:exitTo id k=none)(hr:(Instr.endRound l (some (.exit id))).run P w=.ok v w'):step P (lone (aw b a (.code (.exit id)::k)) (c::cs) w)=.next (lone (c.finish v) cs w'):=step_lone_go (by simp[stepG,stepG.exec,aw,hb,hk,hx,Sem.runT_eq,hr,doReturn])
theorem PW{fr:Frame}{cs:List Frame}{b:List PanicEntry}{fn:Func}(hm:fr.mode=.panicking b)(hd:fr.defers=[])(hf:P.funcs[fr.fn]?=some fn):step P (lone fr (c::cs) w)=.next (lone (c.raise b) cs w):=step_lone_go (by simp[stepG,unwind,hm,hd,Frame.catches,hf])
theorem Ck{l:Nat}{jump:Option Code}{out:cP}{h':AHeap}(hw:W h g w)(hr:rK l jump h=some (out,h')){e s n:Nat}(hB:g.B l 0=some (e,s,n)):
 out=.ret (.sc (.bool jump.isNone))/\∃w',(Instr.endRound e jump).run P w=.ok (.bool jump.isNone) w'/\W h' g w'/\Step h g w h' g w':=by
 unfold rK at hr
 split at hr
 .rename_i st iC fn tn tm ps assign body dd hg
  simp only[ab,an]at hr
  obtain⟨rfl,rfl⟩:=hr
  obtain⟨tmps,f,s',n',h1,h2,h3,h4⟩:=hw.obj l _ hg e s n hB
  refine⟨rfl,cS w e (.loop {state:=if jump.isNone then .ready else .done,pending:=jump,fn,tmps,params:=ps.toArray,assign,body,defers:=f}),?_,?_⟩
  .unfold Instr.endRound Instr.getLoop;simp only[Sem.run_bind,fY h1 rfl,Result.andThen_ok,ld h1 rfl,Sem.run_pure]
  .exact kE hw hg hB rfl (by intro b' i n1 b;rw[hB]at b;simp only[ab,an]at b;obtain⟨rfl,rfl,rfl⟩:=b;exact⟨tmps,f,s',n',iV (lt_of_heap h1),h2,h3,h4⟩)
 .cases hr
theorem IV{l:Nat}{args:List AV}{out:cP}{h':AHeap}(hE:nA P R)(hr:pW P R l args h=some (out,h')):Kb P l args h out h':=by
 intro g w vs o s n hw hf hv hB
 unfold pW at hr
 split at hr
 .rename_i di iC fn tn tm ps assign body dd hg
  obtain⟨tmps,db,s',n',h1,h2,h3,h4⟩:=hw.obj l _ hg o s n hB
  split at hr
  .cases hr
  .rename_i bL W
   obtain⟨p1,p2,p3⟩:=G5 W hv h2 h3
   refine⟨fn,(ps.zip vs).foldl (λ(tmps:Array Value)(p:Tmp×Value)=>tmps.setIfInBounds p.1 p.2) tmps,assign,body,?_,?_⟩
   .unfold Instr.yield Instr.getLoop;simp only[Sem.run_bind,fY h1 rfl,Result.andThen_ok,Sem.run_pure];rw[if_neg (by simp[p1])];simp
   .intro c cs
    have m:Frame.round o fn ((ps.zip vs).foldl (λ(tmps:Array Value)(p:Tmp×Value)=>tmps.setIfInBounds p.1 p.2) tmps) assign body .normal=aw {(default:Frame)with fn:=fn,kind:=.normal,roundOf:=some o} {tmps:=(ps.zip vs).foldl (λ(tmps:Array Value)(p:Tmp×Value)=>tmps.setIfInBounds p.1 p.2) tmps,defers:=[]} [.code assign,.beginRound,.code body]:=rfl
    generalize(ps.zip vs).foldl (λ(tmps:Array Value)(p:Tmp×Value)=>tmps.setIfInBounds p.1 p.2) tmps=C at p2 p3 m⊢
    simp only at hr
    split at hr
    .rename_i st he
     obtain⟨g1,w1,a1,cs1,q1,q2,q3,q4,q5,q6,q7⟩:=hE _ _ _ _ _ he g w {(default:Frame)with fn:=fn,kind:=.normal,roundOf:=some o} {tmps:=C,defers:=[]} [.beginRound,.code body] (c::cs) hw hf ⟨rfl,rfl,o,s,n,hB,rfl⟩ ⟨p3,p2,trivial⟩ trivial
     obtain rfl:cs1=c::cs:=q4.1 rfl
     rw[<-m]at q7
     split at hr
     .rename_i p z M N u e i S Q
      have q:=q1.le.b _ _ _ hB
      obtain⟨j,G,s1,n1,T,r2,r3,r4⟩:=q2.obj l _ Q o s n q
      have hbr:(Instr.beginRound o).run P w1=.ok () (cS w1 o (.loop {state:=.busy,pending:=p,fn:=z,tmps:=j,params:=u.toArray,assign:=e,body:=i,defers:=G})):=by unfold Instr.beginRound Instr.getLoop;simp only[Sem.run_bind,fY T rfl,Result.andThen_ok,ld T rfl,Sem.run_pure]
      have O:=kE (x':=.loop .busy p z M N u e i S) q2 Q q (w':=cS w1 o (.loop {state:=.busy,pending:=p,fn:=z,tmps:=j,params:=u.toArray,assign:=e,body:=i,defers:=G})) rfl (by intro b' s2 n2 E;rw[q]at E;simp only[ab,an]at E;obtain⟨rfl,rfl,rfl⟩:=E;exact⟨j,G,s1,n1,iV (lt_of_heap T),r2,r3,r4⟩)
      have B:=q1.trans hf O.2
      have f:=Steps.trans q7 (.one (Pa (P:=P) rfl hbr))
      cases hx:evalCode P R {fn:=fn,tn:=tn,kind:=.normal,round:=some l} body {st with h:=st.h.aQ l (.loop .busy p z M N u e i S)}with
      |none=>rw[hx]at hr;cases hr
      |some pr=>
       obtain⟨ex,Om⟩:=pr
       rw[hx]at hr
       obtain⟨g2,w2,a2,w8,t1,t2,t3,t4,t5,t6,t⟩:=hE _ _ _ _ _ hx g1 _ {(default:Frame)with fn:=fn,kind:=.normal,roundOf:=some o} a1 [] (c::cs) O.1 (hf.step B) ⟨rfl,rfl,o,s,n,q,rfl⟩ ⟨q3.tm,q3.size,q3.df⟩ q5
       obtain rfl:w8=c::cs:=t4.1 (q6 rfl)
       have F:=t1.le.b _ _ _ q
       have k:=B.trans hf t1
       cases ex with
       |normal=>obtain⟨rfl,I,L,K,J⟩:=Ck (P:=P) t2 hr F;exact⟨g2,I,k.trans hf J,K,_,.sc _,Steps.trans f (Steps.trans t (.one (Pk rfl rfl L)))⟩
       |ret=>obtain⟨rfl,I,L,K,J⟩:=Ck (P:=P) t2 hr F;obtain⟨k2,t⟩:=t;exact⟨g2,I,k.trans hf J,K,_,.sc _,Steps.trans f (Steps.trans t (.one (Pm rfl rfl L)))⟩
       |exit id=>obtain⟨rfl,I,L,K,J⟩:=Ck (P:=P) t2 hr F;obtain⟨k2,X,t⟩:=t.2 rfl;exact⟨g2,I,k.trans hf J,K,_,.sc _,Steps.trans f (Steps.trans t (.one (Pb rfl rfl X L)))⟩
       |panic v=>
        obtain⟨todo,x,U,t⟩:=t
        simp only at hr
        split at hr
        .rename_i fn' Z Y
         simp only[ab,an]at hr
         obtain⟨rfl,rfl⟩:=hr
         have D:=t3.df
         rw[Z]at D
         have hd0:a2.defers=[]:=by cases V:a2.defers with|nil=>rfl|cons _ _=>rw[V]at D;exact D.elim
         exact⟨g2,w2,k,t2,x,U,Steps.trans f (Steps.trans t (.one (PW rfl hd0 Y)))⟩
        .cases hr
     .cases hr
    .cases hr
 .cases hr
end
end Go.AI
end

section
namespace Go.AI
section
variable {P:Program}{R:Rec}
theorem O6{w:World}(fn:FuncId)(tmps:Array Value)(ps:Array Tmp)(assign body:Code):
 (Instr.enterLoop fn tmps ps assign body none).run P w=.ok (w.heap.size+1,[{target:=.collected w.heap.size,args:=#[]}]) (gx (gx w (.deferred (some []))) (.loop {state:=.ready,pending:=none,fn,tmps,params:=ps,assign,body,defers:=w.heap.size})):=by
 unfold Instr.enterLoop
 have hn:∀(w:World)(o:Obj),(newObj o).run P w=.ok w.heap.size (gx w o):=λw o=>by simp[newObj,gx,Sem.run]
 simp only[Sem.run_bind,hn,Result.andThen_ok,Sem.run_pure,xI]
theorem Pn{b:Frame}{a:Act}{k:List Item}{cs:List Frame}{f:Operand}{ps:Array Tmp}{assign body:Code}{l:Nat}{mark:List Deferred}{w e c:World}{h g:FuncId}{first captured args:Array Value}
 (o:(Instr.enterLoop b.fn a.tmps ps assign body b.roundOf).run P w=.ok (l,mark) e)(hv:a.eval f=.func (.func h) first captured)
 (i:(callFunc h (first++#[.func (.yield l) #[] #[]]++captured)).run P e=.ok (.enter g args) c):
 step P (lone (aw b a (.code (.rangeFunc f ps assign body)::k)) cs w)=.next (lone (Frame.enter P g args .normal) (aw b {a with defers:=mark++a.defers} (.inRangeFunc l::k)::cs) c):=by
 refine step_lone_go ?_
 have j:=C8 b {a with defers:=mark++a.defers} (.inRangeFunc l::k)
 simp only[aw]at j
 have m:({tmps:=a.tmps,defers:=mark++a.defers}:Act).eval f=.func (.func h) first captured:=by rw[<-hv];cases f<;>rfl
 have n:Sem.run P (do let d<-resolve ({tmps:=a.tmps,defers:=mark++a.defers}:Act).eval {callee:=.value f,args:=#[.const (.func (.yield l) #[] #[])],argTypes:=#[]} 0;invoke d.target d.args) e=.ok (.enter g args) c:=by simp only[resolve,m,Deferred.ofValue,Sem.run_bind,Sem.run_pure,Result.andThen_ok,invoke];rw[<-i];simp[Act.eval]
 simp only[stepG,stepG.exec,aw,Sem.runT_eq,o,GStep.bare_after,stepG.apply,j,n];rfl
theorem Pr{b:Frame}{a:Act}{k:List Item}{cs:List Frame}{l:Nat}{jump:Option Code}{w w':World}(hr:(Instr.endLoop l).run P w=.ok jump w'):step P (lone (aw b a (.endRangeFunc l::k)) cs w)=.next (lone (aw b a ((jump.map Item.code).toList++k)) cs w'):=step_lone_go (by simp[stepG,stepG.exec,aw,Sem.runT_eq,hr,GStep.bare_after])
theorem Sa(hP:cZ P)(hR:dS P R):Kc P R:=by
 intro cx f params assign body st ex ah hr g w b a k cs hw hf hc ha hm
 simp only[evalCode]at hr
 split at hr
 .cases hr
 .rename_i F
  have hrn:b.roundOf=none:=by have:=hc.round;rw[F]at this;exact this
  have h1:=p0 (x:=.cf (some [])) (s:=0) (n:=0) hw (hf st.h.next (ak _)) (w':=gx w (.deferred (some []))) rfl (by intro b' s' n' l;rw[Gh.iy]at l;simp only[ab,an]at l;obtain⟨rfl,rfl,rfl⟩:=l;exact lg _ _)
  have I:=hf.step h1.2
  have T:(g.er st.h.next 0 (w.heap.size,0,0)).B st.h.next 0=some (w.heap.size,0,0):=Gh.iy _ _ _ _
  generalize hg1:g.er st.h.next 0 (w.heap.size,0,0)=g1 at h1 I T
  have h2:=p0 (x:=.loop .ready none cx.fn cx.tn st.tm params.toList assign body st.h.next) (s:=0) (n:=0) h1.1 (I _ (ak _)) (w':=gx (gx w (.deferred (some []))) (.loop {state:=.ready,pending:=none,fn:=cx.fn,tmps:=a.tmps,params,assign,body,defers:=w.heap.size})) rfl (by intro b' s' n' l;rw[Gh.iy]at l;simp only[ab,an]at l;obtain⟨rfl,rfl,rfl⟩:=l;refine⟨a.tmps,w.heap.size,0,0,?_,ha.size,(ha.tm.mono h1.2.le).mono (Gh.l7 (I _ (ak _) 0)),(Gh.l7 (I _ (ak _) 0)).b _ _ _ T⟩;rw[lg])
  have S:(g1.er (st.h.alloc (.cf (some []))).next 0 ((gx w (.deferred (some []))).heap.size,0,0)).B (st.h.next+1) 0=some (w.heap.size+1,0,0):=by rw[show(st.h.alloc (.cf (some []))).next=st.h.next+1 from rfl,xI,Gh.iy]
  have O:=h2.2.le.b _ _ _ T
  generalize g1.er (st.h.alloc (.cf (some []))).next 0 ((gx w (.deferred (some []))).heap.size,0,0)=g2 at h2 S O
  have t:=h1.2.trans hf h2.2
  have G:=hf.step t
  generalize Yk:gx (gx w (.deferred (some []))) (.loop {state:=.ready,pending:=none,fn:=cx.fn,tmps:=a.tmps,params,assign,body,defers:=w.heap.size})=V at h2 t
  generalize((st.h.alloc (.cf (some []))).alloc (.loop .ready none cx.fn cx.tn st.tm params.toList assign body st.h.next))=hA at h2 t G hr
  have Yl:(Instr.enterLoop b.fn a.tmps params assign body b.roundOf).run P w=.ok (w.heap.size+1,[{target:=.collected w.heap.size,args:=#[]}]) V:=by rw[hrn,hc.fn,O6,Yk]
  split at hr
  .rename_i On first captured Gm
   obtain⟨z,m,hv,hv1,hv2⟩:=DH (ha.ev f) Gm
   split at hr
   .rename_i Ym args hA' Gl
    have Yn:VR g2 (.e9 (st.h.next+1)) (.func (.yield (w.heap.size+1)) #[] #[]):=.e9 S
    have rl:aE g2 (first++[.e9 (st.h.next+1)]++captured) (z.toList++[.func (.yield (w.heap.size+1)) #[] #[]]++m.toList):=((hv1.mono t.le).append (show aE g2 [.e9 (st.h.next+1)] [.func (.yield (w.heap.size+1)) #[] #[]]from⟨Yn,trivial⟩)).append (hv2.mono t.le)
    have Yo:=Cq hP h2.1 (G _ (ak _)) rl Gl
    obtain⟨rfl,vs,FV,K⟩:=Yo
    have M:(callFunc On (z++#[.func (.yield (w.heap.size+1)) #[] #[]]++m)).run P V=.ok (.enter Ym vs.toArray) V:=by rw[<-FV];exact congrArg (λv=>Sem.run P (callFunc On v) V) (by apply Array.ext';simp)
    have eL:=Pn (b:=b) (a:=a) (k:=k) (cs:=cs) Yl hv M
    split at hr
    .rename_i rv aW h3 u
     obtain⟨e,X,fr,⟨W,q1,q2,q3⟩,p,Yp,o⟩:=hR.call _ _ _ _ _ _ u g2 V vs h2.1 G K (aw b {a with defers:=[{target:=.collected w.heap.size,args:=#[]}]++a.defers} (.inRangeFunc (w.heap.size+1)::k)::cs)
     cases e with
     |panicked _=>exact q3.elim
     |outgrown=>exact q3.elim
     |returned x=>
      split at hr
      .rename_i ls iC J Y Z D a1 b1 Oo Oq
       split at hr
       .cases hr
       .rename_i N
        have Q:=q1.le.b _ _ _ S
        have Yq:=q1.le.b _ _ _ O
        obtain⟨q,U,s1,n1,r1,r2,r3,r4⟩:=q2.obj _ _ Oq _ _ _ Q
        have Yr:(Instr.endLoop (w.heap.size+1)).run P X=.ok iC (cS X (w.heap.size+1) (.loop {state:=.exhausted,pending:=iC,fn:=J,tmps:=q,params:=D.toArray,assign:=a1,body:=b1,defers:=U})):=by unfold Instr.endLoop Instr.getLoop;simp only[Sem.run_bind,fY r1 rfl,Result.andThen_ok,Sem.run_pure];rw[if_neg N];simp only[Sem.run_bind,ld r1 rfl,Result.andThen_ok,Sem.run_pure]
        have E:=kE (x':=.loop .exhausted iC J Y Z D a1 b1 Oo) q2 Oq Q (w':=cS X (w.heap.size+1) (.loop {state:=.exhausted,pending:=iC,fn:=J,tmps:=q,params:=D.toArray,assign:=a1,body:=b1,defers:=U})) rfl (by intro b' s2 n2 l;rw[Q]at l;simp only[ab,an]at l;obtain⟨rfl,rfl,rfl⟩:=l;exact⟨q,U,s1,n1,iV (lt_of_heap r1),r2,r3,r4⟩);have j:=t.trans hf q1;have L:=j.trans hf E.2;have i:=Steps.head eL (Steps.trans p (.head (step_leave_returned o) (.one (Pr (b:=b) (a:={a with defers:=[{target:=.collected w.heap.size,args:=#[]}]++a.defers}) (k:=k) (cs:=cs) Yr))));have C:gW W cx.tn {st with h:=h3.aQ (st.h.next+1) (.loop .exhausted iC J Y Z D a1 b1 Oo),df:=.dK st.h.next::st.df} {a with defers:=[{target:=.collected w.heap.size,args:=#[]}]++a.defers}:=⟨ha.tm.mono j.le,ha.size,⟨w.heap.size,0,0,Yq,rfl⟩,ha.df.mono j.le⟩;cases iC with|none=>simp only[ab,an]at hr;obtain⟨rfl,rfl⟩:=hr;exact⟨W,_,_,cs,L,E.1,C,.refl _ _,hm.mono j.le,id,i⟩|some c=>cases c with|exit id=>simp only[ab,an]at hr;obtain⟨rfl,rfl⟩:=hr;exact⟨W,_,_,cs,L,E.1,C,.refl _ _,hm.mono j.le,λe=>e,λk' e=>Steps.trans i (.one (Hy e)),λe=>⟨k,e,i⟩⟩|ret=>simp only[ab,an]at hr;obtain⟨rfl,rfl⟩:=hr;exact⟨W,_,_,cs,L,E.1,C,.refl _ _,hm.mono j.le,λe=>e,k,i⟩|_=>simp at hr
      .cases hr
    .rename_i v aW h3 u;simp only[ab,an]at hr;obtain⟨rfl,rfl⟩:=hr;obtain⟨e,X,fr,⟨W,q1,q2,q3⟩,p,Yp,o⟩:=hR.call _ _ _ _ _ _ u g2 V vs h2.1 G K (aw b {a with defers:=[{target:=.collected w.heap.size,args:=#[]}]++a.defers} (.inRangeFunc (w.heap.size+1)::k)::cs);cases e with|returned _=>exact q3.elim|outgrown=>exact q3.elim|panicked ch=>obtain⟨x,rfl,q4⟩:=q3;have j:=t.trans hf q1;refine⟨W,X,{a with defers:=[{target:=.collected w.heap.size,args:=#[]}]++a.defers},cs,j,q2,⟨ha.tm.mono j.le,ha.size,⟨w.heap.size,0,0,q1.le.b _ _ _ O,rfl⟩,ha.df.mono j.le⟩,.refl _ _,hm.mono j.le,λe=>e,.inRangeFunc (w.heap.size+1)::k,x,q4,?_⟩;exact Steps.head eL (Steps.trans p (.one (step_leave_panicked o)))
    .cases hr
   .cases hr
  .cases hr
end
end Go.AI
end

section
namespace Go.AI
section
variable {P:Program}{h h':AHeap}{g:Gh}{w:World}
def dr(P:Program)(h:AHeap)(g:Gh)(w:World)(s:Sem Next)(r:dJ)(h':AHeap):Prop:=h'.next=h.next->match r with|.val v=>∃x,s.run P w=.ok (.value x) w/\VR g v x|_=>True
theorem dr.same{s:Sem Next}{v:AV}{x:Value}(_:W h g w)(hr:s.run P w=.ok (.value x) w)(hv:VR g v x):dr P h g w s (.val v) h:=λ_=>⟨x,hr,hv⟩
theorem ju{s:Sem Value}{b:Option AV}{r:dJ}(hw:W h g w)(e:val h b=some (r,h'))(hs:∀v,b=some v->∃x,s.run P w=.ok x w/\VR g v x):dr P h g w (do pure (.value (<-s))) r h':=by unfold val at e;cases b with|none=>cases e|some v=>simp only[Option.map_some,ab,an]at e;obtain⟨rfl,rfl⟩:=e;obtain⟨x,h1,h2⟩:=hs v rfl;exact dr.same hw (by simp[h1]) h2
theorem Tx{s:Sem Next}{q:Option (AV×AHeap)}{r:dJ}(hr:(q.map λ(x:AV×AHeap)=>(dJ.val x.1,x.2))=some (r,h'))(hk:∀v h2,q=some (v,h2)->dr P h g w s (.val v) h2):dr P h g w s r h':=by cases q with|none=>cases hr|some x=>obtain⟨v,h2⟩:=x;simp only[Option.map_some,ab,an]at hr;obtain⟨rfl,rfl⟩:=hr;exact hk v h2 rfl
def nS:Builtin->Bool|.len|.cap|.min|.max|.unsafeSliceData=>true|_=>false
theorem PX{src dst:TypeId}{x r:AV}{v:Value}(hw:W h g w)(hx:VR g x v)(hr:gP P h src dst x=some (r,h')):
 dr P h g w (do pure (.value (<-convert src dst v))) (.val r) h':=by
 unfold gP at hr
 split at hr
 .rename_i e hs hd
  split at hr
  .rename_i n J hn E
   split at hr
   .rename_i l G
    cases z:jt l with
    |none=>rw[z]at hr;cases hr
    |some bs=>
     rw[z]at hr
     simp only[Option.map_some,ab,an]at hr
     obtain⟨rfl,rfl⟩:=hr
     obtain⟨vs,q1,q2,q3⟩:=uy (P:=P) hw hx G
     obtain⟨D,I,K⟩:=xA z q1
     have q3:=q3 w.drawn
     have B:∃a c,v=.slice a n c:=by
      unfold ft at hn
      split at hn
      .cases hx;simp at hn;subst hn;exact⟨_,_,rfl⟩
      .cases hx;simp at hn;subst hn;exact⟨_,_,rfl⟩
      .cases hx with|hU=>simp at hn;subst hn;exact⟨_,_,rfl⟩|h9 _=>simp at hn;subst hn;exact⟨_,_,rfl⟩|aG _ _ _=>simp at hn;subst hn;exact⟨_,_,rfl⟩
      .cases hx;simp at hn;subst hn;exact⟨_,_,rfl⟩
      .cases hx;simp at hn;subst hn;exact⟨_,_,rfl⟩
      .simp[mE]at E
      .cases hn
     obtain⟨a,c,rfl⟩:=B
     refine dr.same hw (x:=.string ⟨bs.toArray⟩) ?_ (.sc _)
     simp only[Sem.run_bind]
     rw[run_convert_bytes_string w src dst e a n c hs J hd]
     cases a with
     |none=>
      simp only[Builtin.firstCells,Sem.run_pure,Result.ok.injEq,and_true]at q3
      have:vs=[]:=by simpa using q3.symm
      rw[this]at I
      have:D=[]:=by simpa using I.symm
      subst this
      subst K
      simp[Conv.bytesToString]
      rfl|some a=>have hl:(loadCells a n).run P w=.ok (D.map (Value.int .u8)).toArray w:=by rw[<-I];have:(Builtin.firstCells 1 n (.slice (some a) n c)).run P w=(loadCells a (n*1)).run P w:=rfl;rw[Nat.mul_one]at this;rw[<-this];exact q3
                  rw[run_bytesToString w a n c D hl,foldl_push_bytes,K,show ByteArray.empty.data=#[]from rfl,Array.empty_append];rfl
   .cases hr
  .cases hr
 .rename_i e hs hd
  split at hr
  .rename_i s J
   split at hr
   .simp only[ab,an]at hr;obtain⟨rfl,rfl⟩:=hr;intro hn;simp[AHeap.alloc]at hn
   .cases hr
  .cases hr
 .rename_i t hs hd
  split at hr
  .rename_i o ad n off k j
   split at hr
   .rename_i cs m
    simp only[ab,an]at hr
    obtain⟨rfl,rfl⟩:=hr
    have i:=hx
    cases hx with
    |ref hB=>
     rename_i b L
     obtain⟨v',M,c',fz,el,ex,sh,_,ca,f,hk,F⟩:=yb hw m hB
     refine dr.same hw (x:=.pointer (some ⟨b,off,none⟩)) ?_ i
     have h1:¬ca.size<=off:=by have:=hk.lQ;have:=hk.size;omega
     simp[convert,run_underlying hs,run_underlying hd,Conv.unsafePointer,xJ hk.here,cellsIn,rX hk.here,run_sizeOf j,h1]
   .cases hr
  .simp only[ab,an]at hr;obtain⟨rfl,rfl⟩:=hr;cases hx;refine dr.same hw (x:=.pointer none) ?_ (.sc _);simp[convert,run_underlying hs,run_underlying hd,Conv.unsafePointer]
  .cases hr
 .rename_i hs hd
  split at hr
  .simp only[ab,an]at hr;obtain⟨rfl,rfl⟩:=hr;have i:=hx;cases hx with|ref hB=>refine dr.same hw ?_ i;simp[convert,run_underlying hs,run_underlying hd,Conv.unsafePointer]
  .simp only[ab,an]at hr;obtain⟨rfl,rfl⟩:=hr;cases hx;refine dr.same hw (x:=.pointer none) ?_ (.sc _);simp[convert,run_underlying hs,run_underlying hd,Conv.unsafePointer]
  .cases hr
 .rename_i u hs hd
  split at hr
  .rename_i o ad n off k j
   split at hr
   .rename_i cs R S Q N O bN m C
    split at hr
    .rename_i p
     simp only[ab,an]at hr
     obtain⟨rfl,rfl⟩:=hr
     have i:=hx
     cases hx with
     |ref hB=>
      rename_i b L
      obtain⟨v',M,c',fz,el,ex,sh,q,ca,f,hk,F⟩:=yb hw m hB
      rw[C]at q
      simp only[ab,b7.cells.injEq]at q
      obtain⟨rfl,rfl,rfl,rfl,rfl,rfl,rfl⟩:=q
      refine dr.same hw (x:=.pointer (some ⟨b,off,none⟩)) ?_ i
      have eY:ca.size=Q.length:=by rw[hk.size,hk.exact rfl]
      simp[convert,run_underlying hs,run_underlying hd,Conv.unsafePointer,xJ hk.here,variablesAt,rX hk.here,run_sizeOf j,eY,p]
    .cases hr
   .cases hr
  .simp only[ab,an]at hr;obtain⟨rfl,rfl⟩:=hr;cases hx;refine dr.same hw (x:=.pointer none) ?_ (.sc _);simp[convert,run_underlying hs,run_underlying hd,Conv.unsafePointer]
  .cases hr
 .split at hr
  .rename_i v' hv;cases hp:bW P (convert src dst v')with|none=>rw[hp]at hr;cases hr|some u=>rw[hp]at hr;simp only[Option.map_some,ab,an]at hr;obtain⟨rfl,rfl⟩:=hr;rw[pZ hv hx];exact dr.same hw (by simp[l3 hp w]) (VR.bn u)
  .cases hr
 .cases hr
theorem PY{b:Builtin}{f:Array TypeId}{ty:TypeId}{cs:Array Bool}{xs:List AV}{vs:List Value}{r:dJ}(hw:W h g w)(hv:aE g xs vs)
 (hb:nS b=true)(hr:iW P h b f ty xs=some (r,h')):dr P h g w (builtin b f ty cs vs.toArray) r h':=by
 unfold iW at hr
 split at hr
 .simp[nS]at hb
 .simp[nS]at hb
 .rename_i x
  obtain⟨u,rfl,j⟩:=oA rfl hv
  split at hr
  .rename_i t h0;refine ju (s:=Builtin.len_ f ty #[u]) hw hr λv e=>?_;cases hl:qG P h t x with|none=>rw[hl]at e;cases e|some n=>rw[hl]at e;simp at e;subst e;exact⟨_,Lq hw h0 j hl,.sc _⟩
  .cases hr
 .rename_i x
  obtain⟨u,rfl,j⟩:=oA rfl hv
  split at hr
  .rename_i t h0;refine ju (s:=Builtin.cap_ f ty #[u]) hw hr λv e=>?_;cases hl:wh P t x with|none=>rw[hl]at e;cases e|some n=>rw[hl]at e;simp at e;subst e;exact⟨_,Lr h0 j hl,.sc _⟩
  .cases hr
 .simp[nS]at hb
 .simp[nS]at hb
 .simp[nS]at hb
 .simp[nS]at hb
 .split at hr
  .rename_i us i
   split at hr
   .rename_i u hp;simp only[ab,an]at hr;obtain⟨rfl,rfl⟩:=hr;rw[rG i hv];exact dr.same hw (l3 hp w) (VR.bn u)
   .cases hr
  .cases hr
 .split at hr
  .rename_i us i
   split at hr
   .rename_i u hp;simp only[ab,an]at hr;obtain⟨rfl,rfl⟩:=hr;rw[rG i hv];exact dr.same hw (l3 hp w) (VR.bn u)
   .cases hr
  .cases hr
 .obtain⟨u,rfl,j⟩:=oA rfl hv
  have l:builtin .unsafeSliceData f ty cs [u].toArray=(do pure (.value (<-Builtin.unsafeSliceData_ f ty #[u]))):=rfl
  rw[l]
  split at hr
  .simp only[ab,an]at hr;obtain⟨rfl,rfl⟩:=hr;cases j;exact dr.same hw (x:=.pointer none) rfl (.sc _)
  .split at hr
   .rename_i hc
    simp only[ab,an]at hr
    obtain⟨rfl,rfl⟩:=hr
    cases j with
    |sl hB p1 p2 p3=>
     rename_i o ad n off sz len cap b s c
     have p:c≠0:=by
      rcases hc with hc|hc
      .omega
      .cases cap with|none=>simp[mf]at hc|some k=>have:=p3 k rfl;simp[mf]at hc;omega
     refine dr.same hw (x:=.pointer (some ⟨b,off,none⟩)) ?_ (.ref hB);have m:Builtin.unsafeSliceData_ f ty #[.slice (some ⟨b,off,none⟩) len c]=(do if c≠0 then pure (.pointer (some ⟨b,off,none⟩))else if(<-viewAt b).isSome then pure (.pointer (some ⟨b,off,none⟩))else pure (.pointer (some ⟨<-newObj (.view ⟨b,off,none⟩ (<-elemOf ty)),0,none⟩))):=rfl;rw[m];simp[p]
   .cases hr
  .cases hr
 .simp[nS]at hb
 .cases hr
theorem Sb{ρ:Operand->AV}{aI:Operand->Value}{o:Oper}{r:dJ}(hF:bT o.op=true)(hw:W h g w)(j:∀x,VR g (ρ x) (aI x))
 (hr:aU P ρ o h=some (r,h')):dr P h g w (execOp aI o) r h':=by
 obtain⟨dst,op,type,pos,after,guard⟩:=o
 cases op<;>first|(simp[bT]at hF;done)|skip
 all_goals(try simp only[aU]at hr)
 all_goals(try simp only[execOp])
 case move x=>simp only[ab,an]at hr;obtain⟨rfl,rfl⟩:=hr;exact dr.same hw rfl (j x)
 case assign x=>simp only[ab,an]at hr;obtain⟨rfl,rfl⟩:=hr;exact dr.same hw rfl (j x)
 case pick c a b=>
  have hc:=j c
  split at hr
  .rename_i t z;simp only[ab,an]at hr;obtain⟨rfl,rfl⟩:=hr;rw[z]at hc;have hv:aI c=.bool t:=VR.mc hc;rw[hv];cases t with|true=>exact dr.same hw rfl (j a)|false=>exact dr.same hw rfl (j b)
  .cases hr
 case build t parts=>exact ju hw hr λv e=>IJ e (by rw[Array.toList_map];exact mb.map j _)
 case load t a=>exact ju hw hr λv e=>C5 hw e (j a)
 case nilCheck x=>
  have hx:=j x
  split at hr
  .rename_i k;simp only[ab,an]at hr;obtain⟨rfl,rfl⟩:=hr;have m:=hx;rw[k]at hx;cases hv:aI x with|pointer p=>rw[hv]at hx m;cases hx;exact dr.same hw rfl m|_=>rw[hv]at hx;cases hx
  .rename_i k;simp only[ab,an]at hr;obtain⟨rfl,rfl⟩:=hr;have m:=hx;rw[k]at hx;cases hv:aI x with|pointer p=>rw[hv]at hx m;cases hx;exact dr.same hw rfl m|_=>rw[hv]at hx;cases hx
  .rename_i f a c k;simp only[ab,an]at hr;obtain⟨rfl,rfl⟩:=hr;rw[k]at hx;obtain⟨a',c',hv,h1,h2⟩:=VR.uI.1 hx;rw[hv];exact dr.same hw rfl (by rw[<-hv];exact hx)
  .rename_i l k;simp only[ab,an]at hr;obtain⟨rfl,rfl⟩:=hr;rw[k]at hx;cases hv:aI x with|func fn a C=>rw[hv]at hx;have m:=hx;cases hx;exact dr.same hw rfl m|_=>rw[hv]at hx;cases hx
  .rename_i f a c k;simp only[ab,an]at hr;obtain⟨rfl,rfl⟩:=hr;rw[k]at hx;have hv:aI x=.func (.func f) a c:=VR.mc hx;rw[hv];exact dr.same hw rfl (.sc _)
  .rename_i t v k;simp only[ab,an]at hr;obtain⟨rfl,rfl⟩:=hr;rw[k]at hx;cases hv:aI x with|iface t' u=>rw[hv]at hx;have m:=hx;cases hx;exact dr.same hw rfl m|_=>rw[hv]at hx;cases hx
  .cases hr
 case binOp op xt x y yt=>exact ju hw hr λv e=>Lo (j x) (j y) e
 case unOp op xt x=>
  split at hr
  .rename_i v hv;rw[pZ hv (j x)];exact ju hw hr λv e=>DG e
  .cases hr
 case convert s d x=>exact Tx hr λv h2 e=>PX hw (j x) e
 case makeInterface t x=>
  split at hr
  .cases hr
  .rename_i d hd q
   simp only[ab,an]at hr
   obtain⟨rfl,rfl⟩:=hr
   refine dr.same hw ?_ (.iface (j x))
   have:(Instr.makeInterface t (aI x)).run P w=.ok (.iface t (aI x)) w:=by unfold Instr.makeInterface;simp only[Sem.run_bind,run_underlying q,Result.andThen_ok];cases d<;>first|(exact absurd rfl (hd _))|rfl
   simp[this]
  .cases hr
 case makeFunc fn first captured=>simp only[ab,an]at hr;obtain⟨rfl,rfl⟩:=hr;exact dr.same hw rfl (VR.uI.2 ⟨_,_,rfl,aE.ops j _,aE.ops j _⟩)
 case slice t x lo hi mx=>exact ju hw hr λv e=>IM (j x) (kb.map j lo) (kb.map j hi) (kb.map j mx) e
 case fieldAddr s x f=>exact ju hw hr λv e=>G1 (j x) e
 case field t x f=>exact ju hw hr λv e=>IG (j x) e
 case indexAddr t x i=>exact ju hw hr λv e=>G2 (j x) (j i) e
 case index t x i=>exact ju hw hr λv e=>II (j x) (j i) e
 case lookup t x i ok=>exact ju hw hr λv e=>HT hw (j x) (j i) e
 case typeAssert x xt a ok=>exact ju hw hr λv e=>HV (j x) e
 case extract t i=>
  have hx:=j t
  split at hr
  .rename_i vs k
   rw[k]at hx
   obtain⟨us,hv,h1⟩:=VR.fZ.1 hx
   rw[hv]
   refine ju hw hr λv e=>?_
   have hi:i<us.size:=by
    have:=h1.length
    have h2:i<vs.length:=by
     rcases Nat.lt_or_ge i vs.length with h'|h'
     .exact h'
     .rw[List.getElem?_eq_none h']at e;cases e
    simp at this;omega
   refine⟨us[i],by simp[Instr.extract,hi],h1.get i v us[i] e (by simp[hi])⟩
  .cases hr
 case call c=>
  obtain⟨callee,args,B⟩:=c
  cases callee with
  |builtin b=>
   have hb:nS b=true:=by cases b<;>first|rfl|simp[bT]at hF
   have n:=aE.ops j args;have:=PY (cs:=args.map λ|.const _=>true|_=>false) hw n hb hr;rwa[Array.toArray_toList]at this|invoke _ _=>simp[bT]at hF|value _=>simp[bT]at hF
end
end Go.AI
end
