/- A part of the proof. -/
import Derived.Test.YteibmaelhdbgfaaGreatDoorAc
set_option linter.all false

section
namespace Go.AI
def ax(b:Frame)(a:Act)(todo:List Item):Frame:={b with tmps:=a.tmps,todo:=todo,defers:=a.defers,mode:=.run}
theorem DA(b:Frame)(a:Act)(todo:List Item):(ax b a todo).eval=a.eval:=by funext x;cases x<;>rfl
section moves
variable {P:Program}{b:Frame}{a:Act}{k:List Item}{cs:List Frame}{w:World}
theorem VK:step P (lone (ax b a (.code .skip::k)) cs w)=.next (lone (ax b a k) cs w):=step_lone_go (by simp[stepG,stepG.exec,ax])
theorem Vp{l:Nat}:step P (lone (ax b a (.code (.label l)::k)) cs w)=.next (lone (ax b a k) cs w):=step_lone_go (by simp[stepG,stepG.exec,ax])
theorem UX{id:Nat}:step P (lone (ax b a (.inBlock id::k)) cs w)=.next (lone (ax b a k) cs w):=step_lone_go (by simp[stepG,stepG.exec,ax])
theorem UY{c:Code}:step P (lone (ax b a (.inScope c::k)) cs w)=.next (lone (ax b a k) cs w):=step_lone_go (by simp[stepG,stepG.exec,ax])
theorem yA{x y:Code}:step P (lone (ax b a (.code (.seq x y)::k)) cs w)=.next (lone (ax b a (.code x::.code y::k)) cs w):=step_lone_go (by simp[stepG,stepG.exec,ax])
theorem JF{c:Operand}{x y:Code}{t:Bool}(h:a.eval c=.bool t):
 step P (lone (ax b a (.code (.cond c x y)::k)) cs w)=.next (lone (ax b a (.code (if t then x else y)::k)) cs w):=by
 have he:(ax b a (.code (.cond c x y)::k)).eval c=.bool t:=by rw[DA];exact h
 refine step_lone_go ?_;simp only[ax]at he;simp[stepG,stepG.exec,ax,he]
theorem td{id:Nat}{c:Code}:step P (lone (ax b a (.code (.block id c)::k)) cs w)=.next (lone (ax b a (.code c::.inBlock id::k)) cs w):=step_lone_go (by simp[stepG,stepG.exec,ax])
theorem yj{c:Code}:step P (lone (ax b a (.code (.scope c)::k)) cs w)=.next (lone (ax b a (.code c::.inScope c::k)) cs w):=step_lone_go (by simp[stepG,stepG.exec,ax])
theorem VL{c:Code}:step P (lone (ax b a (.code (.loop c)::k)) cs w)=.next (lone (ax b a (.code c::.inLoop c::k)) cs w):=step_lone_go (by simp[stepG,stepG.exec,ax])
theorem Vd{c:Code}:step P (lone (ax b a (.inLoop c::k)) cs w)=.next (lone (ax b a (.code c::.inLoop c::k)) cs w):=step_lone_go (by simp[stepG,stepG.exec,ax])
theorem JG{id:Nat}{k':List Item}(h:exitTo id k=some k'):step P (lone (ax b a (.code (.exit id)::k)) cs w)=.next (lone (ax b a k') cs w):=step_lone_go (by simp[stepG,stepG.exec,ax,h])
theorem Ve{id:Nat}{ops:Array Oper}:step P (lone (ax b a (.code (.region id ops false)::k)) cs w)=.next (lone (ax b a (.inRegion ops (List.range ops.size)::k)) cs w):=step_lone_go (by simp[stepG,stepG.exec,ax])
theorem IL{id:Nat}{ops:Array Oper}:step P (lone (ax b a (.code (.region id ops true)::k)) cs w)=.next (lone (ax b a (.inRegion ops (Region.schedule (P.follows .mixedOrders) ops (w.tape w.drawn (.order b.fn id)))::k)) cs {w with drawn:=w.drawn+1}):=step_lone_go (by simp[stepG,stepG.exec,ax,choose,Sem.run,Question.forced,Question.cut])
theorem IP{ops:Array Oper}:step P (lone (ax b a (.inRegion ops []::k)) cs w)=.next (lone (ax b a k) cs w):=step_lone_go (by simp[stepG,stepG.exec,ax])
theorem pJ(ops:Array Oper)(i:Nat)(rest:List Nat)(v:Value):(ax b a (.inRegion ops (i::rest)::k)).finish v=ax b (a.put ((ops[i]?).bind (·.dst)) v) (.inRegion ops rest::k):=by cases h:(ops[i]?).bind (·.dst)<;>simp[Frame.finish,ax,Act.put,h]
theorem I4{ops:Array Oper}{i:Nat}{rest:List Nat}(h:((ops[i]?).map (Region.wanted . (yielded ops a.tmps))).getD false=false):step P (lone (ax b a (.inRegion ops (i::rest)::k)) cs w)=.next (lone (ax b (a.put ((ops[i]?).bind (·.dst)) undef) (.inRegion ops rest::k)) cs w):=by rw[<-pJ];exact step_lone_go (by have h':=h;simp only[ax]at*;simp[stepG,stepG.exec,h'])
def kA(b:Frame)(o:Oper):Prop:=b.roundOf=none\/∀c,o.op≠.defer c
theorem nE{ops:Array Oper}{i:Nat}{rest:List Nat}{o:Oper}(ho:ops[i]?=some o)(hw:Region.wanted o (yielded ops a.tmps)=true)(hd:kA b o):
 stepG P true {frame:=ax b a (.inRegion ops (i::rest)::k),callers:=cs,status:=.running,dying:=none} w=stepG.apply P true (ax b a (.inRegion ops (i::rest)::k)) cs none (execOp a.eval o) w:=by
 have he:=DA b a (.inRegion ops (i::rest)::k)
 simp only[ax]at he
 have:stepG.oper P true (ax b a (.inRegion ops (i::rest)::k)) cs none w=stepG.apply P true (ax b a (.inRegion ops (i::rest)::k)) cs none (execOp a.eval o) w:=by
  unfold stepG.oper
  simp only[Frame.oper?,ax,ho,he]
  rcases hd with hr|hd
  .rw[hr]
  .grind
 rw[<-this];simp[stepG,stepG.exec,ax,ho,hw]
theorem CS{ops:Array Oper}{i:Nat}{rest:List Nat}{o:Oper}{x:Value}{w':World}(ho:ops[i]?=some o)(hw:Region.wanted o (yielded ops a.tmps)=true)(hd:kA b o)(hr:(execOp a.eval o).run P w=.ok (.value x) w'):step P (lone (ax b a (.inRegion ops (i::rest)::k)) cs w)=.next (lone (ax b (a.put o.dst x) (.inRegion ops rest::k)) cs w'):=by have c:=pJ (b:=b) (a:=a) (k:=k) ops i rest x;rw[ho]at c;refine step_lone_go ?_;rw[nE ho hw hd,<-show(ax b a (.inRegion ops (i::rest)::k)).finish x=ax b (a.put o.dst x) (.inRegion ops rest::k)from c];simp[stepG.apply,hr]
theorem Vq{ops:Array Oper}{i:Nat}{rest:List Nat}{o:Oper}{w':World}(ho:ops[i]?=some o)(hw:Region.wanted o (yielded ops a.tmps)=true)(hd:kA b o)(hr:(execOp a.eval o).run P w=.ok .skip w'):step P (lone (ax b a (.inRegion ops (i::rest)::k)) cs w)=.next (lone (ax b (a.put o.dst undef) (.inRegion ops rest::k)) cs w'):=by have c:=pJ (b:=b) (a:=a) (k:=k) ops i rest undef;rw[ho]at c;refine step_lone_go ?_;rw[nE ho hw hd,<-show(ax b a (.inRegion ops (i::rest)::k)).finish undef=ax b (a.put o.dst undef) (.inRegion ops rest::k)from c];simp[stepG.apply,hr]
theorem Vr{ops:Array Oper}{i:Nat}{rest:List Nat}{o:Oper}{d:Deferred}{w':World}(ho:ops[i]?=some o)(hw:Region.wanted o (yielded ops a.tmps)=true)(hd:kA b o)(hr:(execOp a.eval o).run P w=.ok (.defer d) w'):step P (lone (ax b a (.inRegion ops (i::rest)::k)) cs w)=.next (lone (ax b ({a with defers:=d::a.defers}.put o.dst undef) (.inRegion ops rest::k)) cs w'):=by have c:=pJ (b:=b) (a:={a with defers:=d::a.defers}) (k:=k) ops i rest undef;rw[ho]at c;refine step_lone_go ?_;rw[nE ho hw hd];have e:({ax b a (.inRegion ops (i::rest)::k)with defers:=d::a.defers}:Frame).finish undef=ax b ({a with defers:=d::a.defers}.put o.dst undef) (.inRegion ops rest::k):=c;simp only[stepG.apply,Sem.runT_eq,hr,GStep.bare_after];exact congrArg (λfr=>GStep.go {frame:=fr,callers:=cs,status:=.running,dying:=none} w') e
theorem Jl{ops:Array Oper}{i:Nat}{rest:List Nat}{o:Oper}{f:FuncId}{args:Array Value}{w':World}(ho:ops[i]?=some o)(hw:Region.wanted o (yielded ops a.tmps)=true)(hd:kA b o)(hr:(execOp a.eval o).run P w=.ok (.enter f args) w'):step P (lone (ax b a (.inRegion ops (i::rest)::k)) cs w)=.next (lone (Frame.enter P f args .normal) (ax b a (.inRegion ops (i::rest)::k)::cs) w'):=by refine step_lone_go ?_;rw[nE ho hw hd];simp[stepG.apply,hr,ax]
theorem Jm{ops:Array Oper}{i:Nat}{rest:List Nat}{o:Oper}{l:Nat}{f:FuncId}{tmps:Array Value}{assign body:Code}{w':World}(ho:ops[i]?=some o)(hw:Region.wanted o (yielded ops a.tmps)=true)(hd:kA b o)(hr:(execOp a.eval o).run P w=.ok (.round l f tmps assign body) w'):step P (lone (ax b a (.inRegion ops (i::rest)::k)) cs w)=.next (lone (Frame.round l f tmps assign body .normal) (ax b a (.inRegion ops (i::rest)::k)::cs) w'):=by refine step_lone_go ?_;rw[nE ho hw hd];simp[stepG.apply,hr]
theorem Vs{ops:Array Oper}{i:Nat}{rest:List Nat}{o:Oper}{x:Value}{w':World}(ho:ops[i]?=some o)(hw:Region.wanted o (yielded ops a.tmps)=true)(hd:kA b o)(hr:(execOp a.eval o).run P w=.halt (.panic x) w'):step P (lone (ax b a (.inRegion ops (i::rest)::k)) cs w)=.next (lone {ax b a (.inRegion ops (i::rest)::k)with mode:=.panicking [{v:=x,recovered:=false}]} cs w'):=by refine step_lone_go ?_;rw[nE ho hw hd];simp[stepG.apply,hr,ax,Frame.raise]
theorem I5{ops:Array Oper}{i:Nat}{rest:List Nat}{o:Oper}{w':World}(ho:ops[i]?=some o)(hw:Region.wanted o (yielded ops a.tmps)=true)(hd:kA b o)(hn:b.roundOf=none)(hr:(execOp a.eval o).run P w=.ok .recover w'):step P (lone (ax b a (.inRegion ops (i::rest)::k)) cs w)=.next (match tryRecover (ax b a (.inRegion ops (i::rest)::k)) cs with|some (v,aS)=>lone (ax b (a.put o.dst v) (.inRegion ops rest::k)) aS w'|none=>lone (ax b (a.put o.dst .nilIface) (.inRegion ops rest::k)) cs w'):=by have c:=λx=>pJ (b:=b) (a:=a) (k:=k) ops i rest x;rw[ho]at c;cases ht:tryRecover (ax b a (.inRegion ops (i::rest)::k)) cs with|none=>simp only;refine step_lone_go ?_;rw[nE ho hw hd,<-show(ax b a (.inRegion ops (i::rest)::k)).finish .nilIface=ax b (a.put o.dst .nilIface) (.inRegion ops rest::k)from c _];have z:(ax b a (.inRegion ops (i::rest)::k)).roundOf=none:=hn;simp[stepG.apply,hr,z,ht]|some p=>obtain⟨v,aS⟩:=p;simp only;refine step_lone_go ?_;rw[nE ho hw hd,<-show(ax b a (.inRegion ops (i::rest)::k)).finish v=ax b (a.put o.dst v) (.inRegion ops rest::k)from c _];have z:(ax b a (.inRegion ops (i::rest)::k)).roundOf=none:=hn;simp[stepG.apply,hr,z,ht]
end moves
end Go.AI
end

section
namespace Go.AI
def jz(g:Gh):List ey->List Deferred->Prop|[],[]=>True|d::ds,e::es=>sH g d e/\jz g ds es|_,_=>False
theorem jz.mono{g g':Gh}(hl:g.Le g'):∀{ds:List ey}{es:List Deferred},jz g ds es->jz g' ds es|[],[],_=>trivial|_::_,_::_,h=>⟨h.1.mono hl,jz.mono hl h.2⟩|[],_::_,h=>h.elim|_::_,[],h=>h.elim
structure gp(g:Gh)(tn:Nat)(st:aD)(a:Act):Prop where
 tm:TR g st.tm a.tmps
 size:a.tmps.size=tn
 df:jz g st.df a.defers
theorem gp.mono{g g':Gh}{tn:Nat}{st:aD}{a:Act}(hl:g.Le g')(h:gp g tn st a):gp g' tn st a:=⟨h.tm.mono hl,h.size,h.df.mono hl⟩
def abr(g:Gh):Option Nat->Option Nat->Prop|none,r=>r=none|some l,r=>∃b s n,g.B l 0=some (b,s,n)/\r=some b
structure kU(g:Gh)(cx:Ctx)(b:Frame):Prop where
 fn:b.fn=cx.fn
 kind:b.kind=cx.kind
 round:abr g cx.round b.roundOf
theorem kU.mono{g g':Gh}{cx:Ctx}{b:Frame}(hl:g.Le g')(h:kU g cx b):kU g' cx b:=by refine⟨h.fn,h.kind,?_⟩;have hr:=h.round;cases hc:cx.round with|none=>rw[hc]at hr;exact hr|some l=>rw[hc]at hr;obtain⟨b',s,n,h1,h2⟩:=hr;exact⟨b',s,n,hl.b _ _ _ h1,h2⟩
def ix(g:Gh):bD->FrameMode->Prop|.none,_=>False|.ret,m=>m=.returning|.aN v r,m=>∃x,m=.panicking [{v:=x,recovered:=r}]/\VR g v x
theorem ix.mono{g g':Gh}(hl:g.Le g'){cm:bD}{m:FrameMode}(h:ix g cm m):ix g' cm m:=by cases cm with|none=>exact h|ret=>exact h|aN v r=>obtain⟨x,h1,h2⟩:=h;exact⟨x,h1,h2.mono hl⟩
def gn(g:Gh)(cm:bD)(cs:List Frame):Prop:=match cm with|.none=>True|cm=>∃c r,cs=c::r/\ix g cm c.mode
theorem gn.mono{g g':Gh}(hl:g.Le g'){cm:bD}{cs:List Frame}(h:gn g cm cs):gn g' cm cs:=by cases cm with|none=>trivial|ret=>obtain⟨c,r,e,h1⟩:=h;exact⟨c,r,e,h1.mono hl⟩|aN v b=>obtain⟨c,r,e,h1⟩:=h;exact⟨c,r,e,h1.mono hl⟩
def jG(cm:bD)(cs aS:List Frame):Prop:=(cm=.none->aS=cs)/\(aS=cs\/∃c r m,cs=c::r/\aS={c with mode:=m}::r)
theorem jG.refl(cm:bD)(cs:List Frame):jG cm cs cs:=⟨λ_=>rfl,.inl rfl⟩
theorem jG.trans{cm cm':bD}{a b c:List Frame}(hn:cm=.none->cm'=.none)(h:jG cm a b)(h':jG cm' b c):jG cm a c:=by
 refine⟨λe=>(h'.1 (hn e)).trans (h.1 e),?_⟩
 rcases h'.2 with e|⟨x,r,m,e1,e2⟩
 .rw[e];exact h.2
 .rcases h.2 with e3|⟨y,r',o,e3,z⟩
  .grind
  grind
def R7(g:Gh):di->Ending->Prop|.ret v,.returned x=>VR g v x|.aN v,.panicked c=>∃x,c=[{v:=x,recovered:=false}]/\VR g v x|_,_=>False
def fc(P:Program)(f:FuncId)(args:List AV)(h:AHeap)(out:di)(h':AHeap):Prop:=∀(g:Gh)(w:World)(vs:List Value),W h g w->eI h g->aG g args vs->Calls P f vs.toArray w λe w'=>∃g',Step h g w h' g' w'/\W h' g' w'/\R7 g' out e
def DY(P:Program)(f:FuncId)(args:List AV)(cm:bD)(h:AHeap)(out:di)(cm':bD)(h':AHeap):Prop:=∀(g:Gh)(w:World)(vs:List Value)(u:FrameMode),W h g w->eI h g->aG g args vs->ix g cm u->CallsD P f vs.toArray u w λe c w'=>∃g',Step h g w h' g' w'/\W h' g' w'/\(cm'≠.none->ix g' cm' c)/\R7 g' out e
def MG(P:Program)(l:Nat)(args:List AV)(h:AHeap)(out:di)(h':AHeap):Prop:=∀(g:Gh)(w:World)(vs:List Value)(o s n:Nat),W h g w->eI h g->aG g args vs->g.B l 0=some (o,s,n)->∃f tmps assign body,(Instr.yield o vs.toArray).run P w=.ok (.round o f tmps assign body) w/\∀(c:Frame)(cs:List Frame),∃g' w',Step h g w h' g' w'/\W h' g' w'/\(match out with|.ret v=>∃x,VR g' v x/\Steps P (lone (Frame.round o f tmps assign body .normal) (c::cs) w) (lone (c.finish x) cs w')|.aN v=>∃x,VR g' v x/\Steps P (lone (Frame.round o f tmps assign body .normal) (c::cs) w) (lone (c.raise [{v:=x,recovered:=false}]) cs w'))
def dK(P:Program)(m:Machine)(b:Frame)(k:List Item)(cs:List Frame)(g:Gh):b7->Act->World->Prop|.normal,a,w=>Steps P m (lone (ax b a k) cs w)|.exit id,a,w=>(∀k',exitTo id k=some k'->Steps P m (lone (ax b a k') cs w))/\(exitTo id k=none->∃c,exitTo id c=none/\Steps P m (lone (ax b a (.code (.exit id)::c)) cs w))|.ret,a,w=>∃c,Steps P m (lone (ax b a (.code .ret::c)) cs w)|.panic v,a,w=>∃todo x,VR g v x/\Steps P m (lone {ax b a todo with mode:=.panicking [{v:=x,recovered:=false}]} cs w)
theorem dK.of_steps{P:Program}{m o:Machine}{b:Frame}{k:List Item}{cs:List Frame}{g:Gh}{ex:b7}{a:Act}{w:World}(h:Steps P m o)(h':dK P o b k cs g ex a w):dK P m b k cs g ex a w:=by cases ex with|normal=>exact h.trans h'|exit id=>exact⟨λk' e=>h.trans (h'.1 k' e),λe=>let⟨c,e2,s⟩:=h'.2 e;⟨c,e2,h.trans s⟩⟩|ret=>obtain⟨c,s⟩:=h';exact⟨c,h.trans s⟩|panic v=>obtain⟨t,x,hx,s⟩:=h';exact⟨t,x,hx,h.trans s⟩
def qG(P:Program)(cx:Ctx)(st:aD)(ex:b7)(st':aD)(todo:List Item->List Item):Prop:=∀(g:Gh)(w:World)(b:Frame)(a:Act)(k:List Item)(cs:List Frame),W st.h g w->eI st.h g->kU g cx b->gp g cx.tn st a->gn g st.cm cs->∃g' w' a' aS,Step st.h g w st'.h g' w'/\W st'.h g' w'/\gp g' cx.tn st' a'/\jG st.cm cs aS/\gn g' st'.cm aS/\(st.cm=.none->st'.cm=.none)/\dK P (lone (ax b a (todo k)) cs w) b k aS g' ex a' w'
structure dX(P:Program)(R:Rec):Prop where
 call:∀f args h out cm' h',R.call .normal f args .none h=some (out,cm',h')->fc P f args h out h'
 vf:∀f args cm h out cm' h',cm≠.none->R.call .deferred f args cm h=some (out,cm',h')->DY P f args cm h out cm' h'
 loop:∀body cx st ex st',R.loop body cx st=some (ex,st')->qG P cx st ex st' (λk=>.code body::.inLoop body::k)round:∀l args h out h',R.round l args h=some (out,h')->MG P l args h out h'
section
variable {P:Program}{R:Rec}{g:Gh}{w:World}{cx:Ctx}{st st':aD}{a:Act}
theorem gp.ev{tn:Nat}(h:gp g tn st a)(x:Operand):VR g (ev st.tm x) (a.eval x):=by
 cases x with
 |tmp t=>show VR g (match st.tm.get t with|some v=>v|none=>.aM) (a.tmps.getD t undef);cases ht:st.tm.get t with|none=>exact .aM _|some v=>obtain⟨u,h1,h2⟩:=h.tm t v ht;simp_all
 |const v=>exact VR.bz v|global n=>exact .sc _|func f=>exact .sc _
theorem gp.put{tn:Nat}{dst:Option Tmp}{v:AV}{x:Value}(h:gp g tn st a)(hp:st.put tn dst v=some st')(hv:VR g v x):gp g tn st' (a.put dst x):=by
 unfold aD.put at hp
 cases dst with
 |none=>simp only[ad]at hp;subst hp;exact h
 |some d=>
  simp only at hp
  split at hp
  .rename_i hd
   simp only[ad]at hp;subst hp
   refine⟨?_,by simp[Act.put,h.size],h.df⟩
   intro t y hy
   simp only at hy
   rw[Tr.pX]at hy
   simp only[Act.put]
   by_cases e:t=d
   .subst e;rw[if_pos rfl]at hy;simp only[ad]at hy;subst hy;exact⟨x,by simp[h.size,hd],hv⟩
   .rw[if_neg e]at hy;obtain⟨u,h1,h2⟩:=h.tm t y hy;grind
  .cases hp
theorem dw{tn:Nat}{dst:Option Tmp}{v:AV}(hp:st.put tn dst v=some st'):st'.h=st.h/\st'.cm=st.cm/\st'.df=st.df:=by unfold aD.put at hp;grind
theorem Kc{tn:Nat}{ops:Array Oper}{o:Oper}{b:Bool}(h:gp g tn st a)(hr:cC ops o st.tm=some b):Region.wanted o (yielded ops a.tmps)=b:=by
 unfold cC at hr
 unfold Region.wanted
 cases hg:o.guard with
 |none=>grind
 |some p=>
  obtain⟨j,want⟩:=p
  rw[hg]at hr
  simp only at hr⊢
  unfold yielded
  cases hd:(ops[j]?).bind (·.dst)with
  |none=>grind
  |some d=>
   rw[hd]at hr
   simp only at hr
   cases ht:st.tm.get d with
   |none=>grind
   |some v=>
    rw[ht]at hr
    obtain⟨u,h1,h2⟩:=h.tm d v ht
    simp only[Option.bind_some,h1]
    split at hr
    .rename_i q hq;simp only[ad]at hq;subst hq;cases h2;simp_all
    .rename_i q hq;simp only[ad]at hq;subst hq;obtain⟨cs,rfl,_⟩:=VR.fm.1 h2;grind
    .cases hr
theorem VM{o:Oper}{b:Frame}{ρ:Operand->AV}{cm:bD}{h:AHeap}{r:vw}(hc:kU g cx b)(hr:cV P R cx ρ o cm h=some r):kA b o:=by cases z:cx.round with|none=>exact .inl (by have:=hc.round;rw[z]at this;exact this)|some l=>right;intro c e;unfold cV at hr;cases D:aV P ρ o h with|none=>grind|some p=>obtain⟨r',h2⟩:=p;rw[D]at hr;unfold aV at D;rw[e]at D;simp only[uu]at D;grind
def abt(P:Program)(g:Gh)(w:World)(h:AHeap)(cm:bD)(b:Frame)(a:Act)(cs:List Frame)(ops:Array Oper)(i:Nat)(rest:List Nat)(k:List Item)(dst:Option Tmp):vw->Prop|.val v cm' h'=>∃g' w' x aS,Step h g w h' g' w'/\W h' g' w'/\VR g' v x/\jG cm cs aS/\gn g' cm' aS/\(cm=.none->cm'=.none)/\Steps P (lone (ax b a (.inRegion ops (i::rest)::k)) cs w) (lone (ax b (a.put dst x) (.inRegion ops rest::k)) aS w')|.cE d h'=>h'=h/\∃c,sH g d c/\Steps P (lone (ax b a (.inRegion ops (i::rest)::k)) cs w) (lone (ax b ({a with defers:=c::a.defers}.put dst undef) (.inRegion ops rest::k)) cs w)|.aN v h'=>∃g' w' x todo,Step h g w h' g' w'/\W h' g' w'/\VR g' v x/\Steps P (lone (ax b a (.inRegion ops (i::rest)::k)) cs w) (lone {ax b a todo with mode:=.panicking [{v:=x,recovered:=false}]} cs w')
theorem VR.undef:VR g dS undef:=VR.fm.2 ⟨#[],rfl,trivial⟩
theorem DB{ops:Array Oper}{o:Oper}{i:Nat}{rest:List Nat}{k:List Item}{b:Frame}{cs:List Frame}{ρ:Operand->AV}{cm:bD}{h:AHeap}{r:vw}
 (hP:ProgOK P)(T:dX P R)(hr:cV P R cx ρ o cm h=some r)(hw:W h g w)(hf:eI h g)(hc:kU g cx b)(K:∀x,VR g (ρ x) (a.eval x))(hm:gn g cm cs)
 (ho:ops[i]?=some o)(z:Region.wanted o (yielded ops a.tmps)=true):abt P g w h cm b a cs ops i rest k o.dst r:=by
 have E:=VM hc hr
 unfold cV at hr
 split at hr
 .rename_i v h2 D;simp only[ad]at hr;subst hr;obtain⟨g',w',x,h1,h3,h4,h5⟩:=nZ hP hw (hf h.next (aC _)) K D;exact⟨g',w',x,cs,h5,h4,h3,.refl _ _,hm.mono h5.le,id,.one (CS ho z E h1)⟩
 .rename_i h2 D;simp only[ad]at hr;subst hr;obtain⟨g',w',h1,h4,h5⟩:=nZ hP hw (hf h.next (aC _)) K D;exact⟨g',w',undef,cs,h5,h4,VR.undef,.refl _ _,hm.mono h5.le,id,.one (Vq ho z E h1)⟩
 .rename_i d h2 D
  split at hr
  .cases hr
  .simp only[ad]at hr;subst hr;obtain⟨rfl,V,h1,h3⟩:=nZ hP hw (hf h.next (aC _)) K D;exact⟨rfl,V,h3,.one (Vr ho z E h1)⟩
 .rename_i f args h2 D
  obtain⟨rfl,vs,h1,h3⟩:=nZ hP hw (hf h.next (aC _)) K D
  split at hr
  .rename_i v cm' h4 L;simp only[ad]at hr;subst hr;obtain⟨e,w',fr,⟨g',q1,q2,q3⟩,J,hfn,I⟩:=T.call _ _ _ _ _ _ L g w vs hw hf h3 (ax b a (.inRegion ops (i::rest)::k)::cs);cases e with|returned x=>refine⟨g',w',x,cs,q1,q2,q3,.refl _ _,hm.mono q1.le,id,?_⟩;have M:=pJ (b:=b) (a:=a) (k:=k) ops i rest x;rw[ho]at M;refine Steps.head (Jl ho z E h1) (Steps.trans J ?_);rw[<-show(ax b a (.inRegion ops (i::rest)::k)).finish x=ax b (a.put o.dst x) (.inRegion ops rest::k)from M];exact .one (step_leave_returned I)|panicked _=>exact q3.elim|outgrown=>exact q3.elim
  .rename_i v cm' h4 L;simp only[ad]at hr;subst hr;obtain⟨e,w',fr,⟨g',q1,q2,q3⟩,J,hfn,I⟩:=T.call _ _ _ _ _ _ L g w vs hw hf h3 (ax b a (.inRegion ops (i::rest)::k)::cs);cases e with|returned _=>exact q3.elim|panicked X=>obtain⟨x,rfl,q4⟩:=q3;refine⟨g',w',x,.inRegion ops (i::rest)::k,q1,q2,q4,?_⟩;refine Steps.head (Jl ho z E h1) (Steps.trans J ?_);exact .one (step_leave_panicked I)|outgrown=>exact q3.elim
  .cases hr
 .rename_i l args h2 D
  obtain⟨rfl,U,s,n,vs,hB,h3,h1⟩:=nZ hP hw (hf h.next (aC _)) K D
  split at hr
  .rename_i v h4 F;simp only[ad]at hr;subst hr;obtain⟨f,tmps,assign,body,hy,N⟩:=T.round _ _ _ _ _ F g w vs U s n hw hf h3 hB;obtain⟨g',w',q1,q2,x,q3,q4⟩:=N (ax b a (.inRegion ops (i::rest)::k)) cs;refine⟨g',w',x,cs,q1,q2,q3,.refl _ _,hm.mono q1.le,id,?_⟩;have M:=pJ (b:=b) (a:=a) (k:=k) ops i rest x;rw[ho]at M;refine Steps.head (Jm ho z E (h1.trans hy)) ?_;grind
  .rename_i v h4 F;simp only[ad]at hr;subst hr;obtain⟨f,tmps,assign,body,hy,N⟩:=T.round _ _ _ _ _ F g w vs U s n hw hf h3 hB;obtain⟨g',w',q1,q2,x,q3,q4⟩:=N (ax b a (.inRegion ops (i::rest)::k)) cs;exact⟨g',w',x,.inRegion ops (i::rest)::k,q1,q2,q3,Steps.head (Jm ho z E (h1.trans hy)) q4⟩
  .cases hr
 .rename_i v h2 D;simp only[ad]at hr;subst hr;obtain⟨rfl,x,h1,h3⟩:=nZ hP hw (hf h.next (aC _)) K D;exact⟨g,w,x,.inRegion ops (i::rest)::k,.refl _ _ _,hw,h3,.one (Vs ho z E h1)⟩
 .rename_i h2 D
  obtain⟨rfl,h1⟩:=nZ hP hw (hf h.next (aC _)) K D
  split at hr
  .rename_i v hk Q
   simp only[ad]at hr;subst hr
   have O:b.roundOf=none:=by have:=hc.round;rw[Q]at this;exact this
   have S:b.kind=.deferred:=hc.kind.trans hk
   obtain⟨c,r',rfl,x,hx,hv⟩:=hm
   have eO:=I5 (k:=k) (cs:=c::r') (rest:=rest) ho z E O h1
   have ht:tryRecover (ax b a (.inRegion ops (i::rest)::k)) (c::r')=some (x,{c with mode:=.panicking [{v:=x,recovered:=true}]}::r'):=by unfold tryRecover;have e1:(ax b a (.inRegion ops (i::rest)::k)).kind=.deferred:=S;rw[e1];simp only[hx]
   rw[ht]at eO;refine⟨g,w,x,{c with mode:=.panicking [{v:=x,recovered:=true}]}::r',.refl _ _ _,hw,hv,⟨(λe=>by cases e),.inr ⟨c,r',_,rfl,rfl⟩⟩,⟨_,r',rfl,x,rfl,hv⟩,(λe=>by cases e),.one eO⟩
  .rename_i hk Q
   simp only[ad]at hr;subst hr
   have O:b.roundOf=none:=by have:=hc.round;rw[Q]at this;exact this
   have S:b.kind=.deferred:=hc.kind.trans hk
   obtain⟨c,r',rfl,hx⟩:=hm
   have eO:=I5 (k:=k) (cs:=c::r') (rest:=rest) ho z E O h1
   have ht:tryRecover (ax b a (.inRegion ops (i::rest)::k)) (c::r')=none:=by unfold tryRecover;have e1:(ax b a (.inRegion ops (i::rest)::k)).kind=.deferred:=S;have e2:c.mode=.returning:=hx;rw[e1];simp only[e2]
   rw[ht]at eO;exact⟨g,w,.nilIface,c::r',.refl _ _ _,hw,.sc _,.refl _ _,⟨c,r',rfl,hx⟩,(λe=>by cases e),.one eO⟩
  .cases hr
 .cases hr
end
end Go.AI
end

section
namespace Go.AI
section
variable {P:Program}{R:Rec}{cx:Ctx}
theorem Wq{ops:Array Oper}{o:Oper}{i:Nat}{rest:List Nat}{st st':aD}{ex:b7}(hP:ProgOK P)(J:dX P R)(ho:ops[i]?=some o)(hs:eu P R cx ops o st=some (ex,st'))
 {g:Gh}{w:World}{b:Frame}{a:Act}{k:List Item}{cs:List Frame}(hw:W st.h g w)(hf:eI st.h g)(hc:kU g cx b)(ha:gp g cx.tn st a)(hm:gn g st.cm cs):
 ∃g' w' a' aS,Step st.h g w st'.h g' w'/\W st'.h g' w'/\gp g' cx.tn st' a'/\jG st.cm cs aS/\gn g' st'.cm aS/\(st.cm=.none->st'.cm=.none)/\(match ex with|.normal=>Steps P (lone (ax b a (.inRegion ops (i::rest)::k)) cs w) (lone (ax b a' (.inRegion ops rest::k)) aS w')|.panic v=>∃todo x,VR g' v x/\Steps P (lone (ax b a (.inRegion ops (i::rest)::k)) cs w) (lone {ax b a' todo with mode:=.panicking [{v:=x,recovered:=false}]} aS w')|_=>False):=by
 unfold eu at hs
 split at hs
 .rename_i z
  have c:=Kc ha z
  cases E:cV P R cx (ev st.tm) o st.cm st.h with
  |none=>grind
  |some r=>
   rw[E]at hs
   have hk:=DB (rest:=rest) (k:=k) hP J E hw hf hc ha.ev hm ho c
   cases r with
   |val v cm' h'=>simp only at hs;cases hp:aD.put {st with cm:=cm',h:=h'} cx.tn o.dst v with|none=>grind|some F=>rw[hp]at hs;simp only[Option.map_some,ad,av]at hs;obtain⟨rfl,rfl⟩:=hs;obtain⟨g',w',x,aS,q1,q2,q3,q4,q5,q6,q7⟩:=hk;obtain⟨e1,e2,e3⟩:=dw hp;simp only at e1 e2 e3;refine⟨g',w',a.put o.dst x,aS,by grind,by grind,?_,q4,by grind,by grind,q7⟩;have D:gp g' cx.tn {st with cm:=cm',h:=h'} a:=⟨(ha.mono q1.le).tm,ha.size,(ha.mono q1.le).df⟩;exact D.put hp q3
   |cE d h'=>simp only at hs;cases hp:aD.put {st with h:=h',df:=d::st.df} cx.tn o.dst dS with|none=>grind|some F=>rw[hp]at hs;simp only[Option.map_some,ad,av]at hs;obtain⟨rfl,rfl⟩:=hs;obtain⟨rfl,I,q1,q2⟩:=hk;obtain⟨e1,e2,e3⟩:=dw hp;simp only at e1 e2 e3;refine⟨g,w,Act.put {a with defers:=I::a.defers} o.dst undef,cs,by rw[e1];exact .refl _ _ _,by grind,?_,.refl _ _,by grind,by grind,q2⟩;have D:gp g cx.tn {st with h:=st.h,df:=d::st.df} {a with defers:=I::a.defers}:=⟨ha.tm,ha.size,q1,ha.df⟩;exact D.put hp VR.undef
   |aN v h'=>simp only[ad,av]at hs;obtain⟨rfl,rfl⟩:=hs;obtain⟨g',w',x,todo,q1,q2,q3,q4⟩:=hk;exact⟨g',w',a,cs,q1,q2,⟨(ha.mono q1.le).tm,ha.size,(ha.mono q1.le).df⟩,.refl _ _,hm.mono q1.le,id,todo,x,q3,q4⟩
 .rename_i z;have c:=Kc ha z;cases hp:st.put cx.tn o.dst dS with|none=>grind|some F=>rw[hp]at hs;simp only[Option.map_some,ad,av]at hs;obtain⟨rfl,rfl⟩:=hs;obtain⟨e1,e2,e3⟩:=dw hp;refine⟨g,w,a.put o.dst undef,cs,by rw[e1];exact .refl _ _ _,by grind,ha.put hp VR.undef,.refl _ _,by grind,by grind,?_⟩;have:=I4 (P:=P) (b:=b) (a:=a) (k:=k) (cs:=cs) (w:=w) (ops:=ops) (i:=i) (rest:=rest) (by grind);rw[ho]at this;exact .one this
 .cases hs
theorem Wr{ops:Array Oper}(hP:ProgOK P)(K:dX P R):∀(n i:Nat)(st:aD)(ex:b7)(st':aD),i+n=ops.size->fL P R cx ops (ops.toList.drop i) st=some (ex,st')->
 qG P cx st ex st' (λk=>.inRegion ops (List.range' i n)::k):=by
 intro n
 induction n with
 |zero=>intro i st ex st' hn hr g w b a k cs hw hf hc ha hm;have:ops.toList.drop i=[]:=List.drop_eq_nil_of_le (by simp;omega);rw[this]at hr;simp only[fL,ad,av]at hr;obtain⟨rfl,rfl⟩:=hr;exact⟨g,w,a,cs,.refl _ _ _,hw,ha,.refl _ _,hm,id,.one IP⟩
 |succ n J=>
  intro i st ex st' hn hr g w b a k cs hw hf hc ha hm
  have hi:i<ops.size:=by omega
  have ho:ops[i]?=some ops[i]:=by simp[hi]
  have hd:ops.toList.drop i=ops[i]::ops.toList.drop (i+1):=by rw[List.drop_eq_getElem_cons (by grind)];simp
  rw[hd]at hr;simp only[fL]at hr;cases hs:eu P R cx ops ops[i] st with|none=>grind|some p=>obtain⟨z,o⟩:=p;rw[hs]at hr;obtain⟨E,w1,F,c,q1,q2,q3,q4,q5,q6,q7⟩:=Wq (rest:=List.range' (i+1) n) (k:=k) hP K ho hs hw hf hc ha hm;cases z with|normal=>simp only at hr q7;obtain⟨g2,I,L,D,r1,r2,r3,r4,r5,r6,r7⟩:=J (i+1) o ex st' (by omega) hr E w1 b F k c q2 (hf.step q1) (hc.mono q1.le) q3 q5;refine⟨g2,I,L,D,q1.trans hf r1,r2,r3,q4.trans q6 r4,r5,λe=>r6 (q6 e),?_⟩;exact dK.of_steps q7 r7|panic v=>simp only[ad,av]at hr;obtain⟨rfl,rfl⟩:=hr;obtain⟨todo,x,h1,h2⟩:=q7;exact⟨E,w1,F,c,q1,q2,q3,q4,q5,q6,todo,x,h1,h2⟩|exit id=>grind|ret=>grind
theorem dK.pass{m:Machine}{b:Frame}{k c:List Item}{cs:List Frame}{g:Gh}{ex:b7}{a:Act}{w:World}(he:ex≠.normal)(hx:∀id,exitTo id c=exitTo id k)(h:dK P m b c cs g ex a w):dK P m b k cs g ex a w:=by cases ex with|normal=>grind|exit id=>exact⟨λk' e=>h.1 k' (by grind),λe=>h.2 (by grind)⟩|ret=>exact h|panic v=>exact h
def Of(P:Program)(R:Rec):Prop:=∀(cx:Ctx)(id:Nat)(ops:Array Oper)(st:aD)(ex:b7)(st':aD),nG P R cx ops st=some (ex,st')->qG P cx st ex st' (λk=>.code (.region id ops true)::k)
def MH(P:Program)(R:Rec):Prop:=∀(cx:Ctx)(f:Operand)(params:Array Tmp)(assign body:Code)(st:aD)(ex:b7)(st':aD),evalCode P R cx (.rangeFunc f params assign body) st=some (ex,st')->qG P cx st ex st' (λk=>.code (.rangeFunc f params assign body)::k)
theorem Vt(hP:ProgOK P)(Q:dX P R)(X:Of P R)(hF:MH P R):∀(c:Code)(st:aD)(ex:b7)(st':aD),evalCode P R cx c st=some (ex,st')->qG P cx st ex st' (λk=>.code c::k):=by
 intro c
 induction c with
 |skip=>intro st ex st' hr g w b a k cs hw hf hc ha hm;simp only[evalCode,ad,av]at hr;obtain⟨rfl,rfl⟩:=hr;exact⟨g,w,a,cs,.refl _ _ _,hw,ha,.refl _ _,hm,id,.one VK⟩
 |label l=>intro st ex st' hr g w b a k cs hw hf hc ha hm;simp only[evalCode,ad,av]at hr;obtain⟨rfl,rfl⟩:=hr;exact⟨g,w,a,cs,.refl _ _ _,hw,ha,.refl _ _,hm,id,.one Vp⟩
 |region id ops draw=>intro st ex st' hr;cases draw with|true=>simp only[evalCode,if_true]at hr;exact X cx id ops st ex st' hr|false=>simp only[evalCode,Bool.false_eq_true,if_false]at hr;intro g w b a k cs hw hf hc ha hm;obtain⟨g',w',a',aS,q1,q2,q3,q4,q5,q6,q7⟩:=Wr (ops:=ops) hP Q ops.size 0 st ex st' (by simp) (by grind) g w b a k cs hw hf hc ha hm;refine⟨g',w',a',aS,q1,q2,q3,q4,q5,q6,dK.of_steps (.one Ve) ?_⟩;rw[List.range_eq_range'];exact q7
 |seq x y K J=>intro st ex st' hr g w b a k cs hw hf hc ha hm;simp only[evalCode]at hr;cases hx:evalCode P R cx x st with|none=>grind|some p=>obtain⟨E,F⟩:=p;rw[hx]at hr;obtain⟨z,w1,D,o,q1,q2,q3,q4,q5,q6,q7⟩:=K st E F hx g w b a (.code y::k) cs hw hf hc ha hm;cases E with|normal=>simp only at hr;obtain⟨g2,T,Y,O,r1,r2,r3,r4,r5,r6,r7⟩:=J F ex st' hr z w1 b D k o q2 (hf.step q1) (hc.mono q1.le) q3 q5;exact⟨g2,T,Y,O,q1.trans hf r1,r2,r3,q4.trans q6 r4,r5,λe=>r6 (q6 e),dK.of_steps (.head yA q7) r7⟩|exit id=>simp only[ad,av]at hr;obtain⟨rfl,rfl⟩:=hr;exact⟨z,w1,D,o,q1,q2,q3,q4,q5,q6,dK.of_steps (.one yA) (dK.pass (by simp) (λ_=>rfl) q7)⟩|ret=>simp only[ad,av]at hr;obtain⟨rfl,rfl⟩:=hr;exact⟨z,w1,D,o,q1,q2,q3,q4,q5,q6,dK.of_steps (.one yA) (dK.pass (by simp) (λ_=>rfl) q7)⟩|panic v=>simp only[ad,av]at hr;obtain⟨rfl,rfl⟩:=hr;exact⟨z,w1,D,o,q1,q2,q3,q4,q5,q6,dK.of_steps (.one yA) (dK.pass (by simp) (λ_=>rfl) q7)⟩
 |cond c x y K J=>
  intro st ex st' hr g w b a k cs hw hf hc ha hm
  simp only[evalCode]at hr
  have I:=ha.ev c
  split at hr
  .rename_i e;rw[e]at I;have hv:=VR.kB I;obtain⟨g',w',a',aS,q1,q2,q3,q4,q5,q6,q7⟩:=K st ex st' hr g w b a k cs hw hf hc ha hm;exact⟨g',w',a',aS,q1,q2,q3,q4,q5,q6,dK.of_steps (.one (JF hv)) q7⟩
  .rename_i e;rw[e]at I;have hv:=VR.kB I;obtain⟨g',w',a',aS,q1,q2,q3,q4,q5,q6,q7⟩:=J st ex st' hr g w b a k cs hw hf hc ha hm;exact⟨g',w',a',aS,q1,q2,q3,q4,q5,q6,dK.of_steps (.one (JF hv)) q7⟩
  .cases hr
 |block id body M=>
  intro st ex st' hr g w b a k cs hw hf hc ha hm
  simp only[evalCode]at hr
  cases hx:evalCode P R cx body st with
  |none=>grind
  |some p=>
   obtain⟨E,F⟩:=p
   rw[hx]at hr
   obtain⟨z,w1,D,o,q1,q2,q3,q4,q5,q6,q7⟩:=M st E F hx g w b a (.inBlock id::k) cs hw hf hc ha hm
   cases E with
   |normal=>simp only[ad,av]at hr;obtain⟨rfl,rfl⟩:=hr;exact⟨z,w1,D,o,q1,q2,q3,q4,q5,q6,.head td (Steps.trans q7 (.one UX))⟩
   |exit L=>
    simp only at hr
    split at hr
    .rename_i e;simp only[ad,av]at hr;obtain⟨rfl,rfl⟩:=hr;exact⟨z,w1,D,o,q1,q2,q3,q4,q5,q6,.head td (q7.1 k (by simp[exitTo,e]))⟩
    .rename_i e
     simp only[ad,av]at hr
     obtain⟨rfl,rfl⟩:=hr
     have N:(id==L)=false:=by grind
     have hex:exitTo L (.inBlock id::k)=exitTo L k:=by simp[exitTo,N]
     refine⟨z,w1,D,o,q1,q2,q3,q4,q5,q6,dK.of_steps (.one td) ?_⟩;exact⟨λk' e'=>q7.1 k' (by grind),λe'=>q7.2 (by grind)⟩|ret=>simp only[ad,av]at hr;obtain⟨rfl,rfl⟩:=hr;exact⟨z,w1,D,o,q1,q2,q3,q4,q5,q6,dK.of_steps (k:=k) (.one td) q7⟩|panic v=>simp only[ad,av]at hr;obtain⟨rfl,rfl⟩:=hr;exact⟨z,w1,D,o,q1,q2,q3,q4,q5,q6,dK.of_steps (k:=k) (ex:=.panic v) (.one td) q7⟩
 |loop body M=>intro st ex st' hr g w b a k cs hw hf hc ha hm;simp only[evalCode]at hr;obtain⟨g',w',a',aS,q1,q2,q3,q4,q5,q6,q7⟩:=Q.loop body cx st ex st' hr g w b a k cs hw hf hc ha hm;exact⟨g',w',a',aS,q1,q2,q3,q4,q5,q6,dK.of_steps (.one VL) q7⟩
 |exit id=>intro st ex st' hr g w b a k cs hw hf hc ha hm;simp only[evalCode,ad,av]at hr;obtain⟨rfl,rfl⟩:=hr;exact⟨g,w,a,cs,.refl _ _ _,hw,ha,.refl _ _,hm,λe=>e,λk' e=>.one (JG e),λe=>⟨k,e,.refl _ _⟩⟩
 |scope body M=>intro st ex st' hr g w b a k cs hw hf hc ha hm;simp only[evalCode]at hr;obtain⟨z,w1,D,o,q1,q2,q3,q4,q5,q6,q7⟩:=M st ex st' hr g w b a (.inScope body::k) cs hw hf hc ha hm;refine⟨z,w1,D,o,q1,q2,q3,q4,q5,q6,?_⟩;cases ex with|normal=>exact .head yj (Steps.trans q7 (.one UY))|exit id=>exact dK.of_steps (.one yj) (dK.pass (by simp) (λ_=>rfl) q7)|ret=>exact dK.of_steps (k:=k) (.one yj) (dK.pass (by simp) (λ_=>rfl) q7)|panic v=>exact dK.of_steps (k:=k) (.one yj) (dK.pass (by simp) (λ_=>rfl) q7)
 |goto l=>intro st ex st' hr;simp[evalCode]at hr|ret=>intro st ex st' hr g w b a k cs hw hf hc ha hm;simp only[evalCode,ad,av]at hr;obtain⟨rfl,rfl⟩:=hr;exact⟨g,w,a,cs,.refl _ _ _,hw,ha,.refl _ _,hm,id,k,.refl _ _⟩|refuse S=>intro st ex st' hr;simp[evalCode]at hr|rangeFunc f params assign body V U=>intro st ex st' hr;exact hF cx f params assign body st ex st' hr
end
end Go.AI
end

section
namespace Go.AI
section
variable {P:Program}{R:Rec}{g:Gh}{w:World}{h:AHeap}
theorem VN{t:TypeId}{x y:AV}{v:Value}(hw:W h g w)(hr:iw P h t x=some y)(hx:VR g x v):
 ∃a u,v=.pointer (some a)/\(loadVar t a).run P w=.ok u w/\VR g y u:=by
 have hv:∃a,v=.pointer (some a):=by
  unfold iw at hr
  split at hr
  .rename_i s _ _;cases c:gW h s x with|none=>grind|some cs=>obtain⟨a,e,_⟩:=rL hw c hx;grind
  .split at hr
   .rename_i c;obtain⟨a,e,_⟩:=rL hw c hx;grind
   .cases hr
  .cases hr
 obtain⟨a,rfl⟩:=hv;obtain⟨u,h1,h2⟩:=Dx hw hr hx;refine⟨a,u,rfl,?_,h2⟩;simpa[Instr.loadAt,Instr.sureAddr]using h1
theorem TR.ev{tm:Tr AV}{tmps:Array Value}(ht:TR g tm tmps)(t:Tmp):VR g (ev tm (.tmp t)) (tmps.getD t undef):=by show VR g (match tm.get t with|some v=>v|none=>.aM) (tmps.getD t undef);cases hg:tm.get t with|none=>exact .aM _|some v=>obtain⟨u,h1,h2⟩:=ht t v hg;simp_all
theorem CT{fn:Func}{tm:Tr AV}{tmps:Array Value}{f:ResultVar->Sem Value}(o:∀t,f (.tmp t)=pure (tmps.getD t undef))(c:∀a t,f (.cell a t)=(do loadVar t (<-asAddr (tmps.getD a undef))))
 (hw:W h g w)(ht:TR g tm tmps):∀{rs:List ResultVar}{xs:List AV},jn P fn tm h rs=some xs->∃vs:List Value,(rs.mapM f).run P w=.ok vs w/\aG g xs vs
 |[],xs,hr=>by simp[jn]at hr;subst hr;exact⟨[],by simp,trivial⟩
 |.tmp t::rs,xs,hr=>by simp only[jn]at hr;cases hq:jn P fn tm h rs with|none=>grind|some ys=>rw[hq]at hr;simp only[ad]at hr;subst hr;obtain⟨vs,h1,h2⟩:=CT o c hw ht hq;exact⟨_::vs,by simp_all,ht.ev t,h2⟩
 |.cell a t::rs,xs,hr=>by
  simp only[jn]at hr
  split at hr
  .rename_i y ys hl hq;simp only[ad]at hr;subst hr;obtain⟨vs,h1,h2⟩:=CT o c hw ht hq;obtain⟨z,u,e,h3,h4⟩:=VN (P:=P) hw hl (ht.ev a);refine⟨u::vs,?_,h4,h2⟩;simp only[List.mapM_cons,c,Sem.run_bind,e,show asAddr (.pointer (some z))=pure z from rfl,Sem.run_pure,Result.andThen_ok,h3,h1]
  .cases hr
theorem YC{fn:Func}{tm:Tr AV}{tmps:Array Value}{v:AV}(hw:W h g w)(ht:TR g tm tmps)(hr:kR P fn tm h=some v):∃x,(results fn tmps).run P w=.ok x w/\VR g v x:=by
 unfold kR at hr
 have key:∀xs,jn P fn tm h fn.results.toList=some xs->∃vs:List Value,(results fn tmps).run P w=.ok (if h:vs.toArray.size=1 then vs.toArray[0]else .tuple vs.toArray) w/\aG g xs vs:=by
  intro xs hx
  have c:∀f:ResultVar->Sem Value,(∀t,f (.tmp t)=pure (tmps.getD t undef))->(∀a t,f (.cell a t)=(do loadVar t (<-asAddr (tmps.getD a undef))))->∃vs:List Value,(do let vs<-fn.results.mapM f;pure (if h:vs.size=1 then vs[0]else .tuple vs):Sem Value).run P w=.ok (if h:vs.toArray.size=1 then vs.toArray[0]else .tuple vs.toArray) w/\aG g xs vs:=by intro f D z;obtain⟨vs,h1,h2⟩:=CT D z hw ht hx;refine⟨vs,?_,h2⟩;simp only[Array.mapM_eq_mapM_toList,bind_map_left,Sem.run_bind,h1,Result.andThen_ok,Sem.run_pure]
  exact c _ (λ_=>rfl) (λ_ _=>rfl)
 split at hr
 .rename_i x hx;simp only[ad]at hr;subst hr;obtain⟨vs,h1,h2⟩:=key _ hx;match vs,h2 with|[u],h2=>exact⟨u,by grind,h2.1⟩
 .rename_i xs o hx;simp only[ad]at hr;subst hr;obtain⟨vs,h1,h2⟩:=key _ hx;refine⟨.tuple vs.toArray,?_,VR.fm.2 ⟨_,rfl,by grind⟩⟩;rw[h1,dif_neg];intro e;have hl:=h2.length;match xs,hl with|[x],_=>grind|[],hl=>grind|_::_::_,hl=>grind
 .cases hr
def Left(P:Program)(fn:Func)(g:Gh)(w:World)(fr:Frame):di->Prop|.ret v=>fr.mode=.returning/\fr.defers=[]/\∃x,(results fn fr.tmps).run P w=.ok x w/\VR g v x|.aN v=>fr.defers=[]/\∃x,fr.mode=.panicking [{v:=x,recovered:=false}]/\VR g v x
theorem Ws{fr:Frame}{cs:List Frame}{blk:Nat}{ds:List Deferred}(hm:fr.mode≠.run)(hd:fr.defers={target:=.collected blk,args:=#[]}::ds)(hb:w.heap[blk]?=some (.deferred (some []))):
 step P (lone fr cs w)=.next (lone {fr with defers:=ds} cs (dk w blk (.deferred none))):=by
 have ht:(Instr.takeDeferred blk).run P w=.ok [] (dk w blk (.deferred none)):=by unfold Instr.takeDeferred;simp only[Sem.run_bind,fI hb rfl,Result.andThen_ok,kr hb rfl,Sem.run_pure]
 refine step_lone_go ?_;cases c:fr.mode with|run=>grind|returning=>simp[stepG,unwind,c,hd,ht]|panicking chain=>simp[stepG,unwind,c,hd,ht]
theorem Kd{fn:Func}{tm:Tr AV}(hP:ProgOK P)(hR:dX P R):∀(df:List ey)(m:bD)(h:AHeap)(out:di)(h':AHeap),cH P R fn tm df m h=some (out,h')->
 ∀(g:Gh)(w:World)(fr:Frame)(cs:List Frame),W h g w->eI h g->P.funcs[fr.fn]?=some fn->ix g m fr.mode->jz g df fr.defers->TR g tm fr.tmps->
 ∃g' w' D,Step h g w h' g' w'/\W h' g' w'/\D.kind=fr.kind/\D.fn=fr.fn/\D.roundOf=fr.roundOf/\Steps P (lone fr cs w) (lone D cs w')/\Left P fn g' w' D out:=by
 intro df
 induction df with
 |nil=>
  intro m h out h' hr g w fr cs hw hf hfn hm hd ht
  have Cj:fr.defers=[]:=by cases hx:fr.defers with|nil=>rfl|cons _ _=>rw[hx]at hd;exact hd.elim
  cases m with
  |none=>exact hm.elim
  |ret=>simp only[cH]at hr;cases hv:kR P fn tm h with|none=>grind|some v=>rw[hv]at hr;simp only[Option.map_some,ad,av]at hr;obtain⟨rfl,rfl⟩:=hr;exact⟨g,w,fr,.refl _ _ _,hw,rfl,rfl,rfl,.refl _ _,hm,Cj,YC hw ht hv⟩
  |aN v r=>cases r with|true=>simp[cH]at hr|false=>simp only[cH,ad,av]at hr;obtain⟨rfl,rfl⟩:=hr;obtain⟨x,h1,h2⟩:=hm;exact⟨g,w,fr,.refl _ _ _,hw,rfl,rfl,rfl,.refl _ _,Cj,x,h1,h2⟩
 |cons d ds ih=>
  intro m h out h' hr g w fr cs hw hf hfn hm hd ht
  have V:fr.mode≠.run:=by cases m with|none=>exact hm.elim|ret=>have:fr.mode=.returning:=hm;grind|aN v r=>obtain⟨x,e,_⟩:=hm;rw[e];simp
  cases I:fr.defers with
  |nil=>rw[I]at hd;exact hd.elim
  |cons d' K=>
   rw[I]at hd
   obtain⟨Z,Y⟩:=hd
   cases d with
   |dD o=>
    obtain⟨blk,s,n,hB,rfl⟩:=Z
    simp only[cH]at hr
    split at hr
    .rename_i hg;have L:=hw.obj o _ hg blk s n hB;have E:=jV (x':=.cE none) hw hg hB (w':=dk w blk (.deferred none)) rfl (by intro b' s' n' O;rw[hB]at O;simp only[ad,av]at O;obtain⟨rfl,rfl,rfl⟩:=O;exact il (ik L));obtain⟨g',w',D,q1,q2,q3,q4,q5,q6,q7⟩:=ih m _ out h' hr g _ {fr with defers:=K} cs E.1 (hf.step E.2) hfn hm Y ht;exact⟨g',w',D,E.2.trans hf q1,q2,q3,q4,q5,.head (Ws V I L) q6,q7⟩
    .cases hr
   |fn f captured args=>
    obtain⟨M,F,rfl,h1,h2⟩:=Z
    cases f with
    |func f=>
     simp only[cH]at hr
     split at hr
     .rename_i f' Q TP HJ
      have FX:=CR (vs:=F++M) hP hw (hf h.next (aC _)) (h2.append h1) HJ
      obtain⟨rfl,vs,T,gC⟩:=FX
      have X:(invoke (.fn (.func f) M.toArray) F.toArray).run P w=.ok (.enter f' vs.toArray) w:=by rw[<-T];simp[invoke]
      have eO:=step_defer (P:=P) (cs:=cs) V I rfl X
      have hmn:m≠.none:=by rintro rfl;exact hm.elim
      have key:∀(v:AV)(cm' m':bD)(h3:AHeap),R.call .deferred f' Q m TP=some (.ret v,cm',h3)->cH P R fn tm ds m' h3=some (out,h')->cm'≠.none->(∀g u,ix g cm' u->ix g m' (settle u))->∃g' w' D,Step TP g w h' g' w'/\W h' g' w'/\D.kind=fr.kind/\D.fn=fr.fn/\D.roundOf=fr.roundOf/\Steps P (lone fr cs w) (lone D cs w')/\Left P fn g' w' D out:=by intro v cm' m' h3 z N HK S;obtain⟨e,u',w1,frX,⟨g1,q1,q2,q3,q4⟩,J,hkX,hgo⟩:=hR.vf _ _ _ _ _ _ _ hmn z g w vs fr.mode hw hf gC hm {fr with defers:=K} cs rfl;cases e with|returned x=>have U:=step_going_returned (P:=P) (c:={{fr with defers:=K}with mode:=u'}) (cs:=cs) hkX hgo;obtain⟨g2,w2,fr2,r1,r2,r3,r4,r5,r6,r7⟩:=ih m' h3 out h' N g1 w1 {{{fr with defers:=K}with mode:=u'}with mode:=settle u'} cs q2 (hf.step q1) hfn (S _ _ (q3 HK)) (Y.mono q1.le) (ht.mono q1.le);exact⟨g2,w2,fr2,q1.trans hf r1,r2,r3,r4,r5,.head eO (Steps.trans J (.head U r6)),r7⟩|panicked _=>exact q4.elim|outgrown=>exact q4.elim
      split at hr
      .rename_i v v2 h3 z;refine key v (.aN v2 true) .ret h3 z hr (by simp) λg u hu=>?_;obtain⟨x,rfl,_⟩:=hu;simp[settle,ix]
      .rename_i v v2 h3 z;refine key v (.aN v2 false) (.aN v2 false) h3 z hr (by simp) λg u hu=>?_;obtain⟨x,rfl,hx⟩:=hu;exact⟨x,by simp[settle],hx⟩
      .rename_i v h3 z;refine key v .ret .ret h3 z hr (by simp) λg u hu=>?_;have:u=.returning:=hu;subst this;simp[settle,ix]
      .cases hr
     .cases hr|_=>simp[cH]at hr
end
end Go.AI
end

section
namespace Go.AI
section
variable {P:Program}{R:Rec}{g:Gh}{w:World}{h:AHeap}
theorem pH:∀{xs:List AV},eo xs=true->∀(i:Nat)(x:AV),xs[i]?=some x->fS x=true|[],_,i,x,hx=>by simp at hx|y::ys,hh,0,x,hx=>by simp[eo]at hh hx;grind|y::ys,hh,i+1,x,hx=>by simp[eo]at hh hx;exact pH hh.2 i x hx
theorem VR.free{g g':Gh}(hm:∀b i v,g.M b i=some v->g'.M b i=some v){x:AV}{v:Value}(hr:VR g x v):fS x=true->VR g' x v:=by induction hr with|aM v=>intro _;exact .aM v|sc v=>intro _;exact .sc v|ref _=>intro e;simp[fS]at e|sl _ _ _ _=>intro e;simp[fS]at e|bT a c=>intro _;exact .bT a c|cI f h1 _ o=>intro e;simp[fS]at e;exact .cI f (λi x hx=>hm _ _ _ (h1 i x hx)) (λi x hx=>o i x hx (pH e i x hx))|aZ f h1 _ a b c o=>intro e;simp[fS]at e;exact .aZ f (λi x hx=>hm _ _ _ (h1 i x hx)) (λi x hx=>o i x hx (pH e i x hx)) a b c|hU=>intro _;exact .hU|ia a=>intro _;exact .ia a|aQ hl z _ o=>intro _;exact .aQ hl z (o (by simp only[fS];exact z))|map _=>intro e;simp[fS]at e|func h1 _ h2 _ E D=>intro e;simp[fS]at e;exact .func h1 (λi x v a b=>E i x v a b (pH e.1 i x a)) h2 (λi x v a b=>D i x v a b (pH e.2 i x a))|eB _=>intro e;simp[fS]at e|iface _ o=>intro e;simp[fS]at e;exact .iface (o e)|agg h1 _ o=>intro e;simp[fS]at e;exact .agg h1 (λi x v a b=>o i x v a b (pH e i x a))|tuple h1 _ o=>intro e;simp[fS]at e;exact .tuple h1 (λi x v a b=>o i x v a b (pH e i x a))
theorem IW{floor o:Nat}(os:List Nat):∀{l:List Nat},o∈l->o∈rR l floor os:=by induction os with|nil=>intro l h;exact h|cons p os c=>intro l h;exact c (yy h)
theorem IQ{floor o:Nat}(os:List Nat):∀{l:List Nat},o∈os->o<floor->o∈rR l floor os:=by
 induction os with
 |nil=>grind
 |cons p os c=>
  intro l h hf
  rcases List.mem_cons.1 h with rfl|h
  .exact IW os (rk hf)
  .exact c h hf
theorem W.congr{h':AHeap}(hw:W h g w)(he:∀o,h'.get o=h.get o):W h' g w:=⟨λo x hx=>hw.obj o x (by grind),hw.ei,hw.inj,hw.ro,hw.fZ,hw.gl⟩
theorem W.inner(hw:W h g w):W h.inner g w:=hw.congr λ_=>rfl
theorem eI.inner(hf:eI h g):eI h.inner g:=hf
theorem yT{h':AHeap}{g':Gh}{w':World}(hf:eI h g)(hs:Step h.inner g w h' g' w')(hw:W h' g' w'):Step h g w (h.outer h') g' w'/\W (h.outer h') g' w':=by
 refine⟨⟨hs.le,hs.gA,rfl,λo ho=>IW _ ho,?_,hs.ph,hs.gone,hs.iA,hs.size,hs.old,?_,hs.tape,hs.os,hs.out,hs.fX⟩,hw.congr λ_=>rfl⟩
 .intro o h1 h2 h3;exact hs.ck o h2 h2 λh4=>h3 (IQ _ h4 h1)
 .intro b hb h1
  refine hs.fr b hb λo v s n e=>?_
  rcases h1 o v s n e with⟨h2,h3⟩|h2
  .refine .inl ⟨?_,λh4=>h3 (IQ _ h4 h2)⟩
   rcases Nat.lt_or_ge o h.next with h4|h4
   .exact h4
   .rw[hf o h4 v]at e;cases e
  .exact .inr h2
theorem VO{h':AHeap}{g':Gh}{w':World}(hf:eI h g)(D:W h g w)(hs:Step h.inner g w h' g' w')(hw:W h' g' w')(he:h'.wr=[]):
 Step h g w h ⟨g.B,g'.M⟩ w'/\W h ⟨g.B,g'.M⟩ w':=by
 have z:g.Le ⟨g.B,g'.M⟩:=⟨λ_ _ _ e=>e,hs.le.m⟩
 have hall:∀b,b<w.heap.size->w'.heap[b]?=w.heap[b]?:=by
  intro b hb
  refine hs.fr b hb λo v s n e=>.inl ⟨?_,by simp[he]⟩
  rcases Nat.lt_or_ge o h.next with h4|h4
  .exact h4
  .rw[hf o h4 v]at e;cases e
 have c:=D.same hs.size hall;refine⟨⟨z,aC _,rfl,λ_ h=>h,λ_ _ _ _=>rfl,λ_ _ _=>rfl,λ_ _ h=>h,λ_ _ _ h=>.inl h,hs.size,λo v b s n e _=>⟨v,s,n,e⟩,λb hb _=>hall b hb,hs.tape,hs.os,hs.out,hs.fX⟩,?_⟩;refine⟨λo x hx=>(c.obj o x hx).move z (λ_ _ e=>e) (λ_ _ _ _ _=>rfl),c.ei,c.inj,hw.ro,?_,hw.gl⟩;intro b i u hm o v s n e;exact hw.fZ b i u hm o v s n (hs.le.b _ _ _ e)
theorem VP{kind:CallKind}{cm cm':bD}{r:Option (di×AHeap)}{out:di}{h2:AHeap}(hr:rK kind h cm r=some (out,cm',h2))(z:W h g w)(hf:eI h g):
 cm'=cm/\∃h',r=some (out,h')/\∀(g':Gh)(w':World),Step h.inner g w h' g' w'->W h' g' w'->∃g2,Step h g w h2 g2 w'/\W h2 g2 w'/\(kind≠.normal->g2=g')/\(∀v x,(out=.ret v\/out=.aN v)->VR g' v x->VR g2 v x):=by
 unfold rK at hr
 split at hr
 .rename_i o h'
  split at hr
  .rename_i hc
   simp only[ad,av]at hr
   obtain⟨rfl,rfl,rfl⟩:=hr
   obtain⟨hk,D,c⟩:=hc
   refine⟨rfl,h',rfl,λg' w' hs hw=>?_⟩
   obtain⟨q1,q2⟩:=VO hf z hs hw (by grind)
   refine⟨_,q1,q2,λhn=>absurd hk hn,?_⟩
   intro v x ho hx
   refine VR.free (g:=g') (g':=⟨g.B,g'.M⟩) (λ_ _ _ e=>e) hx ?_
   rcases ho with rfl|rfl
   .exact c
   .exact c
  .simp only[ad,av]at hr;obtain⟨rfl,rfl,rfl⟩:=hr;refine⟨rfl,h',rfl,λg' w' hs hw=>?_⟩;obtain⟨q1,q2⟩:=yT hf hs hw;grind
 .cases hr
theorem CU:∀(xs:List AV)(i:Nat)(t:Tr AV)(k:Nat),(gN xs i t).get k=if i<=k/\k<i+xs.length then xs[k-i]? else t.get k
 |[],i,t,k=>by simp[gN];grind
 |x::xs,i,t,k=>by
  simp only[gN]
  rw[CU xs (i+1) (t.put i x) k]
  by_cases h1:k=i
  .subst h1;rw[if_neg (by omega),if_pos (by simp),Tr.a7];simp
  .rw[Tr.aL _ _ h1];grind
theorem MI{args:List AV}{vs:List Value}{n:Nat}(hv:aG g args vs):TR g (gN args 0 .leaf) (vs.toArray++Array.replicate (n-vs.toArray.size) undef):=by
 intro t x hx
 rw[CU]at hx
 split at hx
 .rename_i hc
  simp only[Nat.sub_zero]at hx
  have hlt:t<vs.length:=by rw[<-hv.length];omega
  refine⟨vs[t],?_,hv.get t x vs[t] hx (by simp[hlt])⟩;grind
 .simp[Tr.get]at hx
theorem Ke{b:Frame}{a:Act}{cs:List Frame}(hn:b.roundOf=none):step P (lone (ax b a []) cs w)=.next (lone {ax b a []with mode:=.returning} cs w):=step_lone_go (by simp[stepG,stepG.exec,ax,hn])
theorem Kf{b:Frame}{a:Act}{k:List Item}{cs:List Frame}(hn:b.roundOf=none):step P (lone (ax b a (.code .ret::k)) cs w)=.next (lone {ax b a (.code .ret::k)with mode:=.returning} cs w):=step_lone_go (by simp[stepG,stepG.exec,ax,hn])
def mC(P:Program)(R:Rec):Prop:=∀(cx:Ctx)(c:Code)(st:aD)(ex:b7)(st':aD),evalCode P R cx c st=some (ex,st')->qG P cx st ex st' (λk=>.code c::k)
theorem MJ{kind:CallKind}{f:FuncId}{fn:Func}{code:Code}{args:List AV}{cm:bD}{out:di}{cm':bD}{h2:AHeap}(hP:ProgOK P)(Z:dX P R)(hE:mC P R)
 (hfn:P.funcs[f]?=some fn)(o:fn.body=some code)(hr:pQ P R kind f args cm h=some (out,cm',h2)){vs:List Value}(hw:W h g w)(hf:eI h g)(hv:aG g args vs){cs:List Frame}(hm:gn g cm cs):
 ∃g2 w' fr aS,Step h g w h2 g2 w'/\W h2 g2 w'/\jG cm cs aS/\(cm=.none->cm'=.none)/\(kind≠.normal->gn g2 cm' aS)/\Steps P (lone (Frame.enter P f vs.toArray kind) cs w) (lone fr aS w')/\fr.fn=f/\fr.kind=kind/\Left P fn g2 w' fr out:=by
 have D:Frame.enter P f vs.toArray kind=ax {(default:Frame)with fn:=f,kind:=kind} {tmps:=vs.toArray++Array.replicate (fn.ntmps-vs.toArray.size) undef,defers:=[]} [.code code]:=by simp[Frame.enter,ax,hfn,o];rfl
 unfold pQ at hr
 simp only[hfn,o]at hr
 have hlen:vs.length=args.length:=hv.length.symm
 have J:gp g (max fn.ntmps args.length) {tm:=gN args 0 .leaf,df:=[],cm,h:=h.inner} {tmps:=vs.toArray++Array.replicate (fn.ntmps-vs.toArray.size) undef,defers:=[]}:=⟨MI hv,by simp;omega,trivial⟩
 cases he:evalCode P R {fn:=f,tn:=max fn.ntmps args.length,kind,round:=none} code {tm:=gN args 0 .leaf,df:=[],cm,h:=h.inner}with
 |none=>grind
 |some p=>
  obtain⟨ex,st⟩:=p
  rw[he]at hr
  obtain⟨S,w1,T,F,q1,q2,q3,q4,q5,q6,q7⟩:=hE _ _ _ _ _ he g w {(default:Frame)with fn:=f,kind:=kind} _ [] cs hw.inner hf.inner ⟨rfl,rfl,rfl⟩ J hm
  rw[<-D]at q7
  have fin:∀(m:bD)(c:Frame),rK kind h st.cm (cH P R fn st.tm st.df m st.h)=some (out,cm',h2)->Steps P (lone (Frame.enter P f vs.toArray kind) cs w) (lone c F w1)->ix S m c.mode->c.fn=f->c.kind=kind->c.defers=T.defers->c.tmps=T.tmps->∃g2 w' fr aS,Step h g w h2 g2 w'/\W h2 g2 w'/\jG cm cs aS/\(cm=.none->cm'=.none)/\(kind≠.normal->gn g2 cm' aS)/\Steps P (lone (Frame.enter P f vs.toArray kind) cs w) (lone fr aS w')/\fr.fn=f/\fr.kind=kind/\Left P fn g2 w' fr out:=by intro m c I z E e1 e2 e3 e4;obtain⟨rfl,h3,hl,hk⟩:=VP I hw hf;obtain⟨g2,O,N,r1,r2,r3,r4,_,r5,r6⟩:=Kd hP Z _ _ _ _ _ hl S w1 c F q2 (hf.inner.step q1) (by grind) E (by rw[e3];exact q3.df) (by rw[e4];exact q3.tm);obtain⟨g3,Y,X,V,Q⟩:=hk g2 O (q1.trans hf.inner r1) r2;refine⟨g3,O,N,F,Y,X,q4,q6,λhn=>by rw[V hn];exact q5.mono r1.le,Steps.trans z r5,by rw[r4,e1],by rw[r3,e2],?_⟩;cases out with|ret v=>obtain⟨M,L,x,K,U⟩:=r6;exact⟨M,L,x,K,Q v x (.inl rfl) U⟩|aN v=>obtain⟨M,x,L,K⟩:=r6;exact⟨M,x,L,Q v x (.inr rfl) K⟩
  cases ex with|normal=>exact fin .ret _ hr (Steps.trans q7 (.one (Ke rfl))) rfl rfl rfl rfl rfl|ret=>obtain⟨k2,q7⟩:=q7;exact fin .ret _ hr (Steps.trans q7 (.one (Kf rfl))) rfl rfl rfl rfl rfl|panic v=>obtain⟨todo,x,hx,q7⟩:=q7;exact fin (.aN v false) _ hr q7 ⟨x,rfl,hx⟩ rfl rfl rfl rfl|exit id=>cases hr
theorem Jn{kind:CallKind}{f:FuncId}{args:List AV}{cm:bD}{r:di×bD×AHeap}(hr:pQ P R kind f args cm h=some r):∃fn code,P.funcs[f]?=some fn/\fn.body=some code:=by unfold pQ at hr;grind
theorem YD{f:FuncId}{args:List AV}{out:di}{cm':bD}{h2:AHeap}(hP:ProgOK P)(E:dX P R)(F:mC P R)(hr:pQ P R .normal f args .none h=some (out,cm',h2)):fc P f args h out h2:=by intro g w vs hw hf hv cs;obtain⟨fn,code,hfn,hb⟩:=Jn hr;obtain⟨g2,w',fr,aS,q1,q2,q3,q4,q5,q6,q7,q8,q9⟩:=MJ hP E F hfn hb hr hw hf hv (cs:=cs) trivial;obtain rfl:aS=cs:=q3.1 rfl;cases out with|ret v=>obtain⟨z,o,x,c,D⟩:=q9;exact⟨.returned x,w',fr,⟨g2,q1,q2,D⟩,q6,q7,z,o,q8,fn,by grind,c⟩|aN v=>obtain⟨z,x,o,c⟩:=q9;exact⟨.panicked _,w',fr,⟨g2,q1,q2,x,rfl,c⟩,q6,q7,o,z,fn,by grind⟩
theorem Xl{f:FuncId}{args:List AV}{cm:bD}{out:di}{cm':bD}{h2:AHeap}(hP:ProgOK P)(L:dX P R)(M:mC P R)(hn:cm≠.none)(hr:pQ P R .deferred f args cm h=some (out,cm',h2)):
 DY P f args cm h out cm' h2:=by
 intro g w vs u hw hf hv hm c cs hu
 obtain⟨fn,code,hfn,hb⟩:=Jn hr
 have I:gn g cm (c::cs):=by cases cm with|none=>grind|ret=>exact⟨c,cs,rfl,by grind⟩|aN v b=>exact⟨c,cs,rfl,by grind⟩
 obtain⟨g2,w',fr,aS,q1,q2,q3,q4,q5,q6,q7,q8,q9⟩:=MJ hP L M hfn hb hr hw hf hv (cs:=c::cs) I
 have o:=q5 (by simp)
 have fk:∃m,aS={c with mode:=m}::cs:=by
  rcases q3.2 with e|⟨c',r,m,e1,e2⟩
  .exact⟨c.mode,by rw[e]⟩
  .grind
 obtain⟨m,rfl⟩:=fk
 have z:cm'≠.none->ix g2 cm' m:=by intro K;cases cm' with|none=>grind|ret=>obtain⟨c',r,e,hh⟩:=o;grind|aN v b=>obtain⟨c',r,e,hh⟩:=o;grind
 cases out with|ret v=>obtain⟨F,E,x,D,J⟩:=q9;exact⟨.returned x,m,w',fr,⟨g2,q1,q2,z,J⟩,q6,q8,F,E,fn,by grind,D⟩|aN v=>obtain⟨F,x,E,D⟩:=q9;exact⟨.panicked _,m,w',fr,⟨g2,q1,q2,z,x,rfl,D⟩,q6,q8,E,F,fn,by grind⟩
theorem MK{body:Code}{cx:Ctx}{st st':aD}{ex:b7}(J:dX P R)(K:mC P R)(hr:mg P R body cx st=some (ex,st')):qG P cx st ex st' (λk=>.code body::.inLoop body::k):=by intro g w b a k cs hw hf hc ha hm;unfold mg at hr;cases hx:evalCode P R cx body st with|none=>grind|some p=>obtain⟨E,D⟩:=p;rw[hx]at hr;obtain⟨o,w1,z,c,q1,q2,q3,q4,q5,q6,q7⟩:=K _ _ _ _ _ hx g w b a (.inLoop body::k) cs hw hf hc ha hm;cases E with|normal=>simp only at hr;obtain⟨g2,I,L,F,r1,r2,r3,r4,r5,r6,r7⟩:=J.loop body cx D ex st' hr o w1 b z k c q2 (hf.step q1) (hc.mono q1.le) q3 q5;exact⟨g2,I,L,F,q1.trans hf r1,r2,r3,q4.trans q6 r4,r5,λe=>r6 (q6 e),dK.of_steps (Steps.trans q7 (.one Vd)) r7⟩|exit id=>simp only[ad,av]at hr;obtain⟨rfl,rfl⟩:=hr;exact⟨o,w1,z,c,q1,q2,q3,q4,q5,q6,dK.pass (by simp) (λ_=>rfl) q7⟩|ret=>simp only[ad,av]at hr;obtain⟨rfl,rfl⟩:=hr;exact⟨o,w1,z,c,q1,q2,q3,q4,q5,q6,dK.pass (by simp) (λ_=>rfl) q7⟩|panic v=>simp only[ad,av]at hr;obtain⟨rfl,rfl⟩:=hr;exact⟨o,w1,z,c,q1,q2,q3,q4,q5,q6,dK.pass (by simp) (λ_=>rfl) q7⟩
end
end Go.AI
end

section
namespace Go.AI
section
variable {P:Program}{R:Rec}{g:Gh}{w:World}{h:AHeap}
theorem Je{tn:Nat}:∀{ps:List Tmp}{args:List AV}{vs:List Value}{tm bY:Tr AV}{tmps:Array Value},ly tn ps args tm=some bY->aG g args vs->tmps.size=tn->TR g tm tmps->
 ps.length=vs.length/\((ps.zip vs).foldl (λ(tmps:Array Value)(p:Tmp×Value)=>tmps.setIfInBounds p.1 p.2) tmps).size=tn/\TR g bY ((ps.zip vs).foldl (λ(tmps:Array Value)(p:Tmp×Value)=>tmps.setIfInBounds p.1 p.2) tmps)
 |[],[],[],tm,bY,tmps,hr,_,hs,ht=>by simp only[ly,ad]at hr;simp_all
 |p::ps,x::xs,v::vs,tm,bY,tmps,hr,hv,hs,ht=>by
  simp only[ly]at hr
  split at hr
  .rename_i hp
   have o:TR g (tm.put p x) (tmps.setIfInBounds p v):=by
    intro t y hy
    rw[Tr.pX]at hy
    by_cases e:t=p
    .subst e;rw[if_pos rfl]at hy;simp only[ad]at hy;subst hy;exact⟨v,by grind,hv.1⟩
    .rw[if_neg e]at hy;obtain⟨u,h1,h2⟩:=ht t y hy;grind
   obtain⟨q1,q2,q3⟩:=Je hr hv.2 (by simp[hs]) o;simp_all
  .cases hr|[],x::xs,_,_,_,_,hr,_,_,_=>by simp[ly]at hr|p::ps,[],_,_,_,_,hr,_,_,_=>by simp[ly]at hr|[],[],v::vs,_,_,_,_,hv,_,_=>hv.elim|p::ps,x::xs,[],_,_,_,_,hv,_,_=>hv.elim
theorem UG{b:Frame}{a:Act}{k:List Item}{cs:List Frame}{l:Nat}{w':World}(hb:b.roundOf=some l)(hr:(Instr.beginRound l).run P w=.ok () w'):step P (lone (ax b a (.beginRound::k)) cs w)=.next (lone (ax b a k) cs w'):=step_lone_go (by simp[stepG,stepG.exec,stepG.apply,ax,hb,Sem.runT_eq,hr,Result.andThen,Frame.finish])
variable {c:Frame}
theorem UN{b:Frame}{a:Act}{cs:List Frame}{l:Nat}{v:Value}{w':World}(hb:b.roundOf=some l)(hk:b.kind=.normal)(hr:(Instr.endRound l none).run P w=.ok v w'):step P (lone (ax b a []) (c::cs) w)=.next (lone (c.finish v) cs w'):=step_lone_go (by simp[stepG,stepG.exec,ax,hb,hk,Sem.runT_eq,hr,doReturn])
theorem UO{b:Frame}{a:Act}{k:List Item}{cs:List Frame}{l:Nat}{v:Value}{w':World}(hb:b.roundOf=some l)(hk:b.kind=.normal)(hr:(Instr.endRound l (some .ret)).run P w=.ok v w'):step P (lone (ax b a (.code .ret::k)) (c::cs) w)=.next (lone (c.finish v) cs w'):=step_lone_go (by simp[stepG,stepG.exec,ax,hb,hk,Sem.runT_eq,hr,doReturn])
theorem UH{b:Frame}{a:Act}{k:List Item}{cs:List Frame}{l id:Nat}{v:Value}{w':World}(hb:b.roundOf=some l)(hk:b.kind=.normal)(hx:exitTo id k=none)(hr:(Instr.endRound l (some (.exit id))).run P w=.ok v w'):step P (lone (ax b a (.code (.exit id)::k)) (c::cs) w)=.next (lone (c.finish v) cs w'):=step_lone_go (by simp[stepG,stepG.exec,ax,hb,hk,hx,Sem.runT_eq,hr,doReturn])
theorem Vf{fr:Frame}{cs:List Frame}{o:List PanicEntry}{fn:Func}(hm:fr.mode=.panicking o)(hd:fr.defers=[])(hf:P.funcs[fr.fn]?=some fn):step P (lone fr (c::cs) w)=.next (lone (c.raise o) cs w):=step_lone_go (by simp[stepG,unwind,hm,hd,Frame.catches,hf])
theorem CM{l:Nat}{jump:Option Code}{out:di}{h':AHeap}(hw:W h g w)(hr:ry l jump h=some (out,h')){z s n:Nat}(hB:g.B l 0=some (z,s,n)):
 out=.ret (.sc (.bool jump.isNone))/\∃w',(Instr.endRound z jump).run P w=.ok (.bool jump.isNone) w'/\W h' g w'/\Step h g w h' g w':=by
 unfold ry at hr
 split at hr
 .rename_i st h8 fn tn tm ps assign body dd hg
  simp only[ad,av]at hr
  obtain⟨rfl,rfl⟩:=hr
  obtain⟨tmps,D,s',n',h1,h2,h3,h4⟩:=hw.obj l _ hg z s n hB
  refine⟨rfl,dk w z (.loop {state:=if jump.isNone then .ready else .done,pending:=jump,fn,tmps,params:=ps.toArray,assign,body,defers:=D}),?_,?_⟩
  .unfold Instr.endRound Instr.getLoop;simp only[Sem.run_bind,fI h1 rfl,Result.andThen_ok,kr h1 rfl,Sem.run_pure]
  .exact jV hw hg hB rfl (by intro b' E n1 o;rw[hB]at o;simp only[ad,av]at o;obtain⟨rfl,rfl,rfl⟩:=o;exact⟨tmps,D,s',n',il (ik h1),h2,h3,h4⟩)
 .cases hr
theorem LA{l:Nat}{args:List AV}{out:di}{h':AHeap}(hE:mC P R)(hr:pO P R l args h=some (out,h')):MG P l args h out h':=by
 intro g w vs J s n hw hf hv hB
 unfold pO at hr
 split at hr
 .rename_i lst h8 fn tn tm ps assign body dd hg
  obtain⟨tmps,db,s',n',h1,h2,h3,h4⟩:=hw.obj l _ hg J s n hB
  split at hr
  .cases hr
  .rename_i bY hpp
   obtain⟨p1,p2,p3⟩:=Je hpp hv h2 h3
   refine⟨fn,(ps.zip vs).foldl (λ(tmps:Array Value)(p:Tmp×Value)=>tmps.setIfInBounds p.1 p.2) tmps,assign,body,?_,?_⟩
   .unfold Instr.yield Instr.getLoop;simp only[Sem.run_bind,fI h1 rfl,Result.andThen_ok,Sem.run_pure];simp_all
   .intro c cs
    have I:Frame.round J fn ((ps.zip vs).foldl (λ(tmps:Array Value)(p:Tmp×Value)=>tmps.setIfInBounds p.1 p.2) tmps) assign body .normal=ax {(default:Frame)with fn:=fn,kind:=.normal,roundOf:=some J} {tmps:=(ps.zip vs).foldl (λ(tmps:Array Value)(p:Tmp×Value)=>tmps.setIfInBounds p.1 p.2) tmps,defers:=[]} [.code assign,.beginRound,.code body]:=rfl
    generalize(ps.zip vs).foldl (λ(tmps:Array Value)(p:Tmp×Value)=>tmps.setIfInBounds p.1 p.2) tmps=Q at p2 p3 I⊢
    simp only at hr
    split at hr
    .rename_i st he
     obtain⟨g1,w1,a1,cs1,q1,q2,q3,q4,q5,q6,q7⟩:=hE _ _ _ _ _ he g w {(default:Frame)with fn:=fn,kind:=.normal,roundOf:=some J} {tmps:=Q,defers:=[]} [.beginRound,.code body] (c::cs) hw hf ⟨rfl,rfl,J,s,n,hB,rfl⟩ ⟨p3,p2,trivial⟩ trivial
     obtain rfl:cs1=c::cs:=q4.1 rfl
     rw[<-I]at q7
     split at hr
     .rename_i p N wg wh M o D qU HL
      have K:=q1.le.b _ _ _ hB
      obtain⟨E,V,s1,n1,r1,r2,r3,r4⟩:=q2.obj l _ HL J s n K
      have hbr:(Instr.beginRound J).run P w1=.ok () (dk w1 J (.loop {state:=.busy,pending:=p,fn:=N,tmps:=E,params:=M.toArray,assign:=o,body:=D,defers:=V})):=by unfold Instr.beginRound Instr.getLoop;simp only[Sem.run_bind,fI r1 rfl,Result.andThen_ok,kr r1 rfl,Sem.run_pure]
      have TQ:=jV (x':=.loop .busy p N wg wh M o D qU) q2 HL K (w':=dk w1 J (.loop {state:=.busy,pending:=p,fn:=N,tmps:=E,params:=M.toArray,assign:=o,body:=D,defers:=V})) rfl (by intro b' s2 n2 T;rw[K]at T;simp only[ad,av]at T;obtain⟨rfl,rfl,rfl⟩:=T;exact⟨E,V,s1,n1,il (ik r1),r2,r3,r4⟩)
      have O:=q1.trans hf TQ.2
      have z:=Steps.trans q7 (.one (UG (P:=P) rfl hbr))
      cases hx:evalCode P R {fn:=fn,tn:=tn,kind:=.normal,round:=some l} body {st with h:=st.h.aU l (.loop .busy p N wg wh M o D qU)}with
      |none=>grind
      |some pr=>
       obtain⟨ex,wi⟩:=pr
       rw[hx]at hr
       obtain⟨g2,w2,a2,we,t1,t2,t3,t4,t5,t6,L⟩:=hE _ _ _ _ _ hx g1 _ {(default:Frame)with fn:=fn,kind:=.normal,roundOf:=some J} a1 [] (c::cs) TQ.1 (hf.step O) ⟨rfl,rfl,J,s,n,K,rfl⟩ ⟨q3.tm,q3.size,q3.df⟩ q5
       obtain rfl:we=c::cs:=t4.1 (q6 rfl)
       have U:=t1.le.b _ _ _ K
       have F:=O.trans hf t1
       cases ex with
       |normal=>obtain⟨rfl,X,u1,Z,Y⟩:=CM (P:=P) t2 hr U;exact⟨g2,X,F.trans hf Y,Z,_,.sc _,Steps.trans z (Steps.trans L (.one (UN rfl rfl u1)))⟩
       |ret=>obtain⟨rfl,X,u1,Z,Y⟩:=CM (P:=P) t2 hr U;obtain⟨k2,L⟩:=L;exact⟨g2,X,F.trans hf Y,Z,_,.sc _,Steps.trans z (Steps.trans L (.one (UO rfl rfl u1)))⟩
       |exit id=>obtain⟨rfl,X,u1,Z,Y⟩:=CM (P:=P) t2 hr U;obtain⟨k2,Ck,L⟩:=L.2 rfl;exact⟨g2,X,F.trans hf Y,Z,_,.sc _,Steps.trans z (Steps.trans L (.one (UH rfl rfl Ck u1)))⟩
       |panic v=>
        obtain⟨todo,x,hxv,L⟩:=L
        simp only at hr
        split at hr
        .rename_i fn' hdf hfn
         simp only[ad,av]at hr
         obtain⟨rfl,rfl⟩:=hr
         have S:=t3.df
         rw[hdf]at S
         have Cj:a2.defers=[]:=by cases hx2:a2.defers with|nil=>rfl|cons _ _=>rw[hx2]at S;exact S.elim
         exact⟨g2,w2,F,t2,x,hxv,Steps.trans z (Steps.trans L (.one (Vf rfl Cj hfn)))⟩
        .cases hr
     .cases hr
    .cases hr
 .cases hr
end
end Go.AI
end

section
namespace Go.AI
section
variable {P:Program}{R:Rec}
theorem UE{w:World}(fn:FuncId)(tmps:Array Value)(ps:Array Tmp)(assign body:Code):(Instr.enterLoop fn tmps ps assign body none).run P w=.ok (w.heap.size+1,[{target:=.collected w.heap.size,args:=#[]}]) (gU (gU w (.deferred (some []))) (.loop {state:=.ready,pending:=none,fn,tmps,params:=ps,assign,body,defers:=w.heap.size})):=by unfold Instr.enterLoop;simp_all
theorem UP{b:Frame}{a:Act}{k:List Item}{cs:List Frame}{f:Operand}{ps:Array Tmp}{assign body:Code}{l:Nat}{mark:List Deferred}{w o c:World}{D z:FuncId}{first captured args:Array Value}
 (he:(Instr.enterLoop b.fn a.tmps ps assign body b.roundOf).run P w=.ok (l,mark) o)(hv:a.eval f=.func (.func D) first captured)
 (E:(callFunc D (first++#[.func (.yield l) #[] #[]]++captured)).run P o=.ok (.enter z args) c):
 step P (lone (ax b a (.code (.rangeFunc f ps assign body)::k)) cs w)=.next (lone (Frame.enter P z args .normal) (ax b {a with defers:=mark++a.defers} (.inRangeFunc l::k)::cs) c):=by
 refine step_lone_go ?_
 have F:=DA b {a with defers:=mark++a.defers} (.inRangeFunc l::k)
 simp only[ax]at F
 have I:({tmps:=a.tmps,defers:=mark++a.defers}:Act).eval f=.func (.func D) first captured:=by rw[<-hv];cases f<;>rfl
 have J:Sem.run P (do let d<-resolve ({tmps:=a.tmps,defers:=mark++a.defers}:Act).eval {callee:=.value f,args:=#[.const (.func (.yield l) #[] #[])],argTypes:=#[]} 0;invoke d.target d.args) o=.ok (.enter z args) c:=by simp only[resolve,I,Deferred.ofValue,Sem.run_bind,Sem.run_pure,Result.andThen_ok,invoke];rw[<-E];simp[Act.eval]
 simp only[stepG,stepG.exec,ax,Sem.runT_eq,he,GStep.bare_after,stepG.apply,F,J];rfl
theorem UT{b:Frame}{a:Act}{k:List Item}{cs:List Frame}{l:Nat}{jump:Option Code}{w w':World}(hr:(Instr.endLoop l).run P w=.ok jump w'):step P (lone (ax b a (.endRangeFunc l::k)) cs w)=.next (lone (ax b a ((jump.map Item.code).toList++k)) cs w'):=step_lone_go (by simp[stepG,stepG.exec,ax,Sem.runT_eq,hr,GStep.bare_after])
theorem Xm(hP:ProgOK P)(hR:dX P R):MH P R:=by
 intro cx f params assign body st ex st' hr g w b a k cs hw hf hc ha hm
 simp only[evalCode]at hr
 split at hr
 .cases hr
 .rename_i S
  have hrn:b.roundOf=none:=by have:=hc.round;rw[S]at this;exact this
  have h1:=pT (x:=.cE (some [])) (s:=0) (n:=0) hw (hf st.h.next (aC _)) (w':=gU w (.deferred (some []))) rfl (by intro b' s' n' D;rw[Gh.hI]at D;simp only[ad,av]at D;obtain⟨rfl,rfl,rfl⟩:=D;exact ku _ _)
  have U:=hf.step h1.2
  have HM:(g.eA st.h.next 0 (w.heap.size,0,0)).B st.h.next 0=some (w.heap.size,0,0):=Gh.hI _ _ _ _
  generalize HL:g.eA st.h.next 0 (w.heap.size,0,0)=g1 at h1 U HM
  have h2:=pT (x:=.loop .ready none cx.fn cx.tn st.tm params.toList assign body st.h.next) (s:=0) (n:=0) h1.1 (U _ (aC _)) (w':=gU (gU w (.deferred (some []))) (.loop {state:=.ready,pending:=none,fn:=cx.fn,tmps:=a.tmps,params,assign,body,defers:=w.heap.size})) rfl (by intro b' s' n' D;rw[Gh.hI]at D;simp only[ad,av]at D;obtain⟨rfl,rfl,rfl⟩:=D;refine⟨a.tmps,w.heap.size,0,0,?_,ha.size,(ha.tm.mono h1.2.le).mono (Gh.lD (U _ (aC _) 0)),(Gh.lD (U _ (aC _) 0)).b _ _ _ HM⟩;rw[ku])
  have HN:(g1.eA (st.h.alloc (.cE (some []))).next 0 ((gU w (.deferred (some []))).heap.size,0,0)).B (st.h.next+1) 0=some (w.heap.size+1,0,0):=by rw[show(st.h.alloc (.cE (some []))).next=st.h.next+1 from rfl,VC,Gh.hI]
  have HO:=h2.2.le.b _ _ _ HM
  generalize g1.eA (st.h.alloc (.cE (some []))).next 0 ((gU w (.deferred (some []))).heap.size,0,0)=g2 at h2 HN HO
  have K:=h1.2.trans hf h2.2
  have T:=hf.step K
  generalize ahb:gU (gU w (.deferred (some []))) (.loop {state:=.ready,pending:=none,fn:=cx.fn,tmps:=a.tmps,params,assign,body,defers:=w.heap.size})=w2 at h2 K
  generalize((st.h.alloc (.cE (some []))).alloc (.loop .ready none cx.fn cx.tn st.tm params.toList assign body st.h.next))=hA at h2 K T hr
  have ahc:(Instr.enterLoop b.fn a.tmps params assign body b.roundOf).run P w=.ok (w.heap.size+1,[{target:=.collected w.heap.size,args:=#[]}]) w2:=by rw[hrn,hc.fn,UE,ahb]
  split at hr
  .rename_i TS first captured hfn
   obtain⟨M,E,hv,hv1,hv2⟩:=DX (ha.ev f) hfn
   split at hr
   .rename_i ahd args hA' HJ
    have ahe:VR g2 (.eB (st.h.next+1)) (.func (.yield (w.heap.size+1)) #[] #[]):=.eB HN
    have gC:aG g2 (first++[.eB (st.h.next+1)]++captured) (M.toList++[.func (.yield (w.heap.size+1)) #[] #[]]++E.toList):=((hv1.mono K.le).append (show aG g2 [.eB (st.h.next+1)] [.func (.yield (w.heap.size+1)) #[] #[]]from⟨ahe,trivial⟩)).append (hv2.mono K.le)
    have FX:=CR hP h2.1 (T _ (aC _)) gC HJ
    obtain⟨rfl,vs,FW,X⟩:=FX
    have Z:(callFunc TS (M++#[.func (.yield (w.heap.size+1)) #[] #[]]++E)).run P w2=.ok (.enter ahd vs.toArray) w2:=by rw[<-FW];exact congrArg (λv=>Sem.run P (callFunc TS v) w2) (by simp_all)
    have eO:=UP (b:=b) (a:=a) (k:=k) (cs:=cs) ahc hv Z
    split at hr
    .rename_i rv cm' h3 L
     obtain⟨e,w3,fr,⟨g3,q1,q2,q3⟩,I,ahf,F⟩:=hR.call _ _ _ _ _ _ L g2 w2 vs h2.1 T X (ax b {a with defers:=[{target:=.collected w.heap.size,args:=#[]}]++a.defers} (.inRangeFunc (w.heap.size+1)::k)::cs)
     cases e with
     |panicked _=>exact q3.elim
     |outgrown=>exact q3.elim
     |returned x=>
      split at hr
      .rename_i ls h8 V wg wh O a1 b1 qU TT
       split at hr
       .cases hr
       .rename_i ac2
        have HP:=q1.le.b _ _ _ HN
        have ahg:=q1.le.b _ _ _ HO
        obtain⟨J,HQ,s1,n1,r1,r2,r3,r4⟩:=q2.obj _ _ TT _ _ _ HP
        have ahh:(Instr.endLoop (w.heap.size+1)).run P w3=.ok h8 (dk w3 (w.heap.size+1) (.loop {state:=.exhausted,pending:=h8,fn:=V,tmps:=J,params:=O.toArray,assign:=a1,body:=b1,defers:=HQ})):=by unfold Instr.endLoop Instr.getLoop;simp only[Sem.run_bind,fI r1 rfl,Result.andThen_ok,Sem.run_pure];rw[if_neg ac2];simp only[Sem.run_bind,kr r1 rfl,Result.andThen_ok,Sem.run_pure]
        have Q:=jV (x':=.loop .exhausted h8 V wg wh O a1 b1 qU) q2 TT HP (w':=dk w3 (w.heap.size+1) (.loop {state:=.exhausted,pending:=h8,fn:=V,tmps:=J,params:=O.toArray,assign:=a1,body:=b1,defers:=HQ})) rfl (by intro b' s2 n2 D;rw[HP]at D;simp only[ad,av]at D;obtain⟨rfl,rfl,rfl⟩:=D;exact⟨J,HQ,s1,n1,il (ik r1),r2,r3,r4⟩);have z:=K.trans hf q1;have Y:=z.trans hf Q.2;have o:=Steps.head eO (Steps.trans I (.head (step_leave_returned F) (.one (UT (b:=b) (a:={a with defers:=[{target:=.collected w.heap.size,args:=#[]}]++a.defers}) (k:=k) (cs:=cs) ahh))));have N:gp g3 cx.tn {st with h:=h3.aU (st.h.next+1) (.loop .exhausted h8 V wg wh O a1 b1 qU),df:=.dD st.h.next::st.df} {a with defers:=[{target:=.collected w.heap.size,args:=#[]}]++a.defers}:=⟨ha.tm.mono z.le,ha.size,⟨w.heap.size,0,0,ahg,rfl⟩,ha.df.mono z.le⟩;cases h8 with|none=>simp only[ad,av]at hr;obtain⟨rfl,rfl⟩:=hr;exact⟨g3,_,_,cs,Y,Q.1,N,.refl _ _,hm.mono z.le,id,o⟩|some c=>cases c with|exit id=>simp only[ad,av]at hr;obtain⟨rfl,rfl⟩:=hr;exact⟨g3,_,_,cs,Y,Q.1,N,.refl _ _,hm.mono z.le,λe=>e,λk' e=>Steps.trans o (.one (JG e)),λe=>⟨k,e,o⟩⟩|ret=>simp only[ad,av]at hr;obtain⟨rfl,rfl⟩:=hr;exact⟨g3,_,_,cs,Y,Q.1,N,.refl _ _,hm.mono z.le,λe=>e,k,o⟩|_=>simp at hr
      .cases hr
    .rename_i v cm' h3 L;simp only[ad,av]at hr;obtain⟨rfl,rfl⟩:=hr;obtain⟨e,w3,fr,⟨g3,q1,q2,q3⟩,I,ahf,F⟩:=hR.call _ _ _ _ _ _ L g2 w2 vs h2.1 T X (ax b {a with defers:=[{target:=.collected w.heap.size,args:=#[]}]++a.defers} (.inRangeFunc (w.heap.size+1)::k)::cs);cases e with|returned _=>exact q3.elim|outgrown=>exact q3.elim|panicked ch=>obtain⟨x,rfl,q4⟩:=q3;have z:=K.trans hf q1;refine⟨g3,w3,{a with defers:=[{target:=.collected w.heap.size,args:=#[]}]++a.defers},cs,z,q2,⟨ha.tm.mono z.le,ha.size,⟨w.heap.size,0,0,q1.le.b _ _ _ HO,rfl⟩,ha.df.mono z.le⟩,.refl _ _,hm.mono z.le,λe=>e,.inRangeFunc (w.heap.size+1)::k,x,q4,?_⟩;exact Steps.head eO (Steps.trans I (.one (step_leave_panicked F)))
    .cases hr
   .cases hr
  .cases hr
end
end Go.AI
end

section
namespace Go.AI
section
variable {P:Program}{h h':AHeap}{g:Gh}{w:World}
def dB(P:Program)(h:AHeap)(g:Gh)(w:World)(s:Sem Next)(r:dU)(h':AHeap):Prop:=h'.next=h.next->match r with|.val v=>∃x,s.run P w=.ok (.value x) w/\VR g v x|_=>True
theorem dB.same{s:Sem Next}{v:AV}{x:Value}(_:W h g w)(hr:s.run P w=.ok (.value x) w)(hv:VR g v x):dB P h g w s (.val v) h:=λ_=>⟨x,hr,hv⟩
theorem iP{s:Sem Value}{c:Option AV}{r:dU}(hw:W h g w)(e:val h c=some (r,h'))(hs:∀v,c=some v->∃x,s.run P w=.ok x w/\VR g v x):dB P h g w (do pure (.value (<-s))) r h':=by unfold val at e;cases c with|none=>cases e|some v=>simp only[Option.map_some,ad,av]at e;obtain⟨rfl,rfl⟩:=e;obtain⟨x,h1,h2⟩:=hs v rfl;exact dB.same hw (by simp[h1]) h2
theorem YE{s:Sem Next}{q:Option (AV×AHeap)}{r:dU}(hr:(q.map λ(x:AV×AHeap)=>(dU.val x.1,x.2))=some (r,h'))(hk:∀v h2,q=some (v,h2)->dB P h g w s (.val v) h2):dB P h g w s r h':=by cases q with|none=>cases hr|some x=>grind
def mU:Builtin->Bool|.len|.cap|.min|.max|.unsafeSliceData=>true|_=>false
theorem Vg{src dst:TypeId}{x r:AV}{v:Value}(hw:W h g w)(hx:VR g x v)(hr:gg P h src dst x=some (r,h')):
 dB P h g w (do pure (.value (<-convert src dst v))) (.val r) h':=by
 unfold gg at hr
 split at hr
 .rename_i e hs hd
  split at hr
  .rename_i n he hn M
   split at hr
   .rename_i l O
    cases eC:iO l with
    |none=>grind
    |some bs=>
     rw[eC]at hr
     simp only[Option.map_some,ad,av]at hr
     obtain⟨rfl,rfl⟩:=hr
     obtain⟨vs,q1,q2,q3⟩:=tk (P:=P) hw hx O
     obtain⟨L,e1,e2⟩:=yi eC q1
     have q3:=q3 w.drawn
     have J:∃a c,v=.slice a n c:=by
      unfold ft at hn
      split at hn
      .cases hx;grind
      .cases hx;grind
      .cases hx with|hU=>grind|ia _=>grind|aQ _ _ _=>grind
      .cases hx;grind
      .cases hx;grind
      .simp[kQ]at M
      .cases hn
     obtain⟨a,c,rfl⟩:=J
     refine dB.same hw (x:=.string ⟨bs.toArray⟩) ?_ (.sc _)
     simp only[Sem.run_bind]
     rw[run_convert_bytes_string w src dst e a n c hs he hd]
     cases a with
     |none=>
      simp only[Builtin.firstCells,Sem.run_pure,Result.ok.injEq,and_true]at q3
      have:vs=[]:=by grind
      rw[this]at e1
      have:L=[]:=by grind
      subst this
      subst e2
      simp[Conv.bytesToString]
      rfl|some a=>have hl:(loadCells a n).run P w=.ok (L.map (Value.int .u8)).toArray w:=by rw[<-e1];have:(Builtin.firstCells 1 n (.slice (some a) n c)).run P w=(loadCells a (n*1)).run P w:=rfl;rw[Nat.mul_one]at this;rw[<-this];exact q3
                  rw[run_bytesToString w a n c L hl,foldl_push_bytes,e2,show ByteArray.empty.data=#[]from rfl,Array.empty_append];rfl
   .cases hr
  .cases hr
 .rename_i e hs hd
  split at hr
  .rename_i s he
   split at hr
   .simp only[ad,av]at hr;obtain⟨rfl,rfl⟩:=hr;intro hn;simp[AHeap.alloc]at hn
   .cases hr
  .cases hr
 .rename_i t hs hd
  split at hr
  .rename_i o ver n off k D
   split at hr
   .rename_i cs E
    simp only[ad,av]at hr
    obtain⟨rfl,rfl⟩:=hr
    have z:=hx
    cases hx with
    |ref hB=>
     rename_i b Q
     obtain⟨v',R,c',fz,el,ex,sh,_,ca,f,hk,N⟩:=yR hw E hB
     refine dB.same hw (x:=.pointer (some ⟨b,off,none⟩)) ?_ z
     have h1:¬ca.size<=off:=by have:=hk.lh;have:=hk.size;omega
     simp[convert,run_underlying hs,run_underlying hd,Conv.unsafePointer,yq hk.here,cellsIn,rC hk.here,run_sizeOf D,h1]
   .cases hr
  .simp only[ad,av]at hr;obtain⟨rfl,rfl⟩:=hr;cases hx;refine dB.same hw (x:=.pointer none) ?_ (.sc _);simp[convert,run_underlying hs,run_underlying hd,Conv.unsafePointer]
  .cases hr
 .rename_i hs hd
  split at hr
  .simp only[ad,av]at hr;obtain⟨rfl,rfl⟩:=hr;have z:=hx;cases hx with|ref hB=>refine dB.same hw ?_ z;simp[convert,run_underlying hs,run_underlying hd,Conv.unsafePointer]
  .simp only[ad,av]at hr;obtain⟨rfl,rfl⟩:=hr;cases hx;refine dB.same hw (x:=.pointer none) ?_ (.sc _);simp[convert,run_underlying hs,run_underlying hd,Conv.unsafePointer]
  .cases hr
 .rename_i u hs hd
  split at hr
  .rename_i o ver n off k D
   split at hr
   .rename_i cs V X U S T bJ E K
    split at hr
    .rename_i F
     simp only[ad,av]at hr
     obtain⟨rfl,rfl⟩:=hr
     have z:=hx
     cases hx with
     |ref hB=>
      rename_i b Q
      obtain⟨v',R,c',fz,el,ex,sh,I,ca,f,hk,N⟩:=yR hw E hB
      rw[K]at I
      simp only[ad,cr.cells.injEq]at I
      obtain⟨rfl,rfl,rfl,rfl,rfl,rfl,rfl⟩:=I
      refine dB.same hw (x:=.pointer (some ⟨b,off,none⟩)) ?_ z
      have fk:ca.size=U.length:=by rw[hk.size,hk.exact rfl]
      simp[convert,run_underlying hs,run_underlying hd,Conv.unsafePointer,yq hk.here,variablesAt,rC hk.here,run_sizeOf D,fk,F]
    .cases hr
   .cases hr
  .simp only[ad,av]at hr;obtain⟨rfl,rfl⟩:=hr;cases hx;refine dB.same hw (x:=.pointer none) ?_ (.sc _);simp[convert,run_underlying hs,run_underlying hd,Conv.unsafePointer]
  .cases hr
 .split at hr
  .rename_i v' hv;cases hp:b8 P (convert src dst v')with|none=>grind|some u=>rw[hp]at hr;simp only[Option.map_some,ad,av]at hr;obtain⟨rfl,rfl⟩:=hr;rw[pS hv hx];exact dB.same hw (by simp[lA hp w]) (VR.bz u)
  .cases hr
 .cases hr
theorem Vh{b:Builtin}{z:Array TypeId}{ty:TypeId}{cs:Array Bool}{xs:List AV}{vs:List Value}{r:dU}(hw:W h g w)(hv:aG g xs vs)
 (hb:mU b=true)(hr:hN P h b z ty xs=some (r,h')):dB P h g w (builtin b z ty cs vs.toArray) r h':=by
 unfold hN at hr
 split at hr
 .simp[mU]at hb
 .simp[mU]at hb
 .rename_i x
  obtain⟨u,rfl,hu⟩:=nR rfl hv
  split at hr
  .rename_i t h0;refine iP (s:=Builtin.len_ z ty #[u]) hw hr λv e=>?_;cases hl:qC P h t x with|none=>grind|some n=>rw[hl]at e;simp at e;subst e;exact⟨_,Od hw h0 hu hl,.sc _⟩
  .cases hr
 .rename_i x
  obtain⟨u,rfl,hu⟩:=nR rfl hv
  split at hr
  .rename_i t h0;refine iP (s:=Builtin.cap_ z ty #[u]) hw hr λv e=>?_;cases hl:vv P t x with|none=>grind|some n=>rw[hl]at e;simp at e;subst e;exact⟨_,Oe h0 hu hl,.sc _⟩
  .cases hr
 .simp[mU]at hb
 .simp[mU]at hb
 .simp[mU]at hb
 .simp[mU]at hb
 .split at hr
  .rename_i us D
   split at hr
   .rename_i u hp;simp only[ad,av]at hr;obtain⟨rfl,rfl⟩:=hr;rw[rr D hv];exact dB.same hw (lA hp w) (VR.bz u)
   .cases hr
  .cases hr
 .split at hr
  .rename_i us D
   split at hr
   .rename_i u hp;simp only[ad,av]at hr;obtain⟨rfl,rfl⟩:=hr;rw[rr D hv];exact dB.same hw (lA hp w) (VR.bz u)
   .cases hr
  .cases hr
 .obtain⟨u,rfl,hu⟩:=nR rfl hv
  have E:builtin .unsafeSliceData z ty cs [u].toArray=(do pure (.value (<-Builtin.unsafeSliceData_ z ty #[u]))):=rfl
  rw[E]
  split at hr
  .simp only[ad,av]at hr;obtain⟨rfl,rfl⟩:=hr;cases hu;exact dB.same hw (x:=.pointer none) rfl (.sc _)
  .split at hr
   .rename_i hc
    simp only[ad,av]at hr
    obtain⟨rfl,rfl⟩:=hr
    cases hu with
    |sl hB p1 p2 p3=>
     rename_i o ver n off sz len cap b s c
     have I:c≠0:=by
      rcases hc with hc|hc
      .omega
      .cases cap with|none=>simp[lK]at hc|some k=>have:=p3 k rfl;simp[lK]at hc;omega
     refine dB.same hw (x:=.pointer (some ⟨b,off,none⟩)) ?_ (.ref hB);have F:Builtin.unsafeSliceData_ z ty #[.slice (some ⟨b,off,none⟩) len c]=(do if c≠0 then pure (.pointer (some ⟨b,off,none⟩))else if(<-viewAt b).isSome then pure (.pointer (some ⟨b,off,none⟩))else pure (.pointer (some ⟨<-newObj (.view ⟨b,off,none⟩ (<-elemOf ty)),0,none⟩))):=rfl;simp_all
   .cases hr
  .cases hr
 .simp[mU]at hb
 .cases hr
theorem Xn{ρ:Operand->AV}{ρ':Operand->Value}{o:Oper}{r:dU}(hF:cd o.op=true)(hw:W h g w)(z:∀x,VR g (ρ x) (ρ' x))
 (hr:aV P ρ o h=some (r,h')):dB P h g w (execOp ρ' o) r h':=by
 obtain⟨dst,op,type,pos,after,guard⟩:=o
 cases op<;>first|(simp[cd]at hF;done)|skip
 all_goals(try simp only[aV]at hr)
 all_goals(try simp only[execOp])
 case move x=>simp only[ad,av]at hr;obtain⟨rfl,rfl⟩:=hr;exact dB.same hw rfl (z x)
 case assign x=>simp only[ad,av]at hr;obtain⟨rfl,rfl⟩:=hr;exact dB.same hw rfl (z x)
 case pick c a b=>
  have hc:=z c
  split at hr
  .rename_i t ht;simp only[ad,av]at hr;obtain⟨rfl,rfl⟩:=hr;rw[ht]at hc;have hv:ρ' c=.bool t:=VR.kB hc;rw[hv];cases t with|true=>exact dB.same hw rfl (z a)|false=>exact dB.same hw rfl (z b)
  .cases hr
 case build t parts=>exact iP hw hr λv e=>Lu e (by rw[Array.toList_map];exact lG.map z _)
 case load t a=>exact iP hw hr λv e=>Dx hw e (z a)
 case nilCheck x=>
  have hx:=z x
  split at hr
  .rename_i D;simp only[ad,av]at hr;obtain⟨rfl,rfl⟩:=hr;have E:=hx;rw[D]at hx;cases hv:ρ' x with|pointer p=>rw[hv]at hx E;cases hx;exact dB.same hw rfl E|_=>rw[hv]at hx;cases hx
  .rename_i D;simp only[ad,av]at hr;obtain⟨rfl,rfl⟩:=hr;have E:=hx;rw[D]at hx;cases hv:ρ' x with|pointer p=>rw[hv]at hx E;cases hx;exact dB.same hw rfl E|_=>rw[hv]at hx;cases hx
  .rename_i f a c D;simp only[ad,av]at hr;obtain⟨rfl,rfl⟩:=hr;rw[D]at hx;obtain⟨a',c',hv,h1,h2⟩:=VR.rA.1 hx;rw[hv];exact dB.same hw rfl (by grind)
  .rename_i l D;simp only[ad,av]at hr;obtain⟨rfl,rfl⟩:=hr;rw[D]at hx;cases hv:ρ' x with|func fn a J=>rw[hv]at hx;have E:=hx;cases hx;exact dB.same hw rfl E|_=>rw[hv]at hx;cases hx
  .rename_i f a c D;simp only[ad,av]at hr;obtain⟨rfl,rfl⟩:=hr;rw[D]at hx;have hv:ρ' x=.func (.func f) a c:=VR.kB hx;rw[hv];exact dB.same hw rfl (.sc _)
  .rename_i t v D;simp only[ad,av]at hr;obtain⟨rfl,rfl⟩:=hr;rw[D]at hx;cases hv:ρ' x with|iface t' u=>rw[hv]at hx;have E:=hx;cases hx;exact dB.same hw rfl E|_=>rw[hv]at hx;cases hx
  .cases hr
 case binOp op xt x y yt=>exact iP hw hr λv e=>Oc (z x) (z y) e
 case unOp op xt x=>
  split at hr
  .rename_i v hv;rw[pS hv (z x)];exact iP hw hr λv e=>DW e
  .cases hr
 case convert s d x=>exact YE hr λv h2 e=>Vg hw (z x) e
 case makeInterface t x=>
  split at hr
  .cases hr
  .rename_i d hd hu
   simp only[ad,av]at hr
   obtain⟨rfl,rfl⟩:=hr
   refine dB.same hw ?_ (.iface (z x))
   have:(Instr.makeInterface t (ρ' x)).run P w=.ok (.iface t (ρ' x)) w:=by unfold Instr.makeInterface;simp only[Sem.run_bind,run_underlying hu,Result.andThen_ok];simp_all
   simp[this]
  .cases hr
 case makeFunc fn first captured=>simp only[ad,av]at hr;obtain⟨rfl,rfl⟩:=hr;exact dB.same hw rfl (VR.rA.2 ⟨_,_,rfl,aG.ops z _,aG.ops z _⟩)
 case slice t x lo hi mx=>exact iP hw hr λv e=>Lx (z x) (jF.map z lo) (jF.map z hi) (jF.map z mx) e
 case fieldAddr s x f=>exact iP hw hr λv e=>Jb (z x) e
 case field t x f=>exact iP hw hr λv e=>Ls (z x) e
 case indexAddr t x i=>exact iP hw hr λv e=>Jc (z x) (z i) e
 case index t x i=>exact iP hw hr λv e=>Lt (z x) (z i) e
 case lookup t x i ok=>exact iP hw hr λv e=>J9 hw (z x) (z i) e
 case typeAssert x xt a ok=>exact iP hw hr λv e=>Kb (z x) e
 case extract t i=>
  have hx:=z t
  split at hr
  .rename_i vs D
   rw[D]at hx
   obtain⟨us,hv,h1⟩:=VR.fm.1 hx
   rw[hv]
   refine iP hw hr λv e=>?_
   have hi:i<us.size:=by
    have:=h1.length
    have h2:i<vs.length:=by grind
    simp at this;omega
   refine⟨us[i],by simp[Instr.extract,hi],h1.get i v us[i] e (by simp[hi])⟩
  .cases hr
 case call c=>
  obtain⟨callee,args,I⟩:=c
  cases callee with
  |builtin b=>
   have hb:mU b=true:=by cases b<;>first|rfl|simp[cd]at hF
   have F:=aG.ops z args;have:=Vh (cs:=args.map λ|.const _=>true|_=>false) hw F hb hr;rwa[Array.toArray_toList]at this|invoke _ _=>simp[cd]at hF|value _=>simp[cd]at hF
end
end Go.AI
end
