/- A part of the proof. -/
import Derived.Defers
import Derived.Orders
import Derived.Laws.Sem
import Derived.Laws.World
import Derived.Laws.Cells
import Derived.Laws.Entries
set_option linter.all false

section
namespace Go.AI
theorem ad{α:Type _}(a b:α):(some a=some b)=(a=b):=Option.some.injEq a b
theorem av{α:Type _}{β:Type _}(a:α)(b:β)(c:α)(d:β):((a,b)=(c,d))=(a=c/\b=d):=Prod.mk.injEq a b c d
theorem aC(n:Nat):n<=n:=Nat.le_refl n
theorem tX{p:Prop}[inst:Decidable p](h:p):decide p=true:=decide_eq_true h
theorem iQ{p:Prop}[inst:Decidable p](h:¬p):decide p=false:=decide_eq_false h
theorem iR{p:Prop}[inst:Decidable p](h:decide p=true):p:=of_decide_eq_true h
theorem bB(a b:Bool):((a&&b)=true)=(a=true/\b=true):=Bool.and_eq_true a b
theorem lC{α:Type _}{a:α}{c:List α}:(a::c).length=c.length+1:=List.length_cons
inductive Tr(α:Type)where|leaf|node(l:Tr α)(v:Option α)(r:Tr α)
namespace Tr
variable {α:Type}
def get:Tr α->Nat->Option α|.leaf,_=>none|.node l v r,n=>match n with|0=>v|n+1=>match n%2 with|0=>get l (n/2)|_+1=>get r (n/2)
def set(x:α):Nat->Tr α->Nat->Tr α
 |0,t,_=>t
 |f+1,.leaf,n=>match n with|0=>.node .leaf (some x) .leaf|n+1=>match n%2 with|0=>.node (set x f .leaf (n/2)) none .leaf|_+1=>.node .leaf none (set x f .leaf (n/2))
 |f+1,.node l v r,n=>match n with|0=>.node l (some x) r|n+1=>match n%2 with|0=>.node (set x f l (n/2)) v r|_+1=>.node l v (set x f r (n/2))
def put(t:Tr α)(n:Nat)(x:α):Tr α:=set x (n+1) t n
theorem Yx(x:α):∀(f:Nat)(t:Tr α)(n m:Nat),n<f->get (set x f t n) m=if m=n then some x else get t m:=by
 intro f
 induction f with
 |zero=>grind
 |succ f c=>
  intro t n m h
  cases t with
  |leaf=>
   cases n with
   |zero=>cases m with|zero=>simp[set,get]|succ m=>simp only[set,get];grind
   |succ n=>
    cases hn:n%2 with
    |zero=>simp only[set,hn];cases m with|zero=>simp[get]|succ m=>cases hm:m%2 with|zero=>simp only[get,hm];rw[c _ _ _ (by omega)];simp only[get];grind|succ k=>simp only[get,hm];grind
    |succ k=>simp only[set,hn];cases m with|zero=>simp[get]|succ m=>cases hm:m%2 with|zero=>simp only[get,hm];grind|succ k'=>simp only[get,hm];rw[c _ _ _ (by omega)];simp only[get];grind
  |node l v r=>
   cases n with
   |zero=>cases m with|zero=>simp[set,get]|succ m=>simp[set,get]
   |succ n=>
    cases hn:n%2 with
    |zero=>simp only[set,hn];cases m with|zero=>simp[get]|succ m=>cases hm:m%2 with|zero=>simp only[get,hm];grind|succ k=>simp only[get,hm];grind
    |succ k=>simp only[set,hn];cases m with|zero=>simp[get]|succ m=>cases hm:m%2 with|zero=>simp only[get,hm];grind|succ k'=>simp only[get,hm];grind
theorem pX(t:Tr α)(n m:Nat)(x:α):get (put t n x) m=if m=n then some x else get t m:=Yx x _ t n m (Nat.lt_succ_self n)
theorem a7(t:Tr α)(n:Nat)(x:α):get (put t n x) n=some x:=by simp[pX]
theorem aL(t:Tr α){n m:Nat}(x:α)(h:m≠n):get (put t n x) m=get t m:=by simp[pX,h]
end Tr
inductive AV where|aM|sc(v:Value)|ref(o ver n off:Nat)|sl(o ver n off sz len:Nat)(cap:Option Nat)|bT|cI(cells:List AV)|aZ(cells:List AV)(sz len:Nat)(cap:Option Nat)|aQ(rows:List (List AV))(sz:Nat)|map(o:Nat)|func(fn:Fn)(first captured:List AV)|eB(o:Nat)|iface(t:TypeId)(v:AV)|agg(cells:List AV)|tuple(vs:List AV)
def dS:AV:=.tuple []
def bz:Value->AV|.agg cs=>.agg (cs.toList.map .sc)|.tuple vs=>.tuple (vs.toList.map .sc)|v=>.sc v
def dT:AV->Option Value|.sc v=>some v|.iface t (.sc v)=>some (.iface t v)|_=>none
def nU:List AV->Option (List Value)|[]=>some []|x::xs=>match dT x,nU xs with|some v,some vs=>some (v::vs)|_,_=>none
def dC:AV->Option Value|.agg cs=>(nU cs).map λl=>.agg l.toArray|.tuple vs=>(nU vs).map λl=>.tuple l.toArray|v=>dT v
def dN:AV->Bool|.agg _|.tuple _|.aM=>false|.sc (.agg _)|.sc (.tuple _)=>false|_=>true
def a6:AV->List AV|.agg cs=>cs|v=>[v]
def b8{α:Type}(P:Program):Sem α->Option α|.pure a=>some a|.program k=>b8 P (k P)|.mark _ k=>b8 P k|_=>none
inductive ey where|fn(f:Fn)(captured args:List AV)|dD(o:Nat)
inductive cr where|cells(ver Bi:Nat)(c:List AV)(fz:Nat)(el:TypeId)(ex sh:Bool)|map(es:List (AV×AV×Nat))(clock:Nat)|ic(m:Option Nat)(since:Nat)(seen:List Nat)(last:Nat)|kb(s:ByteArray)(pos:Nat)|loop(st:LoopState)(h8:Option Code)(fn:FuncId)(tn:Nat)(tm:Tr AV)(params:List Tmp)(assign body:Code)(cE:Nat)|cE(ds:Option (List ey))
structure AHeap where
 cj:Tr cr
 next:Nat
 floor:Nat
 wr:List Nat
def jw(l:List Nat)(floor o:Nat):List Nat:=if o<floor then(if l.contains o then l else o::l)else l
def rR(l:List Nat)(floor:Nat):List Nat->List Nat|[]=>l|o::os=>rR (jw l floor o) floor os
namespace AHeap
def get(h:AHeap)(o:Nat):Option cr:=h.cj.get o
def alloc(h:AHeap)(x:cr):AHeap:={cj:=h.cj.put h.next x,next:=h.next+1,floor:=h.floor,wr:=h.wr}
def aU(h:AHeap)(o:Nat)(x:cr):AHeap:={cj:=h.cj.put o x,next:=h.next,floor:=h.floor,wr:=jw h.wr h.floor o}
def inner(h:AHeap):AHeap:={cj:=h.cj,next:=h.next,floor:=h.next,wr:=[]}
def outer(h h':AHeap):AHeap:={cj:=h'.cj,next:=h'.next,floor:=h.floor,wr:=rR h.wr h.floor h'.wr}
end AHeap
def c9(h:AHeap)(o ver n off s:Nat):Option (List AV):=match h.get o with|some (.cells v m c _ _ _ _)=>if m<=ver/\ver<=v/\off+s<=n then some ((c.drop off).take s)else none|_=>none
def dO(c:List AV)(off:Nat)(new:List AV):List AV:=c.take off++(new++c.drop (off+new.length))
def iq(h:AHeap)(o ver n off:Nat)(new:List AV):Option AHeap:=match h.get o with|some (.cells v m c fz el ex sh)=>if ver=v/\m<=v/\off+new.length<=n/\fz<=off/\new.all dN=true then some (h.aU o (.cells v v (dO c off new) fz el ex sh))else none|_=>none
def gW(h:AHeap)(s:Nat):AV->Option (List AV)|.ref o ver n off=>c9 h o ver n off s|.cI cells=>if s<=cells.length then some (cells.take s)else none|_=>none
def ep(P:Program)(t:TypeId):Option Bool:=match P.underlying t with|some (.struct _)|some (.array _ _)=>some true|some _=>some false|none=>none
def bt(P:Program)(t:TypeId):Option Nat:=(P.info? t).map (·.size)
def mw(P:Program)(t:TypeId):Option Nat:=(P.info? t).map (·.bytes)
def eE(P:Program)(t:TypeId):Option AV:=match P.info? t with|some i=>i.zero.map bz|none=>none
def iw(P:Program)(h:AHeap)(t:TypeId)(a:AV):Option AV:=
 match ep P t,bt P t with
 |some true,some s=>(gW h s a).map .agg
 |some false,some _=>match gW h 1 a with|some [v]=>some v|_=>none
 |_,_=>none
def nV(P:Program)(h:AHeap)(t:TypeId)(a v:AV):Option AHeap:=match bt P t,a with|some s,.ref o ver n off=>if(a6 v).length=s then iq h o ver n off (a6 v)else none|_,_=>none
def j3(h:AHeap)(t:TypeId)(cells:List AV):AHeap×AV:=(h.alloc (.cells 0 0 cells 0 t true false),.ref h.next 0 cells.length 0)
def apart(P:Program)(t:TypeId)(cs:List AV)(off:Nat):Option AV:=match ep P t,bt P t with|some true,some s=>some (.agg ((cs.drop off).take s))|some false,some _=>(cs.drop off).head?|_,_=>none
def iT(place:Nat->Option (Nat×Nat))(cells:List AV):List (Nat×AV)->Option (List AV)|[]=>some cells|(i,v)::rest=>match place i with|none=>none|some (off,size)=>if(a6 v).length=size/\off+(a6 v).length<=cells.length/\(a6 v).all dN=true then iT place (dO cells off (a6 v)) rest else none
def gP(z:List AV):Nat->List AV|0=>[]|n+1=>z++gP z n
inductive dU where|val(v:AV)|skip|enter(f:FuncId)(args:List AV)|round(l:Nat)(args:List AV)|defer(d:ey)|panic(v:AV)|u9
def val(h:AHeap)(v:Option AV):Option (dU×AHeap):=v.map λv=>(.val v,h)
def fK(x:AV):Option Nat:=match x with|.sc (.int _ n)=>if 0<=n then some n.toNat else none|_=>none
def eT:Option AV->Nat->Option Nat|none,d=>some d|some x,_=>fK x
def lK:Option Nat->Nat->Nat|some c,_=>c|none,len=>len
def zB{α β:Type}:List α->(List α->β)->β|[],k=>k []|x::xs,k=>zB xs λys=>k (x::ys)
theorem C6{α β:Type}:∀(l:List α)(k:List α->β),zB l k=k l|[],_=>rfl|x::xs,k=>by rw[zB,C6 xs]
def gk(P:Program)(t:TypeId)(x:AV)(D hi z:Option AV):Option AV:=
 match P.underlying t with
 |some (.slice e)=>
  match bt P e,x with
  |some s,.sl o ver n off sz len cap=>
   match eT D 0,eT hi len,z.map fK with
   |some l,some h,none=>match cap with|some c=>if s=sz/\l<=h/\h<=c/\off+h*sz<=n then some (.sl o ver n (if c=l then off else off+l*sz) sz (h-l) (some (c-l)))else none|none=>if s=sz/\l<=h/\h<=len then(if l=0 then some (.sl o ver n off sz h none)else if l<len then some (.sl o ver n (off+l*sz) sz (h-l) none)else some .bT)else none
   |some l,some h,some (some m)=>if s=sz/\l<=h/\h<=m/\m<=lK cap len/\off+h*sz<=n/\hi.isSome then some (.sl o ver n (if m=l then off else off+l*sz) sz (h-l) (some (m-l)))else none|_,_,_=>none
  |some s,.aZ cells sz len cap=>
   match eT D 0,eT hi len,z.map fK with
   |some l,some h,none=>match cap with|some c=>if s=sz/\l<=h/\h<=len/\len<=c then some (.aZ (if c=l then[]else(cells.drop (l*sz)).take ((h-l)*sz)) sz (h-l) (some (c-l)))else none|none=>if s=sz/\l<=h/\h<=len then(if l<len\/l=0 then some (.aZ ((cells.drop (l*sz)).take ((h-l)*sz)) sz (h-l) none)else some .bT)else none
   |some l,some h,some (some m)=>if s=sz/\l<=h/\h<=m/\m<=len/\hi.isSome then some (.aZ (if m=l then[]else(cells.drop (l*sz)).take ((h-l)*sz)) sz (h-l) (some (m-l)))else none|_,_,_=>none
  |some s,.aQ rows sz=>match eT D 0,eT hi rows.length,z with|some l,some h,none=>if s=sz/\l<=h/\h<=rows.length then some (if l=h/\0<rows.length then .bT else .aQ ((rows.drop l).take (h-l)) sz)else none|some l,some h,some y=>(match fK y with|some m=>if s=sz/\l<=h/\h<=m/\m<=rows.length/\hi.isSome then some (.aQ ((rows.drop l).take (h-l)) sz)else none|none=>none)|_,_,_=>none
  |some _,.bT=>match eT D 0,eT hi 0,z with|some 0,some 0,none=>some .bT|_,_,_=>none
  |some _,.sc (.slice none 0 0)=>match eT D 0,eT hi 0,z.map fK with|some 0,some 0,none=>some (.sc (.slice none 0 0))|some 0,some 0,some (some 0)=>if hi.isSome then some (.sc (.slice none 0 0))else none|_,_,_=>none
  |_,_=>none
 |some .string=>match x,eT D 0,z with|.sc (.string v),some l,none=>(match eT hi v.size with|some h=>if l<=h/\h<=v.size then zB ((v.data.toList.drop l).take (h-l)) λb=>some (.sc (.string ⟨⟨b⟩⟩))else none|none=>none)|_,_,_=>none
 |_=>none
def nz(P:Program)(t:TypeId)(x i:AV):Option AV:=
 match P.underlying t,fK i with
 |some (.slice e),some i=>match bt P e,x with|some s,.sl o ver n off sz len _=>if s=sz/\i<len then some (.ref o ver n (off+i*sz))else none|some s,.aZ cells sz len _=>if s=sz/\i<len then some (.cI (cells.drop (i*sz)))else none|some s,.aQ rows sz=>if s=sz then(match rows[i]? with|some r=>some (.cI r)|none=>none)else none|_,_=>none
 |some (.array len e),some i=>match bt P e,x with|some s,.ref o ver n off=>if i<len then some (.ref o ver n (off+i*s))else none|some s,.cI cells=>if i<len then some (.cI (cells.drop (i*s)))else none|_,_=>none
 |_,_=>none
def mc(P:Program)(t:TypeId)(x:AV)(f:Nat):Option AV:=
 match P.underlying t with
 |some (.struct c)=>
  match c[f]? with
  |some fd=>match bt P fd.type,x with|some (_+1),.ref o ver n off=>some (.ref o ver n (off+fd.offset))|some (_+1),.cI cells=>some (.cI (cells.drop fd.offset))|_,_=>none
  |none=>none
 |_=>none
def rS(P:Program)(t:TypeId)(x:AV)(f:Nat):Option AV:=
 match P.underlying t,x with
 |some (.struct c),.agg cs=>match c[f]? with|some fd=>apart P fd.type cs fd.offset|none=>none
 |_,_=>none
def qd(P:Program)(t:TypeId)(x i:AV):Option AV:=
 match P.underlying t,x with
 |some (.array len e),.agg cs=>match fK i,bt P e with|some i,some s=>if i<len then apart P e cs (i*s)else none|_,_=>none
 |some .string,.sc (.string s)=>
  match fK i with
  |some i=>match s[i]? with|some b=>some (.sc (.int .u8 b.toNat))|none=>none
  |none=>none
 |_,_=>none
def rT(P:Program)(t:TypeId)(parts:List (Nat×AV)):Option AV:=
 match P.info? t,P.underlying t with
 |some it,some (.array _ e)=>match it.zero,P.info? e with|some z,some o=>(iT (λi=>some (i*o.size,o.size)) (a6 (bz z)) parts).map .agg|_,_=>none
 |some it,some (.struct c)=>match it.zero,c.toList.mapM (λf=>(P.info? f.type).map λi=>(f.offset,i.size))with|some z,some places=>(iT (λi=>places[i]?) (a6 (bz z)) parts).map .agg|_,_=>none
 |_,_=>none
def tc(P:Program)(h:AHeap)(t:TypeId)(len:Nat)(parts:List (Nat×AV)):Option (AV×AHeap):=
 match P.underlying t with
 |some (.slice e)=>match bt P e,eE P e with|some s,some z=>if len*s<=16777216/\(a6 z).length=s then match iT (λi=>some (i*s,s)) (gP (a6 z) len) parts with|some cells=>if cells.all dN then some (.sl h.next 0 cells.length 0 s len (some len),h.alloc (.cells 0 0 cells 0 e true false))else none|none=>none else none|_,_=>none
 |_=>none
def CW(P:Program)(h:AHeap)(t:TypeId)(l c:AV):Option (AV×AHeap):=
 match P.underlying t,fK l,fK c with
 |some (.slice e),some l,some c=>match bt P e,eE P e,mw P e with|some s,some z,some o=>if l<=c/\o*c<=281474976710656/\c<9223372036854775808/\(a6 z).length=s then some (.sl h.next 0 (c*s) 0 s l (some c),h.alloc (.cells 0 0 (gP (a6 z) c) 0 e true false))else none|_,_,_=>none
 |_,_,_=>none
def fT(h:AHeap)(s n:Nat):AV->Option (List AV)|.sl o ver m off sz len _=>if s=sz/\n<=len then c9 h o ver m off (n*s)else none|.aZ cells sz len _=>if s=sz/\n<=len/\n*s<=cells.length then some (cells.take (n*s))else none|.aQ rows sz=>if s=sz/\n<=rows.length then some (rows.take n).flatten else none|.bT=>if n=0 then some []else none|.sc (.slice none 0 0)=>if n=0 then some []else none|.sc (.string b)=>if s=1/\n<=b.size then some ((b.data.toList.take n).map λb=>.sc (.int .u8 b.toNat))else none|_=>none
def ft:AV->Option Nat|.sl _ _ _ _ _ len _=>some len|.aZ _ _ len _=>some len|.aQ rows _=>some rows.length|.bT=>some 0|.sc (.slice none 0 0)=>some 0|.sc (.string b)=>some b.size|_=>none
def isInt:TypeDesc->Bool|.int _=>true|_=>false
def mm(P:Program)(h:AHeap)(st E:TypeId)(x y:AV):Option (AV×AHeap):=
 match P.underlying st,P.underlying E,ft y with
 |some (.slice e),some F,some n=>
  if isInt F=true then none else
  match bt P e,mw P e,eE P e with
  |some s,some D,some z=>
   if(a6 z).length≠s\/s=0 then none else
   match fT h s n y with
   |none=>none
   |some new=>
    if !(new.all dN)then none else
    match x with
    |.sc (.slice none 0 0)=>if n=0 then some (x,h)else if 0<D/\n*D<=140737488355328 then some (.sl h.next 0 (n*s) 0 s n none,h.alloc (.cells 0 0 new 0 e false false))else none
    |.sl o ver m off sz len cap=>if sz≠s then none else match cap with|some c=>if len+n<=c then(if n=0 then some (x,h)else match iq h o ver m (off+len*s) new with|some h'=>some (.sl o ver m off sz (len+n) (some c),h')|none=>none)else if 0<D/\(len+n)*D<=140737488355328 then match c9 h o ver m off (len*s)with|some old=>some (.sl h.next 0 ((len+n)*s) 0 s (len+n) none,h.alloc (.cells 0 0 (old++new) 0 e false false))|none=>none else none|none=>if n=0 then some (x,h)else match h.get o with|some (.cells v mv c fz el _ sh)=>if ver=v/\mv<=v/\off=0/\len*s<=m/\fz<=len*s/\el=e/\0<D/\(len+n)*D<=140737488355328 then some (.sl o (v+1) ((len+n)*s) 0 s (len+n) none,h.aU o (.cells (v+1) (if len*s=c.length then mv else v+1) (c.take (len*s)++new) fz el false sh))else none|_=>none
    |.aZ cells sz len (some c)=>if sz≠s\/cells.length≠len*s then none else if n=0 then some (x,h)else if c<len+n/\0<D/\(len+n)*D<=140737488355328 then some (.sl h.next 0 ((len+n)*s) 0 s (len+n) none,h.alloc (.cells 0 0 (cells++new) 0 e false false))else none|.aZ _ _ _ none=>if n=0 then some (x,h)else none|.aQ _ _=>if n=0 then some (x,h)else none|.bT=>if n=0 then some (x,h)else none|_=>none
  |_,_,_=>none
 |_,_,_=>none
def Dt(P:Program)(h:AHeap)(st o:TypeId)(x y:AV):Option (AV×AHeap):=
 match P.underlying st,P.underlying o,x,y with
 |some (.slice e),some (.int _),.sc (.slice none 0 0),.sc (.int .i64 n)=>match bt P e,mw P e,eE P e with|some s,some c,some z=>if 0<n/\n<9223372036854775808/\s≠0/\(a6 z).length=s/\(a6 z).all dN=true/\0<c/\n.toNat*c<=140737488355328 then some (.sl h.next 0 (n.toNat*s) 0 s n.toNat none,h.alloc (.cells 0 0 (gP (a6 z) n.toNat) 0 e false false))else none|_,_,_=>none
 |_,_,_,_=>none
def tu(P:Program)(h:AHeap)(st c:TypeId)(x y:AV):Option (AV×AHeap):=match mm P h st c x y with|some r=>some r|none=>Dt P h st c x y
theorem Vm{P:Program}{h:AHeap}{st c:TypeId}{x y:AV}{r:AV×AHeap}(e:mm P h st c x y=some r):tu P h st c x y=some r:=by unfold tu;rw[e]
def E4(P:Program)(h:AHeap)(z:TypeId)(x y:AV):Option (AV×AHeap):=
 match P.underlying z,ft x,ft y with
 |some (.slice e),some dl,some c=>
  match bt P e with
  |some s=>match fT h s (Nat.min c dl) y,x with|some new,.sl o ver m off sz _ _=>if sz=s/\new.length=Nat.min c dl*s then(iq h o ver m off new).map λh'=>(.sc (goInt (Nat.min c dl)),h')else none|_,_=>none
  |none=>none
 |_,_,_=>none
def sameKey:Value->Value->Option Bool|.int k a,.int k' b=>if k=k' then some (a==b)else none|.string a,.string b=>some (a==b)|.bool a,.bool b=>some (a==b)|_,_=>none
def fx:TypeDesc->Value->Bool|.int _,.int _ _=>true|.string,.string _=>true|.bool,.bool _=>true|_,_=>false
def gR(k:Value):List (AV×AV×Nat)->Nat->Option (Option (Nat×AV×Nat))
 |[],_=>some none
 |(.sc q,v,b)::es,i=>match sameKey k q with|some true=>some (some (i,v,b))|some false=>gR k es (i+1)|none=>none
 |_::_,_=>none
def qe(h:AHeap)(c:Value):AV->Option (Option (Nat×AV×Nat))
 |.sc (.map none)=>some none
 |.map o=>match h.get o with|some (.map es _)=>gR c es 0|_=>none
 |_=>none
def rJ(P:Program)(h:AHeap)(t:TypeId)(x k:AV)(ok:Bool):Option AV:=
 match P.underlying t,k with
 |some (.map o e),.sc c=>
  match P.underlying o,eE P e with
  |some kd,some z=>if !fx kd c then none else match qe h c x with|some (some (_,v,_))=>some (if ok then .tuple [v,.sc (.bool true)]else v)|some none=>some (if ok then .tuple [z,.sc (.bool false)]else z)|none=>none
  |_,_=>none
 |_,_=>none
def me(P:Program)(h:AHeap)(t:TypeId)(x k v:AV):Option AHeap:=
 match P.underlying t,k,x with
 |some (.map z _),.sc c,.map o=>
  match P.underlying z,h.get o with
  |some kd,some (.map es clock)=>if !fx kd c then none else match gR c es 0 with|some (some (i,_,b))=>some (h.aU o (.map (es.set i (.sc c,v,b)) clock))|some none=>some (h.aU o (.map (es++[(.sc c,v,clock)]) (clock+1)))|none=>none
  |_,_=>none
 |_,_,_=>none
def zi(P:Program)(h:AHeap)(t:TypeId)(x k:AV):Option AHeap:=
 match P.underlying t,k,x with
 |some (.map z _),.sc c,.map o=>
  match P.underlying z,h.get o with
  |some kd,some (.map es clock)=>if !fx kd c then none else match gR c es 0 with|some (some (i,_,_))=>some (h.aU o (.map (es.eraseIdx i) clock))|some none=>some h|none=>none
  |_,_=>none
 |_,_,_=>none
def gj:TypeDesc->AV->Bool|.pointer _,.ref ..|.pointer _,.cI _=>true|.slice _,.sl ..|.slice _,.bT|.slice _,.aZ ..=>true|.slice _,.aQ (_::_) _=>true|.map _ _,.map _=>true|.func _ _ _,.func ..|.func _ _ _,.eB _=>true|.interface _,.iface ..=>true|_,_=>false
def eF:TypeDesc->AV->Bool|.pointer _,.sc (.pointer none)=>true|.slice _,.sc (.slice none _ _)=>true|.map _ _,.sc (.map none)=>true|.func _ _ _,.sc .nilFunc=>true|.interface _,.sc .nilIface=>true|_,_=>false
def fQ(P:Program)(t:TypeId)(x y:AV):Option Bool:=
 match P.underlying t with
 |some d=>if gj d x&&eF d y||gj d y&&eF d x then some false else match d,x,y with|.pointer e,.ref o v _ off,.ref o' v' _ c=>if o=o'/\v=v'/\bt P e≠some 0/\(bt P e).isSome then some (off==c)else none|.interface _,.iface a _,.iface b _=>if a≠b then some false else none|.interface _,.iface a _,.sc (.iface b _)=>if a≠b then some false else none|.interface _,.sc (.iface a _),.iface b _=>if a≠b then some false else none|_,_,_=>none
 |none=>none
def cW(P:Program)(op:BinOp)(t:TypeId)(xo yo:Operand)(x y:AV):Option AV:=match dC x,dC y with|some a,some b=>(b8 P (do eqGuard op t xo yo a b;binOp op t a b)).map bz|_,_=>match op with|.eql=>(fQ P t x y).map λb=>.sc (.bool b)|.neq=>(fQ P t x y).map λb=>.sc (.bool (!b))|_=>none
def iO:List AV->Option (List UInt8)|[]=>some []|.sc (.int .u8 n)::xs=>(iO xs).map (UInt8.ofNat n.toNat::.)|_::_=>none
def kQ:AV->Bool|.sl ..|.aZ ..|.aQ ..|.bT=>true|.sc (.slice none 0 0)=>true|_=>false
def gg(P:Program)(h:AHeap)(src dst:TypeId)(x:AV):Option (AV×AHeap):=
 match P.underlying src,P.underlying dst with
 |some (.slice e),some .string=>
  match P.underlying e,ft x,kQ x with
  |some (.int .u8),some n,true=>match fT h 1 n x with|some l=>(iO l).map λb=>(.sc (.string ⟨b.toArray⟩),h)|none=>none
  |_,_,_=>none
 |some .string,some (.slice e)=>match P.underlying e,x with|some (.int .u8),.sc (.string b)=>if b.size<=140737488355328 then some (.sl h.next 0 b.size 0 1 b.size none,h.alloc (.cells 0 0 (b.data.toList.map λb=>.sc (.int .u8 b.toNat)) 0 e false true))else none|_,_=>none
 |some (.pointer t),some .unsafePointer=>
  match x,bt P t with
  |.ref o ver n off,some (_+1)=>match c9 h o ver n off 1 with|some _=>some (x,h)|none=>none
  |.sc (.pointer none),_=>some (x,h)|_,_=>none
 |some .unsafePointer,some .unsafePointer=>match x with|.ref ..=>some (x,h)|.sc (.pointer none)=>some (x,h)|_=>none
 |some .unsafePointer,some (.pointer u)=>
  match x,bt P u with
  |.ref o ver n off,some (_+1)=>match c9 h o ver n off 1,h.get o with|some _,some (.cells _ _ c _ el true _)=>if liesAt P P.depth el (c.length/P.cellsOf el) off u 1 then some (x,h)else none|_,_=>none
  |.sc (.pointer none),_=>some (x,h)|_,_=>none
 |some _,some _=>match dC x with|some v=>(b8 P (convert src dst v)).map λv=>(bz v,h)|none=>none
 |_,_=>none
def nW:AV->Option (TypeId×AV)|.iface t v=>some (t,v)|.sc (.iface t v)=>some (t,bz v)|_=>none
def my(P:Program)(asserted:TypeId)(ok:Bool):Option AV:=if ok then(eE P asserted).map λz=>.tuple [z,.sc (.bool false)]else none
def tY(P:Program)(x:AV)(asserted:TypeId)(ok:Bool):Option AV:=
 match P.underlying asserted with
 |some (.interface want)=>
  match nW x with
  |some (t,_)=>
   match P.info? t with
   |some i=>match Instr.missingMethod want i.methods with|none=>some (if ok then .tuple [x,.sc (.bool true)]else x)|some _=>my P asserted ok
   |none=>none
  |none=>match x with|.sc .nilIface=>my P asserted ok|_=>none
 |some _=>match nW x with|some (t,v)=>if t=asserted then some (if ok then .tuple [v,.sc (.bool true)]else v)else my P asserted ok|none=>match x with|.sc .nilIface=>my P asserted ok|_=>none
 |none=>none
def mn:List AV->Option (List Value)|[]=>some []|x::xs=>match dC x,mn xs with|some v,some vs=>some (v::vs)|_,_=>none
def pY(fn:Func):Nat:=if fn.name= "internal/abi.NoEscape"/\fn.origin= ""then 1 else if fn.name= "internal/bytealg.MakeNoZero"/\fn.origin= ""then 2 else 0
def Du(P:Program)(h:AHeap)(fn:Func)(args:List AV):Option (dU×AHeap):=
 match pY fn,args with
 |1,[x]=>some (.val x,h)
 |2,[.sc (.int .i64 n)]=>
  match fn.resultTypes[0]? with
  |some t=>match P.underlying t with|some (.slice e)=>if 0<=n/\n<=1099511627776 then some (.val (.sl h.next 0 0 0 1 n.toNat none),h.alloc (.cells 0 0 [] 0 e false false))else none|_=>none
  |none=>none
 |_,_=>none
def iM(P:Program)(h:AHeap)(f:FuncId)(args:List AV):Option (dU×AHeap):=
 match P.funcs[f]? with
 |none=>none
 |some fn=>
  match fn.body with
  |some _=>some (.enter f args,h)
  |none=>
   match pY fn with
   |_+1=>Du P h fn args
   |0=>
    match mn args with
    |some vs=>match b8 P (callFunc f vs.toArray)with|some (.value v)=>some (.val (bz v),h)|_=>none
    |none=>none
def zj(P:Program)(h:AHeap)(fn:Fn)(captured args:List AV):Option (dU×AHeap):=match fn with|.func f=>iM P h f (args++captured)|_=>none
def rl(P:Program)(h:AHeap)(pt:TypeId)(p n:AV):Option (AV×AHeap):=
 match p,fK n with
 |.sc (.pointer none),some 0=>some (.sc (.string .empty),h)
 |.ref o ver m off,some (n+1)=>match P.underlying pt,h.get o with|some (.pointer u),some (.cells v z c fz el ex false)=>if ver=v/\z<=v/\el=u/\bt P u=some 1/\n+1<=9223372036854775807 then match c9 h o ver m off (n+1)with|some l=>(iO l).map λb=>(.sc (.string ⟨b.toArray⟩),h.aU o (.cells v v c (max fz (off+(n+1))) el ex false))|none=>none else none|_,_=>none
 |_,_=>none
def qC(P:Program)(h:AHeap)(t:TypeId)(x:AV):Option Nat:=
 match P.underlying t with
 |some (.slice _)=>if kQ x then ft x else none
 |some .string=>match x with|.sc (.string s)=>some s.size|_=>none
 |some (.array n _)=>some n
 |some (.map _ _)=>match x with
  |.sc (.map none)=>some 0
  |.map o=>match h.get o with|some (.map es _)=>some es.length|_=>none
  |_=>none
 |_=>none
def vv(P:Program)(t:TypeId)(x:AV):Option Nat:=match P.underlying t,x with|some (.slice _),.sl _ _ _ _ _ _ (some c)=>some c|some (.slice _),.aZ _ _ _ (some c)=>some c|some (.slice _),.sc (.slice none 0 0)=>some 0|_,_=>none
def hN(P:Program)(h:AHeap)(b:Builtin)(c:Array TypeId)(ty:TypeId)(args:List AV):Option (dU×AHeap):=
 let hv(r:Option (AV×AHeap)):Option (dU×AHeap):=r.map λ(v,h)=>(.val v,h)
 match b,args with
 |.append,[x,y]=>match c[0]?,c[1]? with|some st,some z=>hv (tu P h st z x y)|_,_=>none
 |.copy,[x,y]=>match c[0]? with|some D=>hv (E4 P h D x y)|none=>none
 |.len,[x]=>match c[0]? with|some t=>val h ((qC P h t x).map λn=>.sc (goInt n))|none=>none
 |.cap,[x]=>match c[0]? with|some t=>val h ((vv P t x).map λn=>.sc (goInt n))|none=>none
 |.delete,[m,k]=>match c[0]? with|some t=>(zi P h t m k).map λh=>(.val dS,h)|none=>none
 |.clear,[m]=>
  match m,c[0]?.bind P.underlying with
  |.map o,some _=>match h.get o with|some (.map _ clock)=>some (.val dS,h.aU o (.map [] clock))|_=>none
  |_,_=>none
 |.panic,[x]=>match x with|.iface t v=>some (.panic (.iface t v),h)|.sc (.iface t v)=>some (.panic (.sc (.iface t v)),h)|_=>none
 |.recover,[]=>some (.u9,h)
 |.min,_|.max,_=>
  match mn args with
  |some vs=>match b8 P (builtin b c ty #[] vs.toArray)with|some (.value v)=>some (.val (bz v),h)|_=>none
  |none=>none
 |.unsafeSliceData,[x]=>match x with|.sc (.slice none 0 0)=>some (.val (.sc (.pointer none)),h)|.sl o ver n off _ len cap=>if 0<len\/0<lK cap 0 then some (.val (.ref o ver n off),h)else none|_=>none
 |.unsafeString,[p,n]=>match c[0]? with|some pt=>(rl P h pt p n).map λ(v,h)=>(.val v,h)|none=>none
 |_,_=>none
def mO:AV->Option (Fn×List AV×List AV)|.func fn a c=>some (fn,a,c)|.sc (.func fn a c)=>some (fn,a.toList.map .sc,c.toList.map .sc)|_=>none
def gT(P:Program)(h:AHeap)(ρ:Operand->AV)(c:Call)(ty:TypeId):Option (dU×AHeap):=
 let args:=c.args.toList.map ρ
 match c.callee with|.builtin b=>hN P h b c.argTypes ty args|.invoke _ _=>none|.value f=>match ρ f with|.eB l=>some (.round l args,h)|x=>match mO x with|some (fn,first,captured)=>zj P h fn captured (first++args)|none=>none
def uu(h:AHeap)(ρ:Operand->AV)(c:Call):Option (dU×AHeap):=
 match c.callee with
 |.value f=>match mO (ρ f)with|some (fn,first,captured)=>some (.defer (.fn fn captured (first++c.args.toList.map ρ)),h)|none=>none
 |_=>none
def aV(P:Program)(ρ:Operand->AV)(o:Oper)(h:AHeap):Option (dU×AHeap):=
 let hv(r:Option (AV×AHeap)):Option (dU×AHeap):=r.map λ(v,h)=>(.val v,h)
 match o.op with
 |.move x|.assign x=>some (.val (ρ x),h)
 |.pick c a b=>match ρ c with|.sc (.bool t)=>some (.val (if t then ρ a else ρ b),h)|_=>none
 |.alloc e=>match eE P e with|some z=>if(a6 z).all dN then some (.val (j3 h e (a6 z)).2,(j3 h e (a6 z)).1)else none|none=>none
 |.box e x=>if(a6 (ρ x)).all dN then some (.val (j3 h e (a6 (ρ x))).2,(j3 h e (a6 (ρ x))).1)else none
 |.build t parts=>val h (rT P t (parts.toList.map λ(i,x)=>(i,ρ x)))
 |.buildSlice t len parts=>hv (tc P h t len (parts.toList.map λ(i,x)=>(i,ρ x)))
 |.load t a=>val h (iw P h t (ρ a))
 |.store t a x=>(nV P h t (ρ a) (ρ x)).map λh=>(.skip,h)
 |.nilCheck x=>match ρ x with|.ref ..|.cI _=>some (.val (ρ x),h)|.func (.func f) a c=>some (.val (.func (.func f) a c),h)|.eB l=>some (.val (.eB l),h)|.sc (.func (.func f) a c)=>some (.val (.sc (.func (.func f) a c)),h)|.iface t v=>some (.val (.iface t v),h)|_=>none
 |.binOp op t x y _=>val h (cW P op t x y (ρ x) (ρ y))
 |.unOp op _ x=>match dC (ρ x)with|some v=>val h ((b8 P (Op.unary op v)).map bz)|none=>none
 |.convert s d x=>hv (gg P h s d (ρ x))
 |.makeInterface t x=>match P.underlying t with|some (.interface _)=>none|some _=>some (.val (.iface t (ρ x)),h)|none=>none
 |.makeFunc fn first captured=>some (.val (.func fn (first.toList.map ρ) (captured.toList.map ρ)),h)
 |.makeMap t r=>
  match r,P.underlying t with
  |none,_=>some (.val (.map h.next),h.alloc (.map [] 0))
  |some x,some (.map _ _)=>match ρ x with|.sc (.int _ _)=>some (.val (.map h.next),h.alloc (.map [] 0))|_=>none
  |_,_=>none
 |.makeSlice t l c=>hv (CW P h t (ρ l) (ρ c))
 |.slice t x E hi D=>val h (gk P t (ρ x) (E.map ρ) (hi.map ρ) (D.map ρ))
 |.fieldAddr s x f=>val h (mc P s (ρ x) f)
 |.field t x f=>val h (rS P t (ρ x) f)
 |.indexAddr t x i=>val h (nz P t (ρ x) (ρ i))
 |.index t x i=>val h (qd P t (ρ x) (ρ i))
 |.lookup t x i ok=>val h (rJ P h t (ρ x) (ρ i) ok)
 |.mapUpdate t m k x|.insert t m k x=>(me P h t (ρ m) (ρ k) (ρ x)).map λh=>(.skip,h)
 |.range t x=>match P.underlying t,ρ x with
  |some .string,.sc (.string s)=>some (.val (.ref h.next 0 0 0),h.alloc (.kb s 0))
  |some (.map _ _),.sc (.map none)=>some (.val (.ref h.next 0 0 0),h.alloc (.ic none 0 [] 0))
  |some (.map _ _),.map m=>match h.get m with|some (.map _ clock)=>some (.val (.ref h.next 0 0 0),h.alloc (.ic (some m) clock [] clock))|_=>none
  |_,_=>none
 |.next it true=>match ρ it with
  |.ref o 0 0 0=>match h.get o with|some (.kb s pos)=>if pos<s.size then some (.val (.tuple [.sc (.bool true),.sc (goInt pos),.sc (.int .i32 (Utf8.decode s pos).1)]),h.aU o (.kb s (pos+(Utf8.decode s pos).2)))else some (.val (.tuple [.sc (.bool false)]),h)|_=>none
  |_=>none
 |.next it false=>match ρ it with
  |.ref o 0 0 0=>match h.get o with
   |some (.ic none _ _ _)=>some (.val (.tuple [.sc (.bool false)]),h)
   |some (.ic (some m) since seen last)=>match h.get m with
    |some (.map es clock)=>if !seen.isEmpty&&!es.isEmpty&&es.all (λe=>decide (last<=e.2.2))then none else match es.filter (λe=>!seen.contains e.2.2)with|[]=>some (.val (.tuple [.sc (.bool false)]),h)|[e]=>if e.2.2<since then some (.val (.tuple [.sc (.bool true),e.1,e.2.1]),h.aU o (.ic (some m) since (seen++[e.2.2]) clock))else none|_=>none
    |_=>none
   |_=>none
  |_=>none
 |.typeAssert x _ a ok=>val h (tY P (ρ x) a ok)
 |.extract t i=>match ρ t with|.tuple vs=>val h vs[i]?|_=>none
 |.call c=>gT P h ρ c o.type
 |.defer c=>uu h ρ c
 |.panic x=>match ρ x with|.iface t v=>some (.panic (.iface t v),h)|.sc (.iface t v)=>some (.panic (.sc (.iface t v)),h)|_=>none
 |_=>none
inductive bD where|none|ret|aN(v:AV)(recovered:Bool)
inductive b7 where|normal|exit(id:Nat)|ret|panic(v:AV)
structure aD where
 tm:Tr AV
 df:List ey
 cm:bD
 h:AHeap
structure Ctx where
 fn:FuncId
 tn:Nat
 kind:CallKind
 round:Option Nat
inductive di where|ret(v:AV)|aN(v:AV)
structure Rec where call:CallKind->FuncId->List AV->bD->AHeap->Option (di×bD×AHeap)loop:Code->Ctx->aD->Option (b7×aD)round:Nat->List AV->AHeap->Option (di×AHeap)
def ev(tm:Tr AV):Operand->AV
 |.tmp t=>match tm.get t with|some v=>v|none=>.aM
 |.const v=>bz v|.global g=>.sc (.pointer (some ⟨g,0,none⟩))|.func f=>.sc (.func (.func f) #[] #[])
def aD.put(st:aD)(tn:Nat)(dst:Option Tmp)(v:AV):Option aD:=match dst with|some d=>if d<tn then some {st with tm:=st.tm.put d v}else none|none=>some st
def cC(ops:Array Oper)(o:Oper)(tm:Tr AV):Option Bool:=
 match o.guard with
 |none=>some true
 |some (j,want)=>
  match(ops[j]?).bind (·.dst)with
  |some d=>match tm.get d with|some (.sc (.bool b))=>some (b==want)|some (.tuple _)=>some false|_=>none
  |none=>none
inductive vw where|val(v:AV)(cm:bD)(h:AHeap)|cE(d:ey)(h:AHeap)|aN(v:AV)(h:AHeap)
def cV(P:Program)(R:Rec)(cx:Ctx)(ρ:Operand->AV)(o:Oper)(cm:bD)(h:AHeap):Option vw:=
 match aV P ρ o h with
 |some (.val v,h)=>some (.val v cm h)
 |some (.skip,h)=>some (.val dS cm h)
 |some (.defer d,h)=>if cx.round.isSome then none else some (.cE d h)
 |some (.enter f args,h)=>match R.call .normal f args .none h with|some (.ret v,_,h)=>some (.val v cm h)|some (.aN v,_,h)=>some (.aN v h)|none=>none
 |some (.round l args,h)=>match R.round l args h with|some (.ret v,h)=>some (.val v cm h)|some (.aN v,h)=>some (.aN v h)|none=>none
 |some (.panic v,h)=>some (.aN v h)
 |some (.u9,h)=>match cx.kind,cx.round,cm with|.deferred,none,.aN v false=>some (.val v (.aN v true) h)|.deferred,none,.ret=>some (.val (.sc .nilIface) .ret h)|_,_,_=>none
 |none=>none
def eu(P:Program)(R:Rec)(cx:Ctx)(ops:Array Oper)(o:Oper)(st:aD):Option (b7×aD):=
 match cC ops o st.tm with
 |some true=>match cV P R cx (ev st.tm) o st.cm st.h with|some (.val v cm h)=>({st with cm,h}.put cx.tn o.dst v).map λst=>(.normal,st)|some (.cE d h)=>({st with h,df:=d::st.df}.put cx.tn o.dst dS).map λst=>(.normal,st)|some (.aN v h)=>some (.panic v,{st with h})|none=>none
 |some false=>(st.put cx.tn o.dst dS).map λst=>(.normal,st)|none=>none
def fL(P:Program)(R:Rec)(cx:Ctx)(ops:Array Oper):List Oper->aD->Option (b7×aD)|[],st=>some (.normal,st)|o::rest,st=>match eu P R cx ops o st with|some (.normal,st)=>fL P R cx ops rest st|r=>r
def bg:Op->Bool|.alloc _|.box ..|.buildSlice ..|.makeSlice ..|.makeMap ..=>true|_=>false
def cd:Op->Bool|.move _|.assign _|.pick ..|.build ..|.load ..|.nilCheck _|.binOp ..|.unOp ..|.convert ..|.makeInterface ..|.makeFunc ..|.slice ..|.fieldAddr ..|.field ..|.indexAddr ..|.index ..|.lookup ..|.typeAssert ..|.extract ..=>true|.call {callee:=.builtin b,..}=>(match b with|.len|.cap|.min|.max|.unsafeSliceData=>true|_=>false)|_=>false
def jD:AV->List Nat|.ref o _ _ _=>[o]|.sl o _ _ _ _ _ _=>[o]|.map o=>[o]|_=>[]
def tmpsOf(o:Oper):List Tmp:=o.op.operands.toList.filterMap λ|.tmp t=>some t|_=>none
def fi:List Oper->List Nat->List Nat|[],c=>c|o::rest,c=>fi rest (c++[o.after.foldl (λs e=>if Region.binds .any e then s|||2^e.on|||c.getD e.on 0 else s) 0])
def te(ops:Array Oper):Bool:=
 let l:=ops.toList
 let b:=fi l []
 let idx:=l.zipIdx
 idx.all λ(o,i)=>
  let c:=b.getD i 0
  (o.after.all λe=>!Region.binds .any e||decide (e.on<i))&&(match o.guard with|none=>true|some (j,_)=>c.testBit j)&&(idx.all λ(q,k)=>(match q.dst with|some d=>(k==i||o.dst !=some d)&&(!(tmpsOf o).contains d||c.testBit k||(b.getD k 0).testBit i)|none=>true)&&(!(decide (k<i))||bg o.op||cd o.op||bg q.op||cd q.op||c.testBit k))
structure cz where es:List (Nat×List Nat)fs:List (Nat×List Nat)
def mz(b:List Nat)(k:cz):Bool:=k.fs.all λ(i,ids)=>k.es.all λ(j,wr)=>(b.getD i 0).testBit j||(b.getD j 0).testBit i||ids.all λo=>!wr.contains o
def dy(ts:List Tmp)(tm:Tr AV):Operand->AV|.tmp t=>if ts.contains t then ev tm (.tmp t)else .aM|x=>ev tm x
def fB(h:AHeap):List Nat->Tr cr|[]=>.leaf|o::os=>if o<h.next then(match h.get o with|some x=>(fB h os).put o x|none=>fB h os)else fB h os
def jt:Op->Bool|.load ..|.lookup ..|.convert ..|.call _=>true|_=>false
def dH(o:Oper)(tm:Tr AV):List Nat:=if jt o.op then(tmpsOf o).flatMap λt=>jD (ev tm (.tmp t))else[]
def e9(P:Program)(R:Rec)(cx:Ctx)(ops:Array Oper):List Oper->(i ao:Nat)->cz->aD->Option (cz×aD)
 |[],_,_,k,st=>some (k,st)
 |o::rest,i,ao,k,st=>
  match cC ops o st.tm with
  |some false=>match st.put cx.tn o.dst dS with|some st=>e9 P R cx ops rest (i+1) (if bg o.op then ao+1 else ao) k st|none=>none
  |some true=>if bg o.op then
   match aV P (dy (tmpsOf o) st.tm) o {cj:=.leaf,next:=ao,floor:=0,wr:=[]}with
   |some (.val v,h)=>match h.get ao with|some x=>if h.next=ao+1 then match{st with h:={st.h with cj:=st.h.cj.put ao x}}.put cx.tn o.dst v with|some st=>e9 P R cx ops rest (i+1) (ao+1) k st|none=>none else none|none=>none
   |_=>none else if cd o.op then match aV P (dy (tmpsOf o) st.tm) o {st.h with cj:=fB st.h (dH o st.tm)}with|some (.val v,h')=>if h'.next=st.h.next then match st.put cx.tn o.dst v with|some st'=>e9 P R cx ops rest (i+1) ao {k with fs:=(i,dH o st.tm)::k.fs} st'|none=>none else none|_=>none else
    match cV P R cx (dy (tmpsOf o) st.tm) o .none st.h.inner with
    |some (.val v _ h)=>match{st with h:=st.h.outer h}.put cx.tn o.dst v with|some st'=>e9 P R cx ops rest (i+1) ao {k with es:=(i,h.wr)::k.es} st'|none=>none
    |_=>none
  |none=>none
def fy:List Oper->Nat|[]=>0|o::rest=>if bg o.op then fy rest+1 else fy rest
def sn(h:AHeap):Nat->Nat->Bool|0,_=>true|n+1,o=>(h.get o).isNone&&sn h n (o+1)
def ir(P:Program)(R:Rec)(cx:Ctx)(ops:Array Oper)(b:List Nat)(m:Nat):List Oper->(i ao:Nat)->cz->aD->Option cz
 |[],_,_,k,_=>some k
 |q::qs,i,ao,k,st=>
  match(b.getD i 0).testBit m with
  |true=>match st.put cx.tn q.dst .aM with|some st=>ir P R cx ops b m qs (i+1) (if bg q.op then ao+1 else ao) k st|none=>none
  |false=>if bg q.op||cd q.op then match e9 P R cx ops [q] i ao k st with|some (k,st)=>ir P R cx ops b m qs (i+1) (if bg q.op then ao+1 else ao) k st|none=>none else none
def fa(P:Program)(R:Rec)(cx:Ctx)(ops:Array Oper)(b:List Nat):List Oper->(i ao:Nat)->cz->aD->Option (b7×aD)
 |[],_,_,_,_=>none
 |o::rest,i,ao,k,st=>
  match cC ops o st.tm with
  |some false=>match st.put cx.tn o.dst dS with|some st=>fa P R cx ops b rest (i+1) (if bg o.op then ao+1 else ao) k st|none=>none
  |some true=>
   if bg o.op then
    match aV P (dy (tmpsOf o) st.tm) o {cj:=.leaf,next:=ao,floor:=0,wr:=[]}with
    |some (.val v,h)=>match h.get ao with|some x=>if h.next=ao+1 then match{st with h:={st.h with cj:=st.h.cj.put ao x}}.put cx.tn o.dst v with|some st=>fa P R cx ops b rest (i+1) (ao+1) k st|none=>none else none|none=>none
    |_=>none
   else if cd o.op then match aV P (dy (tmpsOf o) st.tm) o {st.h with cj:=fB st.h (dH o st.tm)}with|some (.val v,h')=>if h'.next=st.h.next then match st.put cx.tn o.dst v with|some st'=>fa P R cx ops b rest (i+1) ao {k with fs:=(i,dH o st.tm)::k.fs} st'|none=>none else none|_=>none
   else
    match cV P R cx (dy (tmpsOf o) st.tm) o .none st.h.inner with
    |some (.val v _ h)=>match{st with h:=st.h.outer h}.put cx.tn o.dst v with|some st'=>fa P R cx ops b rest (i+1) ao {k with es:=(i,h.wr)::k.es} st'|none=>none
    |some (.aN v h)=>
     match st.put cx.tn o.dst .aM with
     |some c=>match ir P R cx ops b i rest (i+1) ao k c with|some kf=>if mz b kf then some (.panic v,{st with tm:=.leaf,h:=st.h.outer h})else none|none=>none
     |none=>none
    |_=>none
  |none=>none
def nG(P:Program)(R:Rec)(cx:Ctx)(ops:Array Oper)(st:aD):Option (b7×aD):=if te ops&&sn st.h (fy ops.toList) st.h.next then match e9 P R cx ops ops.toList 0 st.h.next {es:=[],fs:=[]} {st with h:={st.h with next:=st.h.next+fy ops.toList}}with|some (k,st)=>if mz (fi ops.toList []) k then some (.normal,st)else none|none=>fa P R cx ops (fi ops.toList []) ops.toList 0 st.h.next {es:=[],fs:=[]} {st with h:={st.h with next:=st.h.next+fy ops.toList}}else none
def evalCode(P:Program)(R:Rec)(cx:Ctx):Code->aD->Option (b7×aD)
 |.skip,st=>some (.normal,st)
 |.label _,st=>some (.normal,st)
 |.region _ ops draw,st=>if draw then nG P R cx ops st else fL P R cx ops ops.toList st
 |.seq a b,st=>match evalCode P R cx a st with|some (.normal,st)=>evalCode P R cx b st|r=>r
 |.cond c a b,st=>match ev st.tm c with|.sc (.bool true)=>evalCode P R cx a st|.sc (.bool false)=>evalCode P R cx b st|_=>none
 |.block id body,st=>match evalCode P R cx body st with|some (.exit o,st')=>if o=id then some (.normal,st')else some (.exit o,st')|r=>r
 |.loop body,st=>R.loop body cx st
 |.exit id,st=>some (.exit id,st)
 |.scope body,st=>evalCode P R cx body st
 |.goto _,_=>none
 |.ret,st=>some (.ret,st)
 |.refuse _,_=>none
 |.rangeFunc f params assign body,st=>
  match cx.round with
  |some _=>none
  |none=>
   let d:=st.h.next
   let l:=d+1
   let h:=(st.h.alloc (.cE (some []))).alloc (.loop .ready none cx.fn cx.tn st.tm params.toList assign body d)
   match mO (ev st.tm f)with
   |some (.func g,first,captured)=>
    match iM P h g (first++[.eB l]++captured)with
    |some (.enter g args,h)=>
     match R.call .normal g args .none h with
     |some (.ret _,_,h)=>
      match h.get l with
      |some (.loop s h8 fn tn tm ps a b dd)=>
       if s==.busy then none else
       let st:={st with h:=h.aU l (.loop .exhausted h8 fn tn tm ps a b dd),df:=.dD d::st.df}
       match h8 with|none=>some (.normal,st)|some (.exit id)=>some (.exit id,st)|some .ret=>some (.ret,st)|some _=>none
      |_=>none
     |some (.aN v,_,h)=>some (.panic v,{st with h,df:=.dD d::st.df})|none=>none
    |_=>none
   |_=>none
def jn(P:Program)(fn:Func)(tm:Tr AV)(h:AHeap):List ResultVar->Option (List AV)
 |[]=>some []
 |.tmp t::rs=>match jn P fn tm h rs with|some vs=>some (ev tm (.tmp t)::vs)|none=>none
 |.cell a t::rs=>match iw P h t (ev tm (.tmp a)),jn P fn tm h rs with|some v,some vs=>some (v::vs)|_,_=>none
def kR(P:Program)(fn:Func)(tm:Tr AV)(h:AHeap):Option AV:=match jn P fn tm h fn.results.toList with|some [v]=>some v|some vs=>some (.tuple vs)|none=>none
def cH(P:Program)(R:Rec)(fn:Func)(tm:Tr AV):List ey->bD->AHeap->Option (di×AHeap)
 |[],.ret,h=>(kR P fn tm h).map λv=>(.ret v,h)
 |[],.aN v false,h=>some (.aN v,h)
 |[],_,_=>none
 |.dD d::ds,m,h=>match h.get d with|some (.cE (some []))=>cH P R fn tm ds m (h.aU d (.cE none))|_=>none
 |.fn (.func f) captured args::ds,m,h=>
  match iM P h f (args++captured)with
  |some (.enter o c,h)=>match R.call .deferred o c m h with|some (.ret _,.aN _ true,h)=>cH P R fn tm ds .ret h|some (.ret _,.aN v false,h)=>cH P R fn tm ds (.aN v false) h|some (.ret _,.ret,h)=>cH P R fn tm ds .ret h|_=>none
  |_=>none
 |_,_,_=>none
mutual
def fS:AV->Bool|.sc _|.aM=>true|.ref ..|.sl ..|.map _|.eB _=>false|.bT=>true|.cI cs=>eo cs|.aZ cs _ _ _=>eo cs|.aQ _ _=>true|.func _ a c=>eo a&&eo c|.iface _ v=>fS v|.agg cs=>eo cs|.tuple vs=>eo vs
def eo:List AV->Bool|[]=>true|x::xs=>fS x&&eo xs
end
def gN:List AV->Nat->Tr AV->Tr AV|[],_,t=>t|x::xs,i,t=>gN xs (i+1) (t.put i x)
def Yy:di->Bool|.ret v=>fS v|.aN v=>fS v
def rK(kind:CallKind)(h:AHeap)(cm:bD)(r:Option (di×AHeap)):Option (di×bD×AHeap):=match r with|some (o,h')=>if kind=.normal/\h'.wr.isEmpty=true/\Yy o=true then some (o,cm,h)else some (o,cm,h.outer h')|none=>none
def pQ(P:Program)(R:Rec)(kind:CallKind)(f:FuncId)(args:List AV)(cm:bD)(h:AHeap):Option (di×bD×AHeap):=
 match P.funcs[f]? with
 |some fn=>
  match fn.body with
  |some code=>match evalCode P R {fn:=f,tn:=max fn.ntmps args.length,kind,round:=none} code {tm:=gN args 0 .leaf,df:=[],cm,h:=h.inner}with|some (.normal,st)=>rK kind h st.cm (cH P R fn st.tm st.df .ret st.h)|some (.ret,st)=>rK kind h st.cm (cH P R fn st.tm st.df .ret st.h)|some (.panic v,st)=>rK kind h st.cm (cH P R fn st.tm st.df (.aN v false) st.h)|_=>none
  |none=>none
 |none=>none
def ly(tn:Nat):List Tmp->List AV->Tr AV->Option (Tr AV)|[],[],t=>some t|p::ps,x::xs,t=>if p<tn then ly tn ps xs (t.put p x)else none|_,_,_=>none
def ry(l:Nat)(jump:Option Code)(h:AHeap):Option (di×AHeap):=match h.get l with|some (.loop _ _ fn tn tm ps assign body dd)=>some (.ret (.sc (.bool jump.isNone)),h.aU l (.loop (if jump.isNone then .ready else .done) jump fn tn tm ps assign body dd))|_=>none
def pO(P:Program)(R:Rec)(l:Nat)(args:List AV)(h:AHeap):Option (di×AHeap):=
 match h.get l with
 |some (.loop _ _ fn tn tm ps assign body _)=>
  match ly tn ps args tm with
  |none=>none
  |some bY=>
   let cx:Ctx:={fn,tn,kind:=.normal,round:=some l}
   match evalCode P R cx assign {tm:=bY,df:=[],cm:=.none,h}with
   |some (.normal,st)=>
    match st.h.get l with
    |some (.loop .ready p E z bY D c o F)=>
     match evalCode P R cx body {st with h:=st.h.aU l (.loop .busy p E z bY D c o F)}with
     |some (.normal,st)=>ry l none st.h
     |some (.ret,st)=>ry l (some .ret) st.h
     |some (.exit id,st)=>ry l (some (.exit id)) st.h
     |some (.panic v,st)=>match st.df,P.funcs[fn]? with|[],some _=>some (.aN v,st.h)|_,_=>none
     |none=>none
    |_=>none
   |_=>none
 |_=>none
def mg(P:Program)(R:Rec)(body:Code)(cx:Ctx)(st:aD):Option (b7×aD):=match evalCode P R cx body st with|some (.normal,st)=>R.loop body cx st|r=>r
def Rec.zero:Rec:={call:=λ_ _ _ _ _=>none,loop:=λ_ _ _=>none,round:=λ_ _ _=>none}
def Rec.succ(P:Program)(R:Rec):Rec:={call:=pQ P R,loop:=mg P R,round:=pO P R}
def h0:AHeap:={cj:=.leaf,next:=0,floor:=0,wr:=[]}
end Go.AI
end

section
namespace Go.AI
structure Gh where B:Nat->Nat->Option (Nat×Nat×Nat)M:Nat->Nat->Option Value
structure Gh.Le(g g':Gh):Prop where
 b:∀o v x,g.B o v=some x->g'.B o v=some x
 m:∀b i v,g.M b i=some v->g'.M b i=some v
theorem Gh.Le.refl(g:Gh):g.Le g:=⟨λ_ _ _ h=>h,λ_ _ _ h=>h⟩
theorem Gh.Le.trans{a b c:Gh}(h:a.Le b)(h':b.Le c):a.Le c:=⟨λo v x e=>h'.b o v x (h.b o v x e),λo v x e=>h'.m o v x (h.m o v x e)⟩
inductive VR(g:Gh):AV->Value->Prop where|aM(v:Value):VR g .aM v|sc(v:Value):VR g (.sc v) v|ref{o ver n off b s:Nat}:g.B o ver=some (b,s,n)->VR g (.ref o ver n off) (.pointer (some ⟨b,off,none⟩))|sl{o ver n off sz len b s c:Nat}{cap:Option Nat}:g.B o ver=some (b,s,n)->off+c*sz<=s->len<=c->(∀k,cap=some k->c=k)->VR g (.sl o ver n off sz len cap) (.slice (some ⟨b,off,none⟩) len c)|bT(a:Addr)(c:Nat):VR g .bT (.slice (some a) 0 c)|cI{cells:List AV}{b off:Nat}(f:Nat->Value):(∀(i:Nat)(x:AV),cells[i]?=some x->g.M b (off+i)=some (f i))->(∀(i:Nat)(x:AV),cells[i]?=some x->VR g x (f i))->VR g (.cI cells) (.pointer (some ⟨b,off,none⟩))|aZ{cells:List AV}{sz len b off c:Nat}{cap:Option Nat}(f:Nat->Value):(∀(i:Nat)(x:AV),cells[i]?=some x->g.M b (off+i)=some (f i))->(∀(i:Nat)(x:AV),cells[i]?=some x->VR g x (f i))->cells.length=len*sz->len<=c->(∀k,cap=some k->c=k)->VR g (.aZ cells sz len cap) (.slice (some ⟨b,off,none⟩) len c)|hU{sz:Nat}:VR g (.aQ [] sz) (.slice none 0 0)|ia{sz:Nat}(a:Addr):VR g (.aQ [] sz) (.slice (some a) 0 0)|aQ{rows:List (List AV)}{sz b off c:Nat}:(∀r,r∈rows->r.length=sz)->eo rows.flatten=true->VR g (.aZ rows.flatten sz rows.length (some c)) (.slice (some ⟨b,off,none⟩) rows.length c)->VR g (.aQ rows sz) (.slice (some ⟨b,off,none⟩) rows.length c)|map{o b s n:Nat}:g.B o 0=some (b,s,n)->VR g (.map o) (.map (some b))|func{fn:Fn}{a c:List AV}{a' c':Array Value}:a.length=a'.size->(∀(i:Nat)(x:AV)(v:Value),a[i]?=some x->a'[i]?=some v->VR g x v)->c.length=c'.size->(∀(i:Nat)(x:AV)(v:Value),c[i]?=some x->c'[i]?=some v->VR g x v)->VR g (.func fn a c) (.func fn a' c')|eB{o b s n:Nat}:g.B o 0=some (b,s,n)->VR g (.eB o) (.func (.yield b) #[] #[])|iface{t:TypeId}{x:AV}{v:Value}:VR g x v->VR g (.iface t x) (.iface t v)|agg{a:List AV}{a':Array Value}:a.length=a'.size->(∀(i:Nat)(x:AV)(v:Value),a[i]?=some x->a'[i]?=some v->VR g x v)->VR g (.agg a) (.agg a')|tuple{a:List AV}{a':Array Value}:a.length=a'.size->(∀(i:Nat)(x:AV)(v:Value),a[i]?=some x->a'[i]?=some v->VR g x v)->VR g (.tuple a) (.tuple a')
theorem nH{sz:Nat}:∀{rows:List (List AV)},(∀r,r∈rows->r.length=sz)->rows.flatten.length=rows.length*sz|[],_=>by simp|r::rows,h=>by have h1:=h r (by simp);have h2:=nH (rows:=rows) λq hq=>h q (by simp[hq]);grind
theorem J0{sz:Nat}:∀{rows:List (List AV)}(l:Nat),(∀r,r∈rows->r.length=sz)->(rows.drop l).flatten=rows.flatten.drop (l*sz)
 |rows,0,_=>by simp
 |[],l+1,_=>by simp
 |r::rows,l+1,h=>by
  have h1:=h r (by simp)
  have h2:=J0 (rows:=rows) l λq hq=>h q (by simp[hq])
  have e:(l+1)*sz=r.length+l*sz:=by grind
  rw[List.drop_succ_cons,h2,List.flatten_cons,e,List.drop_append];simp
theorem C7{sz:Nat}:∀{rows:List (List AV)}(l:Nat),(∀r,r∈rows->r.length=sz)->(rows.take l).flatten=rows.flatten.take (l*sz)
 |rows,0,_=>by simp
 |[],l+1,_=>by simp
 |r::rows,l+1,h=>by
  have h1:=h r (by simp)
  have h2:=C7 (rows:=rows) l λq hq=>h q (by simp[hq])
  have e:(l+1)*sz=r.length+l*sz:=by grind
  grind
theorem Dv{sz:Nat}{rows:List (List AV)}(l k:Nat)(h:∀r,r∈rows->r.length=sz):((rows.drop l).take k).flatten=(rows.flatten.drop (l*sz)).take (k*sz):=by rw[C7 k λr hr=>h r (List.mem_of_mem_drop hr),J0 l h]
theorem Xg{sz:Nat}{rows:List (List AV)}{i:Nat}{r:List AV}(h:∀r,r∈rows->r.length=sz)(hi:rows[i]?=some r):(rows.flatten.drop (i*sz)).take sz=r:=by
 have e:=Dv i 1 h
 rw[Nat.one_mul]at e
 have hlt:i<rows.length:=by grind
 have:(rows.drop i).take 1=[r]:=by rw[List.drop_eq_getElem_cons hlt];simp only[List.take_succ_cons,List.take_zero];rw[List.getElem?_eq_getElem hlt]at hi;simpa using hi
 grind
theorem I0{sz:Nat}{rows:List (List AV)}{i j:Nat}{r:List AV}{x:AV}(h:∀r,r∈rows->r.length=sz)(hi:rows[i]?=some r)(hx:r[j]?=some x):rows.flatten[i*sz+j]?=some x:=by rw[<-Xg h hi]at hx;grind
theorem pG:∀{xs:List AV},eo xs=true↔∀x,x∈xs->fS x=true|[]=>by simp[eo]|y::ys=>by simp[eo,pG (xs:=ys)]
theorem I1{xs ys:List AV}(h:eo xs=true)(hs:∀y,y∈ys->y∈xs):eo ys=true:=pG.2 λy hy=>pG.1 h y (hs y hy)
theorem VR.mono{g g':Gh}(hl:g.Le g'){x:AV}{v:Value}(h:VR g x v):VR g' x v:=by induction h with|aM v=>exact .aM v|sc v=>exact .sc v|ref h=>exact .ref (hl.b _ _ _ h)|sl h a b c=>exact .sl (hl.b _ _ _ h) a b c|bT a c=>exact .bT a c|cI f h _ o=>exact .cI f (λi x e=>hl.m _ _ _ (h i x e)) o|aZ f h _ a b c o=>exact .aZ f (λi x e=>hl.m _ _ _ (h i x e)) o a b c|hU=>exact .hU|ia a=>exact .ia a|aQ h h' _ o=>exact .aQ h h' o|map h=>exact .map (hl.b _ _ _ h)|func h1 _ h2 _ D z=>exact .func h1 D h2 z|eB h=>exact .eB (hl.b _ _ _ h)|iface _ o=>exact .iface o|agg h _ o=>exact .agg h o|tuple h _ o=>exact .tuple h o
def aG(g:Gh):List AV->List Value->Prop|[],[]=>True|x::xs,v::vs=>VR g x v/\aG g xs vs|_,_=>False
theorem aG.mono{g g':Gh}(hl:g.Le g'):∀{xs:List AV}{vs:List Value},aG g xs vs->aG g' xs vs|[],[],_=>trivial|_::_,_::_,h=>⟨h.1.mono hl,aG.mono hl h.2⟩|[],_::_,h=>h.elim|_::_,[],h=>h.elim
theorem aG.length{g:Gh}:∀{xs:List AV}{vs:List Value},aG g xs vs->xs.length=vs.length|[],[],_=>rfl|_::_,_::_,h=>by simp[aG.length h.2]|[],_::_,h=>h.elim|_::_,[],h=>h.elim
theorem aG.get{g:Gh}:∀{xs:List AV}{vs:List Value},aG g xs vs->∀(i:Nat)(x:AV)(v:Value),xs[i]?=some x->vs[i]?=some v->VR g x v|[],[],_,i,x,v,h,_=>by simp at h|x::xs,v::vs,h,0,x',v',h1,h2=>by simp at h1 h2;subst h1;subst h2;exact h.1|x::xs,v::vs,h,i+1,x',v',h1,h2=>by simp at h1 h2;exact aG.get h.2 i x' v' h1 h2|[],_::_,h,_,_,_,_,_=>h.elim|_::_,[],h,_,_,_,_,_=>h.elim
theorem aG.of{g:Gh}:∀{xs:List AV}{vs:List Value},xs.length=vs.length->(∀(i:Nat)(x:AV)(v:Value),xs[i]?=some x->vs[i]?=some v->VR g x v)->aG g xs vs|[],[],_,_=>trivial|x::xs,v::vs,hl,h=>⟨h 0 x v (by simp) (by simp),aG.of (by grind) (λi x v h1 h2=>h (i+1) x v (by grind) (by grind))⟩|[],_::_,hl,_=>by simp at hl|_::_,[],hl,_=>by simp at hl
theorem aG.append{g:Gh}:∀{xs ys:List AV}{vs us:List Value},aG g xs vs->aG g ys us->aG g (xs++ys) (vs++us)|[],_,[],_,_,h=>h|_::_,_,_::_,_,h,h'=>⟨h.1,aG.append h.2 h'⟩|[],_,_::_,_,h,_=>h.elim|_::_,_,[],_,h,_=>h.elim
theorem aG.take{g:Gh}:∀{xs:List AV}{vs:List Value}(n:Nat),aG g xs vs->aG g (xs.take n) (vs.take n)|_,_,0,_=>by simp[aG]|[],[],n+1,_=>by simp[aG]|_::_,_::_,n+1,h=>by simpa using⟨h.1,aG.take n h.2⟩|[],_::_,_+1,h=>h.elim|_::_,[],_+1,h=>h.elim
theorem aG.drop{g:Gh}:∀{xs:List AV}{vs:List Value}(n:Nat),aG g xs vs->aG g (xs.drop n) (vs.drop n)|xs,vs,0,h=>by grind|[],[],n+1,_=>by simp[aG]|_::_,_::_,n+1,h=>by simpa using aG.drop n h.2|[],_::_,_+1,h=>h.elim|_::_,[],_+1,h=>h.elim
theorem aG.sX{g:Gh}:∀(vs:List Value),aG g (vs.map .sc) vs|[]=>trivial|v::vs=>⟨.sc v,aG.sX vs⟩
theorem aG.map{g:Gh}{α:Type}(f:α->AV)(c:α->Value)(h:∀a,VR g (f a) (c a)):∀(l:List α),aG g (l.map f) (l.map c)|[]=>trivial|a::l=>⟨h a,aG.map f c h l⟩
theorem VR.agg_iff{g:Gh}{a:List AV}{v:Value}:VR g (.agg a) v↔∃cs:Array Value,v=.agg cs/\aG g a cs.toList:=by
 constructor
 .intro h;cases h with|agg hl h=>exact⟨_,rfl,aG.of (by grind) (λi x v h1 h2=>h i x v h1 (by grind))⟩
 .rintro⟨cs,rfl,h⟩;exact .agg (by simpa using h.length) (λi x v h1 h2=>h.get i x v h1 (by grind))
theorem VR.fm{g:Gh}{a:List AV}{v:Value}:VR g (.tuple a) v↔∃cs:Array Value,v=.tuple cs/\aG g a cs.toList:=by
 constructor
 .intro h;cases h with|tuple hl h=>exact⟨_,rfl,aG.of (by grind) (λi x v h1 h2=>h i x v h1 (by grind))⟩
 .rintro⟨cs,rfl,h⟩;exact .tuple (by simpa using h.length) (λi x v h1 h2=>h.get i x v h1 (by grind))
theorem VR.rA{g:Gh}{fn:Fn}{a c:List AV}{v:Value}:VR g (.func fn a c) v↔∃a' c':Array Value,v=.func fn a' c'/\aG g a a'.toList/\aG g c c'.toList:=by
 constructor
 .intro h;cases h with|func h1 h2 h3 h4=>exact⟨_,_,rfl,aG.of (by grind) (λi x v e1 e2=>h2 i x v e1 (by grind)),aG.of (by grind) (λi x v e1 e2=>h4 i x v e1 (by grind))⟩
 .rintro⟨a',c',rfl,h,h'⟩;exact .func (by simpa using h.length) (λi x v e1 e2=>h.get i x v e1 (by grind)) (by simpa using h'.length) (λi x v e1 e2=>h'.get i x v e1 (by grind))
theorem VR.bz{g:Gh}(v:Value):VR g (bz v) v:=by cases v with|agg cs=>exact VR.agg_iff.2 ⟨cs,rfl,aG.sX _⟩|tuple cs=>exact VR.fm.2 ⟨cs,rfl,aG.sX _⟩|_=>exact .sc _
theorem J4{g:Gh}{x:AV}{u v:Value}(h:dT x=some u)(hr:VR g x v):v=u:=by
 unfold dT at h
 split at h
 .cases hr;grind
 .cases hr with|iface hr=>cases hr;grind
 .cases h
theorem C8{g:Gh}:∀{xs:List AV}{us vs:List Value},nU xs=some us->aG g xs vs->vs=us
 |[],us,[],h,_=>by simpa[nU]using h
 |x::xs,us,v::vs,h,hr=>by
  simp only[nU]at h
  split at h
  .rename_i a az h1 h2;simp only[ad]at h;rw[<-h,J4 h1 hr.1,C8 h2 hr.2]
  .cases h|[],_,_::_,_,hr=>hr.elim|_::_,_,[],_,hr=>hr.elim
theorem pS{g:Gh}{x:AV}{u v:Value}(h:dC x=some u)(hr:VR g x v):v=u:=by
 unfold dC at h
 split at h
 .obtain⟨cs,rfl,hc⟩:=VR.agg_iff.1 hr;cases ht:nU _ with|none=>rw[ht]at h;cases h|some l=>rw[ht]at h;have:=C8 ht hc;simp at h;rw[<-h,<-this]
 .obtain⟨cs,rfl,hc⟩:=VR.fm.1 hr;cases ht:nU _ with|none=>rw[ht]at h;cases h|some l=>rw[ht]at h;have:=C8 ht hc;simp at h;rw[<-h,<-this]
 .exact J4 h hr
theorem rr{g:Gh}:∀{xs:List AV}{us vs:List Value},mn xs=some us->aG g xs vs->vs=us
 |[],us,[],h,_=>by simpa[mn]using h
 |x::xs,us,v::vs,h,hr=>by
  simp only[mn]at h
  split at h
  .rename_i a az h1 h2;simp only[ad]at h;rw[<-h,pS h1 hr.1,rr h2 hr.2]
  .cases h|[],_,_::_,_,hr=>hr.elim|_::_,_,[],_,hr=>hr.elim
theorem lA{α:Type}{P:Program}:∀{s:Sem α}{a:α},b8 P s=some a->∀w,s.run P w=.ok a w|.pure a,b,h,w=>by simp[b8]at h;simp[Sem.run,h]|.program k,b,h,w=>by simp only[b8]at h;simp only[Sem.run];exact lA h w|.mark m k,b,h,w=>by simp only[b8]at h;simp only[Sem.run];exact lA h w|.load _ _ _,b,h,w=>by simp[b8]at h|.store _ _ _ _,b,h,w=>by simp[b8]at h|.new _ _,b,h,w=>by simp[b8]at h|.shape _ _,b,h,w=>by simp[b8]at h|.freeze _ _ _,b,h,w=>by simp[b8]at h|.frozen _ _,b,h,w=>by simp[b8]at h|.getObj _ _,b,h,w=>by simp[b8]at h|.setObj _ _ _,b,h,w=>by simp[b8]at h|.choose _ _,b,h,w=>by simp[b8]at h|.sys _ _,b,h,w=>by simp[b8]at h|.halt _,b,h,w=>by simp[b8]at h
end Go.AI
end

section
namespace Go.AI
def FU(_:Nat):Option (Array Value->Prop):=none
def Dw(w:World)(b:Nat)(p:Array Value->Prop):Prop:=∃cs x y,w.heap[b]?=some (.cells cs x y)/\0<cs.size/\p cs
def PH(w:World):Prop:=∀b p,FU b=some p->Dw w b p
end Go.AI
end

section
namespace Go.AI
def TR(g:Gh)(tm:Tr AV)(tmps:Array Value):Prop:=∀t x,tm.get t=some x->∃v,tmps[t]?=some v/\VR g x v
theorem TR.mono{g g':Gh}(hl:g.Le g'){tm:Tr AV}{tmps:Array Value}(h:TR g tm tmps):TR g' tm tmps:=λt x e=>let⟨v,a,b⟩:=h t x e;⟨v,a,b.mono hl⟩
def cY(g:Gh):List (AV×AV×Nat)->List MapEntry->Prop|[],[]=>True|(k,v,b)::es,e::c=>VR g k e.key/\VR g v e.val/\e.born=b/\cY g es c|_,_=>False
theorem cY.mono{g g':Gh}(hl:g.Le g'):∀{es:List (AV×AV×Nat)}{c:List MapEntry},cY g es c->cY g' es c|[],[],_=>trivial|(_,_,_)::_,_::_,h=>⟨h.1.mono hl,h.2.1.mono hl,h.2.2.1,cY.mono hl h.2.2.2⟩|[],_::_,h=>h.elim|(_,_,_)::_,[],h=>h.elim
structure MD(g:Gh)(w:World)(b s n:Nat)(content:List AV)(fz:Nat)(el:TypeId)(ex sh:Bool)(c:Array Value)(f:Nat×Nat):Prop where
 here:w.heap[b]?=some (.cells c el f)
 size:c.size=s
 le:n<=content.length
 lh:n<=s
 exact:ex=true->s=content.length
 free:∀i,i<s->f.1<=i->i<f.2->i<fz
 plain:sh=false->f.1=f.2\/f.2<=fz
 cell:∀i x,i<n->content[i]?=some x->∃v,c[i]?=some v/\VR g x v
def OR(g:Gh)(w:World)(o:Nat):cr->Prop|.cells ver Bi c fz el ex sh=>(∀v,ver<v->g.B o v=none)/\∀v,Bi<=v->v<=ver->∀b s n,g.B o v=some (b,s,n)->(v=ver->n=c.length)/\∃cs f,MD g w b s n c fz el ex sh cs f|.map es clock=>∀b s n,g.B o 0=some (b,s,n)->∃z:Array MapEntry,w.heap[b]?=some (.map z clock)/\cY g es z.toList|.kb s pos=>∀b k n,g.B o 0=some (b,k,n)->w.heap[b]?=some (.stringIter s pos)|.ic m since seen last=>∀b k n,g.B o 0=some (b,k,n)->∃D,w.heap[b]?=some (.mapIter D since seen.toArray last)/\(match m with|none=>D=none|some o'=>∃b' s' n',g.B o' 0=some (b',s',n')/\D=some b')|.loop st h8 fn tn tm ps assign body dd=>∀b s n,g.B o 0=some (b,s,n)->∃tmps E s' n',w.heap[b]?=some (.loop {state:=st,pending:=h8,fn,tmps,params:=ps.toArray,assign,body,defers:=E})/\tmps.size=tn/\TR g tm tmps/\g.B dd 0=some (E,s',n')|.cE ds=>∀b s n,g.B o 0=some (b,s,n)->match ds with|some []=>w.heap[b]?=some (.deferred (some []))|none=>w.heap[b]?=some (.deferred none)|_=>False
theorem OR.move{g g':Gh}{w w':World}{o:Nat}{x:cr}(hl:g.Le g')(hb:∀v y,g'.B o v=some y->g.B o v=some y)
 (hw:∀v b s n,g.B o v=some (b,s,n)->w'.heap[b]?=w.heap[b]?)(h:OR g w o x):OR g' w' o x:=by
 cases x with
 |cells ver Bi c fz el ex sh=>
  refine⟨λv hv=>?_,?_⟩
  .cases e:g'.B o v with|none=>rfl|some y=>have:=hb _ _ e;rw[h.1 v hv]at this;cases this
  intro v h1 h2 b s n e;have e':=hb _ _ e;obtain⟨hn,cs,f,hc⟩:=h.2 v h1 h2 b s n e';exact⟨hn,cs,f,⟨(hw _ _ _ _ e').trans hc.here,hc.size,hc.le,hc.lh,hc.exact,hc.free,hc.plain,λi x hi hx=>let⟨v,a,b⟩:=hc.cell i x hi hx;⟨v,a,b.mono hl⟩⟩⟩
 |map es clock=>intro b s n e;have e':=hb _ _ e;obtain⟨z,h1,h2⟩:=h b s n e';exact⟨z,(hw _ _ _ _ e').trans h1,h2.mono hl⟩
 |kb s pos=>intro b k n e;have e':=hb _ _ e;exact(hw _ _ _ _ e').trans (h b k n e')
 |ic m since seen last=>intro b k n e;have e':=hb _ _ e;obtain⟨D,h1,h2⟩:=h b k n e';refine⟨D,(hw _ _ _ _ e').trans h1,?_⟩;cases m with|none=>exact h2|some o'=>obtain⟨b',s',n',h3,h4⟩:=h2;exact⟨b',s',n',hl.b _ _ _ h3,h4⟩
 |loop st h8 fn tn tm ps assign body dd=>intro b s n e;have e':=hb _ _ e;obtain⟨tmps,E,s',n',h1,h2,h3,h4⟩:=h b s n e';exact⟨tmps,E,s',n',(hw _ _ _ _ e').trans h1,h2,h3.mono hl,hl.b _ _ _ h4⟩|cE ds=>intro b s n e;have e':=hb _ _ e;have:=h b s n e';grind
structure W(h:AHeap)(g:Gh)(w:World):Prop where
 obj:∀o x,h.get o=some x->OR g w o x
 ei:∀o v b s n,g.B o v=some (b,s,n)->b<w.heap.size
 inj:∀o v o' v' b s n s' n',g.B o v=some (b,s,n)->g.B o' v'=some (b,s',n')->o=o'
 ro:∀b i v,g.M b i=some v->w.cell? ⟨b,i,none⟩=some v/\b<w.heap.size
 fZ:∀b i u,g.M b i=some u->∀o v s n,g.B o v≠some (b,s,n)gl:∀b p,FU b=some p->Dw w b p/\∃u,g.M b 0=some u
theorem W.nY{h:AHeap}{g g':Gh}{w w':World}(hw:W h g w)(hold:∀b u,g.M b 0=some u->w'.heap[b]?=w.heap[b]?)(hm:∀b i v,g.M b i=some v->g'.M b i=some v):
 ∀b p,FU b=some p->Dw w' b p/\∃u,g'.M b 0=some u:=λb p e=>
 let⟨⟨cs,x,y,h1,h2⟩,u,hu⟩:=hw.gl b p e
 ⟨⟨cs,x,y,(hold b u hu).trans h1,h2⟩,u,hm b 0 u hu⟩
def eI(h:AHeap)(g:Gh):Prop:=∀o,h.next<=o->∀v,g.B o v=none
structure Step(h:AHeap)(g:Gh)(w:World)(h':AHeap)(g':Gh)(w':World):Prop where
 le:g.Le g'
 gA:h.next<=h'.next
 nj:h'.floor=h.floor
 wr:∀o,o∈h.wr->o∈h'.wr
 ck:∀o,o<h.floor->o<h.next->o∉h'.wr->h'.get o=h.get o
 ph:∀o,o<h.next->(∀v,g.B o v=none)->h'.get o=h.get o
 gone:∀o,o<h.next->h.get o=none->h'.get o=none
 iA:∀o v x,g'.B o v=some x->g.B o v=some x\/(h.next<=o/\o<h'.next)\/(h.get o≠none/\∃v',g.B o v'≠none)
 size:w.heap.size<=w'.heap.size
 old:∀o v b s n,g'.B o v=some (b,s,n)->b<w.heap.size->∃v' s' n',g.B o v'=some (b,s',n')
 fr:∀b,b<w.heap.size->(∀o v s n,g.B o v=some (b,s,n)->(o<h.floor/\o∉h'.wr)\/h.get o=none)->w'.heap[b]?=w.heap[b]?
 tape:w'.tape=w.tape
 os:w'.os=w.os
 out:w'.output=w.output
 fX:∀b i v,g'.M b i=some v->g.M b i=some v\/w.heap.size<=b:=by exactλ_ _ _ h=>Or.inl h
theorem Step.refl(h:AHeap)(g:Gh)(w:World):Step h g w h g w where
 le:=.refl g
 gA:=aC _
 nj:=rfl
 wr:=λ_ h=>h
 ck:=λ_ _ _ _=>rfl
 ph:=λ_ _ _=>rfl
 gone:=λ_ _ h=>h
 iA:=λ_ _ _ h=>.inl h
 size:=aC _
 old:=λ_ v b s n h _=>⟨v,s,n,h⟩
 fr:=λ_ _ _=>rfl
 tape:=rfl
 os:=rfl
 out:=rfl
theorem Step.trans{h h' D:AHeap}{g g' E:Gh}{w w' z:World}(hf:eI h g)(a:Step h g w h' g' w')(b:Step h' g' w' D E z):Step h g w D E z where
 le:=a.le.trans b.le
 gA:=Nat.le_trans a.gA b.gA
 nj:=b.nj.trans a.nj
 wr:=λo ho=>b.wr o (a.wr o ho)
 ck:=λo h1 h2 h3=>by rw[b.ck o (a.nj▸h1) (Nat.lt_of_lt_of_le h2 a.gA) h3];exact a.ck o h1 h2 λh4=>h3 (b.wr o h4)
 ph:=λo h1 h2=>by
  have:∀v,g'.B o v=none:=by
   intro v
   cases hv:g'.B o v with
   |none=>rfl
   |some x=>
    rcases a.iA o v x hv with h3|⟨h3,_⟩|⟨_,v',h3⟩
    .grind
    .omega
    grind
  rw[b.ph o (Nat.lt_of_lt_of_le h1 a.gA) this];exact a.ph o h1 h2
 gone:=λo h1 h2=>b.gone o (Nat.lt_of_lt_of_le h1 a.gA) (a.gone o h1 h2)
 iA:=λo v x hx=>by
  rcases b.iA o v x hx with h1|⟨h1,h2⟩|⟨h1,v',h2⟩
  .rcases a.iA o v x h1 with h3|⟨h3,h4⟩|h3
   .grind
   .exact .inr (.inl ⟨h3,Nat.lt_of_lt_of_le h4 b.gA⟩)
   grind
  .exact .inr (.inl ⟨Nat.le_trans a.gA h1,h2⟩)
  .cases hv:g'.B o v' with
   |none=>grind
   |some y=>
    rcases a.iA o v' y hv with h3|⟨h3,h4⟩|h3
    .by_cases hlt:o<h.next
     .refine .inr (.inr ⟨λh5=>h1 (a.gone o hlt h5),v',by grind⟩)
     .have:=hf o (Nat.le_of_not_lt hlt) v';grind
    .exact .inr (.inl ⟨h3,Nat.lt_of_lt_of_le h4 b.gA⟩)
    grind
 size:=Nat.le_trans a.size b.size
 old:=λo v c s n h1 h2=>by obtain⟨v',s',n',h3⟩:=b.old o v c s n h1 (Nat.lt_of_lt_of_le h2 a.size);exact a.old o v' c s' n' h3 h2
 fr:=λc h1 h2=>by
  rw[b.fr c (Nat.lt_of_lt_of_le h1 a.size) ?_]
  .refine a.fr c h1 λo v s n h3=>?_
   rcases h2 o v s n h3 with⟨h4,h5⟩|h4
   .exact .inl ⟨h4,λh6=>h5 (b.wr o h6)⟩
   grind
  .intro o v s n h3
   obtain⟨v',s',n',h4⟩:=a.old o v c s n h3 h1
   rcases h2 o v' s' n' h4 with⟨h5,h6⟩|h5
   .exact .inl ⟨a.nj▸h5,h6⟩
   .by_cases hlt:o<h.next
    .exact .inr (a.gone o hlt h5)
    .have:=hf o (Nat.le_of_not_lt hlt) v';grind
 tape:=b.tape.trans a.tape
 os:=b.os.trans a.os
 out:=b.out.trans a.out
 fX:=λc i v hm=>by
  rcases b.fX c i v hm with h1|h1
  .exact a.fX c i v h1
  .exact .inr (Nat.le_trans a.size h1)
theorem eI.step{h h':AHeap}{g g':Gh}{w w':World}(hf:eI h g)(a:Step h g w h' g' w'):eI h' g':=by
 intro o ho v
 cases hv:g'.B o v with
 |none=>rfl
 |some x=>
  rcases a.iA o v x hv with h1|⟨_,h1⟩|⟨_,v',h1⟩
  .rw[hf o (Nat.le_trans a.gA ho) v]at h1;cases h1
  .omega
  .exact absurd (hf o (Nat.le_trans a.gA ho) v') h1
theorem W.same{h:AHeap}{g:Gh}{w w':World}(hw:W h g w)(hs:w.heap.size<=w'.heap.size)(hb:∀b,b<w.heap.size->w'.heap[b]?=w.heap[b]?):W h g w' where
 obj:=λo x hx=>(hw.obj o x hx).move (.refl g) (λ_ _ e=>e) (λv b s n e=>hb b (hw.ei o v b s n e))
 ei:=λo v b s n e=>Nat.lt_of_lt_of_le (hw.ei o v b s n e) hs
 inj:=hw.inj
 ro:=λb i v e=>by obtain⟨h1,h2⟩:=hw.ro b i v e;refine⟨?_,Nat.lt_of_lt_of_le h2 hs⟩;rw[<-h1];unfold World.cell?;grind
 fZ:=hw.fZ
 gl:=hw.nY (λb u e=>hb b (hw.ro b 0 u e).2) (λ_ _ _ e=>e)
theorem W.drew{h:AHeap}{g:Gh}{w:World}(hw:W h g w)(n:Nat):W h g {w with drawn:=n}:=hw.same (aC _) λ_ _=>rfl
theorem Step.drew(h:AHeap)(g:Gh)(w:World)(n:Nat):Step h g w h g {w with drawn:=n}:={Step.refl h g w with size:=aC _,fr:=λ_ _ _=>rfl,tape:=rfl,os:=rfl,out:=rfl,fX:=λ_ _ _ h=>Or.inl h}
end Go.AI
end

section
namespace Go.AI
def Gh.eA(g:Gh)(o v:Nat)(x:Nat×Nat×Nat):Gh:={B:=λo' v'=>if o'=o/\v'=v then some x else g.B o' v',M:=g.M}
theorem Gh.lD{g:Gh}{o v:Nat}{x:Nat×Nat×Nat}(h:g.B o v=none):g.Le (g.eA o v x)where
 b:=λo' v' y e=>by unfold Gh.eA;grind
 m:=λ_ _ _ e=>e
theorem Gh.hI(g:Gh)(o v:Nat)(x:Nat×Nat×Nat):(g.eA o v x).B o v=some x:=by simp[Gh.eA]
theorem Gh.ek{g:Gh}{o v o' v':Nat}{x y:Nat×Nat×Nat}(h:(g.eA o v x).B o' v'=some y):(o'=o/\v'=v/\y=x)\/g.B o' v'=some y:=by unfold Gh.eA at h;grind
abbrev gU(w:World)(ob:Obj):World:=w.alloc ob
def dk(w:World)(b:Nat)(ob:Obj):World:={w with heap:=w.heap.setIfInBounds b ob}
theorem C9{w:World}{ob:Obj}{b:Nat}(h:b<w.heap.size):(gU w ob).heap[b]?=w.heap[b]?:=by show(w.heap.push ob)[b]?=_;grind
theorem ku(w:World)(ob:Obj):(gU w ob).heap[w.heap.size]?=some ob:=by show(w.heap.push ob)[w.heap.size]?=_;grind
theorem VC(w:World)(ob:Obj):(gU w ob).heap.size=w.heap.size+1:=by simp[gU]
theorem CZ{w:World}{ob:Obj}{b b':Nat}(h:b'≠b):(dk w b ob).heap[b']?=w.heap[b']?:=by simp[dk,Array.getElem?_setIfInBounds_ne (Ne.symm h)]
theorem il{w:World}{ob:Obj}{b:Nat}(h:b<w.heap.size):(dk w b ob).heap[b]?=some ob:=by simp[dk,h]
theorem J5(w:World)(b:Nat)(ob:Obj):(dk w b ob).heap.size=w.heap.size:=by simp[dk]
theorem AHeap.yx(h:AHeap)(x:cr)(o:Nat):(h.alloc x).get o=if o=h.next then some x else h.get o:=Tr.pX _ _ _ _
theorem AHeap.jT(h:AHeap)(p:Nat)(x:cr)(o:Nat):(h.aU p x).get o=if o=p then some x else h.get o:=Tr.pX _ _ _ _
theorem yy{l:List Nat}{floor o p:Nat}(h:o∈l):o∈jw l floor p:=by unfold jw;grind
theorem rk{l:List Nat}{floor o:Nat}(h:o<floor):o∈jw l floor o:=by unfold jw;grind
theorem pT{h:AHeap}{g:Gh}{w w':World}{x:cr}{ob:Obj}{s n:Nat}(hw:W h g w)(hf:∀v,g.B h.next v=none)
 (c:w'=gU w ob)
 (ho:OR (g.eA h.next 0 (w.heap.size,s,n)) w' h.next x):
 W (h.alloc x) (g.eA h.next 0 (w.heap.size,s,n)) w'/\Step h g w (h.alloc x) (g.eA h.next 0 (w.heap.size,s,n)) w':=by
 have D:g.Le (g.eA h.next 0 (w.heap.size,s,n)):=Gh.lD (hf 0)
 have hold:∀b,b<w.heap.size->w'.heap[b]?=w.heap[b]?:=λb hb=>by rw[c];exact C9 hb
 have L:w'.heap.size=w.heap.size+1:=by simp_all
 refine⟨⟨?_,?_,?_,?_,?_,hw.nY (λb' u e=>hold b' (hw.ro b' 0 u e).2) (λ_ _ _ e=>e)⟩,⟨D,?_,rfl,λ_ h=>h,?_,?_,?_,?_,by omega,?_,λb hb _=>hold b hb,by simp_all,by rw[c];rfl,by rw[c];rfl,λ_ _ _ h=>Or.inl h⟩⟩
 .intro o y hy
  rw[AHeap.yx]at hy
  split at hy
  .grind
  .rename_i e
   refine(hw.obj o y hy).move D ?_ ?_
   .intro v z hz
    rcases Gh.ek hz with⟨e',_⟩|hz
    .grind
    .exact hz
   .intro v b s n hb;exact hold b (hw.ei o v b s n hb)
 .intro o v b s' n' hb
  rcases Gh.ek hb with⟨_,_,e⟩|hb
  .grind
  .have:=hw.ei o v b s' n' hb;omega
 .intro o v o' v' b J n1 I K h1 h2
  rcases Gh.ek h1 with⟨e1,_,F⟩|h1<;>rcases Gh.ek h2 with⟨e2,_,E⟩|h2
  .rw[e1,e2]
  .simp at F;have:=hw.ei o' v' b I K h2;omega
  .simp at E;have:=hw.ei o v b J n1 h1;omega
  .exact hw.inj o v o' v' b J n1 I K h1 h2
 .intro b i v hm;obtain⟨h1,h2⟩:=hw.ro b i v hm;refine⟨?_,by omega⟩;rw[<-h1];unfold World.cell?;grind
 .intro b i u hm o v s' n' hb
  rcases Gh.ek hb with⟨_,_,e⟩|hb
  .have:=(hw.ro b i u hm).2;grind
  .exact hw.fZ b i u hm o v s' n' hb
 .simp[AHeap.alloc]
 .intro o _ h2 _;rw[AHeap.yx,if_neg (by omega)]
 .intro o h1 _;rw[AHeap.yx,if_neg (by omega)]
 .intro o h1 h2;rw[AHeap.yx,if_neg (by omega)];exact h2
 .intro o v y hy
  rcases Gh.ek hy with⟨e,_,_⟩|hy
  .exact .inr (.inl ⟨by omega,by simp[AHeap.alloc];omega⟩)
  grind
 .intro o v b s' n' hb hlt
  rcases Gh.ek hb with⟨_,_,e⟩|hb
  .grind
  grind
theorem jV{h:AHeap}{g:Gh}{w w':World}{o v b s n:Nat}{x x':cr}{ob:Obj}(hw:W h g w)(hx:h.get o=some x)
 (hb:g.B o v=some (b,s,n))(c:w'=dk w b ob)(ho:OR g w' o x'):W (h.aU o x') g w'/\Step h g w (h.aU o x') g w':=by
 have hold:∀b',b'≠b->w'.heap[b']?=w.heap[b']?:=λb' z=>by rw[c];exact CZ z
 have D:w'.heap.size=w.heap.size:=by rw[c];exact J5 _ _ _
 refine⟨⟨?_,?_,hw.inj,?_,hw.fZ,hw.nY (λb' u e=>hold b' (λe'=>hw.fZ b' 0 u e o v s n (e'▸hb))) (λ_ _ _ e=>e)⟩,⟨.refl g,aC _,rfl,λ_ h=>yy h,?_,?_,?_,λ_ _ _ h=>.inl h,by omega,λo v b s n h _=>⟨v,s,n,h⟩,?_,by rw[c];rfl,by rw[c];rfl,by rw[c];rfl,λ_ _ _ h=>Or.inl h⟩⟩
 .intro o' y hy
  rw[AHeap.jT]at hy
  split at hy
  .grind
  .rename_i e;refine(hw.obj o' y hy).move (.refl g) (λ_ _ h=>h) ?_;intro v' b' s' n' z;exact hold b' λe'=>e (by subst e';exact hw.inj o' v' o v b' s' n' s n z hb)
 .intro o' v' b' s' n' z;rw[D];exact hw.ei o' v' b' s' n' z
 .intro b' i u hm;obtain⟨h1,h2⟩:=hw.ro b' i u hm;refine⟨?_,by omega⟩;rw[<-h1];unfold World.cell?;simp only[hold b' (λe=>hw.fZ b' i u hm o v s n (e▸hb))]
 .intro o' h1 _ h2;rw[AHeap.jT,if_neg];intro e;subst e;exact h2 (rk h1)
 .intro o' _ h1;rw[AHeap.jT,if_neg];grind
 .intro o' _ h1
  rw[AHeap.jT,if_neg]
  .exact h1
  grind
 .intro b' _ h1
  by_cases e:b'=b
  .subst e
   rcases h1 o v s n hb with⟨h2,h3⟩|h2
   .exact absurd (rk h2) h3
   grind
  grind
theorem Wk{h:AHeap}{g:Gh}{w w':World}{o v0 nv T Q R s n:Nat}{x x':cr}{ob:Obj}(hw:W h g w)(hx:h.get o=some x)
 (hb:g.B o v0=some (T,Q,R))(hn:g.B o nv=none)(D:w'=gU w ob)
 (ho:OR (g.eA o nv (w.heap.size,s,n)) w' o x'):
 W (h.aU o x') (g.eA o nv (w.heap.size,s,n)) w'/\Step h g w (h.aU o x') (g.eA o nv (w.heap.size,s,n)) w':=by
 have E:g.Le (g.eA o nv (w.heap.size,s,n)):=Gh.lD hn
 have hold:∀b,b<w.heap.size->w'.heap[b]?=w.heap[b]?:=λb hb=>by rw[D];exact C9 hb
 have S:w'.heap.size=w.heap.size+1:=by simp_all
 refine⟨⟨?_,?_,?_,?_,?_,hw.nY (λb' u e=>hold b' (hw.ro b' 0 u e).2) (λ_ _ _ e=>e)⟩,⟨E,aC _,rfl,λ_ h=>yy h,?_,?_,?_,?_,by omega,?_,λb hb _=>hold b hb,by simp_all,by rw[D];rfl,by rw[D];rfl,λ_ _ _ h=>Or.inl h⟩⟩
 .intro o' y hy
  rw[AHeap.jT]at hy
  split at hy
  .grind
  .rename_i e
   refine(hw.obj o' y hy).move E ?_ ?_
   .intro v z hz
    rcases Gh.ek hz with⟨e',_⟩|hz
    .grind
    .exact hz
   .intro v b s n hb;exact hold b (hw.ei o' v b s n hb)
 .intro o' v b s' n' c
  rcases Gh.ek c with⟨_,_,e⟩|c
  .grind
  .have:=hw.ei o' v b s' n' c;omega
 .intro N v1 M J b L n1 K O h1 h2
  rcases Gh.ek h1 with⟨e1,_,I⟩|h1<;>rcases Gh.ek h2 with⟨e2,_,F⟩|h2
  .rw[e1,e2]
  .simp at I;have:=hw.ei M J b K O h2;omega
  .simp at F;have:=hw.ei N v1 b L n1 h1;omega
  .exact hw.inj N v1 M J b L n1 K O h1 h2
 .intro b i v hm;obtain⟨h1,h2⟩:=hw.ro b i v hm;refine⟨?_,by omega⟩;rw[<-h1];unfold World.cell?;grind
 .intro b i u hm o' v s' n' c
  rcases Gh.ek c with⟨_,_,e⟩|c
  .have:=(hw.ro b i u hm).2;grind
  .exact hw.fZ b i u hm o' v s' n' c
 .intro o' h1 _ h2;rw[AHeap.jT,if_neg];intro e;subst e;exact h2 (rk h1)
 .intro o' _ h1;rw[AHeap.jT,if_neg];grind
 .intro o' _ h1
  rw[AHeap.jT,if_neg]
  .exact h1
  grind
 .intro o' v y hy
  rcases Gh.ek hy with⟨e,_,_⟩|hy
  .grind
  grind
 .intro o' v b s' n' c hlt
  rcases Gh.ek c with⟨_,_,e⟩|c
  .grind
  grind
theorem VD{h:AHeap}{g:Gh}{w w':World}{o v0 nv b E F s n:Nat}{x x':cr}{ob:Obj}(hw:W h g w)(hx:h.get o=some x)
 (hb:g.B o v0=some (b,E,F))(hn:g.B o nv=none)(D:w'=dk w b ob)
 (ho:OR (g.eA o nv (b,s,n)) w' o x'):
 W (h.aU o x') (g.eA o nv (b,s,n)) w'/\Step h g w (h.aU o x') (g.eA o nv (b,s,n)) w':=by
 have I:g.Le (g.eA o nv (b,s,n)):=Gh.lD hn
 have hold:∀b',b'≠b->w'.heap[b']?=w.heap[b']?:=λb' c=>by rw[D];exact CZ c
 have L:w'.heap.size=w.heap.size:=by rw[D];exact J5 _ _ _
 refine⟨⟨?_,?_,?_,?_,?_,hw.nY (λb' u e=>hold b' (λe'=>hw.fZ b' 0 u e o v0 E F (e'▸hb))) (λ_ _ _ e=>e)⟩,⟨I,aC _,rfl,λ_ h=>yy h,?_,?_,?_,?_,by omega,?_,?_,by rw[D];rfl,by rw[D];rfl,by rw[D];rfl,λ_ _ _ h=>Or.inl h⟩⟩
 .intro o' y hy
  rw[AHeap.jT]at hy
  split at hy
  .grind
  .rename_i e
   refine(hw.obj o' y hy).move I ?_ ?_
   .intro v z hz
    rcases Gh.ek hz with⟨e',_⟩|hz
    .grind
    .exact hz
   .intro v' b' s' n' c;exact hold b' λe'=>e (by subst e';exact hw.inj o' v' o v0 b' s' n' E F c hb)
 .intro o' v b' s' n' c
  rw[L]
  rcases Gh.ek c with⟨_,_,e⟩|c
  .simp at e;rw[e.1];exact hw.ei o v0 b E F hb
  .exact hw.ei o' v b' s' n' c
 .intro R v1 Q M b' O n1 N S h1 h2
  rcases Gh.ek h1 with⟨e1,_,K⟩|h1<;>rcases Gh.ek h2 with⟨e2,_,J⟩|h2
  .rw[e1,e2]
  .simp at K;rw[K.1]at h2;rw[e1];exact hw.inj o v0 Q M b E F N S hb h2
  .simp at J;rw[J.1]at h1;rw[e2];exact hw.inj R v1 o v0 b O n1 E F h1 hb
  .exact hw.inj R v1 Q M b' O n1 N S h1 h2
 .intro b' i u hm;obtain⟨h1,h2⟩:=hw.ro b' i u hm;refine⟨?_,by omega⟩;rw[<-h1];unfold World.cell?;simp only[hold b' (λe=>hw.fZ b' i u hm o v0 E F (e▸hb))]
 .intro b' i u hm o' v s' n' c
  rcases Gh.ek c with⟨_,_,e⟩|c
  .simp at e;rw[e.1]at hm;exact hw.fZ b i u hm o v0 E F hb
  .exact hw.fZ b' i u hm o' v s' n' c
 .intro o' h1 _ h2;rw[AHeap.jT,if_neg];intro e;subst e;exact h2 (rk h1)
 .intro o' _ h1;rw[AHeap.jT,if_neg];grind
 .intro o' _ h1
  rw[AHeap.jT,if_neg]
  .exact h1
  grind
 .intro o' v y hy
  rcases Gh.ek hy with⟨e,_,_⟩|hy
  .grind
  grind
 .intro o' v b' s' n' c _
  rcases Gh.ek c with⟨e1,_,e⟩|c
  .grind
  grind
 .intro b' _ h1
  by_cases e:b'=b
  .subst e
   rcases h1 o v0 E F hb with⟨h2,h3⟩|h2
   .exact absurd (rk h2) h3
   grind
  grind
end Go.AI
end

section
namespace Go.AI
theorem cell_of{w:World}{b i:Nat}{c:Array Value}{el:TypeId}{f:Nat×Nat}(h:w.heap[b]?=some (.cells c el f)):w.cell? ⟨b,i,none⟩=c[i]?:=by unfold World.cell?;simp[h]
theorem Wl{w:World}{b i:Nat}{c:Array Value}{el:TypeId}{f:Nat×Nat}(h:w.heap[b]?=some (.cells c el f)):w.frozen? ⟨b,i,none⟩=(decide (f.1<=i)&&decide (i<f.2)):=by unfold World.frozen?;simp[h]
theorem IX{α:Type}(l:List α)(a s i:Nat)(hi:i<s):((l.drop a).take s)[i]?=l[a+i]?:=by grind
theorem nA{h:AHeap}{g:Gh}{w:World}{o ver n off s b sz:Nat}{cs:List AV}(hw:W h g w)(hr:c9 h o ver n off s=some cs)
 (hb:g.B o ver=some (b,sz,n)):∃vs:List Value,aG g cs vs/\vs.length=s/\(∀(j:Nat)(v:Value),vs[j]?=some v->w.cell? ⟨b,off+j,none⟩=some v)/\off+s<=n/\n<=sz:=by
 unfold c9 at hr
 split at hr
 .rename_i v m c fz el ex sh hx
  split at hr
  .rename_i hc
   obtain⟨h1,h2,h3⟩:=hc
   simp only[ad]at hr
   subst hr
   obtain⟨_,ca,f,hk⟩:=(hw.obj o _ hx).2 ver h1 h2 b sz n hb
   refine⟨(ca.toList.drop off).take s,?_,?_,?_,h3,hk.lh⟩
   .refine aG.of ?_ ?_
    .simp only[List.length_take,List.length_drop,Array.length_toList];have:=hk.le;have:=hk.lh;have:=hk.size;omega
    .intro i x v' z D
     by_cases hi:i<s
     .rw[IX _ _ _ _ hi]at z D;obtain⟨u,hu,hr⟩:=hk.cell (off+i) x (by omega) z;grind
     grind
   .simp only[List.length_take,List.length_drop,Array.length_toList];have:=hk.lh;have:=hk.size;omega
   .intro j u hu
    by_cases hi:j<s
    .rw[IX _ _ _ _ hi,Array.getElem?_toList]at hu;rw[cell_of hk.here];exact hu
    grind
  .cases hr
 .cases hr
theorem rL{h:AHeap}{g:Gh}{w:World}{s:Nat}{x:AV}{v:Value}{cs:List AV}(hw:W h g w)(hr:gW h s x=some cs)(hx:VR g x v):
 ∃a:Addr,v=.pointer (some a)/\a.spot=none/\∃vs:List Value,aG g cs vs/\vs.length=s/\(∀(j:Nat)(u:Value),vs[j]?=some u->w.cell? ⟨a.block,a.off+j,none⟩=some u):=by
 unfold gW at hr
 split at hr
 .cases hx with|ref hb=>obtain⟨vs,h1,h2,h3,_⟩:=nA hw hr hb;exact⟨_,rfl,rfl,vs,h1,h2,h3⟩
 .rename_i cells
  split at hr
  .rename_i hs
   simp only[ad]at hr
   subst hr
   cases hx with
   |cI f h1 h2=>
    rename_i b off
    refine⟨_,rfl,rfl,(List.range s).map f,?_,by simp,?_⟩
    .refine aG.of (by grind) ?_;grind
    .intro j u hu
     by_cases hj:j<s
     .simp[hj]at hu
      have hlt:j<cells.length:=by omega
      have:=h1 j cells[j] (by simp[hlt]);rw[<-hu];exact(hw.ro _ _ _ this).1
     grind
  .cases hr
 .cases hr
theorem add_eq(a:Addr)(n:Nat)(h:a.spot=none):a.add n=⟨a.block,a.off+n,none⟩:=by cases a with|mk b o s=>simp at h;subst h;unfold Addr.add;grind
section
variable {P:Program}
theorem yz{t:TypeId}{b:Bool}(h:ep P t=some b)(w:World):(isAgg t).run P w=.ok b w:=by unfold ep at h;unfold isAgg;cases hu:P.underlying t with|none=>grind|some d=>rw[hu]at h;simp only[Sem.run_bind,run_underlying hu,Result.andThen_ok];cases d<;>simp_all
theorem run_typeInfo{t:TypeId}{i:TypeInfo}(h:P.info? t=some i)(w:World):(typeInfo t).run P w=.ok i w:=by unfold typeInfo;simp[h]
theorem run_sizeOf{t:TypeId}{s:Nat}(h:bt P t=some s)(w:World):(sizeOf t).run P w=.ok s w:=by unfold bt at h;cases hi:P.info? t with|none=>grind|some i=>rw[hi]at h;simp at h;unfold sizeOf;simp only[Sem.run_bind,run_typeInfo hi,Result.andThen_ok,Sem.run_pure,h]
theorem Jj{t:TypeId}{s:Nat}(h:mw P t=some s):∃i,P.info? t=some i/\i.bytes=s:=by unfold mw at h;simp_all
theorem yh{t:TypeId}{z:AV}(h:eE P t=some z)(w:World):∃v,(zeroValue t).run P w=.ok v w/\z=bz v:=by unfold eE at h;cases hi:P.info? t with|none=>grind|some i=>rw[hi]at h;cases hz:i.zero with|none=>grind|some v=>simp[hz]at h;refine⟨v,?_,h.symm⟩;unfold zeroValue;simp only[Sem.run_bind,run_typeInfo hi,Result.andThen_ok,hz,Sem.run_pure]
theorem Dx{h:AHeap}{g:Gh}{w:World}{t:TypeId}{x y:AV}{v:Value}(hw:W h g w)(hr:iw P h t x=some y)(hx:VR g x v):
 ∃u,(Instr.loadAt t v).run P w=.ok u w/\VR g y u:=by
 unfold iw at hr
 split at hr
 .rename_i s ha hs
  cases o:gW h s x with
  |none=>grind
  |some cs=>
   rw[o]at hr;simp at hr;subst hr
   obtain⟨a,rfl,c,vs,h1,h2,h3⟩:=rL hw o hx
   have hl:(loadCells a s).run P w=.ok vs.toArray w:=by rw[<-h2];exact run_loadCells_list w a vs (λj v hv=>by rw[add_eq a j c];grind)
   refine⟨.agg vs.toArray,?_,VR.agg_iff.2 ⟨_,rfl,by grind⟩⟩;unfold Instr.loadAt Instr.sureAddr loadVar;simp only[Sem.run_bind,Sem.run_pure,Result.andThen_ok,yz ha,if_true,run_sizeOf hs,hl]
 .rename_i s ha hs
  split at hr
  .rename_i D o
   simp only[ad]at hr;subst hr
   obtain⟨a,rfl,c,vs,h1,h2,h3⟩:=rL hw o hx
   match vs,h1,h2,h3 with
   |[u],h1,_,h3=>
    refine⟨u,?_,h1.1⟩
    have:=h3 0 u (by simp)
    have z:a=⟨a.block,a.off+0,none⟩:=by cases a;simp at c;simp[c]
    unfold Instr.loadAt Instr.sureAddr loadVar;simp only[Sem.run_bind,Sem.run_pure,Result.andThen_ok,yz ha,Bool.false_eq_true,if_false,run_load];grind
  .cases hr
 .cases hr
end
end Go.AI
end

section
namespace Go.AI
theorem ME{w:World}{b:Nat}{ob:Obj}(h:w.heap[b]?=some ob):dk w b ob=w:=by
 unfold dk
 have:w.heap.setIfInBounds b ob=w.heap:=by grind
 rw[this]
theorem Wm(w:World)(b:Nat)(x y:Obj):dk (dk w b x) b y=dk w b y:=by unfold dk;simp
theorem ik{w:World}{b:Nat}{ob:Obj}(h:w.heap[b]?=some ob):b<w.heap.size:=by grind
theorem setCell_eq{w:World}{b i:Nat}{c:Array Value}{el:TypeId}{f:Nat×Nat}(v:Value)(h:w.heap[b]?=some (.cells c el f)):w.setCell ⟨b,i,none⟩ v=dk w b (.cells (c.setIfInBounds i v) el f):=by unfold World.setCell dk;congr 1;grind
theorem Jz{g:Gh}{x:AV}{v:Value}(h:dN x=true)(hr:VR g x v):v.oneCell'=true:=by cases hr<;>simp_all[dN,Value.oneCell'];grind
theorem CO{g:Gh}:∀{xs:List AV}{vs:List Value},xs.all dN=true->aG g xs vs->∀v∈vs,v.oneCell'=true
 |[],[],_,_=>by simp
 |x::xs,v::vs,h,hr=>by
  simp only[List.all_cons,bB]at h
  intro u hu
  rcases List.mem_cons.1 hu with rfl|hu
  .exact Jz h.1 hr.1
  .exact CO h.2 hr.2 u hu|[],_::_,_,hr=>hr.elim|_::_,[],_,hr=>hr.elim
theorem IY{P:Program}{b off:Nat}{el:TypeId}{f:Nat×Nat}:∀(vs:List Value)(i:Nat)(c:Array Value)(w:World),
 w.heap[b]?=some (.cells c el f)->off+i+vs.length<=c.size->(∀j,off+i<=j->j<off+i+vs.length->¬(f.1<=j/\j<f.2))->(∀v∈vs,v.oneCell'=true)->
 ∃c':Array Value,(storeCells ⟨b,off,none⟩ vs i).run P w=.ok () (dk w b (.cells c' el f))/\c'.size=c.size/\∀j:Nat,c'[j]?=if off+i<=j/\j<off+i+vs.length then vs[j-(off+i)]? else c[j]?:=by
 intro vs
 induction vs with
 |nil=>
  intro i c w h _ _ _
  refine⟨c,?_,rfl,?_⟩
  .rw[ME h];rfl
  grind
 |cons v vs D=>
  intro i c w h hs hf ho
  have F:off+i+(vs.length+1)<=c.size:=hs
  have o:w.cell? ⟨b,off+i,none⟩=c[off+i]?:=cell_of h
  have hlt:off+i<c.size:=by omega
  have z:w.frozen? ⟨b,off+i,none⟩=false:=by rw[Wl h];have:=hf (off+i) (aC _) (by simp);simpa using this
  have h2:(dk w b (.cells (c.setIfInBounds (off+i) v) el f)).heap[b]?=some (.cells (c.setIfInBounds (off+i) v) el f):=il (ik h)
  obtain⟨c',hr,E,hc⟩:=D (i+1) _ _ h2 (by simp;omega) (λj h1 h2=>hf j (by omega) (by simp;omega)) (λu hu=>ho u (List.mem_cons_of_mem _ hu))
  refine⟨c',?_,by grind,?_⟩
  .simp only[storeCells,Sem.run_bind];rw[add_eq _ _ rfl,run_store _ _ _ _ _ (ho v (List.mem_cons_self ..))];simp only[o];rw[Array.getElem?_eq_getElem hlt];simp only[z,Bool.false_eq_true,if_false,Result.andThen_ok];rw[setCell_eq v h,hr,Wm]
  .intro j
   rw[hc j]
   by_cases h3:off+i=j
   .subst h3;grind
   .rw[Array.getElem?_setIfInBounds_ne h3]
    by_cases h4:off+(i+1)<=j/\j<off+(i+1)+vs.length
    .grind
    .rw[if_neg h4,if_neg (by simp;omega)]
theorem JA(c:List AV)(off:Nat)(new:List AV)(h:off+new.length<=c.length)(j:Nat):(dO c off new)[j]?=if off<=j/\j<off+new.length then new[j-off]? else c[j]?:=by unfold dO;grind
theorem tb(c:List AV)(off:Nat)(new:List AV)(h:off+new.length<=c.length):(dO c off new).length=c.length:=by unfold dO;simp;omega
theorem C0{P:Program}{h h':AHeap}{g:Gh}{w:World}{o ver n off b s:Nat}{new:List AV}{vs:List Value}(hw:W h g w)
 (hr:iq h o ver n off new=some h')(hb:g.B o ver=some (b,s,n))(hv:aG g new vs):
 ∃w',(storeCells ⟨b,off,none⟩ vs 0).run P w=.ok () w'/\W h' g w'/\Step h g w h' g w':=by
 unfold iq at hr
 split at hr
 .rename_i v m c fz el ex sh hx
  split at hr
  .rename_i hc
   obtain⟨rfl,h1,h2,h3,h4⟩:=hc
   simp only[ad]at hr
   subst hr
   obtain⟨J,ca,f,hk⟩:=(hw.obj o _ hx).2 ver h1 (aC _) b s n hb
   .have hn:=J rfl
    have hlen:=hv.length
    obtain⟨c',E,I,K⟩:=IY (P:=P) (off:=off) vs 0 ca w hk.here (by have:=hk.lh;have:=hk.size;omega) (λj h5 h6 F=>by have:=hk.free j (by have:=hk.lh;omega) F.1 F.2;omega) (CO h4 hv)
    refine⟨_,E,?_⟩
    refine jV hw hx hb rfl ⟨(hw.obj o _ hx).1,?_⟩
    intro v' h5 h6 b' s' n' D
    obtain rfl:v'=ver:=by omega
    rw[hb]at D
    simp only[ad,av]at D
    obtain⟨rfl,rfl,rfl⟩:=D
    refine⟨λ_=>by rw[tb _ _ _ (by omega)];exact hn,c',f,?_⟩
    refine⟨il (ik hk.here),by rw[I];exact hk.size,by rw[tb _ _ _ (by omega)];omega,hk.lh,λhe=>by rw[tb _ _ _ (by omega)];exact hk.exact he,hk.free,hk.plain,?_⟩
    intro i x hi z
    rw[JA _ _ _ (by omega)]at z
    rw[K i]
    simp only[Nat.add_zero]
    by_cases F:off<=i/\i<off+new.length
    .rw[if_pos F]at z
     rw[if_pos (by omega)]
     have:i-off<vs.length:=by omega
     refine⟨vs[i-off],by simp[this],hv.get _ _ _ z (by simp[this])⟩
    .rw[if_neg F]at z;rw[if_neg (by omega)];exact hk.cell i x hi z
  .cases hr
 .cases hr
end Go.AI
end
