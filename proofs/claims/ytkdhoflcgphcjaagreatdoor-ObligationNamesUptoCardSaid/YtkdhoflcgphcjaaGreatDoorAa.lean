/- A part of the proof. -/
import Derived.Defers
import Derived.Orders
import Derived.Laws.Sem
import Derived.Laws.World
import Derived.Laws.Cells
import Derived.Laws.Entries
set_option linter.all false

section
namespace Go.AI
theorem an{α:Type _}(a b:α):(some a=some b)=(a=b):=Option.some.injEq a b
theorem aV{α:Type _}{β:Type _}(a:α)(b:β)(c:α)(d:β):((a,b)=(c,d))=(a=c/\b=d):=Prod.mk.injEq a b c d
theorem ao(n:Nat):n<=n:=Nat.le_refl n
theorem b9{p:Prop}[inst:Decidable p](h:p):decide p=true:=decide_eq_true h
theorem fy{p:Prop}[inst:Decidable p](h:¬p):decide p=false:=decide_eq_false h
theorem oq{p:Prop}[inst:Decidable p](h:decide p=true):p:=of_decide_eq_true h
theorem aZ(a b:Bool):((a&&b)=true)=(a=true/\b=true):=Bool.and_eq_true a b
theorem kx{α:Type _}{a:α}{c:List α}:(a::c).length=c.length+1:=List.length_cons
inductive Tr(α:Type)where|leaf|node(l:Tr α)(v:Option α)(r:Tr α)
namespace Tr
variable {α:Type}
def get:Tr α->Nat->Option α|.leaf,_=>none|.node l v r,n=>match n with|0=>v|n+1=>match n%2 with|0=>get l (n/2)|_+1=>get r (n/2)
def set(x:α):Nat->Tr α->Nat->Tr α
 |0,t,_=>t
 |f+1,.leaf,n=>match n with|0=>.node .leaf (some x) .leaf|n+1=>match n%2 with|0=>.node (set x f .leaf (n/2)) none .leaf|_+1=>.node .leaf none (set x f .leaf (n/2))
 |f+1,.node l v r,n=>match n with|0=>.node l (some x) r|n+1=>match n%2 with|0=>.node (set x f l (n/2)) v r|_+1=>.node l v (set x f r (n/2))
def put(t:Tr α)(n:Nat)(x:α):Tr α:=set x (n+1) t n
theorem UN(x:α):∀(f:Nat)(t:Tr α)(n m:Nat),n<f->get (set x f t n) m=if m=n then some x else get t m:=by
 intro f
 induction f with
 |zero=>grind
 |succ f ih=>
  intro t n m h
  cases t with
  |leaf=>
   cases n with
   |zero=>cases m with|zero=>simp[set,get]|succ m=>simp only[set,get];grind
   |succ n=>
    cases hn:n%2 with
    |zero=>simp only[set,hn];cases m with|zero=>simp[get]|succ m=>cases hm:m%2 with|zero=>grind[get]|succ k=>simp only[get,hm];grind
    |succ k=>simp only[set,hn];cases m with|zero=>simp[get]|succ m=>cases hm:m%2 with|zero=>simp only[get,hm];grind|succ k'=>grind[get]
  |node l v r=>
   cases n with
   |zero=>cases m with|zero=>simp[set,get]|succ m=>simp[set,get]
   |succ n=>
    cases hn:n%2 with
    |zero=>simp only[set,hn];cases m with|zero=>simp[get]|succ m=>cases hm:m%2 with|zero=>grind[get]|succ k=>simp only[get,hm];grind
    |succ k=>simp only[set,hn];cases m with|zero=>simp[get]|succ m=>cases hm:m%2 with|zero=>simp only[get,hm];grind|succ k'=>grind[get]
theorem qH(t:Tr α)(n m:Nat)(x:α):get (put t n x) m=if m=n then some x else get t m:=UN x _ t n m (Nat.lt_succ_self n)
theorem aQ(t:Tr α)(n:Nat)(x:α):get (put t n x) n=some x:=by simp[qH]
theorem aB(t:Tr α){n m:Nat}(x:α)(h:m≠n):get (put t n x) m=get t m:=by simp[qH,h]
end Tr
inductive AV where|aA|sc(v:Value)|ref(o ver n off:Nat)|sl(o ver n off sz len:Nat)(cap:Option Nat)|bC|cr(cells:List AV)|aN(cells:List AV)(sz len:Nat)(cap:Option Nat)|aI(rows:List (List AV))(sz:Nat)|map(o:Nat)|func(fn:Fn)(first captured:List AV)|ej(o:Nat)|iface(t:TypeId)(v:AV)|agg(cells:List AV)|tuple(vs:List AV)
def dm:AV:=.tuple []
def bh:Value->AV|.agg cs=>.agg (cs.toList.map .sc)|.tuple vs=>.tuple (vs.toList.map .sc)|v=>.sc v
def dM:AV->Option Value|.sc v=>some v|.iface t (.sc v)=>some (.iface t v)|_=>none
def oF:List AV->Option (List Value)|[]=>some []|x::xs=>match dM x,oF xs with|some v,some vs=>some (v::vs)|_,_=>none
def du:AV->Option Value|.agg cs=>(oF cs).map λl=>.agg l.toArray|.tuple vs=>(oF vs).map λl=>.tuple l.toArray|v=>dM v
def dt:AV->Bool|.agg _|.tuple _|.aA=>false|.sc (.agg _)|.sc (.tuple _)=>false|_=>true
def aO:AV->List AV|.agg cs=>cs|v=>[v]
def bp{α:Type}(P:Program):Sem α->Option α|.pure a=>some a|.program k=>bp P (k P)|.mark _ k=>bp P k|_=>none
inductive dK where|fn(f:Fn)(captured args:List AV)|da(o:Nat)
inductive bT where|cells(ver Az:Nat)(c:List AV)(fz:Nat)(el:TypeId)(ex sh:Bool)|map(es:List (AV×AV×Nat))(clock:Nat)|gY(m:Option Nat)(since:Nat)(seen:List Nat)(last:Nat)|j7(s:ByteArray)(pos:Nat)|loop(st:LoopState)(gW:Option Code)(fn:FuncId)(tn:Nat)(tm:Tr AV)(params:List Tmp)(assign body:Code)(b8:Nat)|b8(ds:Option (List dK))
structure AHeap where
 bU:Tr bT
 next:Nat
 floor:Nat
 wr:List Nat
def jj(l:List Nat)(floor o:Nat):List Nat:=if o<floor then(if l.contains o then l else o::l)else l
def s5(l:List Nat)(floor:Nat):List Nat->List Nat|[]=>l|o::os=>s5 (jj l floor o) floor os
namespace AHeap
def get(h:AHeap)(o:Nat):Option bT:=h.bU.get o
def alloc(h:AHeap)(x:bT):AHeap:={bU:=h.bU.put h.next x,next:=h.next+1,floor:=h.floor,wr:=h.wr}
def aG(h:AHeap)(o:Nat)(x:bT):AHeap:={bU:=h.bU.put o x,next:=h.next,floor:=h.floor,wr:=jj h.wr h.floor o}
def inner(h:AHeap):AHeap:={bU:=h.bU,next:=h.next,floor:=h.next,wr:=[]}
def outer(h h':AHeap):AHeap:={bU:=h'.bU,next:=h'.next,floor:=h.floor,wr:=s5 h.wr h.floor h'.wr}
end AHeap
def cz(h:AHeap)(o ver n off s:Nat):Option (List AV):=match h.get o with|some (.cells v m c _ _ _ _)=>if m<=ver/\ver<=v/\off+s<=n then some ((c.drop off).take s)else none|_=>none
def dn(c:List AV)(off:Nat)(new:List AV):List AV:=c.take off++(new++c.drop (off+new.length))
def hT(h:AHeap)(o ver n off:Nat)(new:List AV):Option AHeap:=match h.get o with|some (.cells v m c fz el ex sh)=>if ver=v/\m<=v/\off+new.length<=n/\fz<=off/\new.all dt=true then some (h.aG o (.cells v v (dn c off new) fz el ex sh))else none|_=>none
def gK(h:AHeap)(s:Nat):AV->Option (List AV)|.ref o ver n off=>cz h o ver n off s|.cr cells=>if s<=cells.length then some (cells.take s)else none|_=>none
def dG(P:Program)(t:TypeId):Option Bool:=match P.underlying t with|some (.struct _)|some (.array _ _)=>some true|some _=>some false|none=>none
def bj(P:Program)(t:TypeId):Option Nat:=(P.info? t).map (·.size)
def mS(P:Program)(t:TypeId):Option Nat:=(P.info? t).map (·.bytes)
def dN(P:Program)(t:TypeId):Option AV:=match P.info? t with|some i=>i.zero.map bh|none=>none
def h8(P:Program)(h:AHeap)(t:TypeId)(a:AV):Option AV:=
 match dG P t,bj P t with
 |some true,some s=>(gK h s a).map .agg
 |some false,some _=>match gK h 1 a with|some [v]=>some v|_=>none
 |_,_=>none
def oG(P:Program)(h:AHeap)(t:TypeId)(a v:AV):Option AHeap:=match bj P t,a with|some s,.ref o ver n off=>if(aO v).length=s then hT h o ver n off (aO v)else none|_,_=>none
def jT(h:AHeap)(t:TypeId)(cells:List AV):AHeap×AV:=(h.alloc (.cells 0 0 cells 0 t true false),.ref h.next 0 cells.length 0)
def apart(P:Program)(t:TypeId)(cs:List AV)(off:Nat):Option AV:=match dG P t,bj P t with|some true,some s=>some (.agg ((cs.drop off).take s))|some false,some _=>(cs.drop off).head?|_,_=>none
def iI(place:Nat->Option (Nat×Nat))(cells:List AV):List (Nat×AV)->Option (List AV)|[]=>some cells|(i,v)::rest=>match place i with|none=>none|some (off,size)=>if(aO v).length=size/\off+(aO v).length<=cells.length/\(aO v).all dt=true then iI place (dn cells off (aO v)) rest else none
def gF(z:List AV):Nat->List AV|0=>[]|n+1=>z++gF z n
inductive dv where|val(v:AV)|skip|enter(f:FuncId)(args:List AV)|round(l:Nat)(args:List AV)|defer(d:dK)|panic(v:AV)|zI
def val(h:AHeap)(v:Option AV):Option (dv×AHeap):=v.map λv=>(.val v,h)
def ff(x:AV):Option Nat:=match x with|.sc (.int _ n)=>if 0<=n then some n.toNat else none|_=>none
def ep:Option AV->Nat->Option Nat|none,d=>some d|some x,_=>ff x
def lZ:Option Nat->Nat->Nat|some c,_=>c|none,len=>len
def yR{α β:Type}:List α->(List α->β)->β|[],k=>k []|x::xs,k=>yR xs λys=>k (x::ys)
theorem CG{α β:Type}:∀(l:List α)(k:List α->β),yR l k=k l|[],_=>rfl|x::xs,k=>by rw[yR,CG xs]
def fV(P:Program)(t:TypeId)(x:AV)(j hi i:Option AV):Option AV:=
 match P.underlying t with
 |some (.slice e)=>
  match bj P e,x with
  |some s,.sl o ver n off sz len cap=>
   match ep j 0,ep hi len,i.map ff with
   |some l,some h,none=>match cap with|some c=>if s=sz/\l<=h/\h<=c/\off+h*sz<=n then some (.sl o ver n (if c=l then off else off+l*sz) sz (h-l) (some (c-l)))else none|none=>if s=sz/\l<=h/\h<=len then(if l=0 then some (.sl o ver n off sz h none)else if l<len then some (.sl o ver n (off+l*sz) sz (h-l) none)else some .bC)else none
   |some l,some h,some (some m)=>if s=sz/\l<=h/\h<=m/\m<=lZ cap len/\off+h*sz<=n/\hi.isSome then some (.sl o ver n (if m=l then off else off+l*sz) sz (h-l) (some (m-l)))else none|_,_,_=>none
  |some s,.aN cells sz len cap=>
   match ep j 0,ep hi len,i.map ff with
   |some l,some h,none=>match cap with|some c=>if s=sz/\l<=h/\h<=len/\len<=c then some (.aN (if c=l then[]else(cells.drop (l*sz)).take ((h-l)*sz)) sz (h-l) (some (c-l)))else none|none=>if s=sz/\l<=h/\h<=len then(if l<len\/l=0 then some (.aN ((cells.drop (l*sz)).take ((h-l)*sz)) sz (h-l) none)else some .bC)else none
   |some l,some h,some (some m)=>if s=sz/\l<=h/\h<=m/\m<=len/\hi.isSome then some (.aN (if m=l then[]else(cells.drop (l*sz)).take ((h-l)*sz)) sz (h-l) (some (m-l)))else none|_,_,_=>none
  |some s,.aI rows sz=>match ep j 0,ep hi rows.length,i with|some l,some h,none=>if s=sz/\l<=h/\h<=rows.length then some (if l=h/\0<rows.length then .bC else .aI ((rows.drop l).take (h-l)) sz)else none|some l,some h,some y=>(match ff y with|some m=>if s=sz/\l<=h/\h<=m/\m<=rows.length/\hi.isSome then some (.aI ((rows.drop l).take (h-l)) sz)else none|none=>none)|_,_,_=>none
  |some _,.bC=>match ep j 0,ep hi 0,i with|some 0,some 0,none=>some .bC|_,_,_=>none
  |some _,.sc (.slice none 0 0)=>match ep j 0,ep hi 0,i.map ff with|some 0,some 0,none=>some (.sc (.slice none 0 0))|some 0,some 0,some (some 0)=>if hi.isSome then some (.sc (.slice none 0 0))else none|_,_,_=>none
  |_,_=>none
 |some .string=>match x,ep j 0,i with|.sc (.string v),some l,none=>(match ep hi v.size with|some h=>if l<=h/\h<=v.size then yR ((v.data.toList.drop l).take (h-l)) λb=>some (.sc (.string ⟨⟨b⟩⟩))else none|none=>none)|_,_,_=>none
 |_=>none
def nY(P:Program)(t:TypeId)(x i:AV):Option AV:=
 match P.underlying t,ff i with
 |some (.slice e),some i=>match bj P e,x with|some s,.sl o ver n off sz len _=>if s=sz/\i<len then some (.ref o ver n (off+i*sz))else none|some s,.aN cells sz len _=>if s=sz/\i<len then some (.cr (cells.drop (i*sz)))else none|some s,.aI rows sz=>if s=sz then(match rows[i]? with|some r=>some (.cr r)|none=>none)else none|_,_=>none
 |some (.array len e),some i=>match bj P e,x with|some s,.ref o ver n off=>if i<len then some (.ref o ver n (off+i*s))else none|some s,.cr cells=>if i<len then some (.cr (cells.drop (i*s)))else none|_,_=>none
 |_,_=>none
def mz(P:Program)(t:TypeId)(x:AV)(f:Nat):Option AV:=
 match P.underlying t with
 |some (.struct c)=>
  match c[f]? with
  |some fd=>match bj P fd.type,x with|some (_+1),.ref o ver n off=>some (.ref o ver n (off+fd.offset))|some (_+1),.cr cells=>some (.cr (cells.drop fd.offset))|_,_=>none
  |none=>none
 |_=>none
def s6(P:Program)(t:TypeId)(x:AV)(f:Nat):Option AV:=
 match P.underlying t,x with
 |some (.struct c),.agg cs=>match c[f]? with|some fd=>apart P fd.type cs fd.offset|none=>none
 |_,_=>none
def qX(P:Program)(t:TypeId)(x i:AV):Option AV:=
 match P.underlying t,x with
 |some (.array len e),.agg cs=>match ff i,bj P e with|some i,some s=>if i<len then apart P e cs (i*s)else none|_,_=>none
 |some .string,.sc (.string s)=>
  match ff i with
  |some i=>match s[i]? with|some b=>some (.sc (.int .u8 b.toNat))|none=>none
  |none=>none
 |_,_=>none
def s7(P:Program)(t:TypeId)(parts:List (Nat×AV)):Option AV:=
 match P.info? t,P.underlying t with
 |some it,some (.array _ e)=>match it.zero,P.info? e with|some z,some j=>(iI (λi=>some (i*j.size,j.size)) (aO (bh z)) parts).map .agg|_,_=>none
 |some it,some (.struct c)=>match it.zero,c.toList.mapM (λf=>(P.info? f.type).map λi=>(f.offset,i.size))with|some z,some places=>(iI (λi=>places[i]?) (aO (bh z)) parts).map .agg|_,_=>none
 |_,_=>none
def uy(P:Program)(h:AHeap)(t:TypeId)(len:Nat)(parts:List (Nat×AV)):Option (AV×AHeap):=
 match P.underlying t with
 |some (.slice e)=>match bj P e,dN P e with|some s,some z=>if len*s<=16777216/\(aO z).length=s then match iI (λi=>some (i*s,s)) (gF (aO z) len) parts with|some cells=>if cells.all dt then some (.sl h.next 0 cells.length 0 s len (some len),h.alloc (.cells 0 0 cells 0 e true false))else none|none=>none else none|_,_=>none
 |_=>none
def Cu(P:Program)(h:AHeap)(t:TypeId)(l c:AV):Option (AV×AHeap):=
 match P.underlying t,ff l,ff c with
 |some (.slice e),some l,some c=>match bj P e,dN P e,mS P e with|some s,some z,some i=>if l<=c/\i*c<=281474976710656/\c<9223372036854775808/\(aO z).length=s then some (.sl h.next 0 (c*s) 0 s l (some c),h.alloc (.cells 0 0 (gF (aO z) c) 0 e true false))else none|_,_,_=>none
 |_,_,_=>none
def fh(h:AHeap)(s n:Nat):AV->Option (List AV)|.sl o ver m off sz len _=>if s=sz/\n<=len then cz h o ver m off (n*s)else none|.aN cells sz len _=>if s=sz/\n<=len/\n*s<=cells.length then some (cells.take (n*s))else none|.aI rows sz=>if s=sz/\n<=rows.length then some (rows.take n).flatten else none|.bC=>if n=0 then some []else none|.sc (.slice none 0 0)=>if n=0 then some []else none|.sc (.string b)=>if s=1/\n<=b.size then some ((b.data.toList.take n).map λb=>.sc (.int .u8 b.toNat))else none|_=>none
def eK:AV->Option Nat|.sl _ _ _ _ _ len _=>some len|.aN _ _ len _=>some len|.aI rows _=>some rows.length|.bC=>some 0|.sc (.slice none 0 0)=>some 0|.sc (.string b)=>some b.size|_=>none
def isInt:TypeDesc->Bool|.int _=>true|_=>false
def ky(P:Program)(h:AHeap)(st j:TypeId)(x y:AV):Option (AV×AHeap):=
 match P.underlying st,P.underlying j,eK y with
 |some (.slice e),some p,some n=>
  if isInt p=true then none else
  match bj P e,mS P e,dN P e with
  |some s,some i,some z=>
   if(aO z).length≠s\/s=0 then none else
   match fh h s n y with
   |none=>none
   |some new=>
    if !(new.all dt)then none else
    match x with
    |.sc (.slice none 0 0)=>if n=0 then some (x,h)else if 0<i/\n*i<=140737488355328 then some (.sl h.next 0 (n*s) 0 s n none,h.alloc (.cells 0 0 new 0 e false false))else none
    |.sl o ver m off sz len cap=>if sz≠s then none else match cap with|some c=>if len+n<=c then(if n=0 then some (x,h)else match hT h o ver m (off+len*s) new with|some h'=>some (.sl o ver m off sz (len+n) (some c),h')|none=>none)else if 0<i/\(len+n)*i<=140737488355328 then match cz h o ver m off (len*s)with|some old=>some (.sl h.next 0 ((len+n)*s) 0 s (len+n) none,h.alloc (.cells 0 0 (old++new) 0 e false false))|none=>none else none|none=>if n=0 then some (x,h)else match h.get o with|some (.cells v mv c fz el _ sh)=>if ver=v/\mv<=v/\off=0/\len*s<=m/\fz<=len*s/\el=e/\0<i/\(len+n)*i<=140737488355328 then some (.sl o (v+1) ((len+n)*s) 0 s (len+n) none,h.aG o (.cells (v+1) (if len*s=c.length then mv else v+1) (c.take (len*s)++new) fz el false sh))else none|_=>none
    |.aN cells sz len (some c)=>if sz≠s\/cells.length≠len*s then none else if n=0 then some (x,h)else if c<len+n/\0<i/\(len+n)*i<=140737488355328 then some (.sl h.next 0 ((len+n)*s) 0 s (len+n) none,h.alloc (.cells 0 0 (cells++new) 0 e false false))else none|.aN _ _ _ none=>if n=0 then some (x,h)else none|.aI _ _=>if n=0 then some (x,h)else none|.bC=>if n=0 then some (x,h)else none|_=>none
  |_,_,_=>none
 |_,_,_=>none
def xR(P:Program)(h:AHeap)(st i:TypeId)(x y:AV):Option (AV×AHeap):=
 match P.underlying st,P.underlying i,x,y with
 |some (.slice e),some (.int _),.sc (.slice none 0 0),.sc (.int .i64 n)=>match bj P e,mS P e,dN P e with|some s,some c,some z=>if 0<n/\n<9223372036854775808/\s≠0/\(aO z).length=s/\(aO z).all dt=true/\0<c/\n.toNat*c<=140737488355328 then some (.sl h.next 0 (n.toNat*s) 0 s n.toNat none,h.alloc (.cells 0 0 (gF (aO z) n.toNat) 0 e false false))else none|_,_,_=>none
 |_,_,_,_=>none
def oe(P:Program)(h:AHeap)(st c:TypeId)(x y:AV):Option (AV×AHeap):=match ky P h st c x y with|some r=>some r|none=>xR P h st c x y
theorem Rk{P:Program}{h:AHeap}{st c:TypeId}{x y:AV}{r:AV×AHeap}(e:ky P h st c x y=some r):oe P h st c x y=some r:=by unfold oe;rw[e]
def EG(P:Program)(h:AHeap)(i:TypeId)(x y:AV):Option (AV×AHeap):=
 match P.underlying i,eK x,eK y with
 |some (.slice e),some dl,some c=>
  match bj P e with
  |some s=>match fh h s (Nat.min c dl) y,x with|some new,.sl o ver m off sz _ _=>if sz=s/\new.length=Nat.min c dl*s then(hT h o ver m off new).map λh'=>(.sc (goInt (Nat.min c dl)),h')else none|_,_=>none
  |none=>none
 |_,_,_=>none
def sameKey:Value->Value->Option Bool|.int k a,.int k' b=>if k=k' then some (a==b)else none|.string a,.string b=>some (a==b)|.bool a,.bool b=>some (a==b)|_,_=>none
def eQ:TypeDesc->Value->Bool|.int _,.int _ _=>true|.string,.string _=>true|.bool,.bool _=>true|_,_=>false
def gJ(k:Value):List (AV×AV×Nat)->Nat->Option (Option (Nat×AV×Nat))
 |[],_=>some none
 |(.sc q,v,b)::es,i=>match sameKey k q with|some true=>some (some (i,v,b))|some false=>gJ k es (i+1)|none=>none
 |_::_,_=>none
def qY(h:AHeap)(c:Value):AV->Option (Option (Nat×AV×Nat))
 |.sc (.map none)=>some none
 |.map o=>match h.get o with|some (.map es _)=>gJ c es 0|_=>none
 |_=>none
def sO(P:Program)(h:AHeap)(t:TypeId)(x k:AV)(ok:Bool):Option AV:=
 match P.underlying t,k with
 |some (.map i e),.sc c=>
  match P.underlying i,dN P e with
  |some kd,some z=>if !eQ kd c then none else match qY h c x with|some (some (_,v,_))=>some (if ok then .tuple [v,.sc (.bool true)]else v)|some none=>some (if ok then .tuple [z,.sc (.bool false)]else z)|none=>none
  |_,_=>none
 |_,_=>none
def mA(P:Program)(h:AHeap)(t:TypeId)(x k v:AV):Option AHeap:=
 match P.underlying t,k,x with
 |some (.map j _),.sc c,.map o=>
  match P.underlying j,h.get o with
  |some kd,some (.map es clock)=>if !eQ kd c then none else match gJ c es 0 with|some (some (i,_,b))=>some (h.aG o (.map (es.set i (.sc c,v,b)) clock))|some none=>some (h.aG o (.map (es++[(.sc c,v,clock)]) (clock+1)))|none=>none
  |_,_=>none
 |_,_,_=>none
def yr(P:Program)(h:AHeap)(t:TypeId)(x k:AV):Option AHeap:=
 match P.underlying t,k,x with
 |some (.map j _),.sc c,.map o=>
  match P.underlying j,h.get o with
  |some kd,some (.map es clock)=>if !eQ kd c then none else match gJ c es 0 with|some (some (i,_,_))=>some (h.aG o (.map (es.eraseIdx i) clock))|some none=>some h|none=>none
  |_,_=>none
 |_,_,_=>none
def hU:TypeDesc->AV->Bool|.pointer _,.ref ..|.pointer _,.cr _=>true|.slice _,.sl ..|.slice _,.bC|.slice _,.aN (_::_) _ _ _|.slice _,.aN [] _ _ (some (_+1))=>true|.slice _,.aI (_::_) _=>true|.map _ _,.map _=>true|.func _ _ _,.func ..|.func _ _ _,.ej _=>true|.interface _,.iface ..=>true|_,_=>false
def ed:TypeDesc->AV->Bool|.pointer _,.sc (.pointer none)=>true|.slice _,.sc (.slice none _ _)=>true|.map _ _,.sc (.map none)=>true|.func _ _ _,.sc .nilFunc=>true|.interface _,.sc .nilIface=>true|_,_=>false
def gO(P:Program)(t:TypeId)(x y:AV):Option Bool:=
 match P.underlying t with
 |some d=>if hU d x&&ed d y||hU d y&&ed d x then some false else match d,x,y with|.pointer e,.ref o v _ off,.ref o' v' _ c=>if o=o'/\v=v'/\bj P e≠some 0/\(bj P e).isSome then some (off==c)else none|.interface _,.iface a _,.iface b _=>if a≠b then some false else none|.interface _,.iface a _,.sc (.iface b _)=>if a≠b then some false else none|.interface _,.sc (.iface a _),.iface b _=>if a≠b then some false else none|_,_,_=>none
 |none=>none
def cD(P:Program)(op:BinOp)(t:TypeId)(xo yo:Operand)(x y:AV):Option AV:=match du x,du y with|some a,some b=>(bp P (do eqGuard op t xo yo a b;binOp op t a b)).map bh|_,_=>match op with|.eql=>(gO P t x y).map λb=>.sc (.bool b)|.neq=>(gO P t x y).map λb=>.sc (.bool (!b))|_=>none
def iC:List AV->Option (List UInt8)|[]=>some []|.sc (.int .u8 n)::xs=>(iC xs).map (UInt8.ofNat n.toNat::.)|_::_=>none
def lg:AV->Bool|.sl ..|.aN ..|.aI ..|.bC=>true|.sc (.slice none 0 0)=>true|_=>false
def fU(P:Program)(h:AHeap)(src dst:TypeId)(x:AV):Option (AV×AHeap):=
 match P.underlying src,P.underlying dst with
 |some (.slice e),some .string=>
  match P.underlying e,eK x,lg x with
  |some (.int .u8),some n,true=>match fh h 1 n x with|some l=>(iC l).map λb=>(.sc (.string ⟨b.toArray⟩),h)|none=>none
  |_,_,_=>none
 |some .string,some (.slice e)=>match P.underlying e,x with|some (.int .u8),.sc (.string b)=>if b.size<=140737488355328 then some (.sl h.next 0 b.size 0 1 b.size none,h.alloc (.cells 0 0 (b.data.toList.map λb=>.sc (.int .u8 b.toNat)) 0 e false true))else none|_,_=>none
 |some (.pointer t),some .unsafePointer=>
  match x,bj P t with
  |.ref o ver n off,some (_+1)=>match cz h o ver n off 1 with|some _=>some (x,h)|none=>none
  |.sc (.pointer none),_=>some (x,h)|_,_=>none
 |some .unsafePointer,some .unsafePointer=>match x with|.ref ..=>some (x,h)|.sc (.pointer none)=>some (x,h)|_=>none
 |some .unsafePointer,some (.pointer u)=>
  match x,bj P u with
  |.ref o ver n off,some (_+1)=>match cz h o ver n off 1,h.get o with|some _,some (.cells _ _ c _ el true _)=>if liesAt P P.depth el (c.length/P.cellsOf el) off u 1 then some (x,h)else none|_,_=>none
  |.sc (.pointer none),_=>some (x,h)|_,_=>none
 |some _,some _=>match du x with|some v=>(bp P (convert src dst v)).map λv=>(bh v,h)|none=>none
 |_,_=>none
def oH:AV->Option (TypeId×AV)|.iface t v=>some (t,v)|.sc (.iface t v)=>some (t,bh v)|_=>none
def mT(P:Program)(asserted:TypeId)(ok:Bool):Option AV:=if ok then(dN P asserted).map λz=>.tuple [z,.sc (.bool false)]else none
def uX(P:Program)(x:AV)(asserted:TypeId)(ok:Bool):Option AV:=
 match P.underlying asserted with
 |some (.interface want)=>
  match oH x with
  |some (t,_)=>
   match P.info? t with
   |some i=>match Instr.missingMethod want i.methods with|none=>some (if ok then .tuple [x,.sc (.bool true)]else x)|some _=>mT P asserted ok
   |none=>none
  |none=>match x with|.sc .nilIface=>mT P asserted ok|_=>none
 |some _=>match oH x with|some (t,v)=>if t=asserted then some (if ok then .tuple [v,.sc (.bool true)]else v)else mT P asserted ok|none=>match x with|.sc .nilIface=>mT P asserted ok|_=>none
 |none=>none
def mJ:List AV->Option (List Value)|[]=>some []|x::xs=>match du x,mJ xs with|some v,some vs=>some (v::vs)|_,_=>none
def qI(fn:Func):Nat:=if fn.name= "internal/abi.NoEscape"/\fn.origin= ""then 1 else if fn.name= "internal/bytealg.MakeNoZero"/\fn.origin= ""then 2 else 0
def C2(P:Program)(h:AHeap)(fn:Func)(args:List AV):Option (dv×AHeap):=
 match qI fn,args with
 |1,[x]=>some (.val x,h)
 |2,[.sc (.int .i64 n)]=>
  match fn.resultTypes[0]? with
  |some t=>match P.underlying t with|some (.slice e)=>if 0<=n/\n<=1099511627776 then some (.val (.sl h.next 0 0 0 1 n.toNat none),h.alloc (.cells 0 0 [] 0 e false false))else none|_=>none
  |none=>none
 |_,_=>none
def jB(P:Program)(h:AHeap)(f:FuncId)(args:List AV):Option (dv×AHeap):=
 match P.funcs[f]? with
 |none=>none
 |some fn=>
  match fn.body with
  |some _=>some (.enter f args,h)
  |none=>
   match qI fn with
   |_+1=>C2 P h fn args
   |0=>
    match mJ args with
    |some vs=>match bp P (callFunc f vs.toArray)with|some (.value v)=>some (.val (bh v),h)|_=>none
    |none=>none
def yu(P:Program)(h:AHeap)(fn:Fn)(captured args:List AV):Option (dv×AHeap):=match fn with|.func f=>jB P h f (args++captured)|_=>none
def sw(P:Program)(h:AHeap)(i:TypeId)(p n:AV):Option (AV×AHeap):=
 match p,ff n with
 |.sc (.pointer none),some 0=>some (.sc (.string .empty),h)
 |.ref o ver m off,some (n+1)=>match P.underlying i,h.get o with|some (.pointer u),some (.cells v j c fz el ex false)=>if ver=v/\j<=v/\el=u/\bj P u=some 1/\n+1<=9223372036854775807 then match cz h o ver m off (n+1)with|some l=>(iC l).map λb=>(.sc (.string ⟨b.toArray⟩),h.aG o (.cells v v c (max fz (off+(n+1))) el ex false))|none=>none else none|_,_=>none
 |_,_=>none
def rF(P:Program)(h:AHeap)(t:TypeId)(x:AV):Option Nat:=
 match P.underlying t with
 |some (.slice _)=>if lg x then eK x else none
 |some .string=>match x with|.sc (.string s)=>some s.size|_=>none
 |some (.array n _)=>some n
 |some (.map _ _)=>match x with
  |.sc (.map none)=>some 0
  |.map o=>match h.get o with|some (.map es _)=>some es.length|_=>none
  |_=>none
 |_=>none
def wm(P:Program)(t:TypeId)(x:AV):Option Nat:=match P.underlying t,x with|some (.slice _),.sl _ _ _ _ _ _ (some c)=>some c|some (.slice _),.aN _ _ _ (some c)=>some c|some (.slice _),.sc (.slice none 0 0)=>some 0|_,_=>none
def fe(P:Program)(h:AHeap)(b:Builtin)(c:Array TypeId)(ty:TypeId)(args:List AV):Option (dv×AHeap):=
 let hv(r:Option (AV×AHeap)):Option (dv×AHeap):=r.map λ(v,h)=>(.val v,h)
 match b,args with
 |.append,[x,y]=>match c[0]?,c[1]? with|some st,some i=>hv (oe P h st i x y)|_,_=>none
 |.copy,[x,y]=>match c[0]? with|some q=>hv (EG P h q x y)|none=>none
 |.len,[x]=>match c[0]? with|some t=>val h ((rF P h t x).map λn=>.sc (goInt n))|none=>none
 |.cap,[x]=>match c[0]? with|some t=>val h ((wm P t x).map λn=>.sc (goInt n))|none=>none
 |.delete,[m,k]=>match c[0]? with|some t=>(yr P h t m k).map λh=>(.val dm,h)|none=>none
 |.clear,[m]=>
  match m,c[0]?.bind P.underlying with
  |.map o,some _=>match h.get o with|some (.map _ clock)=>some (.val dm,h.aG o (.map [] clock))|_=>none
  |_,_=>none
 |.panic,[x]=>match x with|.iface t v=>some (.panic (.iface t v),h)|.sc (.iface t v)=>some (.panic (.sc (.iface t v)),h)|_=>none
 |.recover,[]=>some (.zI,h)
 |.min,_|.max,_=>
  match mJ args with
  |some vs=>match bp P (builtin b c ty #[] vs.toArray)with|some (.value v)=>some (.val (bh v),h)|_=>none
  |none=>none
 |.unsafeSliceData,[x]=>match x with|.sc (.slice none 0 0)=>some (.val (.sc (.pointer none)),h)|.sl o ver n off _ len cap=>if 0<len\/0<lZ cap 0 then some (.val (.ref o ver n off),h)else none|_=>none
 |.unsafeString,[p,n]=>match c[0]? with|some j=>(sw P h j p n).map λ(v,h)=>(.val v,h)|none=>none
 |_,_=>none
def nF:AV->Option (Fn×List AV×List AV)|.func fn a c=>some (fn,a,c)|.sc (.func fn a c)=>some (fn,a.toList.map .sc,c.toList.map .sc)|_=>none
def fE(P:Program)(h:AHeap)(ρ:Operand->AV)(c:Call)(ty:TypeId):Option (dv×AHeap):=
 let args:=c.args.toList.map ρ
 match c.callee with|.builtin b=>fe P h b c.argTypes ty args|.invoke _ _=>none|.value f=>match ρ f with|.ej l=>some (.round l args,h)|x=>match nF x with|some (fn,first,captured)=>yu P h fn captured (first++args)|none=>none
def vd(h:AHeap)(ρ:Operand->AV)(c:Call):Option (dv×AHeap):=
 match c.callee with
 |.value f=>match nF (ρ f)with|some (fn,first,captured)=>some (.defer (.fn fn captured (first++c.args.toList.map ρ)),h)|none=>none
 |_=>none
def aJ(P:Program)(ρ:Operand->AV)(o:Oper)(h:AHeap):Option (dv×AHeap):=
 let hv(r:Option (AV×AHeap)):Option (dv×AHeap):=r.map λ(v,h)=>(.val v,h)
 match o.op with
 |.move x|.assign x=>some (.val (ρ x),h)
 |.pick c a b=>match ρ c with|.sc (.bool t)=>some (.val (if t then ρ a else ρ b),h)|_=>none
 |.alloc e=>match dN P e with|some z=>if(aO z).all dt then some (.val (jT h e (aO z)).2,(jT h e (aO z)).1)else none|none=>none
 |.box e x=>if(aO (ρ x)).all dt then some (.val (jT h e (aO (ρ x))).2,(jT h e (aO (ρ x))).1)else none
 |.build t parts=>val h (s7 P t (parts.toList.map λ(i,x)=>(i,ρ x)))
 |.buildSlice t len parts=>hv (uy P h t len (parts.toList.map λ(i,x)=>(i,ρ x)))
 |.load t a=>val h (h8 P h t (ρ a))
 |.store t a x=>(oG P h t (ρ a) (ρ x)).map λh=>(.skip,h)
 |.nilCheck x=>match ρ x with|.ref ..|.cr _=>some (.val (ρ x),h)|.func (.func f) a c=>some (.val (.func (.func f) a c),h)|.ej l=>some (.val (.ej l),h)|.sc (.func (.func f) a c)=>some (.val (.sc (.func (.func f) a c)),h)|.iface t v=>some (.val (.iface t v),h)|_=>none
 |.binOp op t x y _=>val h (cD P op t x y (ρ x) (ρ y))
 |.unOp op _ x=>match du (ρ x)with|some v=>val h ((bp P (Op.unary op v)).map bh)|none=>none
 |.convert s d x=>hv (fU P h s d (ρ x))
 |.makeInterface t x=>match P.underlying t with|some (.interface _)=>none|some _=>some (.val (.iface t (ρ x)),h)|none=>none
 |.makeFunc fn first captured=>some (.val (.func fn (first.toList.map ρ) (captured.toList.map ρ)),h)
 |.makeMap t r=>
  match r,P.underlying t with
  |none,_=>some (.val (.map h.next),h.alloc (.map [] 0))
  |some x,some (.map _ _)=>match ρ x with|.sc (.int _ _)=>some (.val (.map h.next),h.alloc (.map [] 0))|_=>none
  |_,_=>none
 |.makeSlice t l c=>hv (Cu P h t (ρ l) (ρ c))
 |.slice t x p hi j=>val h (fV P t (ρ x) (p.map ρ) (hi.map ρ) (j.map ρ))
 |.fieldAddr s x f=>val h (mz P s (ρ x) f)
 |.field t x f=>val h (s6 P t (ρ x) f)
 |.indexAddr t x i=>val h (nY P t (ρ x) (ρ i))
 |.index t x i=>val h (qX P t (ρ x) (ρ i))
 |.lookup t x i ok=>val h (sO P h t (ρ x) (ρ i) ok)
 |.mapUpdate t m k x|.insert t m k x=>(mA P h t (ρ m) (ρ k) (ρ x)).map λh=>(.skip,h)
 |.range t x=>match P.underlying t,ρ x with
  |some .string,.sc (.string s)=>some (.val (.ref h.next 0 0 0),h.alloc (.j7 s 0))
  |some (.map _ _),.sc (.map none)=>some (.val (.ref h.next 0 0 0),h.alloc (.gY none 0 [] 0))
  |some (.map _ _),.map m=>match h.get m with|some (.map _ clock)=>some (.val (.ref h.next 0 0 0),h.alloc (.gY (some m) clock [] clock))|_=>none
  |_,_=>none
 |.next it true=>match ρ it with
  |.ref o 0 0 0=>match h.get o with|some (.j7 s pos)=>if pos<s.size then some (.val (.tuple [.sc (.bool true),.sc (goInt pos),.sc (.int .i32 (Utf8.decode s pos).1)]),h.aG o (.j7 s (pos+(Utf8.decode s pos).2)))else some (.val (.tuple [.sc (.bool false)]),h)|_=>none
  |_=>none
 |.next it false=>match ρ it with
  |.ref o 0 0 0=>match h.get o with
   |some (.gY none _ _ _)=>some (.val (.tuple [.sc (.bool false)]),h)
   |some (.gY (some m) since seen last)=>match h.get m with
    |some (.map es clock)=>if !seen.isEmpty&&!es.isEmpty&&es.all (λe=>decide (last<=e.2.2))then none else match es.filter (λe=>!seen.contains e.2.2)with|[]=>some (.val (.tuple [.sc (.bool false)]),h)|[e]=>if e.2.2<since then some (.val (.tuple [.sc (.bool true),e.1,e.2.1]),h.aG o (.gY (some m) since (seen++[e.2.2]) clock))else none|_=>none
    |_=>none
   |_=>none
  |_=>none
 |.typeAssert x _ a ok=>val h (uX P (ρ x) a ok)
 |.extract t i=>match ρ t with|.tuple vs=>val h vs[i]?|_=>none
 |.call c=>fE P h ρ c o.type
 |.defer c=>vd h ρ c
 |.panic x=>match ρ x with|.iface t v=>some (.panic (.iface t v),h)|.sc (.iface t v)=>some (.panic (.sc (.iface t v)),h)|_=>none
 |_=>none
inductive bu where|none|ret|aE(v:AV)(recovered:Bool)
inductive bP where|normal|exit(id:Nat)|ret|panic(v:AV)
structure av where
 tm:Tr AV
 df:List dK
 cm:bu
 h:AHeap
structure Ctx where
 fn:FuncId
 tn:Nat
 kind:CallKind
 round:Option Nat
inductive cH where|ret(v:AV)|aE(v:AV)
structure Rec where call:CallKind->FuncId->List AV->bu->AHeap->Option (cH×bu×AHeap)loop:Code->Ctx->av->Option (bP×av)round:Nat->List AV->AHeap->Option (cH×AHeap)
def ev(tm:Tr AV):Operand->AV
 |.tmp t=>match tm.get t with|some v=>v|none=>.aA
 |.const v=>bh v|.global g=>.sc (.pointer (some ⟨g,0,none⟩))|.func f=>.sc (.func (.func f) #[] #[])
def av.put(st:av)(tn:Nat)(dst:Option Tmp)(v:AV):Option av:=match dst with|some d=>if d<tn then some {st with tm:=st.tm.put d v}else none|none=>some st
def cf(ops:Array Oper)(o:Oper)(tm:Tr AV):Option Bool:=
 match o.guard with
 |none=>some true
 |some (j,want)=>
  match(ops[j]?).bind (·.dst)with
  |some d=>match tm.get d with|some (.sc (.bool b))=>some (b==want)|some (.tuple _)=>some false|_=>none
  |none=>none
inductive wo where|val(v:AV)(cm:bu)(h:AHeap)|b8(d:dK)(h:AHeap)|aE(v:AV)(h:AHeap)
def cu(P:Program)(R:Rec)(cx:Ctx)(ρ:Operand->AV)(o:Oper)(cm:bu)(h:AHeap):Option wo:=
 match aJ P ρ o h with
 |some (.val v,h)=>some (.val v cm h)
 |some (.skip,h)=>some (.val dm cm h)
 |some (.defer d,h)=>if cx.round.isSome then none else some (.b8 d h)
 |some (.enter f args,h)=>match R.call .normal f args .none h with|some (.ret v,_,h)=>some (.val v cm h)|some (.aE v,_,h)=>some (.aE v h)|none=>none
 |some (.round l args,h)=>match R.round l args h with|some (.ret v,h)=>some (.val v cm h)|some (.aE v,h)=>some (.aE v h)|none=>none
 |some (.panic v,h)=>some (.aE v h)
 |some (.zI,h)=>match cx.kind,cx.round,cm with|.deferred,none,.aE v false=>some (.val v (.aE v true) h)|.deferred,none,.ret=>some (.val (.sc .nilIface) .ret h)|_,_,_=>none
 |none=>none
def dH(P:Program)(R:Rec)(cx:Ctx)(ops:Array Oper)(o:Oper)(st:av):Option (bP×av):=
 match cf ops o st.tm with
 |some true=>match cu P R cx (ev st.tm) o st.cm st.h with|some (.val v cm h)=>({st with cm,h}.put cx.tn o.dst v).map λst=>(.normal,st)|some (.b8 d h)=>({st with h,df:=d::st.df}.put cx.tn o.dst dm).map λst=>(.normal,st)|some (.aE v h)=>some (.panic v,{st with h})|none=>none
 |some false=>(st.put cx.tn o.dst dm).map λst=>(.normal,st)|none=>none
def fA(P:Program)(R:Rec)(cx:Ctx)(ops:Array Oper):List Oper->av->Option (bP×av)|[],st=>some (.normal,st)|o::rest,st=>match dH P R cx ops o st with|some (.normal,st)=>fA P R cx ops rest st|r=>r
def aX:Op->Bool|.alloc _|.box ..|.buildSlice ..|.makeSlice ..|.makeMap ..=>true|_=>false
def bN:Op->Bool|.move _|.assign _|.pick ..|.build ..|.load ..|.nilCheck _|.binOp ..|.unOp ..|.convert ..|.makeInterface ..|.makeFunc ..|.slice ..|.fieldAddr ..|.field ..|.indexAddr ..|.index ..|.lookup ..|.typeAssert ..|.extract ..=>true|.call {callee:=.builtin b,..}=>(match b with|.len|.cap|.min|.max|.unsafeSliceData=>true|_=>false)|_=>false
def gd:AV->List Nat|.ref o _ _ _=>[o]|.sl o _ _ _ _ _ _=>[o]|.map o=>[o]|_=>[]
def tmpsOf(o:Oper):List Tmp:=o.op.operands.toList.filterMap λ|.tmp t=>some t|_=>none
def eh:List Oper->List Nat->List Nat|[],c=>c|o::rest,c=>eh rest (c++[o.after.foldl (λs e=>if Region.binds .any e then s|||2^e.on|||c.getD e.on 0 else s) 0])
def uB(ops:Array Oper):Bool:=
 let l:=ops.toList
 let b:=eh l []
 let idx:=l.zipIdx
 idx.all λ(o,i)=>
  let c:=b.getD i 0
  (o.after.all λe=>!Region.binds .any e||decide (e.on<i))&&(match o.guard with|none=>true|some (j,_)=>c.testBit j)&&(idx.all λ(q,k)=>(match q.dst with|some d=>(k==i||o.dst !=some d)&&(!(tmpsOf o).contains d||c.testBit k||(b.getD k 0).testBit i)|none=>true)&&(!(decide (k<i))||aX o.op||bN o.op||aX q.op||bN q.op||c.testBit k))
structure bY where es:List (Nat×List Nat)fs:List (Nat×List Nat)
def mU(b:List Nat)(k:bY):Bool:=k.fs.all λ(i,ids)=>k.es.all λ(j,wr)=>(b.getD i 0).testBit j||(b.getD j 0).testBit i||ids.all λo=>!wr.contains o
def cX(ts:List Tmp)(tm:Tr AV):Operand->AV|.tmp t=>if ts.contains t then ev tm (.tmp t)else .aA|x=>ev tm x
def eR(h:AHeap):List Nat->Tr bT|[]=>.leaf|o::os=>if o<h.next then(match h.get o with|some x=>(eR h os).put o x|none=>eR h os)else eR h os
def iF:Op->Bool|.load ..|.lookup ..|.convert ..|.call _=>true|_=>false
def de(o:Oper)(tm:Tr AV):List Nat:=if iF o.op then(tmpsOf o).flatMap λt=>gd (ev tm (.tmp t))else[]
def ey(P:Program)(R:Rec)(cx:Ctx)(ops:Array Oper):List Oper->(i aj:Nat)->bY->av->Option (bY×av)
 |[],_,_,k,st=>some (k,st)
 |o::rest,i,aj,k,st=>
  match cf ops o st.tm with
  |some false=>match st.put cx.tn o.dst dm with|some st=>ey P R cx ops rest (i+1) (if aX o.op then aj+1 else aj) k st|none=>none
  |some true=>if aX o.op then
   match aJ P (cX (tmpsOf o) st.tm) o {bU:=.leaf,next:=aj,floor:=0,wr:=[]}with
   |some (.val v,h)=>match h.get aj with|some x=>if h.next=aj+1 then match{st with h:={st.h with bU:=st.h.bU.put aj x}}.put cx.tn o.dst v with|some st=>ey P R cx ops rest (i+1) (aj+1) k st|none=>none else none|none=>none
   |_=>none else if bN o.op then match aJ P (cX (tmpsOf o) st.tm) o {st.h with bU:=eR st.h (de o st.tm)}with|some (.val v,h')=>if h'.next=st.h.next then match st.put cx.tn o.dst v with|some st'=>ey P R cx ops rest (i+1) aj {k with fs:=(i,de o st.tm)::k.fs} st'|none=>none else none|_=>none else
    match cu P R cx (cX (tmpsOf o) st.tm) o .none st.h.inner with
    |some (.val v _ h)=>match{st with h:=st.h.outer h}.put cx.tn o.dst v with|some st'=>ey P R cx ops rest (i+1) aj {k with es:=(i,h.wr)::k.es} st'|none=>none
    |_=>none
  |none=>none
def eB:List Oper->Nat|[]=>0|o::rest=>if aX o.op then eB rest+1 else eB rest
def tv(h:AHeap):Nat->Nat->Bool|0,_=>true|n+1,o=>(h.get o).isNone&&tv h n (o+1)
def hV(P:Program)(R:Rec)(cx:Ctx)(ops:Array Oper)(b:List Nat)(m:Nat):List Oper->(i aj:Nat)->bY->av->Option bY
 |[],_,_,k,_=>some k
 |q::qs,i,aj,k,st=>
  match(b.getD i 0).testBit m with
  |true=>match st.put cx.tn q.dst .aA with|some st=>hV P R cx ops b m qs (i+1) (if aX q.op then aj+1 else aj) k st|none=>none
  |false=>if aX q.op||bN q.op then match ey P R cx ops [q] i aj k st with|some (k,st)=>hV P R cx ops b m qs (i+1) (if aX q.op then aj+1 else aj) k st|none=>none else none
def ez(P:Program)(R:Rec)(cx:Ctx)(ops:Array Oper)(b:List Nat):List Oper->(i aj:Nat)->bY->av->Option (bP×av)
 |[],_,_,_,_=>none
 |o::rest,i,aj,k,st=>
  match cf ops o st.tm with
  |some false=>match st.put cx.tn o.dst dm with|some st=>ez P R cx ops b rest (i+1) (if aX o.op then aj+1 else aj) k st|none=>none
  |some true=>
   if aX o.op then
    match aJ P (cX (tmpsOf o) st.tm) o {bU:=.leaf,next:=aj,floor:=0,wr:=[]}with
    |some (.val v,h)=>match h.get aj with|some x=>if h.next=aj+1 then match{st with h:={st.h with bU:=st.h.bU.put aj x}}.put cx.tn o.dst v with|some st=>ez P R cx ops b rest (i+1) (aj+1) k st|none=>none else none|none=>none
    |_=>none
   else if bN o.op then match aJ P (cX (tmpsOf o) st.tm) o {st.h with bU:=eR st.h (de o st.tm)}with|some (.val v,h')=>if h'.next=st.h.next then match st.put cx.tn o.dst v with|some st'=>ez P R cx ops b rest (i+1) aj {k with fs:=(i,de o st.tm)::k.fs} st'|none=>none else none|_=>none
   else
    match cu P R cx (cX (tmpsOf o) st.tm) o .none st.h.inner with
    |some (.val v _ h)=>match{st with h:=st.h.outer h}.put cx.tn o.dst v with|some st'=>ez P R cx ops b rest (i+1) aj {k with es:=(i,h.wr)::k.es} st'|none=>none
    |some (.aE v h)=>
     match st.put cx.tn o.dst .aA with
     |some c=>match hV P R cx ops b i rest (i+1) aj k c with|some kf=>if mU b kf then some (.panic v,{st with tm:=.leaf,h:=st.h.outer h})else none|none=>none
     |none=>none
    |_=>none
  |none=>none
def oh(P:Program)(R:Rec)(cx:Ctx)(ops:Array Oper)(st:av):Option (bP×av):=if uB ops&&tv st.h (eB ops.toList) st.h.next then match ey P R cx ops ops.toList 0 st.h.next {es:=[],fs:=[]} {st with h:={st.h with next:=st.h.next+eB ops.toList}}with|some (k,st)=>if mU (eh ops.toList []) k then some (.normal,st)else none|none=>ez P R cx ops (eh ops.toList []) ops.toList 0 st.h.next {es:=[],fs:=[]} {st with h:={st.h with next:=st.h.next+eB ops.toList}}else none
def evalCode(P:Program)(R:Rec)(cx:Ctx):Code->av->Option (bP×av)
 |.skip,st=>some (.normal,st)
 |.label _,st=>some (.normal,st)
 |.region _ ops draw,st=>if draw then oh P R cx ops st else fA P R cx ops ops.toList st
 |.seq a b,st=>match evalCode P R cx a st with|some (.normal,st)=>evalCode P R cx b st|r=>r
 |.cond c a b,st=>match ev st.tm c with|.sc (.bool true)=>evalCode P R cx a st|.sc (.bool false)=>evalCode P R cx b st|_=>none
 |.block id body,st=>match evalCode P R cx body st with|some (.exit i,st')=>if i=id then some (.normal,st')else some (.exit i,st')|r=>r
 |.loop body,st=>R.loop body cx st
 |.exit id,st=>some (.exit id,st)
 |.scope body,st=>evalCode P R cx body st
 |.goto _,_=>none
 |.ret,st=>some (.ret,st)
 |.refuse _,_=>none
 |.rangeFunc f params assign body,st=>
  match cx.round with
  |some _=>none
  |none=>
   let d:=st.h.next
   let l:=d+1
   let h:=(st.h.alloc (.b8 (some []))).alloc (.loop .ready none cx.fn cx.tn st.tm params.toList assign body d)
   match nF (ev st.tm f)with
   |some (.func g,first,captured)=>
    match jB P h g (first++[.ej l]++captured)with
    |some (.enter g args,h)=>
     match R.call .normal g args .none h with
     |some (.ret _,_,h)=>
      match h.get l with
      |some (.loop s gW fn tn tm ps a b dd)=>
       if s==.busy then none else
       let st:={st with h:=h.aG l (.loop .exhausted gW fn tn tm ps a b dd),df:=.da d::st.df}
       match gW with|none=>some (.normal,st)|some (.exit id)=>some (.exit id,st)|some .ret=>some (.ret,st)|some _=>none
      |_=>none
     |some (.aE v,_,h)=>some (.panic v,{st with h,df:=.da d::st.df})|none=>none
    |_=>none
   |_=>none
def ja(P:Program)(fn:Func)(tm:Tr AV)(h:AHeap):List ResultVar->Option (List AV)
 |[]=>some []
 |.tmp t::rs=>match ja P fn tm h rs with|some vs=>some (ev tm (.tmp t)::vs)|none=>none
 |.cell a t::rs=>match h8 P h t (ev tm (.tmp a)),ja P fn tm h rs with|some v,some vs=>some (v::vs)|_,_=>none
def lh(P:Program)(fn:Func)(tm:Tr AV)(h:AHeap):Option AV:=match ja P fn tm h fn.results.toList with|some [v]=>some v|some vs=>some (.tuple vs)|none=>none
def cj(P:Program)(R:Rec)(fn:Func)(tm:Tr AV):List dK->bu->AHeap->Option (cH×AHeap)
 |[],.ret,h=>(lh P fn tm h).map λv=>(.ret v,h)
 |[],.aE v false,h=>some (.aE v,h)
 |[],_,_=>none
 |.da d::ds,m,h=>match h.get d with|some (.b8 (some []))=>cj P R fn tm ds m (h.aG d (.b8 none))|_=>none
 |.fn (.func f) captured args::ds,m,h=>
  match jB P h f (args++captured)with
  |some (.enter i c,h)=>match R.call .deferred i c m h with|some (.ret _,.aE _ true,h)=>cj P R fn tm ds .ret h|some (.ret _,.aE v false,h)=>cj P R fn tm ds (.aE v false) h|some (.ret _,.ret,h)=>cj P R fn tm ds .ret h|_=>none
  |_=>none
 |_,_,_=>none
mutual
def fw:AV->Bool|.sc _|.aA=>true|.ref ..|.sl ..|.map _|.ej _=>false|.bC=>true|.cr cs=>dF cs|.aN cs _ _ _=>dF cs|.aI _ _=>true|.func _ a c=>dF a&&dF c|.iface _ v=>fw v|.agg cs=>dF cs|.tuple vs=>dF vs
def dF:List AV->Bool|[]=>true|x::xs=>fw x&&dF xs
end
def gC:List AV->Nat->Tr AV->Tr AV|[],_,t=>t|x::xs,i,t=>gC xs (i+1) (t.put i x)
def UO:cH->Bool|.ret v=>fw v|.aE v=>fw v
def sP(kind:CallKind)(h:AHeap)(cm:bu)(r:Option (cH×AHeap)):Option (cH×bu×AHeap):=match r with|some (o,h')=>if kind=.normal/\h'.wr.isEmpty=true/\UO o=true then some (o,cm,h)else some (o,cm,h.outer h')|none=>none
def qz(P:Program)(R:Rec)(kind:CallKind)(f:FuncId)(args:List AV)(cm:bu)(h:AHeap):Option (cH×bu×AHeap):=
 match P.funcs[f]? with
 |some fn=>
  match fn.body with
  |some code=>match evalCode P R {fn:=f,tn:=max fn.ntmps args.length,kind,round:=none} code {tm:=gC args 0 .leaf,df:=[],cm,h:=h.inner}with|some (.normal,st)=>sP kind h st.cm (cj P R fn st.tm st.df .ret st.h)|some (.ret,st)=>sP kind h st.cm (cj P R fn st.tm st.df .ret st.h)|some (.panic v,st)=>sP kind h st.cm (cj P R fn st.tm st.df (.aE v false) st.h)|_=>none
  |none=>none
 |none=>none
def lO(tn:Nat):List Tmp->List AV->Tr AV->Option (Tr AV)|[],[],t=>some t|p::ps,x::xs,t=>if p<tn then lO tn ps xs (t.put p x)else none|_,_,_=>none
def sD(l:Nat)(jump:Option Code)(h:AHeap):Option (cH×AHeap):=match h.get l with|some (.loop _ _ fn tn tm ps assign body dd)=>some (.ret (.sc (.bool jump.isNone)),h.aG l (.loop (if jump.isNone then .ready else .done) jump fn tn tm ps assign body dd))|_=>none
def qx(P:Program)(R:Rec)(l:Nat)(args:List AV)(h:AHeap):Option (cH×AHeap):=
 match h.get l with
 |some (.loop _ _ fn tn tm ps assign body _)=>
  match lO tn ps args tm with
  |none=>none
  |some bO=>
   let cx:Ctx:={fn,tn,kind:=.normal,round:=some l}
   match evalCode P R cx assign {tm:=bO,df:=[],cm:=.none,h}with
   |some (.normal,st)=>
    match st.h.get l with
    |some (.loop .ready p o j bO m c i q)=>
     match evalCode P R cx body {st with h:=st.h.aG l (.loop .busy p o j bO m c i q)}with
     |some (.normal,st)=>sD l none st.h
     |some (.ret,st)=>sD l (some .ret) st.h
     |some (.exit id,st)=>sD l (some (.exit id)) st.h
     |some (.panic v,st)=>match st.df,P.funcs[fn]? with|[],some _=>some (.aE v,st.h)|_,_=>none
     |none=>none
    |_=>none
   |_=>none
 |_=>none
def mD(P:Program)(R:Rec)(body:Code)(cx:Ctx)(st:av):Option (bP×av):=match evalCode P R cx body st with|some (.normal,st)=>R.loop body cx st|r=>r
def Rec.zero:Rec:={call:=λ_ _ _ _ _=>none,loop:=λ_ _ _=>none,round:=λ_ _ _=>none}
def Rec.succ(P:Program)(R:Rec):Rec:={call:=qz P R,loop:=mD P R,round:=qx P R}
def h0:AHeap:={bU:=.leaf,next:=0,floor:=0,wr:=[]}
end Go.AI
end

section
namespace Go.AI
structure Gh where B:Nat->Nat->Option (Nat×Nat×Nat)M:Nat->Nat->Option Value
structure Gh.Le(g g':Gh):Prop where
 b:∀o v x,g.B o v=some x->g'.B o v=some x
 m:∀b i v,g.M b i=some v->g'.M b i=some v
theorem Gh.Le.refl(g:Gh):g.Le g:=⟨λ_ _ _ h=>h,λ_ _ _ h=>h⟩
theorem Gh.Le.trans{a b c:Gh}(h:a.Le b)(h':b.Le c):a.Le c:=⟨λo v x e=>h'.b o v x (h.b o v x e),λo v x e=>h'.m o v x (h.m o v x e)⟩
inductive VR(g:Gh):AV->Value->Prop where|aA(v:Value):VR g .aA v|sc(v:Value):VR g (.sc v) v|ref{o ver n off b s:Nat}:g.B o ver=some (b,s,n)->VR g (.ref o ver n off) (.pointer (some ⟨b,off,none⟩))|sl{o ver n off sz len b s c:Nat}{cap:Option Nat}:g.B o ver=some (b,s,n)->off+c*sz<=s->len<=c->(∀k,cap=some k->c=k)->VR g (.sl o ver n off sz len cap) (.slice (some ⟨b,off,none⟩) len c)|bC(a:Addr)(c:Nat):VR g .bC (.slice (some a) 0 c)|cr{cells:List AV}{b off:Nat}(f:Nat->Value):(∀(i:Nat)(x:AV),cells[i]?=some x->g.M b (off+i)=some (f i))->(∀(i:Nat)(x:AV),cells[i]?=some x->VR g x (f i))->VR g (.cr cells) (.pointer (some ⟨b,off,none⟩))|aN{cells:List AV}{sz len b off c:Nat}{cap:Option Nat}(f:Nat->Value):(∀(i:Nat)(x:AV),cells[i]?=some x->g.M b (off+i)=some (f i))->(∀(i:Nat)(x:AV),cells[i]?=some x->VR g x (f i))->cells.length=len*sz->len<=c->(∀k,cap=some k->c=k)->VR g (.aN cells sz len cap) (.slice (some ⟨b,off,none⟩) len c)|iQ{cells:List AV}{sz len l c:Nat}{cap:Option Nat}(a:Option Addr):cells=[]->len=0->l=0->c=0->(∀k,cap=some k->k=0)->VR g (.aN cells sz len cap) (.slice a l c)|gG{sz:Nat}:VR g (.aI [] sz) (.slice none 0 0)|gL{sz:Nat}(a:Addr):VR g (.aI [] sz) (.slice (some a) 0 0)|aI{rows:List (List AV)}{sz b off c:Nat}:(∀r,r∈rows->r.length=sz)->dF rows.flatten=true->VR g (.aN rows.flatten sz rows.length (some c)) (.slice (some ⟨b,off,none⟩) rows.length c)->VR g (.aI rows sz) (.slice (some ⟨b,off,none⟩) rows.length c)|map{o b s n:Nat}:g.B o 0=some (b,s,n)->VR g (.map o) (.map (some b))|func{fn:Fn}{a c:List AV}{a' c':Array Value}:a.length=a'.size->(∀(i:Nat)(x:AV)(v:Value),a[i]?=some x->a'[i]?=some v->VR g x v)->c.length=c'.size->(∀(i:Nat)(x:AV)(v:Value),c[i]?=some x->c'[i]?=some v->VR g x v)->VR g (.func fn a c) (.func fn a' c')|ej{o b s n:Nat}:g.B o 0=some (b,s,n)->VR g (.ej o) (.func (.yield b) #[] #[])|iface{t:TypeId}{x:AV}{v:Value}:VR g x v->VR g (.iface t x) (.iface t v)|agg{a:List AV}{a':Array Value}:a.length=a'.size->(∀(i:Nat)(x:AV)(v:Value),a[i]?=some x->a'[i]?=some v->VR g x v)->VR g (.agg a) (.agg a')|tuple{a:List AV}{a':Array Value}:a.length=a'.size->(∀(i:Nat)(x:AV)(v:Value),a[i]?=some x->a'[i]?=some v->VR g x v)->VR g (.tuple a) (.tuple a')
theorem mF{sz:Nat}:∀{rows:List (List AV)},(∀r,r∈rows->r.length=sz)->rows.flatten.length=rows.length*sz|[],_=>by simp|r::rows,h=>by have h1:=h r (by simp);have h2:=mF (rows:=rows) λq hq=>h q (by simp[hq]);simp only[List.flatten_cons,List.length_append,kx,h1,h2,Nat.add_mul];omega
theorem IC{sz:Nat}:∀{rows:List (List AV)}(l:Nat),(∀r,r∈rows->r.length=sz)->(rows.drop l).flatten=rows.flatten.drop (l*sz)|rows,0,_=>by simp|[],l+1,_=>by simp|r::rows,l+1,h=>by simp_all[IC,Nat.add_mul,List.drop_succ_cons,List.flatten_cons,List.drop_append]
theorem CH{sz:Nat}:∀{rows:List (List AV)}(l:Nat),(∀r,r∈rows->r.length=sz)->(rows.take l).flatten=rows.flatten.take (l*sz)|rows,0,_=>by simp|[],l+1,_=>by simp|r::rows,l+1,h=>by simp_all[CH,Nat.add_mul,List.take_succ_cons,List.flatten_cons,List.take_append,List.take_of_length_le]
theorem C3{sz:Nat}{rows:List (List AV)}(l k:Nat)(h:∀r,r∈rows->r.length=sz):((rows.drop l).take k).flatten=(rows.flatten.drop (l*sz)).take (k*sz):=by grind[CH,List.mem_of_mem_drop,IC]
theorem S0{sz:Nat}{rows:List (List AV)}{i:Nat}{r:List AV}(h:∀r,r∈rows->r.length=sz)(hi:rows[i]?=some r):(rows.flatten.drop (i*sz)).take sz=r:=by have e:=C3 i 1 h;rw[Nat.one_mul]at e;grind[Nat.lt_or_ge,List.getElem?_eq_none,List.drop_eq_getElem_cons,List.getElem?_eq_getElem]
theorem Hu{sz:Nat}{rows:List (List AV)}{i j:Nat}{r:List AV}{x:AV}(h:∀r,r∈rows->r.length=sz)(hi:rows[i]?=some r)(hx:r[j]?=some x):rows.flatten[i*sz+j]?=some x:=by rw[<-S0 h hi]at hx;grind
theorem qm:∀{xs:List AV},dF xs=true↔∀x,x∈xs->fw x=true|[]=>by simp[dF]|y::ys=>by simp[dF,qm (xs:=ys)]
theorem Hv{xs ys:List AV}(h:dF xs=true)(hs:∀y,y∈ys->y∈xs):dF ys=true:=qm.2 λy hy=>qm.1 h y (hs y hy)
theorem VR.rK{g:Gh}{cells:List AV}{sz len b off l c:Nat}{cap:Option Nat}(h:VR g (.aN cells sz len cap) (.slice (some ⟨b,off,none⟩) l c)):∃f:Nat->Value,(∀(i:Nat)(x:AV),cells[i]?=some x->g.M b (off+i)=some (f i))/\(∀(i:Nat)(x:AV),cells[i]?=some x->VR g x (f i))/\cells.length=len*sz/\len<=c/\(∀k,cap=some k->c=k):=by cases h with|aN f a b c d e=>exact⟨f,a,b,c,d,e⟩|iQ a b c d e f=>simp_all
theorem VR.mono{g g':Gh}(hl:g.Le g'){x:AV}{v:Value}(h:VR g x v):VR g' x v:=by induction h with|aA v=>exact .aA v|sc v=>exact .sc v|ref h=>exact .ref (hl.b _ _ _ h)|sl h a b c=>exact .sl (hl.b _ _ _ h) a b c|bC a c=>exact .bC a c|cr f h _ ih=>exact .cr f (λi x e=>hl.m _ _ _ (h i x e)) ih|aN f h _ a b c ih=>exact .aN f (λi x e=>hl.m _ _ _ (h i x e)) ih a b c|iQ a b c d e f=>exact .iQ a b c d e f|gG=>exact .gG|gL a=>exact .gL a|aI h h' _ ih=>exact .aI h h' ih|map h=>exact .map (hl.b _ _ _ h)|func h1 _ h2 _ o j=>exact .func h1 o h2 j|ej h=>exact .ej (hl.b _ _ _ h)|iface _ ih=>exact .iface ih|agg h _ ih=>exact .agg h ih|tuple h _ ih=>exact .tuple h ih
def ay(g:Gh):List AV->List Value->Prop|[],[]=>True|x::xs,v::vs=>VR g x v/\ay g xs vs|_,_=>False
theorem ay.mono{g g':Gh}(hl:g.Le g'):∀{xs:List AV}{vs:List Value},ay g xs vs->ay g' xs vs|[],[],_=>trivial|_::_,_::_,h=>⟨h.1.mono hl,ay.mono hl h.2⟩|[],_::_,h=>h.elim|_::_,[],h=>h.elim
theorem ay.length{g:Gh}:∀{xs:List AV}{vs:List Value},ay g xs vs->xs.length=vs.length|[],[],_=>rfl|_::_,_::_,h=>by simp[ay.length h.2]|[],_::_,h=>h.elim|_::_,[],h=>h.elim
theorem ay.get{g:Gh}:∀{xs:List AV}{vs:List Value},ay g xs vs->∀(i:Nat)(x:AV)(v:Value),xs[i]?=some x->vs[i]?=some v->VR g x v|[],[],_,i,x,v,h,_=>by simp at h|x::xs,v::vs,h,0,x',v',h1,h2=>by simp at h1 h2;subst h1;subst h2;exact h.1|x::xs,v::vs,h,i+1,x',v',h1,h2=>by simp at h1 h2;exact ay.get h.2 i x' v' h1 h2|[],_::_,h,_,_,_,_,_=>h.elim|_::_,[],h,_,_,_,_,_=>h.elim
theorem ay.of{g:Gh}:∀{xs:List AV}{vs:List Value},xs.length=vs.length->(∀(i:Nat)(x:AV)(v:Value),xs[i]?=some x->vs[i]?=some v->VR g x v)->ay g xs vs|[],[],_,_=>trivial|x::xs,v::vs,hl,h=>⟨h 0 x v (by simp) (by simp),ay.of (by grind) (λi x v h1 h2=>h (i+1) x v (by grind) (by grind))⟩|[],_::_,hl,_=>by simp at hl|_::_,[],hl,_=>by simp at hl
theorem ay.append{g:Gh}:∀{xs ys:List AV}{vs us:List Value},ay g xs vs->ay g ys us->ay g (xs++ys) (vs++us)|[],_,[],_,_,h=>h|_::_,_,_::_,_,h,h'=>⟨h.1,ay.append h.2 h'⟩|[],_,_::_,_,h,_=>h.elim|_::_,_,[],_,h,_=>h.elim
theorem ay.take{g:Gh}:∀{xs:List AV}{vs:List Value}(n:Nat),ay g xs vs->ay g (xs.take n) (vs.take n)|_,_,0,_=>by simp[ay]|[],[],n+1,_=>by simp[ay]|_::_,_::_,n+1,h=>by simpa using⟨h.1,ay.take n h.2⟩|[],_::_,_+1,h=>h.elim|_::_,[],_+1,h=>h.elim
theorem ay.drop{g:Gh}:∀{xs:List AV}{vs:List Value}(n:Nat),ay g xs vs->ay g (xs.drop n) (vs.drop n)|xs,vs,0,h=>by grind|[],[],n+1,_=>by simp[ay]|_::_,_::_,n+1,h=>by simpa using ay.drop n h.2|[],_::_,_+1,h=>h.elim|_::_,[],_+1,h=>h.elim
theorem ay.ua{g:Gh}:∀(vs:List Value),ay g (vs.map .sc) vs|[]=>trivial|v::vs=>⟨.sc v,ay.ua vs⟩
theorem ay.map{g:Gh}{α:Type}(f:α->AV)(c:α->Value)(h:∀a,VR g (f a) (c a)):∀(l:List α),ay g (l.map f) (l.map c)|[]=>trivial|a::l=>⟨h a,ay.map f c h l⟩
theorem VR.hW{g:Gh}{a:List AV}{v:Value}:VR g (.agg a) v↔∃cs:Array Value,v=.agg cs/\ay g a cs.toList:=by
 constructor
 .intro h;cases h with|agg hl h=>grind[ay.of]
 .rintro⟨cs,rfl,h⟩;exact .agg (by simpa using h.length) (λi x v h1 h2=>h.get i x v h1 (by grind))
theorem VR.eo{g:Gh}{a:List AV}{v:Value}:VR g (.tuple a) v↔∃cs:Array Value,v=.tuple cs/\ay g a cs.toList:=by
 constructor
 .intro h;cases h with|tuple hl h=>grind[ay.of]
 .rintro⟨cs,rfl,h⟩;exact .tuple (by simpa using h.length) (λi x v h1 h2=>h.get i x v h1 (by grind))
theorem VR.qA{g:Gh}{fn:Fn}{a c:List AV}{v:Value}:VR g (.func fn a c) v↔∃a' c':Array Value,v=.func fn a' c'/\ay g a a'.toList/\ay g c c'.toList:=by
 constructor
 .intro h;cases h with|func h1 h2 h3 h4=>grind[ay.of]
 .rintro⟨a',c',rfl,h,h'⟩;exact .func (by simpa using h.length) (λi x v e1 e2=>h.get i x v e1 (by grind)) (by simpa using h'.length) (λi x v e1 e2=>h'.get i x v e1 (by grind))
theorem VR.bh{g:Gh}(v:Value):VR g (bh v) v:=by cases v with|agg cs=>exact VR.hW.2 ⟨cs,rfl,ay.ua _⟩|tuple cs=>exact VR.eo.2 ⟨cs,rfl,ay.ua _⟩|_=>exact .sc _
theorem ID{g:Gh}{x:AV}{u v:Value}(h:dM x=some u)(hr:VR g x v):v=u:=by
 unfold dM at h
 split at h
 .cases hr;grind
 .cases hr with|iface hr=>cases hr;grind
 .cases h
theorem CI{g:Gh}:∀{xs:List AV}{us vs:List Value},oF xs=some us->ay g xs vs->vs=us
 |[],us,[],h,_=>by simpa[oF]using h
 |x::xs,us,v::vs,h,hr=>by
  simp only[oF]at h
  split at h
  .rename_i a az h1 h2;simp only[an]at h;rw[<-h,ID h1 hr.1,CI h2 hr.2]
  .cases h|[],_,_::_,_,hr=>hr.elim|_::_,_,[],_,hr=>hr.elim
theorem qB{g:Gh}{x:AV}{u v:Value}(h:du x=some u)(hr:VR g x v):v=u:=by
 unfold du at h
 split at h
 .obtain⟨cs,rfl,hc⟩:=VR.hW.1 hr;cases ht:oF _ with|none=>rw[ht]at h;cases h|some l=>rw[ht]at h;have:=CI ht hc;simp at h;rw[<-h,<-this]
 .obtain⟨cs,rfl,hc⟩:=VR.eo.1 hr;cases ht:oF _ with|none=>rw[ht]at h;cases h|some l=>rw[ht]at h;have:=CI ht hc;simp at h;rw[<-h,<-this]
 .exact ID h hr
theorem sB{g:Gh}:∀{xs:List AV}{us vs:List Value},mJ xs=some us->ay g xs vs->vs=us
 |[],us,[],h,_=>by simpa[mJ]using h
 |x::xs,us,v::vs,h,hr=>by
  simp only[mJ]at h
  split at h
  .rename_i a az h1 h2;simp only[an]at h;rw[<-h,qB h1 hr.1,sB h2 hr.2]
  .cases h|[],_,_::_,_,hr=>hr.elim|_::_,_,[],_,hr=>hr.elim
theorem lP{α:Type}{P:Program}:∀{s:Sem α}{a:α},bp P s=some a->∀w,s.run P w=.ok a w|.pure a,b,h,w=>by simp[bp]at h;simp[Sem.run,h]|.program k,b,h,w=>by simp_all[lP,bp,Sem.run]|.mark m k,b,h,w=>by simp_all[lP,bp,Sem.run]|.load _ _ _,b,h,w=>by simp[bp]at h|.store _ _ _ _,b,h,w=>by simp[bp]at h|.new _ _,b,h,w=>by simp[bp]at h|.shape _ _,b,h,w=>by simp[bp]at h|.freeze _ _ _,b,h,w=>by simp[bp]at h|.frozen _ _,b,h,w=>by simp[bp]at h|.getObj _ _,b,h,w=>by simp[bp]at h|.setObj _ _ _,b,h,w=>by simp[bp]at h|.choose _ _,b,h,w=>by simp[bp]at h|.sys _ _,b,h,w=>by simp[bp]at h|.halt _,b,h,w=>by simp[bp]at h
end Go.AI
end

section
namespace Go.AI
def FB(_:Nat):Option (Array Value->Prop):=none
def C4(w:World)(b:Nat)(p:Array Value->Prop):Prop:=∃cs x y,w.heap[b]?=some (.cells cs x y)/\0<cs.size/\p cs
def M6(w:World):Prop:=∀b p,FB b=some p->C4 w b p
end Go.AI
end

section
namespace Go.AI
def TR(g:Gh)(tm:Tr AV)(tmps:Array Value):Prop:=∀t x,tm.get t=some x->∃v,tmps[t]?=some v/\VR g x v
theorem TR.mono{g g':Gh}(hl:g.Le g'){tm:Tr AV}{tmps:Array Value}(h:TR g tm tmps):TR g' tm tmps:=λt x e=>let⟨v,a,b⟩:=h t x e;⟨v,a,b.mono hl⟩
def cB(g:Gh):List (AV×AV×Nat)->List MapEntry->Prop|[],[]=>True|(k,v,b)::es,e::c=>VR g k e.key/\VR g v e.val/\e.born=b/\cB g es c|_,_=>False
theorem cB.mono{g g':Gh}(hl:g.Le g'):∀{es:List (AV×AV×Nat)}{c:List MapEntry},cB g es c->cB g' es c|[],[],_=>trivial|(_,_,_)::_,_::_,h=>⟨h.1.mono hl,h.2.1.mono hl,h.2.2.1,cB.mono hl h.2.2.2⟩|[],_::_,h=>h.elim|(_,_,_)::_,[],h=>h.elim
structure KC(g:Gh)(w:World)(b s n:Nat)(content:List AV)(fz:Nat)(el:TypeId)(ex sh:Bool)(c:Array Value)(f:Nat×Nat):Prop where
 here:w.heap[b]?=some (.cells c el f)
 size:c.size=s
 le:n<=content.length
 lG:n<=s
 exact:ex=true->s=content.length
 free:∀i,i<s->f.1<=i->i<f.2->i<fz
 plain:sh=false->f.1=f.2\/f.2<=fz
 cell:∀i x,i<n->content[i]?=some x->∃v,c[i]?=some v/\VR g x v
def OR(g:Gh)(w:World)(o:Nat):bT->Prop|.cells ver Az c fz el ex sh=>(∀v,ver<v->g.B o v=none)/\∀v,Az<=v->v<=ver->∀b s n,g.B o v=some (b,s,n)->(v=ver->n=c.length)/\∃cs f,KC g w b s n c fz el ex sh cs f|.map es clock=>∀b s n,g.B o 0=some (b,s,n)->∃i:Array MapEntry,w.heap[b]?=some (.map i clock)/\cB g es i.toList|.j7 s pos=>∀b k n,g.B o 0=some (b,k,n)->w.heap[b]?=some (.stringIter s pos)|.gY m since seen last=>∀b k n,g.B o 0=some (b,k,n)->∃j,w.heap[b]?=some (.mapIter j since seen.toArray last)/\(match m with|none=>j=none|some o'=>∃b' s' n',g.B o' 0=some (b',s',n')/\j=some b')|.loop st gW fn tn tm ps assign body dd=>∀b s n,g.B o 0=some (b,s,n)->∃tmps p s' n',w.heap[b]?=some (.loop {state:=st,pending:=gW,fn,tmps,params:=ps.toArray,assign,body,defers:=p})/\tmps.size=tn/\TR g tm tmps/\g.B dd 0=some (p,s',n')|.b8 ds=>∀b s n,g.B o 0=some (b,s,n)->match ds with|some []=>w.heap[b]?=some (.deferred (some []))|none=>w.heap[b]?=some (.deferred none)|_=>False
theorem OR.move{g g':Gh}{w w':World}{o:Nat}{x:bT}(hl:g.Le g')(hb:∀v y,g'.B o v=some y->g.B o v=some y)
 (hw:∀v b s n,g.B o v=some (b,s,n)->w'.heap[b]?=w.heap[b]?)(h:OR g w o x):OR g' w' o x:=by
 cases x with
 |cells ver Az c fz el ex sh=>
  refine⟨λv hv=>?_,?_⟩
  .cases e:g'.B o v with|none=>rfl|some y=>have:=hb _ _ e;rw[h.1 v hv]at this;cases this
  intro v h1 h2 b s n e;have j:=hb _ _ e;obtain⟨hn,cs,f,hc⟩:=h.2 v h1 h2 b s n j;exact⟨hn,cs,f,⟨(hw _ _ _ _ j).trans hc.here,hc.size,hc.le,hc.lG,hc.exact,hc.free,hc.plain,λi x hi hx=>let⟨v,a,b⟩:=hc.cell i x hi hx;⟨v,a,b.mono hl⟩⟩⟩
 |map es clock=>intro b s n e;have j:=hb _ _ e;obtain⟨p,h1,h2⟩:=h b s n j;exact⟨p,(hw _ _ _ _ j).trans h1,h2.mono hl⟩
 |j7 s pos=>intro b k n e;have j:=hb _ _ e;exact(hw _ _ _ _ j).trans (h b k n j)
 |gY m since seen last=>intro b k n e;have j:=hb _ _ e;obtain⟨q,h1,h2⟩:=h b k n j;refine⟨q,(hw _ _ _ _ j).trans h1,?_⟩;cases m with|none=>exact h2|some o'=>obtain⟨b',s',n',h3,h4⟩:=h2;exact⟨b',s',n',hl.b _ _ _ h3,h4⟩
 |loop st gW fn tn tm ps assign body dd=>intro b s n e;have j:=hb _ _ e;obtain⟨tmps,u,s',n',h1,h2,h3,h4⟩:=h b s n j;exact⟨tmps,u,s',n',(hw _ _ _ _ j).trans h1,h2,h3.mono hl,hl.b _ _ _ h4⟩|b8 ds=>intro b s n e;have j:=hb _ _ e;have:=h b s n j;grind
structure W(h:AHeap)(g:Gh)(w:World):Prop where
 obj:∀o x,h.get o=some x->OR g w o x
 cR:∀o v b s n,g.B o v=some (b,s,n)->b<w.heap.size
 inj:∀o v o' v' b s n s' n',g.B o v=some (b,s,n)->g.B o' v'=some (b,s',n')->o=o'
 ro:∀b i v,g.M b i=some v->w.cell? ⟨b,i,none⟩=some v/\b<w.heap.size
 eU:∀b i u,g.M b i=some u->∀o v s n,g.B o v≠some (b,s,n)gl:∀b p,FB b=some p->C4 w b p/\∃u,g.M b 0=some u
theorem W.kC{h:AHeap}{g g':Gh}{w w':World}(hw:W h g w)(hold:∀b u,g.M b 0=some u->w'.heap[b]?=w.heap[b]?)(hm:∀b i v,g.M b i=some v->g'.M b i=some v):
 ∀b p,FB b=some p->C4 w' b p/\∃u,g'.M b 0=some u:=λb p e=>
 let⟨⟨cs,x,y,h1,h2⟩,u,hu⟩:=hw.gl b p e
 ⟨⟨cs,x,y,(hold b u hu).trans h1,h2⟩,u,hm b 0 u hu⟩
def dP(h:AHeap)(g:Gh):Prop:=∀o,h.next<=o->∀v,g.B o v=none
structure Step(h:AHeap)(g:Gh)(w:World)(h':AHeap)(g':Gh)(w':World):Prop where
 le:g.Le g'
 gj:h.next<=h'.next
 nS:h'.floor=h.floor
 wr:∀o,o∈h.wr->o∈h'.wr
 b0:∀o,o<h.floor->o<h.next->o∉h'.wr->h'.get o=h.get o
 ph:∀o,o<h.next->(∀v,g.B o v=none)->h'.get o=h.get o
 gone:∀o,o<h.next->h.get o=none->h'.get o=none
 ij:∀o v x,g'.B o v=some x->g.B o v=some x\/(h.next<=o/\o<h'.next)\/(h.get o≠none/\∃v',g.B o v'≠none)
 size:w.heap.size<=w'.heap.size
 old:∀o v b s n,g'.B o v=some (b,s,n)->b<w.heap.size->∃v' s' n',g.B o v'=some (b,s',n')
 fr:∀b,b<w.heap.size->(∀o v s n,g.B o v=some (b,s,n)->(o<h.floor/\o∉h'.wr)\/h.get o=none)->w'.heap[b]?=w.heap[b]?
 tape:w'.tape=w.tape
 os:w'.os=w.os
 out:w'.output=w.output
 fI:∀b i v,g'.M b i=some v->g.M b i=some v\/w.heap.size<=b:=by exactλ_ _ _ h=>Or.inl h
theorem Step.refl(h:AHeap)(g:Gh)(w:World):Step h g w h g w where
 le:=.refl g
 gj:=ao _
 nS:=rfl
 wr:=λ_ h=>h
 b0:=λ_ _ _ _=>rfl
 ph:=λ_ _ _=>rfl
 gone:=λ_ _ h=>h
 ij:=λ_ _ _ h=>.inl h
 size:=ao _
 old:=λ_ v b s n h _=>⟨v,s,n,h⟩
 fr:=λ_ _ _=>rfl
 tape:=rfl
 os:=rfl
 out:=rfl
theorem Step.trans{h h' p:AHeap}{g g' q:Gh}{w w' m:World}(hf:dP h g)(a:Step h g w h' g' w')(b:Step h' g' w' p q m):Step h g w p q m where
 le:=a.le.trans b.le
 gj:=Nat.le_trans a.gj b.gj
 nS:=b.nS.trans a.nS
 wr:=λo ho=>b.wr o (a.wr o ho)
 b0:=λo h1 h2 h3=>by rw[b.b0 o (a.nS▸h1) (Nat.lt_of_lt_of_le h2 a.gj) h3];exact a.b0 o h1 h2 λh4=>h3 (b.wr o h4)
 ph:=λo h1 h2=>by
  have:∀v,g'.B o v=none:=by
   intro v
   cases hv:g'.B o v with
   |none=>rfl
   |some x=>
    rcases a.ij o v x hv with h3|⟨h3,_⟩|⟨_,v',h3⟩
    .grind
    .omega
    grind
  rw[b.ph o (Nat.lt_of_lt_of_le h1 a.gj) this];exact a.ph o h1 h2
 gone:=λo h1 h2=>b.gone o (Nat.lt_of_lt_of_le h1 a.gj) (a.gone o h1 h2)
 ij:=λo v x hx=>by
  rcases b.ij o v x hx with h1|⟨h1,h2⟩|⟨h1,v',h2⟩
  .rcases a.ij o v x h1 with h3|⟨h3,h4⟩|h3
   .grind
   .exact .inr (.inl ⟨h3,Nat.lt_of_lt_of_le h4 b.gj⟩)
   grind
  .exact .inr (.inl ⟨Nat.le_trans a.gj h1,h2⟩)
  .cases hv:g'.B o v' with
   |none=>grind
   |some y=>
    rcases a.ij o v' y hv with h3|⟨h3,h4⟩|h3
    .by_cases c:o<h.next
     .refine .inr (.inr ⟨λh5=>h1 (a.gone o c h5),v',by grind⟩)
     .have:=hf o (Nat.le_of_not_lt c) v';grind
    .exact .inr (.inl ⟨h3,Nat.lt_of_lt_of_le h4 b.gj⟩)
    grind
 size:=Nat.le_trans a.size b.size
 old:=λo v j s n h1 h2=>by obtain⟨v',s',n',h3⟩:=b.old o v j s n h1 (Nat.lt_of_lt_of_le h2 a.size);exact a.old o v' j s' n' h3 h2
 fr:=λj h1 h2=>by
  rw[b.fr j (Nat.lt_of_lt_of_le h1 a.size) ?_]
  .refine a.fr j h1 λo v s n h3=>?_
   rcases h2 o v s n h3 with⟨h4,h5⟩|h4
   .exact .inl ⟨h4,λh6=>h5 (b.wr o h6)⟩
   grind
  .intro o v s n h3
   obtain⟨v',s',n',h4⟩:=a.old o v j s n h3 h1
   rcases h2 o v' s' n' h4 with⟨h5,h6⟩|h5
   .exact .inl ⟨a.nS▸h5,h6⟩
   .by_cases c:o<h.next
    .exact .inr (a.gone o c h5)
    .have:=hf o (Nat.le_of_not_lt c) v';grind
 tape:=b.tape.trans a.tape
 os:=b.os.trans a.os
 out:=b.out.trans a.out
 fI:=λj i v hm=>by
  rcases b.fI j i v hm with h1|h1
  .exact a.fI j i v h1
  .exact .inr (Nat.le_trans a.size h1)
theorem dP.step{h h':AHeap}{g g':Gh}{w w':World}(hf:dP h g)(a:Step h g w h' g' w'):dP h' g':=by
 intro o ho v
 cases hv:g'.B o v with
 |none=>rfl
 |some x=>
  rcases a.ij o v x hv with h1|⟨_,h1⟩|⟨_,v',h1⟩
  .rw[hf o (Nat.le_trans a.gj ho) v]at h1;cases h1
  .omega
  .exact absurd (hf o (Nat.le_trans a.gj ho) v') h1
theorem W.same{h:AHeap}{g:Gh}{w w':World}(hw:W h g w)(hs:w.heap.size<=w'.heap.size)(hb:∀b,b<w.heap.size->w'.heap[b]?=w.heap[b]?):W h g w' where
 obj:=λo x hx=>(hw.obj o x hx).move (.refl g) (λ_ _ e=>e) (λv b s n e=>hb b (hw.cR o v b s n e))
 cR:=λo v b s n e=>Nat.lt_of_lt_of_le (hw.cR o v b s n e) hs
 inj:=hw.inj
 ro:=λb i v e=>by obtain⟨h1,h2⟩:=hw.ro b i v e;grind[Nat.lt_of_lt_of_le,World.cell?]
 eU:=hw.eU
 gl:=hw.kC (λb u e=>hb b (hw.ro b 0 u e).2) (λ_ _ _ e=>e)
theorem W.drew{h:AHeap}{g:Gh}{w:World}(hw:W h g w)(n:Nat):W h g {w with drawn:=n}:=hw.same (ao _) λ_ _=>rfl
theorem Step.drew(h:AHeap)(g:Gh)(w:World)(n:Nat):Step h g w h g {w with drawn:=n}:={Step.refl h g w with size:=ao _,fr:=λ_ _ _=>rfl,tape:=rfl,os:=rfl,out:=rfl,fI:=λ_ _ _ h=>Or.inl h}
end Go.AI
end

section
namespace Go.AI
def Gh.dc(g:Gh)(o v:Nat)(x:Nat×Nat×Nat):Gh:={B:=λo' v'=>if o'=o/\v'=v then some x else g.B o' v',M:=g.M}
theorem Gh.kA{g:Gh}{o v:Nat}{x:Nat×Nat×Nat}(h:g.B o v=none):g.Le (g.dc o v x)where
 b:=λo' v' y e=>by grind[Gh.dc]
 m:=λ_ _ _ e=>e
theorem Gh.fT(g:Gh)(o v:Nat)(x:Nat×Nat×Nat):(g.dc o v x).B o v=some x:=by simp[Gh.dc]
theorem Gh.cO{g:Gh}{o v o' v':Nat}{x y:Nat×Nat×Nat}(h:(g.dc o v x).B o' v'=some y):(o'=o/\v'=v/\y=x)\/g.B o' v'=some y:=by grind[Gh.dc]
abbrev fY(w:World)(ob:Obj):World:=w.alloc ob
def cJ(w:World)(b:Nat)(ob:Obj):World:={w with heap:=w.heap.setIfInBounds b ob}
theorem CJ{w:World}{ob:Obj}{b:Nat}(h:b<w.heap.size):(fY w ob).heap[b]?=w.heap[b]?:=by show(w.heap.push ob)[b]?=_;grind
theorem kq(w:World)(ob:Obj):(fY w ob).heap[w.heap.size]?=some ob:=by show(w.heap.push ob)[w.heap.size]?=_;grind
theorem H5(w:World)(ob:Obj):(fY w ob).heap.size=w.heap.size+1:=by simp[fY]
theorem Cx{w:World}{ob:Obj}{b b':Nat}(h:b'≠b):(cJ w b ob).heap[b']?=w.heap[b']?:=by simp[cJ,Array.getElem?_setIfInBounds_ne (Ne.symm h)]
theorem hQ{w:World}{ob:Obj}{b:Nat}(h:b<w.heap.size):(cJ w b ob).heap[b]?=some ob:=by simp[cJ,h]
theorem IE(w:World)(b:Nat)(ob:Obj):(cJ w b ob).heap.size=w.heap.size:=by simp[cJ]
theorem AHeap.n4(h:AHeap)(x:bT)(o:Nat):(h.alloc x).get o=if o=h.next then some x else h.get o:=Tr.qH _ _ _ _
theorem AHeap.jF(h:AHeap)(p:Nat)(x:bT)(o:Nat):(h.aG p x).get o=if o=p then some x else h.get o:=Tr.qH _ _ _ _
theorem xB{l:List Nat}{floor o p:Nat}(h:o∈l):o∈jj l floor p:=by grind[List.mem_cons_of_mem,jj]
theorem sv{l:List Nat}{floor o:Nat}(h:o<floor):o∈jj l floor o:=by unfold jj;grind
theorem qC{h:AHeap}{g:Gh}{w w':World}{x:bT}{ob:Obj}{s n:Nat}(hw:W h g w)(hf:∀v,g.B h.next v=none)
 (c:w'=fY w ob)
 (ho:OR (g.dc h.next 0 (w.heap.size,s,n)) w' h.next x):
 W (h.alloc x) (g.dc h.next 0 (w.heap.size,s,n)) w'/\Step h g w (h.alloc x) (g.dc h.next 0 (w.heap.size,s,n)) w':=by
 have j:g.Le (g.dc h.next 0 (w.heap.size,s,n)):=Gh.kA (hf 0)
 have hold:∀b,b<w.heap.size->w'.heap[b]?=w.heap[b]?:=λb hb=>by rw[c];exact CJ hb
 have D:w'.heap.size=w.heap.size+1:=by simp_all
 refine⟨⟨?_,?_,?_,?_,?_,hw.kC (λb' u e=>hold b' (hw.ro b' 0 u e).2) (λ_ _ _ e=>e)⟩,⟨j,?_,rfl,λ_ h=>h,?_,?_,?_,?_,by omega,?_,λb hb _=>hold b hb,by simp_all,by rw[c];rfl,by rw[c];rfl,λ_ _ _ h=>Or.inl h⟩⟩
 .intro o y hy
  rw[AHeap.n4]at hy
  split at hy
  .grind
  .rename_i e
   refine(hw.obj o y hy).move j ?_ ?_
   .grind[Gh.cO]
   .intro v b s n hb;exact hold b (hw.cR o v b s n hb)
 .intro o v b s' n' hb
  rcases Gh.cO hb with⟨_,_,e⟩|hb
  .grind
  .have:=hw.cR o v b s' n' hb;omega
 .intro o v o' v' b z n1 q C h1 h2
  rcases Gh.cO h1 with⟨e1,_,p⟩|h1<;>rcases Gh.cO h2 with⟨e2,_,m⟩|h2
  .rw[e1,e2]
  .simp at p;have:=hw.cR o' v' b q C h2;omega
  .simp at m;have:=hw.cR o v b z n1 h1;omega
  .exact hw.inj o v o' v' b z n1 q C h1 h2
 .intro b i v hm;obtain⟨h1,h2⟩:=hw.ro b i v hm;grind[World.cell?]
 .intro b i u hm o v s' n' hb
  rcases Gh.cO hb with⟨_,_,e⟩|hb
  .have:=(hw.ro b i u hm).2;grind
  .exact hw.eU b i u hm o v s' n' hb
 .simp[AHeap.alloc]
 .intro o _ h2 _;rw[AHeap.n4,if_neg (by omega)]
 .intro o h1 _;rw[AHeap.n4,if_neg (by omega)]
 .intro o h1 h2;rw[AHeap.n4,if_neg (by omega)];exact h2
 .grind[Gh.cO,AHeap.alloc]
 .intro o v b s' n' hb E
  rcases Gh.cO hb with⟨_,_,e⟩|hb
  .grind
  grind
theorem jJ{h:AHeap}{g:Gh}{w w':World}{o v b s n:Nat}{x x':bT}{ob:Obj}(hw:W h g w)(hx:h.get o=some x)
 (hb:g.B o v=some (b,s,n))(c:w'=cJ w b ob)(ho:OR g w' o x'):W (h.aG o x') g w'/\Step h g w (h.aG o x') g w':=by
 have hold:∀b',b'≠b->w'.heap[b']?=w.heap[b']?:=λb' j=>by rw[c];exact Cx j
 have m:w'.heap.size=w.heap.size:=by rw[c];exact IE _ _ _
 refine⟨⟨?_,?_,hw.inj,?_,hw.eU,hw.kC (λb' u e=>hold b' (λp=>hw.eU b' 0 u e o v s n (p▸hb))) (λ_ _ _ e=>e)⟩,⟨.refl g,ao _,rfl,λ_ h=>xB h,?_,?_,?_,λ_ _ _ h=>.inl h,by omega,λo v b s n h _=>⟨v,s,n,h⟩,?_,by rw[c];rfl,by rw[c];rfl,by rw[c];rfl,λ_ _ _ h=>Or.inl h⟩⟩
 .intro o' y hy
  rw[AHeap.jF]at hy
  split at hy
  .grind
  .rename_i e;refine(hw.obj o' y hy).move (.refl g) (λ_ _ h=>h) ?_;intro v' b' s' n' j;exact hold b' λp=>e (by subst p;exact hw.inj o' v' o v b' s' n' s n j hb)
 .intro o' v' b' s' n' j;rw[m];exact hw.cR o' v' b' s' n' j
 .intro b' i u hm;obtain⟨h1,h2⟩:=hw.ro b' i u hm;refine⟨?_,by omega⟩;rw[<-h1];unfold World.cell?;simp only[hold b' (λe=>hw.eU b' i u hm o v s n (e▸hb))]
 .intro o' h1 _ h2;rw[AHeap.jF,if_neg];intro e;subst e;exact h2 (sv h1)
 .intro o' _ h1;rw[AHeap.jF,if_neg];grind
 .intro o' _ h1
  rw[AHeap.jF,if_neg]
  .exact h1
  grind
 .intro b' _ h1
  by_cases e:b'=b
  .subst e
   rcases h1 o v s n hb with⟨h2,h3⟩|h2
   .exact absurd (sv h2) h3
   grind
  grind
theorem R9{h:AHeap}{g:Gh}{w w':World}{o J nv O K L s n:Nat}{x x':bT}{ob:Obj}(hw:W h g w)(hx:h.get o=some x)
 (hb:g.B o J=some (O,K,L))(hn:g.B o nv=none)(j:w'=fY w ob)
 (ho:OR (g.dc o nv (w.heap.size,s,n)) w' o x'):
 W (h.aG o x') (g.dc o nv (w.heap.size,s,n)) w'/\Step h g w (h.aG o x') (g.dc o nv (w.heap.size,s,n)) w':=by
 have m:g.Le (g.dc o nv (w.heap.size,s,n)):=Gh.kA hn
 have hold:∀b,b<w.heap.size->w'.heap[b]?=w.heap[b]?:=λb hb=>by rw[j];exact CJ hb
 have M:w'.heap.size=w.heap.size+1:=by simp_all
 refine⟨⟨?_,?_,?_,?_,?_,hw.kC (λb' u e=>hold b' (hw.ro b' 0 u e).2) (λ_ _ _ e=>e)⟩,⟨m,ao _,rfl,λ_ h=>xB h,?_,?_,?_,?_,by omega,?_,λb hb _=>hold b hb,by simp_all,by rw[j];rfl,by rw[j];rfl,λ_ _ _ h=>Or.inl h⟩⟩
 .intro o' y hy
  rw[AHeap.jF]at hy
  split at hy
  .grind
  .rename_i e
   refine(hw.obj o' y hy).move m ?_ ?_
   .grind[Gh.cO]
   .intro v b s n hb;exact hold b (hw.cR o' v b s n hb)
 .intro o' v b s' n' c
  rcases Gh.cO c with⟨_,_,e⟩|c
  .grind
  .have:=hw.cR o' v b s' n' c;omega
 .intro G C F z b E n1 D I h1 h2
  rcases Gh.cO h1 with⟨e1,_,q⟩|h1<;>rcases Gh.cO h2 with⟨e2,_,p⟩|h2
  .rw[e1,e2]
  .simp at q;have:=hw.cR F z b D I h2;omega
  .simp at p;have:=hw.cR G C b E n1 h1;omega
  .exact hw.inj G C F z b E n1 D I h1 h2
 .intro b i v hm;obtain⟨h1,h2⟩:=hw.ro b i v hm;grind[World.cell?]
 .intro b i u hm o' v s' n' c
  rcases Gh.cO c with⟨_,_,e⟩|c
  .have:=(hw.ro b i u hm).2;grind
  .exact hw.eU b i u hm o' v s' n' c
 .intro o' h1 _ h2;rw[AHeap.jF,if_neg];intro e;subst e;exact h2 (sv h1)
 .intro o' _ h1;rw[AHeap.jF,if_neg];grind
 .intro o' _ h1
  rw[AHeap.jF,if_neg]
  .exact h1
  grind
 .grind[Gh.cO]
 .intro o' v b s' n' c N
  rcases Gh.cO c with⟨_,_,e⟩|c
  .grind
  grind
theorem RE{h:AHeap}{g:Gh}{w w':World}{o m nv b p q s n:Nat}{x x':bT}{ob:Obj}(hw:W h g w)(hx:h.get o=some x)
 (hb:g.B o m=some (b,p,q))(hn:g.B o nv=none)(j:w'=cJ w b ob)
 (ho:OR (g.dc o nv (b,s,n)) w' o x'):
 W (h.aG o x') (g.dc o nv (b,s,n)) w'/\Step h g w (h.aG o x') (g.dc o nv (b,s,n)) w':=by
 have z:g.Le (g.dc o nv (b,s,n)):=Gh.kA hn
 have hold:∀b',b'≠b->w'.heap[b']?=w.heap[b']?:=λb' c=>by rw[j];exact Cx c
 have E:w'.heap.size=w.heap.size:=by rw[j];exact IE _ _ _
 refine⟨⟨?_,?_,?_,?_,?_,hw.kC (λb' u e=>hold b' (λF=>hw.eU b' 0 u e o m p q (F▸hb))) (λ_ _ _ e=>e)⟩,⟨z,ao _,rfl,λ_ h=>xB h,?_,?_,?_,?_,by omega,?_,?_,by rw[j];rfl,by rw[j];rfl,by rw[j];rfl,λ_ _ _ h=>Or.inl h⟩⟩
 .intro o' y hy
  rw[AHeap.jF]at hy
  split at hy
  .grind
  .rename_i e
   refine(hw.obj o' y hy).move z ?_ ?_
   .grind[Gh.cO]
   .intro v' b' s' n' c;exact hold b' λF=>e (by subst F;exact hw.inj o' v' o m b' s' n' p q c hb)
 .intro o' v b' s' n' c
  rw[E]
  rcases Gh.cO c with⟨_,_,e⟩|c
  .simp at e;rw[e.1];exact hw.cR o m b p q hb
  .exact hw.cR o' v b' s' n' c
 .intro M I L G b' K n1 J N h1 h2
  rcases Gh.cO h1 with⟨e1,_,D⟩|h1<;>rcases Gh.cO h2 with⟨e2,_,C⟩|h2
  .rw[e1,e2]
  .simp at D;rw[D.1]at h2;rw[e1];exact hw.inj o m L G b p q J N hb h2
  .simp at C;rw[C.1]at h1;rw[e2];exact hw.inj M I o m b K n1 p q h1 hb
  .exact hw.inj M I L G b' K n1 J N h1 h2
 .intro b' i u hm;obtain⟨h1,h2⟩:=hw.ro b' i u hm;refine⟨?_,by omega⟩;rw[<-h1];unfold World.cell?;simp only[hold b' (λe=>hw.eU b' i u hm o m p q (e▸hb))]
 .intro b' i u hm o' v s' n' c
  rcases Gh.cO c with⟨_,_,e⟩|c
  .simp at e;rw[e.1]at hm;exact hw.eU b i u hm o m p q hb
  .exact hw.eU b' i u hm o' v s' n' c
 .intro o' h1 _ h2;rw[AHeap.jF,if_neg];intro e;subst e;exact h2 (sv h1)
 .intro o' _ h1;rw[AHeap.jF,if_neg];grind
 .intro o' _ h1
  rw[AHeap.jF,if_neg]
  .exact h1
  grind
 .grind[Gh.cO]
 .intro o' v b' s' n' c _
  rcases Gh.cO c with⟨e1,_,e⟩|c
  .grind
  grind
 .intro b' _ h1
  by_cases e:b'=b
  .subst e
   rcases h1 o m p q hb with⟨h2,h3⟩|h2
   .exact absurd (sv h2) h3
   grind
  grind
end Go.AI
end

section
namespace Go.AI
theorem cell_of{w:World}{b i:Nat}{c:Array Value}{el:TypeId}{f:Nat×Nat}(h:w.heap[b]?=some (.cells c el f)):w.cell? ⟨b,i,none⟩=c[i]?:=by unfold World.cell?;simp[h]
theorem Sa{w:World}{b i:Nat}{c:Array Value}{el:TypeId}{f:Nat×Nat}(h:w.heap[b]?=some (.cells c el f)):w.frozen? ⟨b,i,none⟩=(decide (f.1<=i)&&decide (i<f.2)):=by unfold World.frozen?;simp[h]
theorem uw{α:Type}(l:List α)(a s i:Nat)(hi:i<s):((l.drop a).take s)[i]?=l[a+i]?:=by grind
theorem lM{h:AHeap}{g:Gh}{w:World}{o ver n off s b sz:Nat}{cs:List AV}(hw:W h g w)(hr:cz h o ver n off s=some cs)
 (hb:g.B o ver=some (b,sz,n)):∃vs:List Value,ay g cs vs/\vs.length=s/\(∀(j:Nat)(v:Value),vs[j]?=some v->w.cell? ⟨b,off+j,none⟩=some v)/\off+s<=n/\n<=sz:=by
 unfold cz at hr
 split at hr
 .rename_i v m c fz el ex sh hx
  split at hr
  .rename_i hc
   obtain⟨h1,h2,h3⟩:=hc
   cases hr
   obtain⟨_,ca,f,hk⟩:=(hw.obj o _ hx).2 ver h1 h2 b sz n hb
   refine⟨(ca.toList.drop off).take s,?_,?_,?_,h3,hk.lG⟩
   .refine ay.of ?_ ?_
    .simp only[List.length_take,List.length_drop,Array.length_toList];have:=hk.le;have:=hk.lG;have:=hk.size;omega
    .intro i x v' p q
     by_cases hi:i<s
     .rw[uw _ _ _ _ hi]at p q;obtain⟨u,hu,hr⟩:=hk.cell (off+i) x (by omega) p;grind
     grind
   .simp only[List.length_take,List.length_drop,Array.length_toList];have:=hk.lG;have:=hk.size;omega
   .intro j u hu
    by_cases hi:j<s
    .rw[uw _ _ _ _ hi,Array.getElem?_toList]at hu;rw[cell_of hk.here];exact hu
    grind
  .cases hr
 .cases hr
theorem sQ{h:AHeap}{g:Gh}{w:World}{s:Nat}{x:AV}{v:Value}{cs:List AV}(hw:W h g w)(hr:gK h s x=some cs)(hx:VR g x v):
 ∃a:Addr,v=.pointer (some a)/\a.spot=none/\∃vs:List Value,ay g cs vs/\vs.length=s/\(∀(j:Nat)(u:Value),vs[j]?=some u->w.cell? ⟨a.block,a.off+j,none⟩=some u):=by
 unfold gK at hr
 split at hr
 .cases hx with|ref hb=>obtain⟨vs,h1,h2,h3,_⟩:=lM hw hr hb;exact⟨_,rfl,rfl,vs,h1,h2,h3⟩
 .rename_i cells
  split at hr
  .rename_i hs
   cases hr
   cases hx with
   |cr f h1 h2=>
    rename_i b off
    refine⟨_,rfl,rfl,(List.range s).map f,?_,by simp,?_⟩
    .simp_all[ay.of,Nat.min_eq_left,List.getElem?_take,if_pos,if_neg]
    .intro j u hu
     by_cases hj:j<s
     .simp[hj]at hu
      have c:j<cells.length:=by omega
      have:=h1 j cells[j] (by simp[c]);rw[<-hu];exact(hw.ro _ _ _ this).1
     grind
  .cases hr
 .cases hr
theorem add_eq(a:Addr)(n:Nat)(h:a.spot=none):a.add n=⟨a.block,a.off+n,none⟩:=by cases a with|mk b o s=>simp_all[Addr.add]
section
variable {P:Program}
theorem xC{t:TypeId}{b:Bool}(h:dG P t=some b)(w:World):(isAgg t).run P w=.ok b w:=by unfold dG at h;unfold isAgg;cases hu:P.underlying t with|none=>grind|some d=>rw[hu]at h;simp only[Sem.run_bind,run_underlying hu,Result.andThen_ok];cases d<;>simp_all
theorem run_typeInfo{t:TypeId}{i:TypeInfo}(h:P.info? t=some i)(w:World):(typeInfo t).run P w=.ok i w:=by unfold typeInfo;simp[h]
theorem run_sizeOf{t:TypeId}{s:Nat}(h:bj P t=some s)(w:World):(sizeOf t).run P w=.ok s w:=by unfold bj at h;cases hi:P.info? t with|none=>grind|some i=>simp_all[Sem.run_bind,run_typeInfo,Result.andThen_ok,Sem.run_pure,sizeOf]
theorem HO{t:TypeId}{s:Nat}(h:mS P t=some s):∃i,P.info? t=some i/\i.bytes=s:=by simp_all[mS]
theorem xn{t:TypeId}{z:AV}(h:dN P t=some z)(w:World):∃v,(zeroValue t).run P w=.ok v w/\z=bh v:=by unfold dN at h;cases hi:P.info? t with|none=>grind|some i=>rw[hi]at h;cases hz:i.zero with|none=>grind|some v=>simp_all[Sem.run_bind,run_typeInfo,Result.andThen_ok,Sem.run_pure,zeroValue]
theorem C5{h:AHeap}{g:Gh}{w:World}{t:TypeId}{x y:AV}{v:Value}(hw:W h g w)(hr:h8 P h t x=some y)(hx:VR g x v):
 ∃u,(Instr.loadAt t v).run P w=.ok u w/\VR g y u:=by
 unfold h8 at hr
 split at hr
 .rename_i s ha hs
  cases c:gK h s x with
  |none=>grind
  |some cs=>
   rw[c]at hr;cases hr
   obtain⟨a,rfl,i,vs,h1,h2,h3⟩:=sQ hw c hx
   have hl:(loadCells a s).run P w=.ok vs.toArray w:=by grind[run_loadCells_list,add_eq]
   refine⟨.agg vs.toArray,?_,VR.hW.2 ⟨_,rfl,by grind⟩⟩;simp_all[Sem.run_bind,Sem.run_pure,Result.andThen_ok,xC,if_true,run_sizeOf,Instr.loadAt,Instr.sureAddr,loadVar]
 .rename_i s ha hs
  split at hr
  .rename_i m c
   cases hr
   obtain⟨a,rfl,i,vs,h1,h2,h3⟩:=sQ hw c hx
   match vs,h1,h2,h3 with
   |[u],h1,_,h3=>
    refine⟨u,?_,h1.1⟩
    have:=h3 0 u (by simp)
    have j:a=⟨a.block,a.off+0,none⟩:=by cases a;simp at i;simp[i]
    unfold Instr.loadAt Instr.sureAddr loadVar;simp only[Sem.run_bind,Sem.run_pure,Result.andThen_ok,xC ha,Bool.false_eq_true,if_false,run_load];grind
  .cases hr
 .cases hr
end
end Go.AI
end

section
namespace Go.AI
theorem KD{w:World}{b:Nat}{ob:Obj}(h:w.heap[b]?=some ob):cJ w b ob=w:=by
 unfold cJ
 have:w.heap.setIfInBounds b ob=w.heap:=by grind
 rw[this]
theorem Sb(w:World)(b:Nat)(x y:Obj):cJ (cJ w b x) b y=cJ w b y:=by unfold cJ;simp
theorem hO{w:World}{b:Nat}{ob:Obj}(h:w.heap[b]?=some ob):b<w.heap.size:=by grind
theorem setCell_eq{w:World}{b i:Nat}{c:Array Value}{el:TypeId}{f:Nat×Nat}(v:Value)(h:w.heap[b]?=some (.cells c el f)):w.setCell ⟨b,i,none⟩ v=cJ w b (.cells (c.setIfInBounds i v) el f):=by unfold World.setCell cJ;congr 1;grind
theorem H6{g:Gh}{x:AV}{v:Value}(h:dt x=true)(hr:VR g x v):v.oneCell'=true:=by cases hr<;>simp_all[dt,Value.oneCell'];grind
theorem Cl{g:Gh}:∀{xs:List AV}{vs:List Value},xs.all dt=true->ay g xs vs->∀v∈vs,v.oneCell'=true
 |[],[],_,_=>by simp
 |x::xs,v::vs,h,hr=>by
  simp only[List.all_cons,aZ]at h
  intro u hu
  rcases List.mem_cons.1 hu with rfl|hu
  .exact H6 h.1 hr.1
  .exact Cl h.2 hr.2 u hu|[],_::_,_,hr=>hr.elim|_::_,[],_,hr=>hr.elim
theorem Hs{P:Program}{b off:Nat}{el:TypeId}{f:Nat×Nat}:∀(vs:List Value)(i:Nat)(c:Array Value)(w:World),
 w.heap[b]?=some (.cells c el f)->off+i+vs.length<=c.size->(∀j,off+i<=j->j<off+i+vs.length->¬(f.1<=j/\j<f.2))->(∀v∈vs,v.oneCell'=true)->
 ∃c':Array Value,(storeCells ⟨b,off,none⟩ vs i).run P w=.ok () (cJ w b (.cells c' el f))/\c'.size=c.size/\∀j:Nat,c'[j]?=if off+i<=j/\j<off+i+vs.length then vs[j-(off+i)]? else c[j]?:=by
 intro vs
 induction vs with
 |nil=>
  intro i c w h _ _ _
  refine⟨c,?_,rfl,?_⟩
  .rw[KD h];rfl
  grind
 |cons v vs ih=>
  intro i c w h hs hf ho
  have z:off+i+(vs.length+1)<=c.size:=hs
  have m:w.cell? ⟨b,off+i,none⟩=c[off+i]?:=cell_of h
  have o:off+i<c.size:=by omega
  have p:w.frozen? ⟨b,off+i,none⟩=false:=by rw[Sa h];have:=hf (off+i) (ao _) (by simp);simpa using this
  have h2:(cJ w b (.cells (c.setIfInBounds (off+i) v) el f)).heap[b]?=some (.cells (c.setIfInBounds (off+i) v) el f):=hQ (hO h)
  obtain⟨c',hr,q,hc⟩:=ih (i+1) _ _ h2 (by simp;omega) (λj h1 h2=>hf j (by omega) (by simp;omega)) (λu hu=>ho u (List.mem_cons_of_mem _ hu))
  refine⟨c',?_,by grind,?_⟩
  .simp only[storeCells,Sem.run_bind];rw[add_eq _ _ rfl,run_store _ _ _ _ _ (ho v (List.mem_cons_self ..))];simp only[m];rw[Array.getElem?_eq_getElem o];simp only[p,Bool.false_eq_true,if_false,Result.andThen_ok];rw[setCell_eq v h,hr,Sb]
  .intro j
   rw[hc j]
   by_cases h3:off+i=j
   .subst h3;grind
   .rw[Array.getElem?_setIfInBounds_ne h3]
    by_cases h4:off+(i+1)<=j/\j<off+(i+1)+vs.length
    .grind
    .rw[if_neg h4,if_neg (by simp;omega)]
theorem H7(c:List AV)(off:Nat)(new:List AV)(h:off+new.length<=c.length)(j:Nat):(dn c off new)[j]?=if off<=j/\j<off+new.length then new[j-off]? else c[j]?:=by unfold dn;grind
theorem ux(c:List AV)(off:Nat)(new:List AV)(h:off+new.length<=c.length):(dn c off new).length=c.length:=by unfold dn;simp;omega
theorem Cy{P:Program}{h h':AHeap}{g:Gh}{w:World}{o ver n off b s:Nat}{new:List AV}{vs:List Value}(hw:W h g w)
 (hr:hT h o ver n off new=some h')(hb:g.B o ver=some (b,s,n))(hv:ay g new vs):
 ∃w',(storeCells ⟨b,off,none⟩ vs 0).run P w=.ok () w'/\W h' g w'/\Step h g w h' g w':=by
 unfold hT at hr
 split at hr
 .rename_i v m c fz el ex sh hx
  split at hr
  .rename_i hc
   obtain⟨rfl,h1,h2,h3,h4⟩:=hc
   cases hr
   obtain⟨D,ca,f,hk⟩:=(hw.obj o _ hx).2 ver h1 (ao _) b s n hb
   .have hn:=D rfl
    have hlen:=hv.length
    obtain⟨c',u,C,E⟩:=Hs (P:=P) (off:=off) vs 0 ca w hk.here (by have:=hk.lG;have:=hk.size;omega) (λj h5 h6 z=>by have:=hk.free j (by have:=hk.lG;omega) z.1 z.2;omega) (Cl h4 hv)
    refine⟨_,u,?_⟩
    refine jJ hw hx hb rfl ⟨(hw.obj o _ hx).1,?_⟩
    intro v' h5 h6 b' s' n' q
    obtain rfl:v'=ver:=by omega
    rw[hb]at q
    simp only[an,aV]at q
    obtain⟨rfl,rfl,rfl⟩:=q
    refine⟨λ_=>by rw[ux _ _ _ (by omega)];exact hn,c',f,?_⟩
    refine⟨hQ (hO hk.here),by rw[C];exact hk.size,by rw[ux _ _ _ (by omega)];omega,hk.lG,λhe=>by rw[ux _ _ _ (by omega)];exact hk.exact he,hk.free,hk.plain,?_⟩
    intro i x hi p
    rw[H7 _ _ _ (by omega)]at p
    rw[E i]
    simp only[Nat.add_zero]
    by_cases z:off<=i/\i<off+new.length
    .rw[if_pos z]at p
     rw[if_pos (by omega)]
     have:i-off<vs.length:=by omega
     refine⟨vs[i-off],by simp[this],hv.get _ _ _ p (by simp[this])⟩
    .rw[if_neg z]at p;rw[if_neg (by omega)];exact hk.cell i x hi p
  .cases hr
 .cases hr
end Go.AI
end
