/-
  A part of the proof: AiDefs AiRel AiGlo AiWorld AiHeap AiMem AiStore.
-/
import Derived.Defers
import Derived.Orders
import Derived.Lib.ItoaNum
import Derived.Laws.Sem
import Derived.Laws.World
import Derived.Laws.Cells
import Derived.Laws.Entries
set_option linter.all false

section
namespace Go.AI
theorem ab{α:Type _}(a b:α):(some a=some b)=(a=b):=Option.some.injEq a b
theorem an{α:Type _}{β:Type _}(a:α)(b:β)(c:α)(d:β):((a,b)=(c,d))=(a=c/\b=d):=Prod.mk.injEq a b c d
theorem ak(n:Nat):n<=n:=Nat.le_refl n
theorem ax{p:Prop}[inst:Decidable p](h:p):decide p=true:=decide_eq_true h
theorem aH{p:Prop}[inst:Decidable p](h:¬p):decide p=false:=decide_eq_false h
theorem dP{p:Prop}[inst:Decidable p](h:decide p=true):p:=of_decide_eq_true h
theorem aX(a b:Bool):((a&&b)=true)=(a=true/\b=true):=Bool.and_eq_true a b
theorem aN{α:Type _}{a:α}{b:List α}:(a::b).length=b.length+1:=List.length_cons
inductive Tr(α:Type)where|leaf|node(l:Tr α)(v:Option α)(r:Tr α)
namespace Tr
variable {α:Type}
def get:Tr α->Nat->Option α|.leaf,_=>none|.node l v r,n=>match n with|0=>v|n+1=>match n%2 with|0=>get l (n/2)|_+1=>get r (n/2)
def set(x:α):Nat->Tr α->Nat->Tr α
 |0,t,_=>t
 |f+1,.leaf,n=>match n with|0=>.node .leaf (some x) .leaf|n+1=>match n%2 with|0=>.node (set x f .leaf (n/2)) none .leaf|_+1=>.node .leaf none (set x f .leaf (n/2))
 |f+1,.node l v r,n=>match n with|0=>.node l (some x) r|n+1=>match n%2 with|0=>.node (set x f l (n/2)) v r|_+1=>.node l v (set x f r (n/2))
def put(t:Tr α)(n:Nat)(x:α):Tr α:=set x (n+1) t n
theorem S5(x:α):∀(f:Nat)(t:Tr α)(n m:Nat),n<f->get (set x f t n) m=if m=n then some x else get t m:=by
 intro f
 induction f with
 |zero=>intro t n m h;omega
 |succ f ih=>
  intro t n m h
  cases t with
  |leaf=>
   cases n with
   |zero=>cases m with|zero=>simp[set,get]|succ m=>simp only[set,get];split<;>simp
   |succ n=>
    cases hn:n%2 with
    |zero=>
     simp only[set,hn]
     cases m with
     |zero=>simp[get]
     |succ m=>
      cases hm:m%2 with
      |zero=>
       simp only[get,hm]
       rw[ih _ _ _ (by omega)]
       simp only[get]
       have:(m/2=n/2)↔(m+1=n+1):=by omega
       simp[this]
      |succ k=>
       simp only[get,hm]
       rw[if_neg (by intro e;have:m=n:=by omega
                     subst this;omega)]
    |succ k=>
     simp only[set,hn]
     cases m with
     |zero=>simp[get]
     |succ m=>
      cases hm:m%2 with
      |zero=>
       simp only[get,hm]
       rw[if_neg (by intro e;have:m=n:=by omega
                     subst this;omega)]
      |succ b=>
       simp only[get,hm]
       rw[ih _ _ _ (by omega)]
       simp only[get]
       have:(m/2=n/2)↔(m+1=n+1):=by omega
       simp[this]
  |node l v r=>
   cases n with
   |zero=>cases m with|zero=>simp[set,get]|succ m=>simp[set,get]
   |succ n=>
    cases hn:n%2 with
    |zero=>
     simp only[set,hn]
     cases m with
     |zero=>simp[get]
     |succ m=>
      cases hm:m%2 with
      |zero=>
       simp only[get,hm]
       rw[ih _ _ _ (by omega)]
       have:(m/2=n/2)↔(m+1=n+1):=by omega
       simp[this]
      |succ k=>
       simp only[get,hm]
       rw[if_neg (by intro e;have:m=n:=by omega
                     subst this;omega)]
    |succ k=>
     simp only[set,hn]
     cases m with
     |zero=>simp[get]
     |succ m=>
      cases hm:m%2 with
      |zero=>
       simp only[get,hm]
       rw[if_neg (by intro e;have:m=n:=by omega
                     subst this;omega)]
      |succ b=>
       simp only[get,hm]
       rw[ih _ _ _ (by omega)]
       have:(m/2=n/2)↔(m+1=n+1):=by omega
       simp[this]
theorem p7(t:Tr α)(n m:Nat)(x:α):get (put t n x) m=if m=n then some x else get t m:=S5 x _ t n m (Nat.lt_succ_self n)
theorem bS(t:Tr α)(n:Nat)(x:α):get (put t n x) n=some x:=by simp[p7]
theorem a8(t:Tr α){n m:Nat}(x:α)(h:m≠n):get (put t n x) m=get t m:=by simp[p7,h]
end Tr
inductive AV where|aO|sc(v:Value)|ref(o ad n off:Nat)|sl(o ad n off sz len:Nat)(cap:Option Nat)|cq|cH(cells:List AV)|b9(cells:List AV)(sz len:Nat)(cap:Option Nat)|aG(rows:List (List AV))(sz:Nat)|map(o:Nat)|func(fn:Fn)(first captured:List AV)|e9(o:Nat)|iface(t:TypeId)(v:AV)|agg(cells:List AV)|tuple(vs:List AV)
instance :Inhabited AV:=⟨.aO⟩
def dZ:AV:=.tuple []
def bn:Value->AV|.agg cs=>.agg (cs.toList.map .sc)|.tuple vs=>.tuple (vs.toList.map .sc)|v=>.sc v
def e6:AV->Option Value|.sc v=>some v|.iface t (.sc v)=>some (.iface t v)|_=>none
def oC:List AV->Option (List Value)|[]=>some []|x::xs=>match e6 x,oC xs with|some v,some vs=>some (v::vs)|_,_=>none
def eA:AV->Option Value|.agg cs=>(oC cs).map λl=>.agg l.toArray|.tuple vs=>(oC vs).map λl=>.tuple l.toArray|v=>e6 v
def ez:AV->Bool|.agg _|.tuple _|.aO=>false|.sc (.agg _)|.sc (.tuple _)=>false|_=>true
def bm:AV->List AV|.agg cs=>cs|v=>[v]
def bW{α:Type}(P:Program):Sem α->Option α|.pure a=>some a|.program k=>bW P (k P)|.mark _ k=>bW P k|_=>none
inductive ep where|fn(f:Fn)(captured args:List AV)|dK(o:Nat)
inductive b7 where|cells(ad AK:Nat)(c:List AV)(fz:Nat)(el:TypeId)(ex sh:Bool)|map(es:List (AV×AV×Nat))(clock:Nat)|iI(m:Option Nat)(since:Nat)(seen:List Nat)(last:Nat)|kW(s:ByteArray)(pos:Nat)|loop(st:LoopState)(iC:Option Code)(fn:FuncId)(tn:Nat)(tm:Tr AV)(params:List Tmp)(assign body:Code)(cf:Nat)|cf(ds:Option (List ep))
structure AHeap where
 ck:Tr b7
 next:Nat
 floor:Nat
 wr:List Nat
def lC(l:List Nat)(floor o:Nat):List Nat:=if o<floor then(if l.contains o then l else o::l)else l
def sC(l:List Nat)(floor:Nat):List Nat->List Nat|[]=>l|o::os=>sC (lC l floor o) floor os
namespace AHeap
def get(h:AHeap)(o:Nat):Option b7:=h.ck.get o
def alloc(h:AHeap)(x:b7):AHeap:={ck:=h.ck.put h.next x,next:=h.next+1,floor:=h.floor,wr:=h.wr}
def aQ(h:AHeap)(o:Nat)(x:b7):AHeap:={ck:=h.ck.put o x,next:=h.next,floor:=h.floor,wr:=lC h.wr h.floor o}
def inner(h:AHeap):AHeap:={ck:=h.ck,next:=h.next,floor:=h.next,wr:=[]}
def outer(h h':AHeap):AHeap:={ck:=h'.ck,next:=h'.next,floor:=h.floor,wr:=sC h.wr h.floor h'.wr}
end AHeap
def dp(h:AHeap)(o ad n off s:Nat):Option (List AV):=match h.get o with|some (.cells v m c _ _ _ _)=>if m<=ad/\ad<=v/\off+s<=n then some ((c.drop off).take s)else none|_=>none
def cO(c:List AV)(off:Nat)(new:List AV):List AV:=c.take off++(new++c.drop (off+new.length))
def ll(h:AHeap)(o ad n off:Nat)(new:List AV):Option AHeap:=match h.get o with|some (.cells v m c fz el ex sh)=>if ad=v/\m<=v/\off+new.length<=n/\fz<=off/\new.all ez=true then some (h.aQ o (.cells v v (cO c off new) fz el ex sh))else none|_=>none
def jc(h:AHeap)(s:Nat):AV->Option (List AV)|.ref o ad n off=>dp h o ad n off s|.cH cells=>if s<=cells.length then some (cells.take s)else none|_=>none
def jw(P:Program)(t:TypeId):Option Bool:=match P.underlying t with|some (.struct _)|some (.array _ _)=>some true|some _=>some false|none=>none
def bB(P:Program)(t:TypeId):Option Nat:=(P.info? t).map (·.size)
def nu(P:Program)(t:TypeId):Option Nat:=(P.info? t).map (·.bytes)
def fk(P:Program)(t:TypeId):Option AV:=match P.info? t with|some i=>i.zero.map bn|none=>none
def j5(P:Program)(h:AHeap)(t:TypeId)(a:AV):Option AV:=
 match jw P t,bB P t with
 |some true,some s=>(jc h s a).map .agg
 |some false,some _=>match jc h 1 a with|some [v]=>some v|_=>none
 |_,_=>none
def qh(P:Program)(h:AHeap)(t:TypeId)(a v:AV):Option AHeap:=match bB P t,a with|some s,.ref o ad n off=>if(bm v).length=s then ll h o ad n off (bm v)else none|_,_=>none
def kN(h:AHeap)(t:TypeId)(cells:List AV):AHeap×AV:=(h.alloc (.cells 0 0 cells 0 t true false),.ref h.next 0 cells.length 0)
def apart(P:Program)(t:TypeId)(cs:List AV)(off:Nat):Option AV:=match jw P t,bB P t with|some true,some s=>some (.agg ((cs.drop off).take s))|some false,some _=>(cs.drop off).head?|_,_=>none
def jz(place:Nat->Option (Nat×Nat))(cells:List AV):List (Nat×AV)->Option (List AV)|[]=>some cells|(i,v)::rest=>match place i with|none=>none|some (off,size)=>if(bm v).length=size/\off+(bm v).length<=cells.length/\(bm v).all ez=true then jz place (cO cells off (bm v)) rest else none
def hT(z:List AV):Nat->List AV|0=>[]|n+1=>z++hT z n
inductive dJ where|val(v:AV)|skip|enter(f:FuncId)(args:List AV)|round(l:Nat)(args:List AV)|defer(d:ep)|panic(v:AV)|vw
def val(h:AHeap)(v:Option AV):Option (dJ×AHeap):=v.map λv=>(.val v,h)
def adq:AV->Option Int|.sc (.int _ n)=>some n|_=>none
def gb(x:AV):Option Nat:=match x with|.sc (.int _ n)=>if 0<=n then some n.toNat else none|_=>none
def e7:Option AV->Nat->Option Nat|none,d=>some d|some x,_=>gb x
def mf:Option Nat->Nat->Nat|some c,_=>c|none,len=>len
def yY{α β:Type}:List α->(List α->β)->β|[],k=>k []|x::xs,k=>yY xs λys=>k (x::ys)
theorem CH{α β:Type}:∀(l:List α)(k:List α->β),yY l k=k l|[],_=>rfl|x::xs,k=>by rw[yY,CH xs]
def i6(P:Program)(t:TypeId)(x:AV)(lo hi f:Option AV):Option AV:=
 match P.underlying t with
 |some (.slice e)=>
  match bB P e,x with
  |some s,.sl o ad n off sz len cap=>
   match e7 lo 0,e7 hi len,f.map gb with
   |some l,some h,none=>match cap with|some c=>if s=sz/\l<=h/\h<=c/\off+h*sz<=n then some (.sl o ad n (if c=l then off else off+l*sz) sz (h-l) (some (c-l)))else none|none=>if s=sz/\l<=h/\h<=len then(if l=0 then some (.sl o ad n off sz h none)else if l<len then some (.sl o ad n (off+l*sz) sz (h-l) none)else some .cq)else none
   |some l,some h,some (some m)=>if s=sz/\l<=h/\h<=m/\m<=mf cap len/\off+h*sz<=n/\hi.isSome then some (.sl o ad n (if m=l then off else off+l*sz) sz (h-l) (some (m-l)))else none|_,_,_=>none
  |some s,.b9 cells sz len cap=>
   match e7 lo 0,e7 hi len,f.map gb with
   |some l,some h,none=>match cap with|some c=>if s=sz/\l<=h/\h<=len/\len<=c then some (.b9 (if c=l then[]else(cells.drop (l*sz)).take ((h-l)*sz)) sz (h-l) (some (c-l)))else none|none=>if s=sz/\l<=h/\h<=len then(if l<len\/l=0 then some (.b9 ((cells.drop (l*sz)).take ((h-l)*sz)) sz (h-l) none)else some .cq)else none
   |some l,some h,some (some m)=>if s=sz/\l<=h/\h<=m/\m<=len/\hi.isSome then some (.b9 (if m=l then[]else(cells.drop (l*sz)).take ((h-l)*sz)) sz (h-l) (some (m-l)))else none|_,_,_=>none
  |some s,.aG rows sz=>match e7 lo 0,e7 hi rows.length,f with|some l,some h,none=>if s=sz/\l<=h/\h<=rows.length then some (.aG ((rows.drop l).take (h-l)) sz)else none|some l,some h,some y=>(match gb y with|some m=>if s=sz/\l<=h/\h<=m/\m<=rows.length/\hi.isSome then some (.aG ((rows.drop l).take (h-l)) sz)else none|none=>none)|_,_,_=>none
  |some _,.cq=>match e7 lo 0,e7 hi 0,f with|some 0,some 0,none=>some .cq|_,_,_=>none
  |some _,.sc (.slice none 0 0)=>match e7 lo 0,e7 hi 0,f.map gb with|some 0,some 0,none=>some (.sc (.slice none 0 0))|some 0,some 0,some (some 0)=>if hi.isSome then some (.sc (.slice none 0 0))else none|_,_,_=>none
  |_,_=>none
 |some .string=>match x,e7 lo 0,f with|.sc (.string v),some l,none=>(match e7 hi v.size with|some h=>if l<=h/\h<=v.size then yY ((v.data.toList.drop l).take (h-l)) λb=>some (.sc (.string ⟨⟨b⟩⟩))else none|none=>none)|_,_,_=>none
 |_=>none
def oh(P:Program)(t:TypeId)(x i:AV):Option AV:=
 match P.underlying t,gb i with
 |some (.slice e),some i=>match bB P e,x with|some s,.sl o ad n off sz len _=>if s=sz/\i<len then some (.ref o ad n (off+i*sz))else none|some s,.b9 cells sz len _=>if s=sz/\i<len then some (.cH (cells.drop (i*sz)))else none|some s,.aG rows sz=>if s=sz then(match rows[i]? with|some r=>some (.cH r)|none=>none)else none|_,_=>none
 |some (.array len e),some i=>match bB P e,x with|some s,.ref o ad n off=>if i<len then some (.ref o ad n (off+i*s))else none|some s,.cH cells=>if i<len then some (.cH (cells.drop (i*s)))else none|_,_=>none
 |_,_=>none
def oi(P:Program)(t:TypeId)(x:AV)(f:Nat):Option AV:=
 match P.underlying t with
 |some (.struct b)=>
  match b[f]? with
  |some fd=>match bB P fd.type,x with|some (_+1),.ref o ad n off=>some (.ref o ad n (off+fd.offset))|some (_+1),.cH cells=>some (.cH (cells.drop fd.offset))|_,_=>none
  |none=>none
 |_=>none
def sD(P:Program)(t:TypeId)(x:AV)(f:Nat):Option AV:=
 match P.underlying t,x with
 |some (.struct b),.agg cs=>match b[f]? with|some fd=>apart P fd.type cs fd.offset|none=>none
 |_,_=>none
def qi(P:Program)(t:TypeId)(x i:AV):Option AV:=
 match P.underlying t,x with
 |some (.array len e),.agg cs=>match gb i,bB P e with|some i,some s=>if i<len then apart P e cs (i*s)else none|_,_=>none
 |some .string,.sc (.string s)=>
  match gb i with
  |some i=>match s[i]? with|some b=>some (.sc (.int .u8 b.toNat))|none=>none
  |none=>none
 |_,_=>none
def sE(P:Program)(t:TypeId)(parts:List (Nat×AV)):Option AV:=
 match P.info? t,P.underlying t with
 |some it,some (.array _ e)=>match it.zero,P.info? e with|some z,some c=>(jz (λi=>some (i*c.size,c.size)) (bm (bn z)) parts).map .agg|_,_=>none
 |some it,some (.struct b)=>match it.zero,b.toList.mapM (λf=>(P.info? f.type).map λi=>(f.offset,i.size))with|some z,some places=>(jz (λi=>places[i]?) (bm (bn z)) parts).map .agg|_,_=>none
 |_,_=>none
def ui(P:Program)(h:AHeap)(t:TypeId)(len:Nat)(parts:List (Nat×AV)):Option (AV×AHeap):=
 match P.underlying t with
 |some (.slice e)=>match bB P e,fk P e with|some s,some z=>if len*s<=16777216/\(bm z).length=s then match jz (λi=>some (i*s,s)) (hT (bm z) len) parts with|some cells=>if cells.all ez then some (.sl h.next 0 cells.length 0 s len (some len),h.alloc (.cells 0 0 cells 0 e true false))else none|none=>none else none|_,_=>none
 |_=>none
def Cw(P:Program)(h:AHeap)(t:TypeId)(l c:AV):Option (AV×AHeap):=
 match P.underlying t,gb l,gb c with
 |some (.slice e),some l,some c=>match bB P e,fk P e,nu P e with|some s,some z,some b=>if l<=c/\b*c<=281474976710656/\c<9223372036854775808/\(bm z).length=s then some (.sl h.next 0 (c*s) 0 s l (some c),h.alloc (.cells 0 0 (hT (bm z) c) 0 e true false))else none|_,_,_=>none
 |_,_,_=>none
def gu(h:AHeap)(s n:Nat):AV->Option (List AV)|.sl o ad m off sz len _=>if s=sz/\n<=len then dp h o ad m off (n*s)else none|.b9 cells sz len _=>if s=sz/\n<=len/\n*s<=cells.length then some (cells.take (n*s))else none|.aG rows sz=>if s=sz/\n<=rows.length then some (rows.take n).flatten else none|.cq=>if n=0 then some []else none|.sc (.slice none 0 0)=>if n=0 then some []else none|.sc (.string b)=>if s=1/\n<=b.size then some ((b.data.toList.take n).map λb=>.sc (.int .u8 b.toNat))else none|_=>none
def ft:AV->Option Nat|.sl _ _ _ _ _ len _=>some len|.b9 _ _ len _=>some len|.aG rows _=>some rows.length|.cq=>some 0|.sc (.slice none 0 0)=>some 0|.sc (.string b)=>some b.size|_=>none
def isInt:TypeDesc->Bool|.int _=>true|_=>false
def np(P:Program)(h:AHeap)(st f:TypeId)(x y:AV):Option (AV×AHeap):=
 match P.underlying st,P.underlying f,ft y with
 |some (.slice e),some g,some n=>
  if isInt g=true then none else
  match bB P e,nu P e,fk P e with
  |some s,some b,some z=>
   if(bm z).length≠s\/s=0 then none else
   match gu h s n y with
   |none=>none
   |some new=>
    if !(new.all ez)then none else
    match x with
    |.sc (.slice none 0 0)=>if n=0 then some (x,h)else if 0<b/\n*b<=140737488355328 then some (.sl h.next 0 (n*s) 0 s n none,h.alloc (.cells 0 0 new 0 e false false))else none
    |.sl o ad m off sz len cap=>if sz≠s then none else match cap with|some c=>if len+n<=c then(if n=0 then some (x,h)else match ll h o ad m (off+len*s) new with|some h'=>some (.sl o ad m off sz (len+n) (some c),h')|none=>none)else if 0<b/\(len+n)*b<=140737488355328 then match dp h o ad m off (len*s)with|some dC=>some (.sl h.next 0 ((len+n)*s) 0 s (len+n) none,h.alloc (.cells 0 0 (dC++new) 0 e false false))|none=>none else none|none=>if n=0 then some (x,h)else match h.get o with|some (.cells v mv c fz el _ sh)=>if ad=v/\mv<=v/\off=0/\len*s<=m/\fz<=len*s/\el=e/\0<b/\(len+n)*b<=140737488355328 then some (.sl o (v+1) ((len+n)*s) 0 s (len+n) none,h.aQ o (.cells (v+1) (if len*s=c.length then mv else v+1) (c.take (len*s)++new) fz el false sh))else none|_=>none
    |.b9 cells sz len (some c)=>if sz≠s\/cells.length≠len*s then none else if n=0 then some (x,h)else if c<len+n/\0<b/\(len+n)*b<=140737488355328 then some (.sl h.next 0 ((len+n)*s) 0 s (len+n) none,h.alloc (.cells 0 0 (cells++new) 0 e false false))else none|.b9 _ _ _ none=>if n=0 then some (x,h)else none|.aG _ _=>if n=0 then some (x,h)else none|.cq=>if n=0 then some (x,h)else none|_=>none
  |_,_,_=>none
 |_,_,_=>none
def C1(P:Program)(h:AHeap)(st c:TypeId)(x y:AV):Option (AV×AHeap):=
 match P.underlying st,P.underlying c,x,y with
 |some (.slice e),some (.int _),.sc (.slice none 0 0),.sc (.int .i64 n)=>match bB P e,nu P e,fk P e with|some s,some b,some z=>if 0<n/\n<9223372036854775808/\s≠0/\(bm z).length=s/\(bm z).all ez=true/\0<b/\n.toNat*b<=140737488355328 then some (.sl h.next 0 (n.toNat*s) 0 s n.toNat none,h.alloc (.cells 0 0 (hT (bm z) n.toNat) 0 e false false))else none|_,_,_=>none
 |_,_,_,_=>none
def uD(P:Program)(h:AHeap)(st b:TypeId)(x y:AV):Option (AV×AHeap):=match np P h st b x y with|some r=>some r|none=>C1 P h st b x y
theorem P7{P:Program}{h:AHeap}{st b:TypeId}{x y:AV}{r:AV×AHeap}(e:np P h st b x y=some r):uD P h st b x y=some r:=by unfold uD;rw[e]
def EL(P:Program)(h:AHeap)(b:TypeId)(x y:AV):Option (AV×AHeap):=
 match P.underlying b,ft x,ft y with
 |some (.slice e),some dl,some n0=>
  match bB P e with
  |some s=>match gu h s (Nat.min n0 dl) y,x with|some new,.sl o ad m off sz _ _=>if sz=s/\new.length=Nat.min n0 dl*s then(ll h o ad m off new).map λh'=>(.sc (goInt (Nat.min n0 dl)),h')else none|_,_=>none
  |none=>none
 |_,_,_=>none
def sameKey:Value->Value->Option Bool|.int k a,.int c b=>if k=c then some (a==b)else none|.string a,.string b=>some (a==b)|.bool a,.bool b=>some (a==b)|_,_=>none
def hN:TypeDesc->Value->Bool|.int _,.int _ _=>true|.string,.string _=>true|.bool,.bool _=>true|_,_=>false
def oR(k:Value):List (AV×AV×Nat)->Nat->Option (Option (Nat×AV×Nat))
 |[],_=>some none
 |(.sc q,v,b)::es,i=>match sameKey k q with|some true=>some (some (i,v,b))|some false=>oR k es (i+1)|none=>none
 |_::_,_=>none
def u0(h:AHeap)(b:Value):AV->Option (Option (Nat×AV×Nat))
 |.sc (.map none)=>some none
 |.map o=>match h.get o with|some (.map es _)=>oR b es 0|_=>none
 |_=>none
def Dz(P:Program)(h:AHeap)(t:TypeId)(x k:AV)(ok:Bool):Option AV:=
 match P.underlying t,k with
 |some (.map c e),.sc b=>
  match P.underlying c,fk P e with
  |some kd,some z=>if !hN kd b then none else match u0 h b x with|some (some (_,v,_))=>some (if ok then .tuple [v,.sc (.bool true)]else v)|some none=>some (if ok then .tuple [z,.sc (.bool false)]else z)|none=>none
  |_,_=>none
 |_,_=>none
def uq(P:Program)(h:AHeap)(t:TypeId)(x k v:AV):Option AHeap:=
 match P.underlying t,k,x with
 |some (.map e _),.sc c,.map o=>
  match P.underlying e,h.get o with
  |some kd,some (.map es clock)=>if !hN kd c then none else match oR c es 0 with|some (some (i,_,b))=>some (h.aQ o (.map (es.set i (.sc c,v,b)) clock))|some none=>some (h.aQ o (.map (es++[(.sc c,v,clock)]) (clock+1)))|none=>none
  |_,_=>none
 |_,_,_=>none
def yz(P:Program)(h:AHeap)(t:TypeId)(x k:AV):Option AHeap:=
 match P.underlying t,k,x with
 |some (.map c _),.sc b,.map o=>
  match P.underlying c,h.get o with
  |some kd,some (.map es clock)=>if !hN kd b then none else match oR b es 0 with|some (some (i,_,_))=>some (h.aQ o (.map (es.eraseIdx i) clock))|some none=>some h|none=>none
  |_,_=>none
 |_,_,_=>none
def jv:TypeDesc->AV->Bool|.pointer _,.ref ..|.pointer _,.cH _=>true|.slice _,.sl ..|.slice _,.cq|.slice _,.b9 ..=>true|.slice _,.aG (_::_) _=>true|.map _ _,.map _=>true|.func _ _ _,.func ..|.func _ _ _,.e9 _=>true|.interface _,.iface ..=>true|_,_=>false
def fl:TypeDesc->AV->Bool|.pointer _,.sc (.pointer none)=>true|.slice _,.sc (.slice none _ _)=>true|.map _ _,.sc (.map none)=>true|.func _ _ _,.sc .nilFunc=>true|.interface _,.sc .nilIface=>true|_,_=>false
def iJ(P:Program)(t:TypeId)(x y:AV):Option Bool:=
 match P.underlying t with
 |some d=>if jv d x&&fl d y||jv d y&&fl d x then some false else match d,x,y with|.pointer e,.ref o v _ off,.ref o' v' _ c=>if o=o'/\v=v'/\bB P e≠some 0/\(bB P e).isSome then some (off==c)else none|.interface _,.iface a _,.iface b _=>if a≠b then some false else none|.interface _,.iface a _,.sc (.iface b _)=>if a≠b then some false else none|.interface _,.sc (.iface a _),.iface b _=>if a≠b then some false else none|_,_,_=>none
 |none=>none
def c6(P:Program)(op:BinOp)(t:TypeId)(xo yo:Operand)(x y:AV):Option AV:=match eA x,eA y with|some a,some b=>(bW P (do eqGuard op t xo yo a b;binOp op t a b)).map bn|_,_=>match op with|.eql=>(iJ P t x y).map λb=>.sc (.bool b)|.neq=>(iJ P t x y).map λb=>.sc (.bool (!b))|_=>none
def jt:List AV->Option (List UInt8)|[]=>some []|.sc (.int .u8 n)::xs=>(jt xs).map (UInt8.ofNat n.toNat::.)|_::_=>none
def mE:AV->Bool|.sl ..|.b9 ..|.aG ..|.cq=>true|.sc (.slice none 0 0)=>true|_=>false
def gP(P:Program)(h:AHeap)(src dst:TypeId)(x:AV):Option (AV×AHeap):=
 match P.underlying src,P.underlying dst with
 |some (.slice e),some .string=>
  match P.underlying e,ft x,mE x with
  |some (.int .u8),some n,true=>match gu h 1 n x with|some l=>(jt l).map λb=>(.sc (.string ⟨b.toArray⟩),h)|none=>none
  |_,_,_=>none
 |some .string,some (.slice e)=>match P.underlying e,x with|some (.int .u8),.sc (.string b)=>if b.size<=140737488355328 then some (.sl h.next 0 b.size 0 1 b.size none,h.alloc (.cells 0 0 (b.data.toList.map λb=>.sc (.int .u8 b.toNat)) 0 e false true))else none|_,_=>none
 |some (.pointer t),some .unsafePointer=>
  match x,bB P t with
  |.ref o ad n off,some (_+1)=>match dp h o ad n off 1 with|some _=>some (x,h)|none=>none
  |.sc (.pointer none),_=>some (x,h)|_,_=>none
 |some .unsafePointer,some .unsafePointer=>match x with|.ref ..=>some (x,h)|.sc (.pointer none)=>some (x,h)|_=>none
 |some .unsafePointer,some (.pointer u)=>
  match x,bB P u with
  |.ref o ad n off,some (_+1)=>match dp h o ad n off 1,h.get o with|some _,some (.cells _ _ c _ el true _)=>if liesAt P P.depth el (c.length/P.cellsOf el) off u 1 then some (x,h)else none|_,_=>none
  |.sc (.pointer none),_=>some (x,h)|_,_=>none
 |some _,some _=>match eA x with|some v=>(bW P (convert src dst v)).map λv=>(bn v,h)|none=>none
 |_,_=>none
def oD:AV->Option (TypeId×AV)|.iface t v=>some (t,v)|.sc (.iface t v)=>some (t,bn v)|_=>none
def nw(P:Program)(asserted:TypeId)(ok:Bool):Option AV:=if ok then(fk P asserted).map λz=>.tuple [z,.sc (.bool false)]else none
def uO(P:Program)(x:AV)(asserted:TypeId)(ok:Bool):Option AV:=
 match P.underlying asserted with
 |some (.interface want)=>
  match oD x with
  |some (t,_)=>
   match P.info? t with
   |some i=>match Instr.missingMethod want i.methods with|none=>some (if ok then .tuple [x,.sc (.bool true)]else x)|some _=>nw P asserted ok
   |none=>none
  |none=>match x with|.sc .nilIface=>nw P asserted ok|_=>none
 |some _=>match oD x with|some (t,v)=>if t=asserted then some (if ok then .tuple [v,.sc (.bool true)]else v)else nw P asserted ok|none=>match x with|.sc .nilIface=>nw P asserted ok|_=>none
 |none=>none
def se:List AV->Option (List Value)|[]=>some []|x::xs=>match eA x,se xs with|some v,some vs=>some (v::vs)|_,_=>none
def p8(fn:Func):Nat:=if fn.name= "internal/abi.NoEscape"/\fn.origin= ""then 1 else if fn.name= "internal/bytealg.MakeNoZero"/\fn.origin= ""then 2 else 0
def C2(P:Program)(h:AHeap)(fn:Func)(args:List AV):Option (dJ×AHeap):=
 match p8 fn,args with
 |1,[x]=>some (.val x,h)
 |2,[.sc (.int .i64 n)]=>
  match fn.resultTypes[0]? with
  |some t=>match P.underlying t with|some (.slice e)=>if 0<=n/\n<=1099511627776 then some (.val (.sl h.next 0 0 0 1 n.toNat none),h.alloc (.cells 0 0 [] 0 e false false))else none|_=>none
  |none=>none
 |_,_=>none
def jr(P:Program)(h:AHeap)(f:FuncId)(args:List AV):Option (dJ×AHeap):=
 match P.funcs[f]? with
 |none=>none
 |some fn=>
  match fn.body with
  |some _=>some (.enter f args,h)
  |none=>
   match p8 fn with
   |_+1=>C2 P h fn args
   |0=>
    match se args with
    |some vs=>match bW P (callFunc f vs.toArray)with|some (.value v)=>some (.val (bn v),h)|_=>none
    |none=>none
def yA(P:Program)(h:AHeap)(fn:Fn)(captured args:List AV):Option (dJ×AHeap):=match fn with|.func f=>jr P h f (args++captured)|_=>none
def rq(P:Program)(h:AHeap)(pt:TypeId)(p n:AV):Option (AV×AHeap):=
 match p,gb n with
 |.sc (.pointer none),some 0=>some (.sc (.string .empty),h)
 |.ref o ad m off,some (n+1)=>match P.underlying pt,h.get o with|some (.pointer u),some (.cells v e c fz el ex false)=>if ad=v/\e<=v/\el=u/\bB P u=some 1/\n+1<=9223372036854775807 then match dp h o ad m off (n+1)with|some l=>(jt l).map λb=>(.sc (.string ⟨b.toArray⟩),h.aQ o (.cells v v c (max fz (off+(n+1))) el ex false))|none=>none else none|_,_=>none
 |_,_=>none
def qG(P:Program)(h:AHeap)(t:TypeId)(x:AV):Option Nat:=
 match P.underlying t with
 |some (.slice _)=>if mE x then ft x else none
 |some .string=>match x with|.sc (.string s)=>some s.size|_=>none
 |some (.array n _)=>some n
 |some (.map _ _)=>match x with
  |.sc (.map none)=>some 0
  |.map o=>match h.get o with|some (.map es _)=>some es.length|_=>none
  |_=>none
 |_=>none
def wh(P:Program)(t:TypeId)(x:AV):Option Nat:=match P.underlying t,x with|some (.slice _),.sl _ _ _ _ _ _ (some c)=>some c|some (.slice _),.b9 _ _ _ (some c)=>some c|some (.slice _),.sc (.slice none 0 0)=>some 0|_,_=>none
def iW(P:Program)(h:AHeap)(b:Builtin)(c:Array TypeId)(ty:TypeId)(args:List AV):Option (dJ×AHeap):=
 let hv(r:Option (AV×AHeap)):Option (dJ×AHeap):=r.map λ(v,h)=>(.val v,h)
 match b,args with
 |.append,[x,y]=>match c[0]?,c[1]? with|some st,some e=>hv (uD P h st e x y)|_,_=>none
 |.copy,[x,y]=>match c[0]? with|some f=>hv (EL P h f x y)|none=>none
 |.len,[x]=>match c[0]? with|some t=>val h ((qG P h t x).map λn=>.sc (goInt n))|none=>none
 |.cap,[x]=>match c[0]? with|some t=>val h ((wh P t x).map λn=>.sc (goInt n))|none=>none
 |.delete,[m,k]=>match c[0]? with|some t=>(yz P h t m k).map λh=>(.val dZ,h)|none=>none
 |.clear,[m]=>
  match m,c[0]?.bind P.underlying with
  |.map o,some _=>match h.get o with|some (.map _ clock)=>some (.val dZ,h.aQ o (.map [] clock))|_=>none
  |_,_=>none
 |.panic,[x]=>match x with|.iface t v=>some (.panic (.iface t v),h)|.sc (.iface t v)=>some (.panic (.sc (.iface t v)),h)|_=>none
 |.recover,[]=>some (.vw,h)
 |.min,_|.max,_=>
  match se args with
  |some vs=>match bW P (builtin b c ty #[] vs.toArray)with|some (.value v)=>some (.val (bn v),h)|_=>none
  |none=>none
 |.unsafeSliceData,[x]=>match x with|.sc (.slice none 0 0)=>some (.val (.sc (.pointer none)),h)|.sl o ad n off _ len cap=>if 0<len\/0<mf cap 0 then some (.val (.ref o ad n off),h)else none|_=>none
 |.unsafeString,[p,n]=>match c[0]? with|some pt=>(rq P h pt p n).map λ(v,h)=>(.val v,h)|none=>none
 |_,_=>none
def nL:AV->Option (Fn×List AV×List AV)|.func fn a c=>some (fn,a,c)|.sc (.func fn a c)=>some (fn,a.toList.map .sc,c.toList.map .sc)|_=>none
def iB(P:Program)(h:AHeap)(ρ:Operand->AV)(c:Call)(ty:TypeId):Option (dJ×AHeap):=
 let args:=c.args.toList.map ρ
 match c.callee with|.builtin b=>iW P h b c.argTypes ty args|.invoke _ _=>none|.value f=>match ρ f with|.e9 l=>some (.round l args,h)|x=>match nL x with|some (fn,first,captured)=>yA P h fn captured (first++args)|none=>none
def u2(h:AHeap)(ρ:Operand->AV)(c:Call):Option (dJ×AHeap):=
 match c.callee with
 |.value f=>match nL (ρ f)with|some (fn,first,captured)=>some (.defer (.fn fn captured (first++c.args.toList.map ρ)),h)|none=>none
 |_=>none
def aU(P:Program)(ρ:Operand->AV)(o:Oper)(h:AHeap):Option (dJ×AHeap):=
 let hv(r:Option (AV×AHeap)):Option (dJ×AHeap):=r.map λ(v,h)=>(.val v,h)
 match o.op with
 |.move x|.assign x=>some (.val (ρ x),h)
 |.pick c a b=>match ρ c with|.sc (.bool t)=>some (.val (if t then ρ a else ρ b),h)|_=>none
 |.alloc e=>match fk P e with|some z=>if(bm z).all ez then some (.val (kN h e (bm z)).2,(kN h e (bm z)).1)else none|none=>none
 |.box e x=>if(bm (ρ x)).all ez then some (.val (kN h e (bm (ρ x))).2,(kN h e (bm (ρ x))).1)else none
 |.build t parts=>val h (sE P t (parts.toList.map λ(i,x)=>(i,ρ x)))
 |.buildSlice t len parts=>hv (ui P h t len (parts.toList.map λ(i,x)=>(i,ρ x)))
 |.load t a=>val h (j5 P h t (ρ a))
 |.store t a x=>(qh P h t (ρ a) (ρ x)).map λh=>(.skip,h)
 |.nilCheck x=>match ρ x with|.ref ..|.cH _=>some (.val (ρ x),h)|.func (.func f) a c=>some (.val (.func (.func f) a c),h)|.e9 l=>some (.val (.e9 l),h)|.sc (.func (.func f) a c)=>some (.val (.sc (.func (.func f) a c)),h)|.iface t v=>some (.val (.iface t v),h)|_=>none
 |.binOp op t x y _=>val h (c6 P op t x y (ρ x) (ρ y))
 |.unOp op _ x=>match eA (ρ x)with|some v=>val h ((bW P (Op.unary op v)).map bn)|none=>none
 |.convert s d x=>hv (gP P h s d (ρ x))
 |.makeInterface t x=>match P.underlying t with|some (.interface _)=>none|some _=>some (.val (.iface t (ρ x)),h)|none=>none
 |.makeFunc fn first captured=>some (.val (.func fn (first.toList.map ρ) (captured.toList.map ρ)),h)
 |.makeMap t r=>
  match r,P.underlying t with
  |none,_=>some (.val (.map h.next),h.alloc (.map [] 0))
  |some x,some (.map _ _)=>match ρ x with|.sc (.int _ _)=>some (.val (.map h.next),h.alloc (.map [] 0))|_=>none
  |_,_=>none
 |.makeSlice t l c=>hv (Cw P h t (ρ l) (ρ c))
 |.slice t x lo hi g=>val h (i6 P t (ρ x) (lo.map ρ) (hi.map ρ) (g.map ρ))
 |.fieldAddr s x f=>val h (oi P s (ρ x) f)
 |.field t x f=>val h (sD P t (ρ x) f)
 |.indexAddr t x i=>val h (oh P t (ρ x) (ρ i))
 |.index t x i=>val h (qi P t (ρ x) (ρ i))
 |.lookup t x i ok=>val h (Dz P h t (ρ x) (ρ i) ok)
 |.mapUpdate t m k x|.insert t m k x=>(uq P h t (ρ m) (ρ k) (ρ x)).map λh=>(.skip,h)
 |.range t x=>match P.underlying t,ρ x with
  |some .string,.sc (.string s)=>some (.val (.ref h.next 0 0 0),h.alloc (.kW s 0))
  |some (.map _ _),.sc (.map none)=>some (.val (.ref h.next 0 0 0),h.alloc (.iI none 0 [] 0))
  |some (.map _ _),.map m=>match h.get m with|some (.map _ clock)=>some (.val (.ref h.next 0 0 0),h.alloc (.iI (some m) clock [] clock))|_=>none
  |_,_=>none
 |.next it true=>match ρ it with
  |.ref o 0 0 0=>match h.get o with|some (.kW s pos)=>if pos<s.size then some (.val (.tuple [.sc (.bool true),.sc (goInt pos),.sc (.int .i32 (Utf8.decode s pos).1)]),h.aQ o (.kW s (pos+(Utf8.decode s pos).2)))else some (.val (.tuple [.sc (.bool false)]),h)|_=>none
  |_=>none
 |.next it false=>match ρ it with
  |.ref o 0 0 0=>match h.get o with
   |some (.iI none _ _ _)=>some (.val (.tuple [.sc (.bool false)]),h)
   |some (.iI (some m) since seen last)=>match h.get m with
    |some (.map es clock)=>if !seen.isEmpty&&!es.isEmpty&&es.all (λe=>decide (last<=e.2.2))then none else match es.filter (λe=>!seen.contains e.2.2)with|[]=>some (.val (.tuple [.sc (.bool false)]),h)|[e]=>if e.2.2<since then some (.val (.tuple [.sc (.bool true),e.1,e.2.1]),h.aQ o (.iI (some m) since (seen++[e.2.2]) clock))else none|_=>none
    |_=>none
   |_=>none
  |_=>none
 |.typeAssert x _ a ok=>val h (uO P (ρ x) a ok)
 |.extract t i=>match ρ t with|.tuple vs=>val h vs[i]?|_=>none
 |.call c=>iB P h ρ c o.type
 |.defer c=>u2 h ρ c
 |.panic x=>match ρ x with|.iface t v=>some (.panic (.iface t v),h)|.sc (.iface t v)=>some (.panic (.sc (.iface t v)),h)|_=>none
 |_=>none
inductive bo where|none|ret|aB(v:AV)(recovered:Bool)
inductive bM where|normal|exit(id:Nat)|ret|panic(v:AV)
structure aD where
 tm:Tr AV
 df:List ep
 cm:bo
 h:AHeap
structure Ctx where
 fn:FuncId
 tn:Nat
 kind:CallKind
 round:Option Nat
inductive cP where|ret(v:AV)|aB(v:AV)
structure Rec where call:CallKind->FuncId->List AV->bo->AHeap->Option (cP×bo×AHeap)loop:Code->Ctx->aD->Option (bM×aD)round:Nat->List AV->AHeap->Option (cP×AHeap)
def ev(tm:Tr AV):Operand->AV
 |.tmp t=>match tm.get t with|some v=>v|none=>.aO
 |.const v=>bn v|.global g=>.sc (.pointer (some ⟨g,0,none⟩))|.func f=>.sc (.func (.func f) #[] #[])
def aD.put(st:aD)(tn:Nat)(dst:Option Tmp)(v:AV):Option aD:=match dst with|some d=>if d<tn then some {st with tm:=st.tm.put d v}else none|none=>some st
def cE(ops:Array Oper)(o:Oper)(tm:Tr AV):Option Bool:=
 match o.guard with
 |none=>some true
 |some (j,want)=>
  match(ops[j]?).bind (·.dst)with
  |some d=>match tm.get d with|some (.sc (.bool b))=>some (b==want)|some (.tuple _)=>some false|_=>none
  |none=>none
inductive wi where|val(v:AV)(cm:bo)(h:AHeap)|cf(d:ep)(h:AHeap)|aB(v:AV)(h:AHeap)
def dc(P:Program)(R:Rec)(cx:Ctx)(ρ:Operand->AV)(o:Oper)(cm:bo)(h:AHeap):Option wi:=
 match aU P ρ o h with
 |some (.val v,h)=>some (.val v cm h)
 |some (.skip,h)=>some (.val dZ cm h)
 |some (.defer d,h)=>if cx.round.isSome then none else some (.cf d h)
 |some (.enter f args,h)=>match R.call .normal f args .none h with|some (.ret v,_,h)=>some (.val v cm h)|some (.aB v,_,h)=>some (.aB v h)|none=>none
 |some (.round l args,h)=>match R.round l args h with|some (.ret v,h)=>some (.val v cm h)|some (.aB v,h)=>some (.aB v h)|none=>none
 |some (.panic v,h)=>some (.aB v h)
 |some (.vw,h)=>match cx.kind,cx.round,cm with|.deferred,none,.aB v false=>some (.val v (.aB v true) h)|.deferred,none,.ret=>some (.val (.sc .nilIface) .ret h)|_,_,_=>none
 |none=>none
def eS(P:Program)(R:Rec)(cx:Ctx)(ops:Array Oper)(o:Oper)(st:aD):Option (bM×aD):=
 match cE ops o st.tm with
 |some true=>match dc P R cx (ev st.tm) o st.cm st.h with|some (.val v cm h)=>({st with cm,h}.put cx.tn o.dst v).map λst=>(.normal,st)|some (.cf d h)=>({st with h,df:=d::st.df}.put cx.tn o.dst dZ).map λst=>(.normal,st)|some (.aB v h)=>some (.panic v,{st with h})|none=>none
 |some false=>(st.put cx.tn o.dst dZ).map λst=>(.normal,st)|none=>none
def gd(P:Program)(R:Rec)(cx:Ctx)(ops:Array Oper):List Oper->aD->Option (bM×aD)|[],st=>some (.normal,st)|o::rest,st=>match eS P R cx ops o st with|some (.normal,st)=>gd P R cx ops rest st|r=>r
def a6:Op->Bool|.alloc _|.box ..|.buildSlice ..|.makeSlice ..|.makeMap ..=>true|_=>false
def bT:Op->Bool|.move _|.assign _|.pick ..|.build ..|.load ..|.nilCheck _|.binOp ..|.unOp ..|.convert ..|.makeInterface ..|.makeFunc ..|.slice ..|.fieldAddr ..|.field ..|.indexAddr ..|.index ..|.lookup ..|.typeAssert ..|.extract ..=>true|.call {callee:=.builtin b,..}=>(match b with|.len|.cap|.min|.max|.unsafeSliceData=>true|_=>false)|_=>false
def mF:AV->List Nat|.ref o _ _ _=>[o]|.sl o _ _ _ _ _ _=>[o]|.map o=>[o]|_=>[]
def tmpsOf(o:Oper):List Tmp:=o.op.operands.toList.filterMap λ|.tmp t=>some t|_=>none
def hZ:List Oper->List Nat->List Nat|[],acc=>acc|o::rest,acc=>hZ rest (acc++[o.after.foldl (λs e=>if Region.binds .any e then s|||2^e.on|||acc.getD e.on 0 else s) 0])
def ur(ops:Array Oper):Bool:=
 let l:=ops.toList
 let b:=hZ l []
 let idx:=l.zipIdx
 idx.all λ(o,i)=>
  let c:=b.getD i 0
  (o.after.all λe=>!Region.binds .any e||decide (e.on<i))&&(match o.guard with|none=>true|some (j,_)=>c.testBit j)&&(idx.all λ(q,k)=>(match q.dst with|some d=>(k==i||o.dst !=some d)&&(!(tmpsOf o).contains d||c.testBit k||(b.getD k 0).testBit i)|none=>true)&&(!(decide (k<i))||a6 o.op||bT o.op||a6 q.op||bT q.op||c.testBit k))
structure dx where es:List (Nat×List Nat)fs:List (Nat×List Nat)
def oE(b:List Nat)(k:dx):Bool:=k.fs.all λ(i,ids)=>k.es.all λ(j,wr)=>(b.getD i 0).testBit j||(b.getD j 0).testBit i||ids.all λo=>!wr.contains o
def eG(ts:List Tmp)(tm:Tr AV):Operand->AV|.tmp t=>if ts.contains t then ev tm (.tmp t)else .aO|x=>ev tm x
def fP(h:AHeap):List Nat->Tr b7|[]=>.leaf|o::os=>if o<h.next then(match h.get o with|some x=>(fP h os).put o x|none=>fP h os)else fP h os
def kD:Op->Bool|.load ..|.lookup ..|.convert ..|.call _=>true|_=>false
def dQ(o:Oper)(tm:Tr AV):List Nat:=if kD o.op then(tmpsOf o).flatMap λt=>mF (ev tm (.tmp t))else[]
def eJ(P:Program)(R:Rec)(cx:Ctx)(ops:Array Oper):List Oper->(i aL:Nat)->dx->aD->Option (dx×aD)
 |[],_,_,k,st=>some (k,st)
 |o::rest,i,aL,k,st=>
  match cE ops o st.tm with
  |some false=>match st.put cx.tn o.dst dZ with|some st=>eJ P R cx ops rest (i+1) (if a6 o.op then aL+1 else aL) k st|none=>none
  |some true=>if a6 o.op then
   match aU P (eG (tmpsOf o) st.tm) o {ck:=.leaf,next:=aL,floor:=0,wr:=[]}with
   |some (.val v,h)=>match h.get aL with|some x=>if h.next=aL+1 then match{st with h:={st.h with ck:=st.h.ck.put aL x}}.put cx.tn o.dst v with|some st=>eJ P R cx ops rest (i+1) (aL+1) k st|none=>none else none|none=>none
   |_=>none else if bT o.op then match aU P (eG (tmpsOf o) st.tm) o {st.h with ck:=fP st.h (dQ o st.tm)}with|some (.val v,h')=>if h'.next=st.h.next then match st.put cx.tn o.dst v with|some ah=>eJ P R cx ops rest (i+1) aL {k with fs:=(i,dQ o st.tm)::k.fs} ah|none=>none else none|_=>none else
    match dc P R cx (eG (tmpsOf o) st.tm) o .none st.h.inner with
    |some (.val v _ h)=>match{st with h:=st.h.outer h}.put cx.tn o.dst v with|some ah=>eJ P R cx ops rest (i+1) aL {k with es:=(i,h.wr)::k.es} ah|none=>none
    |_=>none
  |none=>none
def gf:List Oper->Nat|[]=>0|o::rest=>if a6 o.op then gf rest+1 else gf rest
def sY(h:AHeap):Nat->Nat->Bool|0,_=>true|n+1,o=>(h.get o).isNone&&sY h n (o+1)
def vx(tn:Nat):Option Tmp->Bool|some d=>decide (d<tn)|none=>true
def sf(tn:Nat)(b:List Nat)(i:Nat):List Oper->Nat->Bool|[],_=>true|q::qs,k=>(b.getD k 0).testBit i&&vx tn q.dst&&sf tn b i qs (k+1)
def ff(P:Program)(R:Rec)(cx:Ctx)(ops:Array Oper)(b:List Nat):List Oper->(i:Nat)->aD->Option (bM×aD)
 |[],_,_=>none
 |o::rest,i,st=>
  match cE ops o st.tm with
  |some false=>if a6 o.op||bT o.op then match st.put cx.tn o.dst dZ with|some st=>ff P R cx ops b rest (i+1) st|none=>none else none
  |some true=>if a6 o.op then none else if bT o.op then match aU P (eG (tmpsOf o) st.tm) o {st.h with ck:=fP st.h (dQ o st.tm)}with|some (.val v,h')=>if h'.next=st.h.next then match st.put cx.tn o.dst v with|some ah=>ff P R cx ops b rest (i+1) ah|none=>none else none|_=>none else match dc P R cx (eG (tmpsOf o) st.tm) o .none st.h.inner with|some (.aB v h)=>if sf cx.tn b i rest (i+1)&&vx cx.tn o.dst then some (.panic v,{st with tm:=.leaf,h:=st.h.outer h})else none|_=>none
  |none=>none
def ot(P:Program)(R:Rec)(cx:Ctx)(ops:Array Oper)(st:aD):Option (bM×aD):=if ur ops&&sY st.h (gf ops.toList) st.h.next then match eJ P R cx ops ops.toList 0 st.h.next {es:=[],fs:=[]} {st with h:={st.h with next:=st.h.next+gf ops.toList}}with|some (k,st)=>if oE (hZ ops.toList []) k then some (.normal,st)else none|none=>ff P R cx ops (hZ ops.toList []) ops.toList 0 {st with h:={st.h with next:=st.h.next+gf ops.toList}}else none
def evalCode(P:Program)(R:Rec)(cx:Ctx):Code->aD->Option (bM×aD)
 |.skip,st=>some (.normal,st)
 |.label _,st=>some (.normal,st)
 |.region _ ops draw,st=>if draw then ot P R cx ops st else gd P R cx ops ops.toList st
 |.seq a b,st=>match evalCode P R cx a st with|some (.normal,st)=>evalCode P R cx b st|r=>r
 |.cond c a b,st=>match ev st.tm c with|.sc (.bool true)=>evalCode P R cx a st|.sc (.bool false)=>evalCode P R cx b st|_=>none
 |.block id body,st=>match evalCode P R cx body st with|some (.exit e,ah)=>if e=id then some (.normal,ah)else some (.exit e,ah)|r=>r
 |.loop body,st=>R.loop body cx st
 |.exit id,st=>some (.exit id,st)
 |.scope body,st=>evalCode P R cx body st
 |.goto _,_=>none
 |.ret,st=>some (.ret,st)
 |.refuse _,_=>none
 |.rangeFunc f params assign body,st=>
  match cx.round with
  |some _=>none
  |none=>
   let d:=st.h.next
   let l:=d+1
   let h:=(st.h.alloc (.cf (some []))).alloc (.loop .ready none cx.fn cx.tn st.tm params.toList assign body d)
   match nL (ev st.tm f)with
   |some (.func g,first,captured)=>
    match jr P h g (first++[.e9 l]++captured)with
    |some (.enter g args,h)=>
     match R.call .normal g args .none h with
     |some (.ret _,_,h)=>
      match h.get l with
      |some (.loop s iC fn tn tm ps a b dd)=>
       if s==.busy then none else
       let st:={st with h:=h.aQ l (.loop .exhausted iC fn tn tm ps a b dd),df:=.dK d::st.df}
       match iC with|none=>some (.normal,st)|some (.exit id)=>some (.exit id,st)|some .ret=>some (.ret,st)|some _=>none
      |_=>none
     |some (.aB v,_,h)=>some (.panic v,{st with h,df:=.dK d::st.df})|none=>none
    |_=>none
   |_=>none
def jU(P:Program)(fn:Func)(tm:Tr AV)(h:AHeap):List ResultVar->Option (List AV)
 |[]=>some []
 |.tmp t::rs=>match jU P fn tm h rs with|some vs=>some (ev tm (.tmp t)::vs)|none=>none
 |.cell a t::rs=>match j5 P h t (ev tm (.tmp a)),jU P fn tm h rs with|some v,some vs=>some (v::vs)|_,_=>none
def lH(P:Program)(fn:Func)(tm:Tr AV)(h:AHeap):Option AV:=match jU P fn tm h fn.results.toList with|some [v]=>some v|some vs=>some (.tuple vs)|none=>none
def ct(P:Program)(R:Rec)(fn:Func)(tm:Tr AV):List ep->bo->AHeap->Option (cP×AHeap)
 |[],.ret,h=>(lH P fn tm h).map λv=>(.ret v,h)
 |[],.aB v false,h=>some (.aB v,h)
 |[],_,_=>none
 |.dK d::ds,m,h=>match h.get d with|some (.cf (some []))=>ct P R fn tm ds m (h.aQ d (.cf none))|_=>none
 |.fn (.func f) captured args::ds,m,h=>
  match jr P h f (args++captured)with
  |some (.enter c b,h)=>match R.call .deferred c b m h with|some (.ret _,.aB _ true,h)=>ct P R fn tm ds .ret h|some (.ret _,.aB v false,h)=>ct P R fn tm ds (.aB v false) h|some (.ret _,.ret,h)=>ct P R fn tm ds .ret h|_=>none
  |_=>none
 |_,_,_=>none
mutual
def eQ:AV->Bool|.sc _|.aO=>true|.ref ..|.sl ..|.map _|.e9 _=>false|.cq=>true|.cH cs=>ej cs|.b9 cs _ _ _=>ej cs|.aG _ _=>true|.func _ a c=>ej a&&ej c|.iface _ v=>eQ v|.agg cs=>ej cs|.tuple vs=>ej vs
def ej:List AV->Bool|[]=>true|x::xs=>eQ x&&ej xs
end
def hO:List AV->Nat->Tr AV->Tr AV|[],_,t=>t|x::xs,i,t=>hO xs (i+1) (t.put i x)
def S6:cP->Bool|.ret v=>eQ v|.aB v=>eQ v
def sj(kind:CallKind)(h:AHeap)(cm:bo)(r:Option (cP×AHeap)):Option (cP×bo×AHeap):=match r with|some (o,h')=>if kind=.normal/\h'.wr.isEmpty=true/\S6 o=true then some (o,cm,h)else some (o,cm,h.outer h')|none=>none
def pX(P:Program)(R:Rec)(kind:CallKind)(f:FuncId)(args:List AV)(cm:bo)(h:AHeap):Option (cP×bo×AHeap):=
 match P.funcs[f]? with
 |some fn=>
  match fn.body with
  |some code=>match evalCode P R {fn:=f,tn:=max fn.ntmps args.length,kind,round:=none} code {tm:=hO args 0 .leaf,df:=[],cm,h:=h.inner}with|some (.normal,st)=>sj kind h st.cm (ct P R fn st.tm st.df .ret st.h)|some (.ret,st)=>sj kind h st.cm (ct P R fn st.tm st.df .ret st.h)|some (.panic v,st)=>sj kind h st.cm (ct P R fn st.tm st.df (.aB v false) st.h)|_=>none
  |none=>none
 |none=>none
def lX(tn:Nat):List Tmp->List AV->Tr AV->Option (Tr AV)|[],[],t=>some t|p::ps,x::xs,t=>if p<tn then lX tn ps xs (t.put p x)else none|_,_,_=>none
def rK(l:Nat)(jump:Option Code)(h:AHeap):Option (cP×AHeap):=match h.get l with|some (.loop _ _ fn tn tm ps assign body dd)=>some (.ret (.sc (.bool jump.isNone)),h.aQ l (.loop (if jump.isNone then .ready else .done) jump fn tn tm ps assign body dd))|_=>none
def pW(P:Program)(R:Rec)(l:Nat)(args:List AV)(h:AHeap):Option (cP×AHeap):=
 match h.get l with
 |some (.loop _ _ fn tn tm ps assign body _)=>
  match lX tn ps args tm with
  |none=>none
  |some bL=>
   let cx:Ctx:={fn,tn,kind:=.normal,round:=some l}
   match evalCode P R cx assign {tm:=bL,df:=[],cm:=.none,h}with
   |some (.normal,st)=>
    match st.h.get l with
    |some (.loop .ready p g e bL f b c i)=>
     match evalCode P R cx body {st with h:=st.h.aQ l (.loop .busy p g e bL f b c i)}with
     |some (.normal,st)=>rK l none st.h
     |some (.ret,st)=>rK l (some .ret) st.h
     |some (.exit id,st)=>rK l (some (.exit id)) st.h
     |some (.panic v,st)=>match st.df,P.funcs[fn]? with|[],some _=>some (.aB v,st.h)|_,_=>none
     |none=>none
    |_=>none
   |_=>none
 |_=>none
def nf(P:Program)(R:Rec)(body:Code)(cx:Ctx)(st:aD):Option (bM×aD):=match evalCode P R cx body st with|some (.normal,st)=>R.loop body cx st|r=>r
def Rec.zero:Rec:={call:=λ_ _ _ _ _=>none,loop:=λ_ _ _=>none,round:=λ_ _ _=>none}
def Rec.succ(P:Program)(R:Rec):Rec:={call:=pX P R,loop:=nf P R,round:=pW P R}
def E8(P:Program):Nat->Rec|0=>Rec.zero|n+1=>Rec.succ P (E8 P n)
def h0:AHeap:={ck:=.leaf,next:=0,floor:=0,wr:=[]}
end Go.AI
end

section
namespace Go.AI
structure Gh where B:Nat->Nat->Option (Nat×Nat×Nat)M:Nat->Nat->Option Value
structure Gh.Le(g g':Gh):Prop where
 b:∀o v x,g.B o v=some x->g'.B o v=some x
 m:∀b i v,g.M b i=some v->g'.M b i=some v
theorem Gh.Le.refl(g:Gh):g.Le g:=⟨λ_ _ _ h=>h,λ_ _ _ h=>h⟩
theorem Gh.Le.trans{a b c:Gh}(h:a.Le b)(h':b.Le c):a.Le c:=⟨λo v x e=>h'.b o v x (h.b o v x e),λo v x e=>h'.m o v x (h.m o v x e)⟩
inductive VR(g:Gh):AV->Value->Prop where|aO(v:Value):VR g .aO v|sc(v:Value):VR g (.sc v) v|ref{o ad n off b s:Nat}:g.B o ad=some (b,s,n)->VR g (.ref o ad n off) (.pointer (some ⟨b,off,none⟩))|sl{o ad n off sz len b s c:Nat}{cap:Option Nat}:g.B o ad=some (b,s,n)->off+c*sz<=s->len<=c->(∀k,cap=some k->c=k)->VR g (.sl o ad n off sz len cap) (.slice (some ⟨b,off,none⟩) len c)|cq(a:Addr)(c:Nat):VR g .cq (.slice (some a) 0 c)|cH{cells:List AV}{b off:Nat}(f:Nat->Value):(∀(i:Nat)(x:AV),cells[i]?=some x->g.M b (off+i)=some (f i))->(∀(i:Nat)(x:AV),cells[i]?=some x->VR g x (f i))->VR g (.cH cells) (.pointer (some ⟨b,off,none⟩))|b9{cells:List AV}{sz len b off c:Nat}{cap:Option Nat}(f:Nat->Value):(∀(i:Nat)(x:AV),cells[i]?=some x->g.M b (off+i)=some (f i))->(∀(i:Nat)(x:AV),cells[i]?=some x->VR g x (f i))->cells.length=len*sz->len<=c->(∀k,cap=some k->c=k)->VR g (.b9 cells sz len cap) (.slice (some ⟨b,off,none⟩) len c)|hU{sz:Nat}:VR g (.aG [] sz) (.slice none 0 0)|h9{sz:Nat}(a:Addr):VR g (.aG [] sz) (.slice (some a) 0 0)|aG{rows:List (List AV)}{sz b off c:Nat}:(∀r,r∈rows->r.length=sz)->ej rows.flatten=true->VR g (.b9 rows.flatten sz rows.length (some c)) (.slice (some ⟨b,off,none⟩) rows.length c)->VR g (.aG rows sz) (.slice (some ⟨b,off,none⟩) rows.length c)|map{o b s n:Nat}:g.B o 0=some (b,s,n)->VR g (.map o) (.map (some b))|func{fn:Fn}{a c:List AV}{a' c':Array Value}:a.length=a'.size->(∀(i:Nat)(x:AV)(v:Value),a[i]?=some x->a'[i]?=some v->VR g x v)->c.length=c'.size->(∀(i:Nat)(x:AV)(v:Value),c[i]?=some x->c'[i]?=some v->VR g x v)->VR g (.func fn a c) (.func fn a' c')|e9{o b s n:Nat}:g.B o 0=some (b,s,n)->VR g (.e9 o) (.func (.yield b) #[] #[])|iface{t:TypeId}{x:AV}{v:Value}:VR g x v->VR g (.iface t x) (.iface t v)|agg{a:List AV}{a':Array Value}:a.length=a'.size->(∀(i:Nat)(x:AV)(v:Value),a[i]?=some x->a'[i]?=some v->VR g x v)->VR g (.agg a) (.agg a')|tuple{a:List AV}{a':Array Value}:a.length=a'.size->(∀(i:Nat)(x:AV)(v:Value),a[i]?=some x->a'[i]?=some v->VR g x v)->VR g (.tuple a) (.tuple a')
theorem rU{sz:Nat}:∀{rows:List (List AV)},(∀r,r∈rows->r.length=sz)->rows.flatten.length=rows.length*sz|[],_=>by simp|r::rows,h=>by have h1:=h r (by simp);have h2:=rU (rows:=rows) λq b=>h q (by simp[b]);simp only[List.flatten_cons,List.length_append,aN,h1,h2,Nat.add_mul];omega
theorem HN{sz:Nat}:∀{rows:List (List AV)}(l:Nat),(∀r,r∈rows->r.length=sz)->(rows.drop l).flatten=rows.flatten.drop (l*sz)
 |rows,0,_=>by simp
 |[],l+1,_=>by simp
 |r::rows,l+1,h=>by
  have h1:=h r (by simp)
  have h2:=HN (rows:=rows) l λq b=>h q (by simp[b])
  have e:(l+1)*sz=r.length+l*sz:=by rw[h1,Nat.add_mul];omega
  rw[List.drop_succ_cons,h2,List.flatten_cons,e,List.drop_append];simp
theorem CI{sz:Nat}:∀{rows:List (List AV)}(l:Nat),(∀r,r∈rows->r.length=sz)->(rows.take l).flatten=rows.flatten.take (l*sz)
 |rows,0,_=>by simp
 |[],l+1,_=>by simp
 |r::rows,l+1,h=>by
  have h1:=h r (by simp)
  have h2:=CI (rows:=rows) l λq b=>h q (by simp[b])
  have e:(l+1)*sz=r.length+l*sz:=by rw[h1,Nat.add_mul];omega
  rw[List.take_succ_cons,List.flatten_cons,h2,List.flatten_cons,e,List.take_append];simp[List.take_of_length_le]
theorem C4{sz:Nat}{rows:List (List AV)}(l k:Nat)(h:∀r,r∈rows->r.length=sz):((rows.drop l).take k).flatten=(rows.flatten.drop (l*sz)).take (k*sz):=by rw[CI k λr hr=>h r (List.mem_of_mem_drop hr),HN l h]
theorem R3{sz:Nat}{rows:List (List AV)}{i:Nat}{r:List AV}(h:∀r,r∈rows->r.length=sz)(hi:rows[i]?=some r):(rows.flatten.drop (i*sz)).take sz=r:=by
 have e:=C4 i 1 h
 rw[Nat.one_mul]at e
 have b:i<rows.length:=by
  rcases Nat.lt_or_ge i rows.length with a|a
  .exact a
  .rw[List.getElem?_eq_none a]at hi;cases hi
 have:(rows.drop i).take 1=[r]:=by rw[List.drop_eq_getElem_cons b];simp only[List.take_succ_cons,List.take_zero];rw[List.getElem?_eq_getElem b]at hi;simpa using hi
 rw[<-e,this];simp
theorem GR{sz:Nat}{rows:List (List AV)}{i j:Nat}{r:List AV}{x:AV}(h:∀r,r∈rows->r.length=sz)(hi:rows[i]?=some r)(hx:r[j]?=some x):rows.flatten[i*sz+j]?=some x:=by
 rw[<-R3 h hi]at hx
 rw[List.getElem?_take]at hx
 split at hx
 .rwa[List.getElem?_drop]at hx
 .cases hx
theorem O8:∀{xs ys:List AV},ej xs=true->ej ys=true->ej (xs++ys)=true|[],_,_,h=>h|x::xs,ys,h,h'=>by simp[ej]at h⊢;exact⟨h.1,O8 h.2 h'⟩
theorem xp:∀{xs:List AV},ej xs=true↔∀x,x∈xs->eQ x=true|[]=>by simp[ej]|y::ys=>by simp[ej,xp (xs:=ys)]
theorem GU{xs ys:List AV}(h:ej xs=true)(hs:∀y,y∈ys->y∈xs):ej ys=true:=xp.2 λy hy=>xp.1 h y (hs y hy)
theorem VR.mono{g g':Gh}(hl:g.Le g'){x:AV}{v:Value}(h:VR g x v):VR g' x v:=by induction h with|aO v=>exact .aO v|sc v=>exact .sc v|ref h=>exact .ref (hl.b _ _ _ h)|sl h a b c=>exact .sl (hl.b _ _ _ h) a b c|cq a c=>exact .cq a c|cH f h _ ih=>exact .cH f (λi x e=>hl.m _ _ _ (h i x e)) ih|b9 f h _ a b c ih=>exact .b9 f (λi x e=>hl.m _ _ _ (h i x e)) ih a b c|hU=>exact .hU|h9 a=>exact .h9 a|aG h h' _ ih=>exact .aG h h' ih|map h=>exact .map (hl.b _ _ _ h)|func h1 _ h2 _ k j=>exact .func h1 k h2 j|e9 h=>exact .e9 (hl.b _ _ _ h)|iface _ ih=>exact .iface ih|agg h _ ih=>exact .agg h ih|tuple h _ ih=>exact .tuple h ih
def aE(g:Gh):List AV->List Value->Prop|[],[]=>True|x::xs,v::vs=>VR g x v/\aE g xs vs|_,_=>False
theorem aE.mono{g g':Gh}(hl:g.Le g'):∀{xs:List AV}{vs:List Value},aE g xs vs->aE g' xs vs|[],[],_=>trivial|_::_,_::_,h=>⟨h.1.mono hl,aE.mono hl h.2⟩|[],_::_,h=>h.elim|_::_,[],h=>h.elim
theorem aE.length{g:Gh}:∀{xs:List AV}{vs:List Value},aE g xs vs->xs.length=vs.length|[],[],_=>rfl|_::_,_::_,h=>by simp[aE.length h.2]|[],_::_,h=>h.elim|_::_,[],h=>h.elim
theorem aE.get{g:Gh}:∀{xs:List AV}{vs:List Value},aE g xs vs->∀(i:Nat)(x:AV)(v:Value),xs[i]?=some x->vs[i]?=some v->VR g x v|[],[],_,i,x,v,h,_=>by simp at h|x::xs,v::vs,h,0,x',v',h1,h2=>by simp at h1 h2;subst h1;subst h2;exact h.1|x::xs,v::vs,h,i+1,x',v',h1,h2=>by simp at h1 h2;exact aE.get h.2 i x' v' h1 h2|[],_::_,h,_,_,_,_,_=>h.elim|_::_,[],h,_,_,_,_,_=>h.elim
theorem aE.of{g:Gh}:∀{xs:List AV}{vs:List Value},xs.length=vs.length->(∀(i:Nat)(x:AV)(v:Value),xs[i]?=some x->vs[i]?=some v->VR g x v)->aE g xs vs|[],[],_,_=>trivial|x::xs,v::vs,hl,h=>⟨h 0 x v (by simp) (by simp),aE.of (by simpa using hl) (λi x v h1 h2=>h (i+1) x v (by simpa using h1) (by simpa using h2))⟩|[],_::_,hl,_=>by simp at hl|_::_,[],hl,_=>by simp at hl
theorem aE.append{g:Gh}:∀{xs ys:List AV}{vs us:List Value},aE g xs vs->aE g ys us->aE g (xs++ys) (vs++us)|[],_,[],_,_,h=>h|_::_,_,_::_,_,h,h'=>⟨h.1,aE.append h.2 h'⟩|[],_,_::_,_,h,_=>h.elim|_::_,_,[],_,h,_=>h.elim
theorem aE.take{g:Gh}:∀{xs:List AV}{vs:List Value}(n:Nat),aE g xs vs->aE g (xs.take n) (vs.take n)|_,_,0,_=>by simp[aE]|[],[],n+1,_=>by simp[aE]|_::_,_::_,n+1,h=>by simpa using⟨h.1,aE.take n h.2⟩|[],_::_,_+1,h=>h.elim|_::_,[],_+1,h=>h.elim
theorem aE.drop{g:Gh}:∀{xs:List AV}{vs:List Value}(n:Nat),aE g xs vs->aE g (xs.drop n) (vs.drop n)|xs,vs,0,h=>by simpa using h|[],[],n+1,_=>by simp[aE]|_::_,_::_,n+1,h=>by simpa using aE.drop n h.2|[],_::_,_+1,h=>h.elim|_::_,[],_+1,h=>h.elim
theorem aE.tS{g:Gh}:∀(vs:List Value),aE g (vs.map .sc) vs|[]=>trivial|v::vs=>⟨.sc v,aE.tS vs⟩
theorem aE.map{g:Gh}{α:Type}(f:α->AV)(b:α->Value)(h:∀a,VR g (f a) (b a)):∀(l:List α),aE g (l.map f) (l.map b)|[]=>trivial|a::l=>⟨h a,aE.map f b h l⟩
theorem VR.lq{g:Gh}{a:List AV}{v:Value}:VR g (.agg a) v↔∃cs:Array Value,v=.agg cs/\aE g a cs.toList:=by
 constructor
 .intro h;cases h with|agg hl h=>exact⟨_,rfl,aE.of (by simpa using hl) (λi x v h1 h2=>h i x v h1 (by simpa using h2))⟩
 .rintro⟨cs,rfl,h⟩;exact .agg (by simpa using h.length) (λi x v h1 h2=>h.get i x v h1 (by simpa using h2))
theorem VR.fZ{g:Gh}{a:List AV}{v:Value}:VR g (.tuple a) v↔∃cs:Array Value,v=.tuple cs/\aE g a cs.toList:=by
 constructor
 .intro h;cases h with|tuple hl h=>exact⟨_,rfl,aE.of (by simpa using hl) (λi x v h1 h2=>h i x v h1 (by simpa using h2))⟩
 .rintro⟨cs,rfl,h⟩;exact .tuple (by simpa using h.length) (λi x v h1 h2=>h.get i x v h1 (by simpa using h2))
theorem VR.uI{g:Gh}{fn:Fn}{a c:List AV}{v:Value}:VR g (.func fn a c) v↔∃a' c':Array Value,v=.func fn a' c'/\aE g a a'.toList/\aE g c c'.toList:=by
 constructor
 .intro h;cases h with|func h1 h2 h3 h4=>exact⟨_,_,rfl,aE.of (by simpa using h1) (λi x v e b=>h2 i x v e (by simpa using b)),aE.of (by simpa using h3) (λi x v e b=>h4 i x v e (by simpa using b))⟩
 .rintro⟨a',c',rfl,h,h'⟩;exact .func (by simpa using h.length) (λi x v e b=>h.get i x v e (by simpa using b)) (by simpa using h'.length) (λi x v e b=>h'.get i x v e (by simpa using b))
theorem VR.bn{g:Gh}(v:Value):VR g (bn v) v:=by cases v with|agg cs=>exact VR.lq.2 ⟨cs,rfl,aE.tS _⟩|tuple cs=>exact VR.fZ.2 ⟨cs,rfl,aE.tS _⟩|_=>exact .sc _
theorem HO{g:Gh}{x:AV}{u v:Value}(h:e6 x=some u)(hr:VR g x v):v=u:=by
 unfold e6 at h
 split at h
 .cases hr;simpa using h
 .cases hr with|iface hr=>cases hr;simpa using h
 .cases h
theorem CJ{g:Gh}:∀{xs:List AV}{us vs:List Value},oC xs=some us->aE g xs vs->vs=us
 |[],us,[],h,_=>by simpa[oC]using h
 |x::xs,us,v::vs,h,hr=>by
  simp only[oC]at h
  split at h
  .rename_i a az h1 h2;simp only[ab]at h;rw[<-h,HO h1 hr.1,CJ h2 hr.2]
  .cases h|[],_,_::_,_,hr=>hr.elim|_::_,_,[],_,hr=>hr.elim
theorem pZ{g:Gh}{x:AV}{u v:Value}(h:eA x=some u)(hr:VR g x v):v=u:=by
 unfold eA at h
 split at h
 .obtain⟨cs,rfl,hc⟩:=VR.lq.1 hr;cases b:oC _ with|none=>rw[b]at h;cases h|some l=>rw[b]at h;have:=CJ b hc;simp at h;rw[<-h,<-this]
 .obtain⟨cs,rfl,hc⟩:=VR.fZ.1 hr;cases b:oC _ with|none=>rw[b]at h;cases h|some l=>rw[b]at h;have:=CJ b hc;simp at h;rw[<-h,<-this]
 .exact HO h hr
theorem rG{g:Gh}:∀{xs:List AV}{us vs:List Value},se xs=some us->aE g xs vs->vs=us
 |[],us,[],h,_=>by simpa[se]using h
 |x::xs,us,v::vs,h,hr=>by
  simp only[se]at h
  split at h
  .rename_i a az h1 h2;simp only[ab]at h;rw[<-h,pZ h1 hr.1,rG h2 hr.2]
  .cases h|[],_,_::_,_,hr=>hr.elim|_::_,_,[],_,hr=>hr.elim
theorem l3{α:Type}{P:Program}:∀{s:Sem α}{a:α},bW P s=some a->∀w,s.run P w=.ok a w|.pure a,b,h,w=>by simp[bW]at h;simp[Sem.run,h]|.program k,b,h,w=>by simp only[bW]at h;simp only[Sem.run];exact l3 h w|.mark m k,b,h,w=>by simp only[bW]at h;simp only[Sem.run];exact l3 h w|.load _ _ _,b,h,w=>by simp[bW]at h|.store _ _ _ _,b,h,w=>by simp[bW]at h|.new _ _,b,h,w=>by simp[bW]at h|.shape _ _,b,h,w=>by simp[bW]at h|.freeze _ _ _,b,h,w=>by simp[bW]at h|.frozen _ _,b,h,w=>by simp[bW]at h|.getObj _ _,b,h,w=>by simp[bW]at h|.setObj _ _ _,b,h,w=>by simp[bW]at h|.choose _ _,b,h,w=>by simp[bW]at h|.sys _ _,b,h,w=>by simp[bW]at h|.halt _,b,h,w=>by simp[bW]at h
end Go.AI
end

section
namespace Go.AI
def Bk(b:Nat):Option (Array Value->Prop):=match b with|0=>some λcs=>∃m,cs[0]?=some (.int .i64 m)|3=>some λcs=>∃v,cs[0]?=some v/\(v=.nilIface\/∃t p,v=.iface t p)|4=>some λcs=>∃v,cs[0]?=some v/\(v=.nilIface\/∃t p,v=.iface t p)|5=>some λcs=>cs=(Lib.pow10Tab.map λz=>Value.int .u64 z).toArray|_=>none
def rV(w:World)(b:Nat)(p:Array Value->Prop):Prop:=∃cs x y,w.heap[b]?=some (.cells cs x y)/\0<cs.size/\p cs
def te(w:World):Prop:=∀b p,Bk b=some p->rV w b p
end Go.AI
end

section
namespace Go.AI
def TR(g:Gh)(tm:Tr AV)(tmps:Array Value):Prop:=∀t x,tm.get t=some x->∃v,tmps[t]?=some v/\VR g x v
theorem TR.mono{g g':Gh}(hl:g.Le g'){tm:Tr AV}{tmps:Array Value}(h:TR g tm tmps):TR g' tm tmps:=λt x e=>let⟨v,a,b⟩:=h t x e;⟨v,a,b.mono hl⟩
def cR(g:Gh):List (AV×AV×Nat)->List MapEntry->Prop|[],[]=>True|(k,v,b)::es,e::c=>VR g k e.key/\VR g v e.val/\e.born=b/\cR g es c|_,_=>False
theorem cR.mono{g g':Gh}(hl:g.Le g'):∀{es:List (AV×AV×Nat)}{b:List MapEntry},cR g es b->cR g' es b|[],[],_=>trivial|(_,_,_)::_,_::_,h=>⟨h.1.mono hl,h.2.1.mono hl,h.2.2.1,cR.mono hl h.2.2.2⟩|[],_::_,h=>h.elim|(_,_,_)::_,[],h=>h.elim
structure J8(g:Gh)(w:World)(b s n:Nat)(content:List AV)(fz:Nat)(el:TypeId)(ex sh:Bool)(c:Array Value)(f:Nat×Nat):Prop where
 here:w.heap[b]?=some (.cells c el f)
 size:c.size=s
 le:n<=content.length
 lQ:n<=s
 exact:ex=true->s=content.length
 free:∀i,i<s->f.1<=i->i<f.2->i<fz
 plain:sh=false->f.1=f.2\/f.2<=fz
 cell:∀i x,i<n->content[i]?=some x->∃v,c[i]?=some v/\VR g x v
def OR(g:Gh)(w:World)(o:Nat):b7->Prop|.cells ad AK c fz el ex sh=>(∀v,ad<v->g.B o v=none)/\∀v,AK<=v->v<=ad->∀b s n,g.B o v=some (b,s,n)->(v=ad->n=c.length)/\∃cs f,J8 g w b s n c fz el ex sh cs f|.map es clock=>∀b s n,g.B o 0=some (b,s,n)->∃e:Array MapEntry,w.heap[b]?=some (.map e clock)/\cR g es e.toList|.kW s pos=>∀b k n,g.B o 0=some (b,k,n)->w.heap[b]?=some (.stringIter s pos)|.iI m since seen last=>∀b k n,g.B o 0=some (b,k,n)->∃h,w.heap[b]?=some (.mapIter h since seen.toArray last)/\(match m with|none=>h=none|some o'=>∃b' s' n',g.B o' 0=some (b',s',n')/\h=some b')|.loop st iC fn tn tm ps assign body dd=>∀b s n,g.B o 0=some (b,s,n)->∃tmps i s' n',w.heap[b]?=some (.loop {state:=st,pending:=iC,fn,tmps,params:=ps.toArray,assign,body,defers:=i})/\tmps.size=tn/\TR g tm tmps/\g.B dd 0=some (i,s',n')|.cf ds=>∀b s n,g.B o 0=some (b,s,n)->match ds with|some []=>w.heap[b]?=some (.deferred (some []))|none=>w.heap[b]?=some (.deferred none)|_=>False
theorem OR.move{g g':Gh}{w w':World}{o:Nat}{x:b7}(hl:g.Le g')(hb:∀v y,g'.B o v=some y->g.B o v=some y)
 (hw:∀v b s n,g.B o v=some (b,s,n)->w'.heap[b]?=w.heap[b]?)(h:OR g w o x):OR g' w' o x:=by
 cases x with
 |cells ad AK c fz el ex sh=>
  refine⟨λv hv=>?_,?_⟩
  .cases e:g'.B o v with|none=>rfl|some y=>have:=hb _ _ e;rw[h.1 v hv]at this;cases this
  intro v h1 h2 b s n e;have j:=hb _ _ e;obtain⟨hn,cs,f,hc⟩:=h.2 v h1 h2 b s n j;exact⟨hn,cs,f,⟨(hw _ _ _ _ j).trans hc.here,hc.size,hc.le,hc.lQ,hc.exact,hc.free,hc.plain,λi x hi hx=>let⟨v,a,b⟩:=hc.cell i x hi hx;⟨v,a,b.mono hl⟩⟩⟩
 |map es clock=>intro b s n e;have j:=hb _ _ e;obtain⟨p,h1,h2⟩:=h b s n j;exact⟨p,(hw _ _ _ _ j).trans h1,h2.mono hl⟩
 |kW s pos=>intro b k n e;have j:=hb _ _ e;exact(hw _ _ _ _ j).trans (h b k n j)
 |iI m since seen last=>intro b k n e;have j:=hb _ _ e;obtain⟨q,h1,h2⟩:=h b k n j;refine⟨q,(hw _ _ _ _ j).trans h1,?_⟩;cases m with|none=>exact h2|some o'=>obtain⟨b',s',n',h3,h4⟩:=h2;exact⟨b',s',n',hl.b _ _ _ h3,h4⟩
 |loop st iC fn tn tm ps assign body dd=>intro b s n e;have j:=hb _ _ e;obtain⟨tmps,t,s',n',h1,h2,h3,h4⟩:=h b s n j;exact⟨tmps,t,s',n',(hw _ _ _ _ j).trans h1,h2,h3.mono hl,hl.b _ _ _ h4⟩|cf ds=>intro b s n e;have j:=hb _ _ e;have:=h b s n j;cases ds with|none=>exact(hw _ _ _ _ j).trans this|some l=>cases l with|nil=>exact(hw _ _ _ _ j).trans this|cons _ _=>exact this.elim
structure W(h:AHeap)(g:Gh)(w:World):Prop where
 obj:∀o x,h.get o=some x->OR g w o x
 dG:∀o v b s n,g.B o v=some (b,s,n)->b<w.heap.size
 inj:∀o v o' v' b s n s' n',g.B o v=some (b,s,n)->g.B o' v'=some (b,s',n')->o=o'
 ro:∀b i v,g.M b i=some v->w.cell? ⟨b,i,none⟩=some v/\b<w.heap.size
 gG:∀b i u,g.M b i=some u->∀o v s n,g.B o v≠some (b,s,n)gl:∀b p,Bk b=some p->rV w b p/\∃u,g.M b 0=some u
theorem W.oK{h:AHeap}{g g':Gh}{w w':World}(hw:W h g w)(hold:∀b u,g.M b 0=some u->w'.heap[b]?=w.heap[b]?)(hm:∀b i v,g.M b i=some v->g'.M b i=some v):
 ∀b p,Bk b=some p->rV w' b p/\∃u,g'.M b 0=some u:=λb p e=>
 let⟨⟨cs,x,y,h1,h2⟩,u,c⟩:=hw.gl b p e
 ⟨⟨cs,x,y,(hold b u c).trans h1,h2⟩,u,hm b 0 u c⟩
def eC(h:AHeap)(g:Gh):Prop:=∀o,h.next<=o->∀v,g.B o v=none
structure Step(h:AHeap)(g:Gh)(w:World)(h':AHeap)(g':Gh)(w':World):Prop where
 le:g.Le g'
 bI:h.next<=h'.next
 n9:h'.floor=h.floor
 wr:∀o,o∈h.wr->o∈h'.wr
 cb:∀o,o<h.floor->o<h.next->o∉h'.wr->h'.get o=h.get o
 ph:∀o,o<h.next->(∀v,g.B o v=none)->h'.get o=h.get o
 gone:∀o,o<h.next->h.get o=none->h'.get o=none
 je:∀o v x,g'.B o v=some x->g.B o v=some x\/(h.next<=o/\o<h'.next)\/(h.get o≠none/\∃v',g.B o v'≠none)
 size:w.heap.size<=w'.heap.size
 dC:∀o v b s n,g'.B o v=some (b,s,n)->b<w.heap.size->∃v' s' n',g.B o v'=some (b,s',n')
 fr:∀b,b<w.heap.size->(∀o v s n,g.B o v=some (b,s,n)->(o<h.floor/\o∉h'.wr)\/h.get o=none)->w'.heap[b]?=w.heap[b]?
 tape:w'.tape=w.tape
 os:w'.os=w.os
 out:w'.output=w.output
 gz:∀b i v,g'.M b i=some v->g.M b i=some v\/w.heap.size<=b:=by exactλ_ _ _ h=>Or.inl h
theorem Step.refl(h:AHeap)(g:Gh)(w:World):Step h g w h g w where
 le:=.refl g
 bI:=ak _
 n9:=rfl
 wr:=λ_ h=>h
 cb:=λ_ _ _ _=>rfl
 ph:=λ_ _ _=>rfl
 gone:=λ_ _ h=>h
 je:=λ_ _ _ h=>.inl h
 size:=ak _
 dC:=λ_ v b s n h _=>⟨v,s,n,h⟩
 fr:=λ_ _ _=>rfl
 tape:=rfl
 os:=rfl
 out:=rfl
theorem Step.trans{h h' k:AHeap}{g g' l:Gh}{w w' j:World}(hf:eC h g)(a:Step h g w h' g' w')(b:Step h' g' w' k l j):Step h g w k l j where
 le:=a.le.trans b.le
 bI:=Nat.le_trans a.bI b.bI
 n9:=b.n9.trans a.n9
 wr:=λo ho=>b.wr o (a.wr o ho)
 cb:=λo h1 h2 h3=>by rw[b.cb o (a.n9▸h1) (Nat.lt_of_lt_of_le h2 a.bI) h3];exact a.cb o h1 h2 λh4=>h3 (b.wr o h4)
 ph:=λo h1 h2=>by
  have:∀v,g'.B o v=none:=by
   intro v
   cases hv:g'.B o v with
   |none=>rfl
   |some x=>
    rcases a.je o v x hv with h3|⟨h3,_⟩|⟨_,v',h3⟩
    .rw[h2]at h3;cases h3
    .omega
    .exact absurd (h2 v') h3
  rw[b.ph o (Nat.lt_of_lt_of_le h1 a.bI) this];exact a.ph o h1 h2
 gone:=λo h1 h2=>b.gone o (Nat.lt_of_lt_of_le h1 a.bI) (a.gone o h1 h2)
 je:=λo v x hx=>by
  rcases b.je o v x hx with h1|⟨h1,h2⟩|⟨h1,v',h2⟩
  .rcases a.je o v x h1 with h3|⟨h3,h4⟩|h3
   .exact .inl h3
   .exact .inr (.inl ⟨h3,Nat.lt_of_lt_of_le h4 b.bI⟩)
   .exact .inr (.inr h3)
  .exact .inr (.inl ⟨Nat.le_trans a.bI h1,h2⟩)
  .cases hv:g'.B o v' with
   |none=>exact absurd hv h2
   |some y=>
    rcases a.je o v' y hv with h3|⟨h3,h4⟩|h3
    .by_cases c:o<h.next
     .refine .inr (.inr ⟨λf=>h1 (a.gone o c f),v',by rw[h3];simp⟩)
     .have:=hf o (Nat.le_of_not_lt c) v';rw[this]at h3;cases h3
    .exact .inr (.inl ⟨h3,Nat.lt_of_lt_of_le h4 b.bI⟩)
    .exact .inr (.inr h3)
 size:=Nat.le_trans a.size b.size
 dC:=λo v e s n h1 h2=>by obtain⟨v',s',n',h3⟩:=b.dC o v e s n h1 (Nat.lt_of_lt_of_le h2 a.size);exact a.dC o v' e s' n' h3 h2
 fr:=λe h1 h2=>by
  rw[b.fr e (Nat.lt_of_lt_of_le h1 a.size) ?_]
  .refine a.fr e h1 λo v s n h3=>?_
   rcases h2 o v s n h3 with⟨h4,f⟩|h4
   .exact .inl ⟨h4,λm=>f (b.wr o m)⟩
   .exact .inr h4
  .intro o v s n h3
   obtain⟨v',s',n',h4⟩:=a.dC o v e s n h3 h1
   rcases h2 o v' s' n' h4 with⟨f,m⟩|f
   .exact .inl ⟨a.n9▸f,m⟩
   .by_cases c:o<h.next
    .exact .inr (a.gone o c f)
    .have:=hf o (Nat.le_of_not_lt c) v';rw[this]at h4;cases h4
 tape:=b.tape.trans a.tape
 os:=b.os.trans a.os
 out:=b.out.trans a.out
 gz:=λe i v hm=>by
  rcases b.gz e i v hm with h1|h1
  .exact a.gz e i v h1
  .exact .inr (Nat.le_trans a.size h1)
theorem eC.step{h h':AHeap}{g g':Gh}{w w':World}(hf:eC h g)(a:Step h g w h' g' w'):eC h' g':=by
 intro o ho v
 cases hv:g'.B o v with
 |none=>rfl
 |some x=>
  rcases a.je o v x hv with h1|⟨_,h1⟩|⟨_,v',h1⟩
  .rw[hf o (Nat.le_trans a.bI ho) v]at h1;cases h1
  .omega
  .exact absurd (hf o (Nat.le_trans a.bI ho) v') h1
theorem W.same{h:AHeap}{g:Gh}{w w':World}(hw:W h g w)(hs:w.heap.size<=w'.heap.size)(hb:∀b,b<w.heap.size->w'.heap[b]?=w.heap[b]?):W h g w' where
 obj:=λo x hx=>(hw.obj o x hx).move (.refl g) (λ_ _ e=>e) (λv b s n e=>hb b (hw.dG o v b s n e))
 dG:=λo v b s n e=>Nat.lt_of_lt_of_le (hw.dG o v b s n e) hs
 inj:=hw.inj
 ro:=λb i v e=>by obtain⟨h1,h2⟩:=hw.ro b i v e;refine⟨?_,Nat.lt_of_lt_of_le h2 hs⟩;rw[<-h1];unfold World.cell?;simp only[hb b h2]
 gG:=hw.gG
 gl:=hw.oK (λb u e=>hb b (hw.ro b 0 u e).2) (λ_ _ _ e=>e)
def ady(w:World)(n:Nat):World:={w with drawn:=n}
theorem W.drew{h:AHeap}{g:Gh}{w:World}(hw:W h g w)(n:Nat):W h g {w with drawn:=n}:=hw.same (ak _) λ_ _=>rfl
theorem Step.drew(h:AHeap)(g:Gh)(w:World)(n:Nat):Step h g w h g {w with drawn:=n}:={Step.refl h g w with size:=ak _,fr:=λ_ _ _=>rfl,tape:=rfl,os:=rfl,out:=rfl,gz:=λ_ _ _ h=>Or.inl h}
end Go.AI
end

section
namespace Go.AI
def Gh.er(g:Gh)(o v:Nat)(x:Nat×Nat×Nat):Gh:={B:=λo' v'=>if o'=o/\v'=v then some x else g.B o' v',M:=g.M}
theorem Gh.l7{g:Gh}{o v:Nat}{x:Nat×Nat×Nat}(h:g.B o v=none):g.Le (g.er o v x)where
 b:=λo' v' y e=>by
  unfold Gh.er;dsimp only
  split
  .rename_i hc;rw[hc.1,hc.2,h]at e;cases e
  .exact e
 m:=λ_ _ _ e=>e
theorem Gh.iy(g:Gh)(o v:Nat)(x:Nat×Nat×Nat):(g.er o v x).B o v=some x:=by simp[Gh.er]
theorem Gh.ei{g:Gh}{o v o' v':Nat}{x y:Nat×Nat×Nat}(h:(g.er o v x).B o' v'=some y):(o'=o/\v'=v/\y=x)\/g.B o' v'=some y:=by
 unfold Gh.er at h;dsimp only at h
 split at h
 .rename_i hc;exact .inl ⟨hc.1,hc.2,by simpa using h.symm⟩
 .exact .inr h
abbrev gx(w:World)(ob:Obj):World:=w.alloc ob
def cS(w:World)(b:Nat)(ob:Obj):World:={w with heap:=w.heap.setIfInBounds b ob}
theorem CK{w:World}{ob:Obj}{b:Nat}(h:b<w.heap.size):(gx w ob).heap[b]?=w.heap[b]?:=by show(w.heap.push ob)[b]?=_;rw[Array.getElem?_push,if_neg (Nat.ne_of_lt h)]
theorem lg(w:World)(ob:Obj):(gx w ob).heap[w.heap.size]?=some ob:=by show(w.heap.push ob)[w.heap.size]?=_;rw[Array.getElem?_push,if_pos rfl]
theorem xI(w:World)(ob:Obj):(gx w ob).heap.size=w.heap.size+1:=by simp[gx]
theorem Cz{w:World}{ob:Obj}{b b':Nat}(h:b'≠b):(cS w b ob).heap[b']?=w.heap[b']?:=by simp[cS,Array.getElem?_setIfInBounds_ne (Ne.symm h)]
theorem iV{w:World}{ob:Obj}{b:Nat}(h:b<w.heap.size):(cS w b ob).heap[b]?=some ob:=by simp[cS,h]
theorem HP(w:World)(b:Nat)(ob:Obj):(cS w b ob).heap.size=w.heap.size:=by simp[cS]
theorem AHeap.xO(h:AHeap)(x:b7)(o:Nat):(h.alloc x).get o=if o=h.next then some x else h.get o:=Tr.p7 _ _ _ _
theorem AHeap.kA(h:AHeap)(p:Nat)(x:b7)(o:Nat):(h.aQ p x).get o=if o=p then some x else h.get o:=Tr.p7 _ _ _ _
theorem xP{l:List Nat}{floor o p:Nat}(h:o∈l):o∈lC l floor p:=by
 unfold lC;split
 .split
  .exact h
  .exact List.mem_cons_of_mem _ h
 .exact h
theorem rp{l:List Nat}{floor o:Nat}(h:o<floor):o∈lC l floor o:=by
 unfold lC;rw[if_pos h];split
 .rename_i hc;simpa using hc
 .exact List.mem_cons_self ..
theorem p0{h:AHeap}{g:Gh}{w w':World}{x:b7}{ob:Obj}{s n:Nat}(hw:W h g w)(hf:∀v,g.B h.next v=none)
 (c:w'=gx w ob)
 (ho:OR (g.er h.next 0 (w.heap.size,s,n)) w' h.next x):
 W (h.alloc x) (g.er h.next 0 (w.heap.size,s,n)) w'/\Step h g w (h.alloc x) (g.er h.next 0 (w.heap.size,s,n)) w':=by
 have f:g.Le (g.er h.next 0 (w.heap.size,s,n)):=Gh.l7 (hf 0)
 have hold:∀b,b<w.heap.size->w'.heap[b]?=w.heap[b]?:=λb hb=>by rw[c];exact CK hb
 have p:w'.heap.size=w.heap.size+1:=by rw[c];exact xI _ _
 refine⟨⟨?_,?_,?_,?_,?_,hw.oK (λb' u e=>hold b' (hw.ro b' 0 u e).2) (λ_ _ _ e=>e)⟩,⟨f,?_,rfl,λ_ h=>h,?_,?_,?_,?_,by omega,?_,λb hb _=>hold b hb,by rw[c];rfl,by rw[c];rfl,by rw[c];rfl,λ_ _ _ h=>Or.inl h⟩⟩
 .intro o y hy
  rw[AHeap.xO]at hy
  split at hy
  .rename_i e;subst e;simp at hy;subst hy;exact ho
  .rename_i e
   refine(hw.obj o y hy).move f ?_ ?_
   .intro v z hz
    rcases Gh.ei hz with⟨D,_⟩|hz
    .exact absurd D e
    .exact hz
   .intro v b s n hb;exact hold b (hw.dG o v b s n hb)
 .intro o v b s' n' hb
  rcases Gh.ei hb with⟨_,_,e⟩|hb
  .simp at e;omega
  .have:=hw.dG o v b s' n' hb;omega
 .intro o v o' v' b m n1 l n2 h1 h2
  rcases Gh.ei h1 with⟨C,_,k⟩|h1<;>rcases Gh.ei h2 with⟨t,_,j⟩|h2
  .rw[C,t]
  .simp at k;have:=hw.dG o' v' b l n2 h2;omega
  .simp at j;have:=hw.dG o v b m n1 h1;omega
  .exact hw.inj o v o' v' b m n1 l n2 h1 h2
 .intro b i v hm;obtain⟨h1,h2⟩:=hw.ro b i v hm;refine⟨?_,by omega⟩;rw[<-h1];unfold World.cell?;simp only[hold b h2]
 .intro b i u hm o v s' n' hb
  rcases Gh.ei hb with⟨_,_,e⟩|hb
  .have:=(hw.ro b i u hm).2;simp at e;omega
  .exact hw.gG b i u hm o v s' n' hb
 .simp[AHeap.alloc]
 .intro o _ h2 _;rw[AHeap.xO,if_neg (by omega)]
 .intro o h1 _;rw[AHeap.xO,if_neg (by omega)]
 .intro o h1 h2;rw[AHeap.xO,if_neg (by omega)];exact h2
 .intro o v y hy
  rcases Gh.ei hy with⟨e,_,_⟩|hy
  .exact .inr (.inl ⟨by omega,by simp[AHeap.alloc];omega⟩)
  .exact .inl hy
 .intro o v b s' n' hb q
  rcases Gh.ei hb with⟨_,_,e⟩|hb
  .simp at e;omega
  .exact⟨v,s',n',hb⟩
theorem kE{h:AHeap}{g:Gh}{w w':World}{o v b s n:Nat}{x x':b7}{ob:Obj}(hw:W h g w)(hx:h.get o=some x)
 (hb:g.B o v=some (b,s,n))(c:w'=cS w b ob)(ho:OR g w' o x'):W (h.aQ o x') g w'/\Step h g w (h.aQ o x') g w':=by
 have hold:∀b',b'≠b->w'.heap[b']?=w.heap[b']?:=λb' f=>by rw[c];exact Cz f
 have j:w'.heap.size=w.heap.size:=by rw[c];exact HP _ _ _
 refine⟨⟨?_,?_,hw.inj,?_,hw.gG,hw.oK (λb' u e=>hold b' (λk=>hw.gG b' 0 u e o v s n (k▸hb))) (λ_ _ _ e=>e)⟩,⟨.refl g,ak _,rfl,λ_ h=>xP h,?_,?_,?_,λ_ _ _ h=>.inl h,by omega,λo v b s n h _=>⟨v,s,n,h⟩,?_,by rw[c];rfl,by rw[c];rfl,by rw[c];rfl,λ_ _ _ h=>Or.inl h⟩⟩
 .intro o' y hy
  rw[AHeap.kA]at hy
  split at hy
  .rename_i e;subst e;simp at hy;subst hy;exact ho
  .rename_i e;refine(hw.obj o' y hy).move (.refl g) (λ_ _ h=>h) ?_;intro v' b' s' n' f;exact hold b' λk=>e (by subst k;exact hw.inj o' v' o v b' s' n' s n f hb)
 .intro o' v' b' s' n' f;rw[j];exact hw.dG o' v' b' s' n' f
 .intro b' i u hm;obtain⟨h1,h2⟩:=hw.ro b' i u hm;refine⟨?_,by omega⟩;rw[<-h1];unfold World.cell?;simp only[hold b' (λe=>hw.gG b' i u hm o v s n (e▸hb))]
 .intro o' h1 _ h2;rw[AHeap.kA,if_neg];intro e;subst e;exact h2 (rp h1)
 .intro o' _ h1;rw[AHeap.kA,if_neg];intro e;subst e;rw[h1 v]at hb;cases hb
 .intro o' _ h1
  rw[AHeap.kA,if_neg]
  .exact h1
  .intro e;subst e;rw[hx]at h1;cases h1
 .intro b' _ h1
  by_cases e:b'=b
  .subst e
   rcases h1 o v s n hb with⟨h2,h3⟩|h2
   .exact absurd (rp h2) h3
   .rw[hx]at h2;cases h2
  .exact hold b' e
theorem QZ{h:AHeap}{g:Gh}{w w':World}{o k nv b0 F n0 s n:Nat}{x x':b7}{ob:Obj}(hw:W h g w)(hx:h.get o=some x)
 (hb:g.B o k=some (b0,F,n0))(hn:g.B o nv=none)(f:w'=gx w ob)
 (ho:OR (g.er o nv (w.heap.size,s,n)) w' o x'):
 W (h.aQ o x') (g.er o nv (w.heap.size,s,n)) w'/\Step h g w (h.aQ o x') (g.er o nv (w.heap.size,s,n)) w':=by
 have j:g.Le (g.er o nv (w.heap.size,s,n)):=Gh.l7 hn
 have hold:∀b,b<w.heap.size->w'.heap[b]?=w.heap[b]?:=λb hb=>by rw[f];exact CK hb
 have G:w'.heap.size=w.heap.size+1:=by rw[f];exact xI _ _
 refine⟨⟨?_,?_,?_,?_,?_,hw.oK (λb' u e=>hold b' (hw.ro b' 0 u e).2) (λ_ _ _ e=>e)⟩,⟨j,ak _,rfl,λ_ h=>xP h,?_,?_,?_,?_,by omega,?_,λb hb _=>hold b hb,by rw[f];rfl,by rw[f];rfl,by rw[f];rfl,λ_ _ _ h=>Or.inl h⟩⟩
 .intro o' y hy
  rw[AHeap.kA]at hy
  split at hy
  .rename_i e;subst e;simp at hy;subst hy;exact ho
  .rename_i e
   refine(hw.obj o' y hy).move j ?_ ?_
   .intro v z hz
    rcases Gh.ei hz with⟨L,_⟩|hz
    .exact absurd L e
    .exact hz
   .intro v b s n hb;exact hold b (hw.dG o' v b s n hb)
 .intro o' v b s' n' c
  rcases Gh.ei c with⟨_,_,e⟩|c
  .simp at e;omega
  .have:=hw.dG o' v b s' n' c;omega
 .intro E q D p b C n1 t n2 h1 h2
  rcases Gh.ei h1 with⟨K,_,m⟩|h1<;>rcases Gh.ei h2 with⟨J,_,l⟩|h2
  .rw[K,J]
  .simp at m;have:=hw.dG D p b t n2 h2;omega
  .simp at l;have:=hw.dG E q b C n1 h1;omega
  .exact hw.inj E q D p b C n1 t n2 h1 h2
 .intro b i v hm;obtain⟨h1,h2⟩:=hw.ro b i v hm;refine⟨?_,by omega⟩;rw[<-h1];unfold World.cell?;simp only[hold b h2]
 .intro b i u hm o' v s' n' c
  rcases Gh.ei c with⟨_,_,e⟩|c
  .have:=(hw.ro b i u hm).2;simp at e;omega
  .exact hw.gG b i u hm o' v s' n' c
 .intro o' h1 _ h2;rw[AHeap.kA,if_neg];intro e;subst e;exact h2 (rp h1)
 .intro o' _ h1;rw[AHeap.kA,if_neg];intro e;subst e;rw[h1 k]at hb;cases hb
 .intro o' _ h1
  rw[AHeap.kA,if_neg]
  .exact h1
  .intro e;subst e;rw[hx]at h1;cases h1
 .intro o' v y hy
  rcases Gh.ei hy with⟨e,_,_⟩|hy
  .subst e;exact .inr (.inr ⟨by rw[hx];simp,k,by rw[hb];simp⟩)
  .exact .inl hy
 .intro o' v b s' n' c I
  rcases Gh.ei c with⟨_,_,e⟩|c
  .simp at e;omega
  .exact⟨v,s',n',c⟩
theorem Qp{h:AHeap}{g:Gh}{w w':World}{o f nv b k n0 s n:Nat}{x x':b7}{ob:Obj}(hw:W h g w)(hx:h.get o=some x)
 (hb:g.B o f=some (b,k,n0))(hn:g.B o nv=none)(j:w'=cS w b ob)
 (ho:OR (g.er o nv (b,s,n)) w' o x'):
 W (h.aQ o x') (g.er o nv (b,s,n)) w'/\Step h g w (h.aQ o x') (g.er o nv (b,s,n)) w':=by
 have l:g.Le (g.er o nv (b,s,n)):=Gh.l7 hn
 have hold:∀b',b'≠b->w'.heap[b']?=w.heap[b']?:=λb' c=>by rw[j];exact Cz c
 have C:w'.heap.size=w.heap.size:=by rw[j];exact HP _ _ _
 refine⟨⟨?_,?_,?_,?_,?_,hw.oK (λb' u e=>hold b' (λq=>hw.gG b' 0 u e o f k n0 (q▸hb))) (λ_ _ _ e=>e)⟩,⟨l,ak _,rfl,λ_ h=>xP h,?_,?_,?_,?_,by omega,?_,?_,by rw[j];rfl,by rw[j];rfl,by rw[j];rfl,λ_ _ _ h=>Or.inl h⟩⟩
 .intro o' y hy
  rw[AHeap.kA]at hy
  split at hy
  .rename_i e;subst e;simp at hy;subst hy;exact ho
  .rename_i e
   refine(hw.obj o' y hy).move l ?_ ?_
   .intro v z hz
    rcases Gh.ei hz with⟨q,_⟩|hz
    .exact absurd q e
    .exact hz
   .intro v' b' s' n' c;exact hold b' λq=>e (by subst q;exact hw.inj o' v' o f b' s' n' k n0 c hb)
 .intro o' v b' s' n' c
  rw[C]
  rcases Gh.ei c with⟨_,_,e⟩|c
  .simp at e;rw[e.1];exact hw.dG o f b k n0 hb
  .exact hw.dG o' v b' s' n' c
 .intro J E I D b' G n1 F n2 h1 h2
  rcases Gh.ei h1 with⟨t,_,p⟩|h1<;>rcases Gh.ei h2 with⟨K,_,m⟩|h2
  .rw[t,K]
  .simp at p;rw[p.1]at h2;rw[t];exact hw.inj o f I D b k n0 F n2 hb h2
  .simp at m;rw[m.1]at h1;rw[K];exact hw.inj J E o f b G n1 k n0 h1 hb
  .exact hw.inj J E I D b' G n1 F n2 h1 h2
 .intro b' i u hm;obtain⟨h1,h2⟩:=hw.ro b' i u hm;refine⟨?_,by omega⟩;rw[<-h1];unfold World.cell?;simp only[hold b' (λe=>hw.gG b' i u hm o f k n0 (e▸hb))]
 .intro b' i u hm o' v s' n' c
  rcases Gh.ei c with⟨_,_,e⟩|c
  .simp at e;rw[e.1]at hm;exact hw.gG b i u hm o f k n0 hb
  .exact hw.gG b' i u hm o' v s' n' c
 .intro o' h1 _ h2;rw[AHeap.kA,if_neg];intro e;subst e;exact h2 (rp h1)
 .intro o' _ h1;rw[AHeap.kA,if_neg];intro e;subst e;rw[h1 f]at hb;cases hb
 .intro o' _ h1
  rw[AHeap.kA,if_neg]
  .exact h1
  .intro e;subst e;rw[hx]at h1;cases h1
 .intro o' v y hy
  rcases Gh.ei hy with⟨e,_,_⟩|hy
  .subst e;exact .inr (.inr ⟨by rw[hx];simp,f,by rw[hb];simp⟩)
  .exact .inl hy
 .intro o' v b' s' n' c _
  rcases Gh.ei c with⟨t,_,e⟩|c
  .simp at e;subst t;rw[e.1];exact⟨f,k,n0,hb⟩
  .exact⟨v,s',n',c⟩
 .intro b' _ h1
  by_cases e:b'=b
  .subst e
   rcases h1 o f k n0 hb with⟨h2,h3⟩|h2
   .exact absurd (rp h2) h3
   .rw[hx]at h2;cases h2
  .exact hold b' e
end Go.AI
end

section
namespace Go.AI
theorem cell_of{w:World}{b i:Nat}{c:Array Value}{el:TypeId}{f:Nat×Nat}(h:w.heap[b]?=some (.cells c el f)):w.cell? ⟨b,i,none⟩=c[i]?:=by unfold World.cell?;simp[h]
theorem Q0{w:World}{b i:Nat}{c:Array Value}{el:TypeId}{f:Nat×Nat}(h:w.heap[b]?=some (.cells c el f)):w.frozen? ⟨b,i,none⟩=(decide (f.1<=i)&&decide (i<f.2)):=by unfold World.frozen?;simp[h]
theorem ua{α:Type}(l:List α)(a s i:Nat)(hi:i<s):((l.drop a).take s)[i]?=l[a+i]?:=by rw[List.getElem?_take,if_pos hi,List.getElem?_drop]
theorem pR{h:AHeap}{g:Gh}{w:World}{o ad n off s b sz:Nat}{cs:List AV}(hw:W h g w)(hr:dp h o ad n off s=some cs)
 (hb:g.B o ad=some (b,sz,n)):∃vs:List Value,aE g cs vs/\vs.length=s/\(∀(j:Nat)(v:Value),vs[j]?=some v->w.cell? ⟨b,off+j,none⟩=some v)/\off+s<=n/\n<=sz:=by
 unfold dp at hr
 split at hr
 .rename_i v m c fz el ex sh hx
  split at hr
  .rename_i hc
   obtain⟨h1,h2,h3⟩:=hc
   simp only[ab]at hr
   subst hr
   obtain⟨_,ca,f,hk⟩:=(hw.obj o _ hx).2 ad h1 h2 b sz n hb
   refine⟨(ca.toList.drop off).take s,?_,?_,?_,h3,hk.lQ⟩
   .refine aE.of ?_ ?_
    .simp only[List.length_take,List.length_drop,Array.length_toList];have:=hk.le;have:=hk.lQ;have:=hk.size;omega
    .intro i x v' e k
     by_cases hi:i<s
     .rw[ua _ _ _ _ hi]at e k;obtain⟨u,l,hr⟩:=hk.cell (off+i) x (by omega) e;rw[Array.getElem?_toList,l]at k;simp at k;subst k;exact hr
     .rw[List.getElem?_take,if_neg hi]at e;cases e
   .simp only[List.length_take,List.length_drop,Array.length_toList];have:=hk.lQ;have:=hk.size;omega
   .intro j u l
    by_cases hi:j<s
    .rw[ua _ _ _ _ hi,Array.getElem?_toList]at l;rw[cell_of hk.here];exact l
    .rw[List.getElem?_take,if_neg hi]at l;cases l
  .cases hr
 .cases hr
theorem sq{h:AHeap}{g:Gh}{w:World}{s:Nat}{x:AV}{v:Value}{cs:List AV}(hw:W h g w)(hr:jc h s x=some cs)(hx:VR g x v):
 ∃a:Addr,v=.pointer (some a)/\a.spot=none/\∃vs:List Value,aE g cs vs/\vs.length=s/\(∀(j:Nat)(u:Value),vs[j]?=some u->w.cell? ⟨a.block,a.off+j,none⟩=some u):=by
 unfold jc at hr
 split at hr
 .cases hx with|ref hb=>obtain⟨vs,h1,h2,h3,_⟩:=pR hw hr hb;exact⟨_,rfl,rfl,vs,h1,h2,h3⟩
 .rename_i cells
  split at hr
  .rename_i hs
   simp only[ab]at hr
   subst hr
   cases hx with
   |cH f h1 h2=>
    rename_i b off
    refine⟨_,rfl,rfl,(List.range s).map f,?_,by simp,?_⟩
    .refine aE.of (by simp[Nat.min_eq_left hs]) ?_
     intro i x v hx hv
     by_cases hi:i<s
     .rw[List.getElem?_take,if_pos hi]at hx;simp[hi]at hv;rw[<-hv];exact h2 i x hx
     .rw[List.getElem?_take,if_neg hi]at hx;cases hx
    .intro j u c
     by_cases hj:j<s
     .simp[hj]at c
      have e:j<cells.length:=by omega
      have:=h1 j cells[j] (by simp[e]);rw[<-c];exact(hw.ro _ _ _ this).1
     .simp[hj]at c
  .cases hr
 .cases hr
theorem add_eq(a:Addr)(n:Nat)(h:a.spot=none):a.add n=⟨a.block,a.off+n,none⟩:=by
 cases a with
 |mk b o s=>
  simp at h;subst h
  unfold Addr.add
  split
  .rename_i e;simp[e]
  .rfl
section
variable {P:Program}
theorem xQ{t:TypeId}{b:Bool}(h:jw P t=some b)(w:World):(isAgg t).run P w=.ok b w:=by unfold jw at h;unfold isAgg;cases c:P.underlying t with|none=>rw[c]at h;cases h|some d=>rw[c]at h;simp only[Sem.run_bind,run_underlying c,Result.andThen_ok];cases d<;>simp_all
theorem run_typeInfo{t:TypeId}{i:TypeInfo}(h:P.info? t=some i)(w:World):(typeInfo t).run P w=.ok i w:=by unfold typeInfo;simp[h]
theorem run_sizeOf{t:TypeId}{s:Nat}(h:bB P t=some s)(w:World):(sizeOf t).run P w=.ok s w:=by unfold bB at h;cases hi:P.info? t with|none=>rw[hi]at h;cases h|some i=>rw[hi]at h;simp at h;unfold sizeOf;simp only[Sem.run_bind,run_typeInfo hi,Result.andThen_ok,Sem.run_pure,h]
theorem Hc{t:TypeId}{s:Nat}(h:nu P t=some s):∃i,P.info? t=some i/\i.bytes=s:=by unfold nu at h;cases hi:P.info? t with|none=>rw[hi]at h;cases h|some i=>rw[hi]at h;simp at h;exact⟨i,rfl,h⟩
theorem xq{t:TypeId}{z:AV}(h:fk P t=some z)(w:World):∃v,(zeroValue t).run P w=.ok v w/\z=bn v:=by unfold fk at h;cases hi:P.info? t with|none=>rw[hi]at h;cases h|some i=>rw[hi]at h;cases hz:i.zero with|none=>simp[hz]at h|some v=>simp[hz]at h;refine⟨v,?_,h.symm⟩;unfold zeroValue;simp only[Sem.run_bind,run_typeInfo hi,Result.andThen_ok,hz,Sem.run_pure]
theorem C5{h:AHeap}{g:Gh}{w:World}{t:TypeId}{x y:AV}{v:Value}(hw:W h g w)(hr:j5 P h t x=some y)(hx:VR g x v):
 ∃u,(Instr.loadAt t v).run P w=.ok u w/\VR g y u:=by
 unfold j5 at hr
 split at hr
 .rename_i s ha hs
  cases b:jc h s x with
  |none=>rw[b]at hr;cases hr
  |some cs=>
   rw[b]at hr;simp at hr;subst hr
   obtain⟨a,rfl,c,vs,h1,h2,h3⟩:=sq hw b hx
   have hl:(loadCells a s).run P w=.ok vs.toArray w:=by rw[<-h2];exact run_loadCells_list w a vs (λj v hv=>by rw[add_eq a j c];exact h3 j v hv)
   refine⟨.agg vs.toArray,?_,VR.lq.2 ⟨_,rfl,by simpa using h1⟩⟩;unfold Instr.loadAt Instr.sureAddr loadVar;simp only[Sem.run_bind,Sem.run_pure,Result.andThen_ok,xQ ha,if_true,run_sizeOf hs,hl]
 .rename_i s ha hs
  split at hr
  .rename_i f b
   simp only[ab]at hr;subst hr
   obtain⟨a,rfl,c,vs,h1,h2,h3⟩:=sq hw b hx
   match vs,h1,h2,h3 with
   |[u],h1,_,h3=>
    refine⟨u,?_,h1.1⟩
    have:=h3 0 u (by simp)
    have e:a=⟨a.block,a.off+0,none⟩:=by cases a;simp at c;simp[c]
    unfold Instr.loadAt Instr.sureAddr loadVar;simp only[Sem.run_bind,Sem.run_pure,Result.andThen_ok,xQ ha,Bool.false_eq_true,if_false,run_load];rw[e,this]
  .cases hr
 .cases hr
end
end Go.AI
end

section
namespace Go.AI
theorem J9{w:World}{b:Nat}{ob:Obj}(h:w.heap[b]?=some ob):cS w b ob=w:=by
 unfold cS
 have:w.heap.setIfInBounds b ob=w.heap:=by
  apply Array.ext_getElem?
  intro i
  by_cases e:b=i
  .subst e
   have c:b<w.heap.size:=by
    rcases Nat.lt_or_ge b w.heap.size with h'|h'
    .exact h'
    .rw[Array.getElem?_eq_none h']at h;cases h
   rw[Array.getElem?_setIfInBounds_self_of_lt c,h]
  .rw[Array.getElem?_setIfInBounds_ne e]
 rw[this]
theorem Ra(w:World)(b:Nat)(x y:Obj):cS (cS w b x) b y=cS w b y:=by unfold cS;simp
theorem lt_of_heap{w:World}{b:Nat}{ob:Obj}(h:w.heap[b]?=some ob):b<w.heap.size:=by
 rcases Nat.lt_or_ge b w.heap.size with h'|h'
 .exact h'
 .rw[Array.getElem?_eq_none h']at h;cases h
theorem setCell_eq{w:World}{b i:Nat}{c:Array Value}{el:TypeId}{f:Nat×Nat}(v:Value)(h:w.heap[b]?=some (.cells c el f)):
 w.setCell ⟨b,i,none⟩ v=cS w b (.cells (c.setIfInBounds i v) el f):=by
 unfold World.setCell cS
 congr 1
 apply Array.ext_getElem?
 intro j
 have g:=lt_of_heap h
 by_cases e:b=j
 .subst e;rw[Array.getElem?_modify,h,Array.getElem?_setIfInBounds_self_of_lt g];simp
 .rw[Array.getElem?_setIfInBounds_ne e,Array.getElem?_modify,if_neg e]
theorem Hr{g:Gh}{x:AV}{v:Value}(h:ez x=true)(hr:VR g x v):v.oneCell'=true:=by cases hr<;>simp_all[ez,Value.oneCell'];split at h<;>simp_all
theorem Cn{g:Gh}:∀{xs:List AV}{vs:List Value},xs.all ez=true->aE g xs vs->∀v∈vs,v.oneCell'=true
 |[],[],_,_=>by simp
 |x::xs,v::vs,h,hr=>by
  simp only[List.all_cons,aX]at h
  intro u b
  rcases List.mem_cons.1 b with rfl|b
  .exact Hr h.1 hr.1
  .exact Cn h.2 hr.2 u b|[],_::_,_,hr=>hr.elim|_::_,[],_,hr=>hr.elim
theorem GN{P:Program}{b off:Nat}{el:TypeId}{f:Nat×Nat}:∀(vs:List Value)(i:Nat)(c:Array Value)(w:World),
 w.heap[b]?=some (.cells c el f)->off+i+vs.length<=c.size->(∀j,off+i<=j->j<off+i+vs.length->¬(f.1<=j/\j<f.2))->(∀v∈vs,v.oneCell'=true)->
 ∃c':Array Value,(storeCells ⟨b,off,none⟩ vs i).run P w=.ok () (cS w b (.cells c' el f))/\c'.size=c.size/\∀j:Nat,c'[j]?=if off+i<=j/\j<off+i+vs.length then vs[j-(off+i)]? else c[j]?:=by
 intro vs
 induction vs with
 |nil=>
  intro i c w h _ _ _
  refine⟨c,?_,rfl,?_⟩
  .rw[J9 h];rfl
  .intro j;rw[if_neg (by simp)]
 |cons v vs ih=>
  intro i c w h hs hf ho
  have n:off+i+(vs.length+1)<=c.size:=hs
  have e:w.cell? ⟨b,off+i,none⟩=c[off+i]?:=cell_of h
  have g:off+i<c.size:=by omega
  have l:w.frozen? ⟨b,off+i,none⟩=false:=by rw[Q0 h];have:=hf (off+i) (ak _) (by simp);simpa using this
  have h2:(cS w b (.cells (c.setIfInBounds (off+i) v) el f)).heap[b]?=some (.cells (c.setIfInBounds (off+i) v) el f):=iV (lt_of_heap h)
  obtain⟨c',hr,k,hc⟩:=ih (i+1) _ _ h2 (by simp;omega) (λj h1 h2=>hf j (by omega) (by simp;omega)) (λu m=>ho u (List.mem_cons_of_mem _ m))
  refine⟨c',?_,by simpa using k,?_⟩
  .simp only[storeCells,Sem.run_bind];rw[add_eq _ _ rfl,run_store _ _ _ _ _ (ho v (List.mem_cons_self ..))];simp only[e];rw[Array.getElem?_eq_getElem g];simp only[l,Bool.false_eq_true,if_false,Result.andThen_ok];rw[setCell_eq v h,hr,Ra]
  .intro j
   rw[hc j]
   by_cases h3:off+i=j
   .subst h3;rw[if_neg (by omega),if_pos (by simp)];simp[g]
   .rw[Array.getElem?_setIfInBounds_ne h3]
    by_cases h4:off+(i+1)<=j/\j<off+(i+1)+vs.length
    .rw[if_pos h4,if_pos (by simp;omega)]
     have:j-(off+i)=(j-(off+(i+1)))+1:=by omega
     rw[this];simp
    .rw[if_neg h4,if_neg (by simp;omega)]
theorem Hs(c:List AV)(off:Nat)(new:List AV)(h:off+new.length<=c.length)(j:Nat):
 (cO c off new)[j]?=if off<=j/\j<off+new.length then new[j-off]? else c[j]?:=by
 unfold cO
 have hl:(c.take off).length=off:=by simp;omega
 by_cases h1:j<off
 .rw[if_neg (by omega),List.getElem?_append_left (by omega),List.getElem?_take,if_pos h1]
 .rw[List.getElem?_append_right (by omega),hl]
  by_cases h2:j<off+new.length
  .rw[if_pos (by omega),List.getElem?_append_left (by omega)]
  .rw[if_neg (by omega),List.getElem?_append_right (by omega),List.getElem?_drop];congr 1;omega
theorem ub(c:List AV)(off:Nat)(new:List AV)(h:off+new.length<=c.length):(cO c off new).length=c.length:=by unfold cO;simp;omega
theorem CA{P:Program}{h h':AHeap}{g:Gh}{w:World}{o ad n off b s:Nat}{new:List AV}{vs:List Value}(hw:W h g w)
 (hr:ll h o ad n off new=some h')(hb:g.B o ad=some (b,s,n))(hv:aE g new vs):
 ∃w',(storeCells ⟨b,off,none⟩ vs 0).run P w=.ok () w'/\W h' g w'/\Step h g w h' g w':=by
 unfold ll at hr
 split at hr
 .rename_i v m c fz el ex sh hx
  split at hr
  .rename_i hc
   obtain⟨rfl,h1,h2,h3,h4⟩:=hc
   simp only[ab]at hr
   subst hr
   obtain⟨t,ca,f,hk⟩:=(hw.obj o _ hx).2 ad h1 (ak _) b s n hb
   .have hn:=t rfl
    have hlen:=hv.length
    obtain⟨c',l,q,u⟩:=GN (P:=P) (off:=off) vs 0 ca w hk.here (by have:=hk.lQ;have:=hk.size;omega) (λj D C p=>by have:=hk.free j (by have:=hk.lQ;omega) p.1 p.2;omega) (Cn h4 hv)
    refine⟨_,l,?_⟩
    refine kE hw hx hb rfl ⟨(hw.obj o _ hx).1,?_⟩
    intro v' D C b' s' n' k
    obtain rfl:v'=ad:=by omega
    rw[hb]at k
    simp only[ab,an]at k
    obtain⟨rfl,rfl,rfl⟩:=k
    refine⟨λ_=>by rw[ub _ _ _ (by omega)];exact hn,c',f,?_⟩
    refine⟨iV (lt_of_heap hk.here),by rw[q];exact hk.size,by rw[ub _ _ _ (by omega)];omega,hk.lQ,λz=>by rw[ub _ _ _ (by omega)];exact hk.exact z,hk.free,hk.plain,?_⟩
    intro i x hi e
    rw[Hs _ _ _ (by omega)]at e
    rw[u i]
    simp only[Nat.add_zero]
    by_cases p:off<=i/\i<off+new.length
    .rw[if_pos p]at e
     rw[if_pos (by omega)]
     have:i-off<vs.length:=by omega
     refine⟨vs[i-off],by simp[this],hv.get _ _ _ e (by simp[this])⟩
    .rw[if_neg p]at e;rw[if_neg (by omega)];exact hk.cell i x hi e
  .cases hr
 .cases hr
end Go.AI
end
