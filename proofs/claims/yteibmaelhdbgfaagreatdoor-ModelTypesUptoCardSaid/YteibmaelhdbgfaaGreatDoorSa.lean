/- A part of the proof. -/
import Derived.Test.YteibmaelhdbgfaaGreatDoorAe
set_option linter.all false

section
namespace Go.AI
noncomputable section
inductive Lf where|int(k:IntKind)|bool|str|sl(t:TypeId)|no
def RX:Nat->List Lf->List Lf|0,_=>[]|n+1,l=>l++RX n l
mutual
def Bj(P:Program):Nat->TypeId->List Lf|0,_=>[.no]|n+1,t=>match P.underlying t with|some (.int k)=>[.int k]|some .bool=>[.bool]|some .string=>[.str]|some (.slice e)=>[.sl e]|some (.array m e)=>RX m (Bj P n e)|some (.struct fs)=>PC P n (fs.toList.map (·.type))|_=>[.no]
def PC(P:Program):Nat->List TypeId->List Lf|0,_=>[.no]|_,[]=>[]|n+1,t::ts=>Bj P n t++PC P n ts
end
def lay(P:Program)(t:TypeId):List Lf:=Bj P 40 t
def gI(r:List AV)(j:Nat):Int:=match r[j]? with|some (.sc (.int _ n))=>n|_=>0
def gB(r:List AV)(j:Nat):Bool:=match r[j]? with|some (.sc (.bool b))=>b|_=>false
def gS(r:List AV)(j:Nat):ByteArray:=match r[j]? with|some (.sc (.string s))=>s|_=>.empty
def gD(r:List AV)(j:Nat):List (List AV):=match r[j]? with|some (.aQ l _)=>l|_=>[]
inductive SV where|aM|sc(v:Value)|agg(cs:List SV)|dl(t:TypeId)(rows:List (List AV))|own(i:Nat)|ref(i off:Nat)|dI(i k off:Nat)|dj(t:TypeId)(row:List AV)(off:Nat)|fW(i:Nat)|opt(b:Bool)(v:SV)|fn(f:FuncId)(caps:List SV)|bC(vs:List SV)|eb(t:TypeId)(v:SV)|sW(b:Bool)|aR|cl(t:TypeId)(rows:List (List AV))|yl(f:FuncId)(ts:List Tmp)(cs:List SV)|om(i:Nat)|md(t:TypeId)(rows:List (List AV))|ls(t:TypeId)(rows:List (List AV))|pb(t:TypeId)(cs:List SV)(off:Nat)|ni(i:Nat)(h:Int)
inductive aq where|box(t:TypeId)(cs:List SV)|arr(t:TypeId)(rows:List (List AV))(aY:Bool)|bh(s:ByteArray)(t:TypeId)|mp(t:TypeId)(rows:List (List AV))(aY:Bool)|tr(t:TypeId)(rows:List (List AV))(aY:Bool)|gone
inductive jg where|no|ret|aN(t:TypeId)(row:List AV)(rc:Bool)|gZ
structure ae where
 tm:Tr SV
 ob:Tr aq
 nx:Nat
 al:List (Tmp×Tmp)df:List (FuncId×List SV)cm:jg
def ae.r(st:ae):List (Tmp×Tmp)×List (FuncId×List SV)×jg:=(st.al,st.df,st.cm)
def rU:Value->Bool|.agg _|.tuple _=>false|_=>true
def Ca(v:Value):SV:=match rU v with|true=>.sc v|false=>.aM
def gx:Value->SV|.agg cs=>.agg (cs.toList.map Ca)|.tuple vs=>.bC (vs.toList.map Ca)|.func (.func f) a c=>(match a.toList,c.toList with|[],[]=>.fn f []|_,_=>.sc (.func (.func f) a c))|v=>.sc v
def bH(tm:Tr SV):Operand->SV
 |.tmp t=>match tm.get t with|some v=>v|none=>.aM
 |.const v=>gx v|.global _=>.aM|.func f=>.fn f []
mutual
def gy:SV->Bool|.yl _ _ _=>false|.agg cs=>fj cs|.bC cs=>fj cs|.fn _ cs=>fj cs|.opt _ v=>gy v|.eb _ v=>gy v|_=>true
def fj:List SV->Bool|[]=>true|v::vs=>gy v&&fj vs
end
def l3:SV->Bool|.aM|.agg _|.bC _|.yl _ _ _|.ni _ _=>false|.fn _ cs=>fj cs|.eb _ v=>gy v|.sc v=>(match v with|.agg _|.tuple _=>false|_=>true)|.opt _ v=>l3 v|_=>true
def cJ:List SV->Bool|[]=>true|v::vs=>l3 v&&cJ vs
def bl:SV->List SV|.agg cs=>cs|v=>[v]
def hY(l:Lf)(r:List AV)(j:Nat):SV:=match l with|.int k=>.sc (.int k (gI r j))|.bool=>.sc (.bool (gB r j))|.str=>.sc (.string (gS r j))|.sl t=>.dl t (gD r j)|.no=>.aM
def fU(r:List AV):List Lf->Nat->List SV|[],_=>[]|l::ls,j=>hY l r j::fU r ls (j+1)
noncomputable def both{α:Type}(x y:Option α):Option α:=by classical exact if x=y then x else none
theorem MC{α:Type}{x y:Option α}{r:α}(h:both x y=some r):x=some r/\y=some r:=by unfold both at h;grind
def mP(rows:List (List AV))(s:ByteArray):Option (List AV):=rows.find? λr=>s==gS r 0
def jx{β:Type}(rows:List (List AV))(s:ByteArray)(k:List AV->Option β)(n:Option β):Option β:=match mP rows s with|some r=>k (r.drop 1)|none=>n
def bG:List (List AV)->ByteArray->List AV->List (List AV)|[],s,v=>[.sc (.string s)::v]|r::rs,s,v=>match s==gS r 0 with|true=>(.sc (.string s)::v)::rs|false=>r::bG rs s v
def mA{α β:Type}(l:List α)(k:α->List α->Option β):Option β:=match l with|[]=>none|x::xs=>k x xs
def emp{α β:Type}(l:List α)(x y:Option β):Option β:=match l with|[]=>x|_::_=>y
def aa{α:Type}(b:Bool)(x y:Option α):Option α:=match b with|true=>x|false=>y
def Ay{β:Type}(n:Int):Nat->Nat->(Nat->Option β)->Option β|0,_,_=>none|c+1,i,k=>aa (n==(i:Int)) (k i) (Ay n c (i+1) k)
def eJ{α β:Type}(l:List α)(n:Nat)(k:α->Option β):Option β:=match l[n]? with|some x=>k x|none=>none
def ab{α β:Type}(l:List α)(n:Int)(k:α->Option β):Option β:=match decide (0<=n)with|true=>(match l[n.toNat]? with|some x=>k x|none=>none)|false=>none
def i6{β:Type}(s:ByteArray)(n:Int)(k:Int->Option β):Option β:=match decide (0<=n)with|true=>(match s[n.toNat]? with|some x=>k x.toNat|none=>none)|false=>none
def fits{β:Type}(n b:Nat)(k:Option β):Option β:=match decide (n*b<=140737488355328)with|true=>k|false=>none
def ask{α β:Type}(x:Option α)(k:α->Option β):Option β:=match x with|some a=>k a|none=>none
section
variable {ρ:Type}(P:Program)
def cellOf(ob:Tr aq)(l:Lf)(v:SV):Option AV:=match l,v with
 |.int k,.sc (.int k' n)=>if k=k' then some (.sc (.int k n))else none
 |.bool,.sc (.bool b)=>some (.sc (.bool b))
 |.str,.sc (.string s)=>some (.sc (.string s))
 |.sl t,.dl t' r=>if t=t' then(bt P t).map λsz=>.aQ r sz else none
 |.sl t,.sc (.slice none 0 0)=>(bt P t).map λsz=>.aQ [] sz
 |.sl t,.own i=>match ob.get i with|some (.arr t' r _)=>if t=t' then(bt P t).map λsz=>.aQ r sz else none|_=>none
 |_,_=>none
def rowOf(ob:Tr aq):List Lf->List SV->Option (List AV)
 |[],[]=>some []
 |l::ls,v::vs=>match cellOf P ob l v,rowOf ob ls vs with|some c,some cs=>some (c::cs)|_,_=>none
 |_,_=>none
def bo(ob:Tr aq):List SV->Tr aq
 |[]=>ob
 |.own i::vs=>match ob.get i with|some (.arr t r _)=>bo (ob.put i (.arr t r true)) vs|some (.tr t r _)=>bo (ob.put i (.tr t r true)) vs|_=>bo ob vs
 |.om i::vs=>match ob.get i with|some (.mp t r _)=>bo (ob.put i (.mp t r true)) vs|_=>bo ob vs
 |_::vs=>bo ob vs
def asData(ob:Tr aq)(t:TypeId):SV->Option (List (List AV))
 |.dl t' r=>if t=t' then some r else none
 |.sc (.slice none 0 0)=>some []
 |.own i=>match ob.get i with|some (.arr t' r _)=>if t=t' then some r else none|_=>none
 |_=>none
def kT(t:TypeId):Option TypeId:=match P.underlying t with|some (.map c e)=>(match P.underlying c,bt P e,eE P e with|some .string,some s,some z=>(match Nat.beq s (lay P e).length&&Nat.beq (a6 z).length s&&(lay P e).all λl=>match l with|.no=>false|_=>true with|true=>some e|false=>none)|_,_,_=>none)|_=>none
def mF(ob:Tr aq)(t:TypeId):SV->Option (List (List AV))
 |.md t' r=>if t=t' then some r else none
 |.om i=>match ob.get i with|some (.mp t' r _)=>if t=t' then some r else none|_=>none
 |_=>none
def Bk(e:TypeId)(r:List AV):Option SV:=match ep P e,lay P e with|some true,ls=>some (.agg (fU r ls 0))|some false,[l]=>some (hY l r 0)|_,_=>none
def PD(e:TypeId):Option SV:=match P.info? e with|some i=>i.zero.map gx|none=>none
def Az(st:ae)(t:TypeId)(x i:SV)(ok:Bool)(k:SV->Option ρ):Option ρ:=match kT P t,mF st.ob t x,i with|some e,some rows,.sc (.string s)=>(match PD P e with|some z=>jx rows s (λr=>match Bk P e r with|some v=>k (match ok with|true=>.bC [v,.sc (.bool true)]|false=>v)|none=>none) (k (match ok with|true=>.bC [z,.sc (.bool false)]|false=>z))|none=>none)|_,_,_=>none
def FD(st:ae)(t:TypeId)(m i x:SV)(k:ae->Option ρ):Option ρ:=match kT P t,m,i with|some e,.om j,.sc (.string s)=>(match(bo st.ob (bl x)).get j,rowOf P st.ob (lay P e) (bl x),ep P e,x with|some (.mp t' rows false),some bu,some true,.agg _=>if t=t' then k {st with ob:=(bo st.ob (bl x)).put j (.mp t (bG rows s bu) false)}else none|_,_,some false,.agg _=>none|some (.mp t' rows false),some bu,some false,_=>if t=t' then k {st with ob:=(bo st.ob (bl x)).put j (.mp t (bG rows s bu) false)}else none|_,_,_,_=>none)|_,_,_=>none
def va(st:ae)(t:TypeId)(a:SV)(k:SV->Option ρ):Option ρ:=
 match ep P t,bt P t,a with
 |some g,some s,.ref i off=>match st.ob.get i with|some (.box _ cs)=>if off+s<=cs.length then(match g with|true=>k (.agg ((cs.drop off).take s))|false=>match cs[off]? with|some v=>k v|none=>none)else none|_=>none
 |some g,some s,.dj t' row off=>if off+s<=(lay P t').length then(match g with|true=>k (.agg (((fU row (lay P t') 0).drop off).take s))|false=>match(lay P t')[off]? with|some l=>k (hY l row off)|none=>none)else none
 |some g,some s,.dI i j off=>match st.ob.get i with|some (.arr t' rows _)=>eJ rows j λrow=>if off+s<=(lay P t').length then(match g with|true=>k (.agg (((fU row (lay P t') 0).drop off).take s))|false=>match(lay P t')[off]? with|some l=>k (hY l row off)|none=>none)else none|_=>none
 |some g,some s,.pb _ cs off=>if off+s<=cs.length then(match g with|true=>k (.agg ((cs.drop off).take s))|false=>match cs[off]? with|some v=>k v|none=>none)else none|_,_,_=>none
def nN(c:List SV)(off:Nat)(new:List SV):List SV:=c.take off++(new++c.drop (off+new.length))
def Eh(st:ae)(t:TypeId)(a v:SV)(k:ae->Option ρ):Option ρ:=
 match bt P t,a with
 |some s,.ref i off=>match st.ob.get i with|some (.box t' cs)=>if(bl v).length=s/\off+s<=cs.length/\cJ (bl v)=true then k {st with ob:=st.ob.put i (.box t' (nN cs off (bl v)))}else none|_=>none
 |some s,.dI i j off=>match(bo st.ob (bl v)).get i with|some (.arr t' rows false)=>eJ rows j λrow=>if(bl v).length=s/\off+s<=(lay P t').length then(match rowOf P st.ob (((lay P t').drop off).take s) (bl v)with|some new=>k {st with ob:=(bo st.ob (bl v)).put i (.arr t' (rows.set j (dO row off new)) false)}|none=>none)else none|_=>none
 |_,_=>none
def jy(st:ae)(x:aq)(k:Nat->ae->Option ρ):Option ρ:=k st.nx {st with ob:=st.ob.put st.nx x,nx:=st.nx+1}
def CX(t:TypeId)(x:SV)(f:Nat):Option SV:=
 match P.underlying t with
 |some (.struct c)=>match c[f]? with
  |some fd=>match bt P fd.type,x with|some (_+1),.ref i off=>some (.ref i (off+fd.offset))|some (_+1),.dj t r off=>some (.dj t r (off+fd.offset))|some (_+1),.dI i j off=>some (.dI i j (off+fd.offset))|some (_+1),.pb t' cs off=>some (.pb t' cs (off+fd.offset))|_,_=>none
  |none=>none
 |_=>none
def Ei(t:TypeId)(x:SV)(f:Nat):Option SV:=
 match P.underlying t,x with
 |some (.struct c),.agg cs=>match c[f]? with
  |some fd=>match ep P fd.type,bt P fd.type with|some true,some s=>if fd.offset+s<=cs.length then some (.agg ((cs.drop fd.offset).take s))else none|some false,some _=>cs[fd.offset]?|_,_=>none
  |none=>none
 |_,_=>none
def jX(place:Nat->Option (Nat×Nat))(cells:List SV):List (Nat×SV)->Option (List SV)|[]=>some cells|(i,v)::rest=>match place i with|none=>none|some (off,size)=>if(bl v).length=size/\off+size<=cells.length/\cJ (bl v)=true then jX place (nN cells off (bl v)) rest else none
def Ej(t:TypeId)(parts:List (Nat×SV)):Option SV:=
 match P.info? t,P.underlying t with
 |some it,some (.struct c)=>match it.zero,c.toList.mapM (λf=>(P.info? f.type).map λi=>(f.offset,i.size))with|some z,some places=>(jX (λi=>places[i]?) (bl (gx z)) parts).map .agg|_,_=>none
 |some it,some (.array _ e)=>match it.zero,P.info? e with|some z,some o=>(jX (λi=>some (i*o.size,o.size)) (bl (gx z)) parts).map .agg|_,_=>none
 |_,_=>none
def zC(z:List SV):Nat->List SV|0=>[]|n+1=>z++zC z n
def rowsOf(ob:Tr aq)(ls:List Lf)(s:Nat):Nat->List SV->Option (List (List AV))|0,_=>some []|n+1,cs=>match rowOf P ob ls (cs.take s),rowsOf ob ls s n (cs.drop s)with|some r,some rs=>some (r::rs)|_,_=>none
def FE(el:TypeId)(len:Nat)(cs:List SV)(n:Int)(k:SV->Option ρ):Option ρ:=match bt P el,ep P el with|some s,some g=>(match Nat.beq s (lay P el).length,rowsOf P .leaf (lay P el) s len cs with|true,some rows=>ab rows n λr=>(match g with|true=>k (.agg (fU r (lay P el) 0))|false=>match lay P el with|[l]=>k (hY l r 0)|_=>none)|_,_=>none)|_,_=>none
def iU(P:Program)(t:TypeId):Bool:=match bt P t,eE P t with|some s,some z=>Nat.beq s (lay P t).length&&Nat.blt 0 s&&Nat.beq (a6 z).length s|_,_=>false
def isByte(P:Program)(t:TypeId):Bool:=match P.underlying t with|some (.int .u8)=>true|_=>false
def FF{β:Type}(n:Int)(k:UInt8->Option β):Option β:=match decide (0<=n/\n<256)with|true=>k (UInt8.ofNat n.toNat)|false=>none
def zD:List SV->(List UInt8->Option ρ)->Option ρ|[],k=>k []|.sc (.int .u8 n)::xs,k=>FF n λb=>zD xs λbs=>k (b::bs)|_,_=>none
def Ji(st:ae)(t:TypeId)(len:Nat)(parts:List (Nat×SV))(k:SV->ae->Option ρ):Option ρ:=
 match P.underlying t with
 |some (.slice e)=>match bt P e,eE P e with
  |some s,some z=>if len*s<=16777216/\(a6 z).length=s then
   (match P.info? e with
   |some c=>match c.zero with
    |some z=>match jX (λi=>some (i*s,s)) (zC (bl (gx z)) len) parts with
     |some cells=>match isByte P e with
      |true=>(match Nat.beq s 1 with
       |true=>zD cells λb=>match b with|[]=>none|b::bs=>jy st (.bh ⟨⟨b::bs⟩⟩ e) λi st=>k (.own i) st
       |false=>none)|false=>match iU P e with|true=>(match rowsOf P st.ob (lay P e) s len cells with|some rows=>jy {st with ob:=bo st.ob cells} (.arr e rows false) λi st=>k (.own i) st|none=>none)|false=>none
     |none=>none
    |none=>none
   |none=>none)else none|_,_=>none
 |_=>none
def FG(ob:Tr aq):SV->Option ByteArray
 |.sc (.string s)=>some s
 |.own j=>match ob.get j with|some (.bh s _)=>some s|_=>none
 |.sc (.slice none 0 0)=>some .empty|_=>none
def pZ(st:ae)(e:TypeId)(x y:SV)(k:SV->ae->Option ρ):Option ρ:=
 match iU P e,mw P e with
 |true,some (c+1)=>match isByte P e with|true=>(match bt P e with|some 1=>(match FG st.ob y with|none=>none|some new=>match x with|.sc (.slice none 0 0)=>fits new.size (c+1) (jy st (.bh new e) λi st=>k (.own i) st)|.own i=>(match st.ob.get i with|some (.bh s t)=>if t=e then fits (s.size+new.size) (c+1) (jy {st with ob:=st.ob.put i .gone} (.bh (s++new) e) λi st=>k (.own i) st)else none|_=>none)|_=>none)|_=>none)|false=>match asData st.ob e y with|none=>none|some new=>match x with|.sc (.slice none 0 0)=>fits new.length (c+1) (jy {st with ob:=bo st.ob [y]} (.arr e new false) λi st=>k (.own i) st)|.own i=>(match(bo st.ob [y]).get i with|some (.arr t rows aY)=>if t=e then fits (rows.length+new.length) (c+1) (jy {st with ob:=(bo st.ob [y]).put i .gone} (.arr e (rows++new) aY) λi st=>k (.own i) st)else none|some (.tr t rows false)=>(match new with|[]=>none|n::o=>if t=e then fits (rows.length+(n::o).length) (c+1) (jy {st with ob:=(bo st.ob [y]).put i .gone} (.tr e (rows++(n::o)) false) λi st=>k (.own i) st)else none)|_=>none)|.cl t rows=>(match new with|[]=>none|n::o=>if t=e then fits (rows.length+(n::o).length) (c+1) (jy {st with ob:=bo st.ob [y]} (.arr e (rows++(n::o)) false) λi st=>k (.own i) st)else none)|_=>none
 |_,_=>none
def lT(st:ae):SV->Option Int
 |.sc (.slice none 0 0)=>some 0
 |.dl _ r=>some r.length
 |.own i=>match st.ob.get i with|some (.arr _ r _)=>some r.length|some (.tr _ r _)=>some r.length|some (.bh s _)=>some s.size|_=>none
 |.sc (.string s)=>some s.size|_=>none
def Ek:SV->Bool|.sc (.string _)=>true|_=>false
def Bl:SV->Option Int|.sc (.int _ n)=>some n|_=>none
def CY(st:ae)(t:TypeId)(x i:SV)(k:SV->Option ρ):Option ρ:=
 match P.underlying t,i with
 |some (.slice e),.sc (.int _ n)=>match x with
  |.dl t' rows=>if t'=e then ab rows n λr=>k (.dj e r 0)else none
  |.own j=>match st.ob.get j with|some (.arr t' rows _)=>if t'=e then ab rows n λ_=>k (.dI j n.toNat 0)else none|_=>none
  |_=>none
 |some (.array len e),.sc (.int _ n)=>match bt P e,x with|some s,.ref j off=>Ay n len 0 λi=>k (.ref j (off+i*s))|_,_=>none
 |_,_=>none
def ez{α β:Type}(l:List α)(c hi:Int)(k:List α->Option β):Option β:=match decide (0<=c/\c<=hi/\hi<=l.length)with|true=>k ((l.drop c.toNat).take (hi.toNat-c.toNat))|false=>none
def jE{β:Type}(s:ByteArray)(c hi:Int)(k:ByteArray->Option β):Option β:=match decide (0<=c/\c<=hi/\hi<=s.size)with|true=>k (s.extract c.toNat hi.toNat)|false=>none
def head{β:Type}(s:ByteArray)(n:Int)(k:ByteArray->Option β):Option β:=match decide (0<n/\n<=s.size/\n<=9223372036854775807)with|true=>k (s.extract 0 n.toNat)|false=>none
def zE(st:ae)(t:TypeId)(x:SV)(c hi o:Option SV)(k:SV->ae->Option ρ):Option ρ:=match(match c with|none=>some (0:Int)|some v=>Bl v)with|none=>none|some l=>match(match hi with|none=>lT st x|some v=>Bl v)with|none=>none|some h=>match o with|some _=>none|none=>match P.underlying t,x with|some (.slice e),.dl t' rows=>if t'=e/\(bt P e).isSome=true then ez rows l h λr=>k (.dl e r) st else none|some (.slice e),.own j=>(match st.ob.get j with|some (.arr t' rows _)=>if t'=e/\(bt P e).isSome=true then ez rows l h λr=>k (.dl e r) {st with ob:=bo st.ob [x]}else none|some (.tr t' rows _)=>(match c with|none=>if t'=e/\(bt P e).isSome=true then aa (decide (0<=h/\h<=rows.length)) (k (.ni j h) st) none else none|_=>none)|_=>none)|some .string,.sc (.string s)=>jE s l h λr=>k (.sc (.string r)) st|_,_=>none
def mG:Operand->Bool|.const _=>true|_=>false
def v7(c:Bool)(t:TypeId)(x y:SV):Option Bool:=
 match P.underlying t,x,y with
 |some (.slice _),.dl _ r,.sc (.slice none 0 0)=>match r with|_::_=>some false|[]=>none
 |some (.interface _),.eb _ _,.sc .nilIface=>some false
 |some (.interface _),.sW b,.sc .nilIface=>match c with|true=>some !b|false=>none
 |some (.interface _),.sc .nilIface,.sc .nilIface=>match c with|true=>some true|false=>none
 |some (.pointer _),.ref _ _,.sc (.pointer none)=>some false
 |some (.pointer _),.opt b (.ref _ _),.sc (.pointer none)=>some !b
 |some (.pointer e),.ref i o,.ref j o'=>match bt P e,Nat.beq i j with|some (_+1),true=>some (o==o')|_,_=>none
 |_,_,_=>none
def i7{β:Type}(a b:ByteArray)(k:ByteArray->Option β):Option β:=match decide (((a.size+b.size:Nat):Int)>IntKind.i64.max)with|true=>none|false=>k (a++b)
def ay(a b:ByteArray):Bool:=a.toList==b.toList
def Cb(a b:ByteArray):Bool:=Op.bytesLess a.toList b.toList
def FH(op:BinOp)(kd:IntKind)(a b:Int)(k:SV->Option ρ):Option ρ:=
 match op with
 |.add=>k (.sc (.int kd (kd.wrap (a+b))))
 |.sub=>k (.sc (.int kd (kd.wrap (a-b))))
 |.mul=>k (.sc (.int kd (kd.wrap (a*b))))
 |.quo=>match decide (b=0)with|true=>none|false=>k (.sc (.int kd (kd.wrap (a.tdiv b))))
 |.rem=>match decide (b=0)with|true=>none|false=>k (.sc (.int kd (a.tmod b)))
 |.eql=>k (.sc (.bool (a==b)))|.neq=>k (.sc (.bool (a !=b)))|.lss=>k (.sc (.bool (decide (a<b))))|.leq=>k (.sc (.bool (decide (a<=b))))|.gtr=>k (.sc (.bool (decide (a>b))))|.geq=>k (.sc (.bool (decide (a>=b))))|_=>none
def FI(op:BinOp)(a b:ByteArray)(k:SV->Option ρ):Option ρ:=match op with|.add=>i7 a b λs=>k (.sc (.string s))|.eql=>k (.sc (.bool (ay a b)))|.neq=>k (.sc (.bool !(ay a b)))|.lss=>k (.sc (.bool (Cb a b)))|.leq=>k (.sc (.bool (Cb a b||ay a b)))|.gtr=>k (.sc (.bool !(Cb a b||ay a b)))|.geq=>k (.sc (.bool !(Cb a b)))|_=>none
def FJ(c:Bool)(op:BinOp)(t:TypeId)(x y:SV)(k:SV->Option ρ):Option ρ:=match x,y with|.sc (.int kd a),.sc (.int z b)=>if kd=z then FH op kd a b k else none|.sc (.string a),.sc (.string b)=>FI op a b k|.sc (.bool a),.sc (.bool b)=>(match op,P.underlying t with|.eql,some .bool=>k (.sc (.bool (a==b)))|.neq,some .bool=>k (.sc (.bool !(a==b)))|_,_=>none)|.dl _ rows,.sc (.slice none 0 0)=>(match op,P.underlying t with|.eql,some (.slice _)=>emp rows (both (k (.sc (.bool true))) (k (.sc (.bool false)))) (k (.sc (.bool false)))|.neq,some (.slice _)=>emp rows (both (k (.sc (.bool false))) (k (.sc (.bool true)))) (k (.sc (.bool true)))|_,_=>none)|.ls _ rows,.sc (.pointer none)=>(match op,P.underlying t with|.eql,some (.pointer _)=>emp rows (k (.sc (.bool true))) (k (.sc (.bool false)))|.neq,some (.pointer _)=>emp rows (k (.sc (.bool false))) (k (.sc (.bool true)))|_,_=>none)|.opt b (.ref i o),.ref j o'=>aa b (match op,v7 P c t (.ref i o) (.ref j o')with|.eql,some b=>k (.sc (.bool b))|.neq,some b=>k (.sc (.bool !b))|_,_=>none) none|x,y=>match op with|.eql=>(match v7 P c t x y with|some b=>k (.sc (.bool b))|none=>none)|.neq=>(match v7 P c t x y with|some b=>k (.sc (.bool !b))|none=>none)|_=>none
inductive LT where|int|bool|str|rows
abbrev LT.ty:LT->Type|.int=>Int|.bool=>Bool|.str=>ByteArray|.rows=>List (List AV)
def RT:List LT->Type|[]=>Unit|[a]=>a.ty|a::b::l=>a.ty×RT (b::l)
inductive Sh where|int(k:IntKind)|bool|str|dl(t:TypeId)|md(t:TypeId)|own(t:TypeId)(aY:Bool)|tr(t:TypeId)|bh(t:TypeId)|opt(v:SV)|gz(v:SV)|aM|aR
def Sh.lt:Sh->Option LT|.int _=>some .int|.bool=>some .bool|.str=>some .str|.dl _=>some .rows|.md _=>some .rows|.own _ _=>some .rows|.tr _=>some .rows|.bh _=>some .str|.opt _=>some .bool|.gz _=>none|.aM=>none|.aR=>none
def bF:List Sh->List LT|[]=>[]|s::ss=>match s.lt with|some a=>a::bF ss|none=>bF ss
def RT.cons{a:LT}:{l:List LT}->a.ty->RT l->RT (a::l)|[],x,_=>x|_::_,x,y=>(x,y)
def RT.head{a:LT}:{l:List LT}->RT (a::l)->a.ty|[],x=>x|_::_,x=>x.1
def RT.tail{a:LT}:{l:List LT}->RT (a::l)->RT l|[],_=>()|_::_,x=>x.2
def E5:IntKind->Nat|.i8=>0|.i16=>1|.i32=>2|.i64=>3|.u8=>4|.u16=>5|.u32=>6|.u64=>7
def RY:Int->Int->Bool|.ofNat a,.ofNat b=>Nat.beq a b|.negSucc a,.negSucc b=>Nat.beq a b|_,_=>false
def Cc:List Nat->List Nat->Bool|[],[]=>true|x::xs,y::ys=>Nat.beq x y&&Cc xs ys|_,_=>false
def v8:Value->Value->Bool|.int k n,.int k' m=>Nat.beq (E5 k) (E5 k')&&RY n m|.bool true,.bool true=>true|.bool false,.bool false=>true|.string s,.string s'=>Cc (s.data.toList.map (·.toNat)) (s'.data.toList.map (·.toNat))|.slice none 0 0,.slice none 0 0=>true|_,_=>false
mutual
def Cd:AV->AV->Bool|.sc v,.sc v'=>v8 v v'|.aQ rs z,.aQ cZ z'=>vx rs cZ&&Nat.beq z z'|_,_=>false
def Ce:List AV->List AV->Bool|[],[]=>true|x::xs,y::ys=>Cd x y&&Ce xs ys|_,_=>false
def vx:List (List AV)->List (List AV)->Bool|[],[]=>true|x::xs,y::ys=>Ce x y&&vx xs ys|_,_=>false
end
mutual
def eqv:SV->SV->Bool|.ref i o,.ref j o'=>Nat.beq i j&&Nat.beq o o'|.fn f az,.fn g bs=>Nat.beq f g&&mQ az bs|.pb t az o,.pb t' bs o'=>Nat.beq t t'&&mQ az bs&&Nat.beq o o'|.dl t rs,.dl t' cZ=>Nat.beq t t'&&vx rs cZ|.sc (.pointer none),.sc (.pointer none)=>true|.sc .nilIface,.sc .nilIface=>true|.sc .nilFunc,.sc .nilFunc=>true|.sc v,.sc v'=>v8 v v'|.aM,.aM=>true|_,_=>false
def mQ:List SV->List SV->Bool|[],[]=>true|v::vs,u::us=>eqv v u&&mQ vs us|_,_=>false
end
def Bn(ob:Tr aq)(t:TypeId):SV->Option ByteArray
 |.sc (.slice none 0 0)=>some .empty
 |.own i=>match ob.get i with|some (.bh s t')=>if t'=t then some s else none|_=>none
 |_=>none
def zk(ob:Tr aq)(aY:Bool):SV->Bool
 |.sc (.slice none 0 0)=>true
 |.own i=>match ob.get i with|some (.arr _ _ l)=>aY||!l|some (.bh _ _)=>true|_=>false
 |_=>false
def Bo(ob:Tr aq)(t:TypeId):SV->Option (List (List AV))
 |.sc (.slice none 0 0)=>some []
 |.own i=>match ob.get i with|some (.tr t' r false)=>if t=t' then some r else none|_=>none
 |_=>none
def b9(ob:Tr aq):(shs:List Sh)->List SV->Option (RT (bF shs))
 |[],[]=>some ()
 |.int k::ss,.sc (.int k' n)::vs=>if k=k' then(b9 ob ss vs).map λr=>RT.cons (a:=.int) n r else none
 |.bool::ss,.sc (.bool b)::vs=>(b9 ob ss vs).map λr=>RT.cons (a:=.bool) b r
 |.str::ss,.sc (.string s)::vs=>(b9 ob ss vs).map λr=>RT.cons (a:=.str) s r
 |.dl t::ss,v::vs=>match asData ob t v,b9 ob ss vs with|some x,some r=>some (RT.cons (a:=.rows) x r)|_,_=>none
 |.md t::ss,v::vs=>match mF ob t v,b9 ob ss vs with|some x,some r=>some (RT.cons (a:=.rows) x r)|_,_=>none
 |.own t aY::ss,v::vs=>match zk ob aY v&&iU P t&&!isByte P t,asData ob t v,b9 ob ss vs with|true,some x,some r=>some (RT.cons (a:=.rows) x r)|_,_,_=>none
 |.tr t::ss,v::vs=>match iU P t&&!isByte P t,Bo ob t v,b9 ob ss vs with|true,some x,some r=>some (RT.cons (a:=.rows) x r)|_,_,_=>none
 |.bh t::ss,v::vs=>match isByte P t,Bn ob t v,b9 ob ss vs with|true,some x,some r=>some (RT.cons (a:=.str) x r)|_,_,_=>none
 |.opt w::ss,.opt b v::vs=>match eqv v w with|true=>(b9 ob ss vs).map λr=>RT.cons (a:=.bool) b r|false=>none
 |.opt _::ss,.sc (.pointer none)::vs=>(b9 ob ss vs).map λr=>RT.cons (a:=.bool) false r
 |.opt w::ss,.ref i o::vs=>match eqv (.ref i o) w with|true=>(b9 ob ss vs).map λr=>RT.cons (a:=.bool) true r|false=>none
 |.gz w::ss,v::vs=>match eqv v w with|true=>b9 ob ss vs|false=>none
 |.aM::ss,_::vs=>b9 ob ss vs
 |.aR::ss,v::vs=>match l3 v with|true=>b9 ob ss vs|false=>none
 |_,_=>none
def cD:(shs:List Sh)->RT (bF shs)->ae->List SV×ae|[],_,st=>([],st)|.int k::ss,r,st=>let p:=cD ss (RT.tail (a:=.int) r) st;(.sc (.int k (RT.head (a:=.int) r))::p.1,p.2)|.bool::ss,r,st=>let p:=cD ss (RT.tail (a:=.bool) r) st;(.sc (.bool (RT.head (a:=.bool) r))::p.1,p.2)|.str::ss,r,st=>let p:=cD ss (RT.tail (a:=.str) r) st;(.sc (.string (RT.head (a:=.str) r))::p.1,p.2)|.dl t::ss,r,st=>let p:=cD ss (RT.tail (a:=.rows) r) st;(.dl t (RT.head (a:=.rows) r)::p.1,p.2)|.md t::ss,r,st=>let p:=cD ss (RT.tail (a:=.rows) r) st;(.md t (RT.head (a:=.rows) r)::p.1,p.2)|.own t l::ss,r,st=>let p:=cD ss (RT.tail (a:=.rows) r) {st with ob:=st.ob.put st.nx (.arr t (RT.head (a:=.rows) r) l),nx:=st.nx+1};(.own st.nx::p.1,p.2)|.tr t::ss,r,st=>let p:=cD ss (RT.tail (a:=.rows) r) {st with ob:=st.ob.put st.nx (.tr t (RT.head (a:=.rows) r) false),nx:=st.nx+1};(.own st.nx::p.1,p.2)|.bh t::ss,r,st=>let p:=cD ss (RT.tail (a:=.str) r) {st with ob:=st.ob.put st.nx (.bh (RT.head (a:=.str) r) t),nx:=st.nx+1};(.own st.nx::p.1,p.2)|.opt w::ss,r,st=>let p:=cD ss (RT.tail (a:=.bool) r) st;(.opt (RT.head (a:=.bool) r) w::p.1,p.2)|.gz w::ss,r,st=>let p:=cD ss r st;(w::p.1,p.2)|.aM::ss,r,st=>let p:=cD ss r st;(.aM::p.1,p.2)|.aR::ss,r,st=>let p:=cD ss r st;(.aR::p.1,p.2)
inductive aW(α β:Type)where|ret(a:α)|aN(t:TypeId)(row:List AV)(b:β)
def AT(p:Bool)(l m:List LT):Type:=match p with|false=>RT l|true=>aW (RT l) (RT m)
def FK{ρ α β:Type}(x:Option (aW α β))(k:α->Option ρ)(kp:TypeId->List AV->β->Option ρ):Option ρ:=ask x λa=>match a with|.ret a=>k a|.aN t row b=>kp t row b
def RZ{ρ:Type}{l m:List LT}(p:Bool):Option (AT p l m)->(RT l->Option ρ)->(TypeId->List AV->RT m->Option ρ)->Option ρ:=match p with|false=>λx k _=>ask x k|true=>λx k kp=>FK x k kp
def TG{l m:List LT}(p:Bool):Option (RT l)->Option (AT p l m):=match p with|false=>λx=>x|true=>λx=>ask x λa=>some (.ret a)
def R0{l m:List LT}(p:Bool)(t:TypeId)(row:List AV):Option (RT m)->Option (AT p l m):=match p with|false=>λ_=>none|true=>λx=>ask x λb=>some (.aN t row b)
structure dJ(pn:FuncId->Bool):Type 1 where
 call:(f:FuncId)->(args:List SV)->(aA:List aq)->(shs psh:List Sh)->Option (AT (pn f) (bF shs) (bF psh))
 jump:(f:FuncId)->(key:Nat)->(shs psh:List Sh)->(nb:Nat)->(qT:List SV)->(aA:List aq)->(df:List (FuncId×List SV))->Option (AT (pn f) (bF shs) (bF psh))
 qD:(f:FuncId)->(m:jg)->(args:List SV)->(aA:List aq)->(shs:List Sh)->Option (Bool×RT (bF shs))
 inl:{ρ:Type}->(f:FuncId)->(args:List SV)->(st:ae)->(k:SV->ae->Option ρ)->(kp:TypeId->List AV->ae->Option ρ)->Option ρ
 gZ:(f:FuncId)->(ts:List Tmp)->(bu:List SV)->(aA:List aq)->(shs:List Sh)->Option (RT (bF shs))
structure dr where
 cut:FuncId->Nat->Option (List (Tmp×Nat×TypeId))
 own:FuncId->Nat
 bx:FuncId->TypeId->Nat
 kn:FuncId->Option (List SV->Option (Bool×SV))
 pn:FuncId->Bool
 kept:TypeId->Bool
 inl:FuncId->Bool
 pts:List TypeId
 lp:FuncId->Option (List Tmp)
 fz:FuncId->Bool
 ls:TypeId->Bool
 un:FuncId->Nat
 HF:FuncId->Bool
 in2:FuncId->Bool
 tf:FuncId->Bool
mutual
def vy:SV->List Nat|.ref i _=>[i]|.own i=>[i]|.dI i _ _=>[i]|.fW i=>[i]|.om i=>[i]|.ni i _=>[i]|.opt _ v=>vy v|.fn _ cs=>dV cs|.agg cs=>dV cs|.bC cs=>dV cs|.eb _ v=>vy v|.yl _ _ cs=>dV cs|_=>[]
def dV:List SV->List Nat|[]=>[]|v::vs=>vy v++dV vs
end
def ag6:aq->List Nat|.box _ cs=>dV cs|_=>[]
def mR:List Nat->Nat->Bool|[],_=>false|y::ys,x=>Nat.beq x y||mR ys x
def idx:List Nat->Nat->Option Nat|[],_=>none|y::ys,x=>match Nat.beq x y with|true=>some 0|false=>(idx ys x).map (.+1)
def qf(ob:Tr aq):Nat->List Nat->List Nat->List Nat|0,_,c=>c|_,[],c=>c|n+1,i::is,c=>match mR c i with|true=>qf ob n is c|false=>qf ob n (is++(match ob.get i with|some x=>ag6 x|none=>[])) (c++[i])
mutual
def oz(L:List Nat):SV->SV|.ref i o=>(match idx L i with|some j=>.ref j o|none=>.aM)|.own i=>(match idx L i with|some j=>.own j|none=>.aM)|.om i=>(match idx L i with|some j=>.om j|none=>.aM)|.opt b v=>.opt b (oz L v)|.fn f cs=>.fn f (iV L cs)|.agg cs=>.agg (iV L cs)|.bC cs=>.bC (iV L cs)|.eb t v=>.eb t (oz L v)|.yl f ts cs=>.yl f ts (iV L cs)|.dI _ _ _=>.aM|.fW _=>.aM|.ni _ _=>.aM|v=>v
def iV(L:List Nat):List SV->List SV|[]=>[]|v::vs=>oz L v::iV L vs
end
def bU(ob:Tr aq):SV->SV
 |.own i=>match ob.get i with|some (.arr t r _)=>.dl t r|some (.tr t r _)=>.dl t r|_=>.aM
 |.om i=>match ob.get i with|some (.mp t r _)=>.md t r|_=>.aM
 |v=>v
def mS(ob:Tr aq):SV->SV|.agg cs=>.agg (cs.map (bU ob))|v=>bU ob v
def vz(ob:Tr aq):SV->SV
 |.ref i off=>match ob.get i with|some (.box t cs)=>(match dV (cs.map (bU ob)),cJ (cs.map (bU ob))with|[],true=>.pb t (cs.map (bU ob)) off|_,_=>.aM)|_=>.aM
 |v=>bU ob v
def wa(ob:Tr aq):SV->SV|.fn g cs=>.fn g (cs.map (vz ob))|.agg cs=>.agg (cs.map (bU ob))|v=>vz ob v
section
variable (A:dr)
def mB(st:ae)(e:TypeId):SV×ae:=match isByte P e,iU P e with|true,_=>(.own st.nx,{st with ob:=st.ob.put st.nx (.bh .empty e),nx:=st.nx+1})|false,true=>(.own st.nx,{st with ob:=st.ob.put st.nx (.arr e [] false),nx:=st.nx+1})|false,false=>(.aM,st)
def rV(m:Nat)(i:Nat)(l:Lf)(v:SV)(st:ae):SV×ae:=match l,v with|.sl e,.sc (.slice none 0 0)=>(match m with|1=>(.dl e [],st)|3=>(match iU P e&&!isByte P e with|true=>(.own st.nx,{st with ob:=st.ob.put st.nx (.tr e [] false),nx:=st.nx+1})|false=>(v,st))|4=>(v,st)|5=>((mB P st e).1,{(mB P st e).2 with ob:=bo (mB P st e).2.ob [(mB P st e).1]})|_=>mB P st e)|.sl _,.own j=>(match m with|1=>(bU st.ob (.own j),{st with ob:=bo st.ob [.own j]})|5=>(v,{st with ob:=bo st.ob [.own j]})|_=>(v,st))|.no,.sc (.pointer none)=>(match m with|2=>(.opt false (.ref i 0),st)|_=>(v,st))|.no,.ref j o=>(match m with|2=>(.opt true (.ref j o),st)|_=>(v,st))|.no,.om j=>(match m with|4=>(v,st)|_=>(bU st.ob (.om j),{st with ob:=bo st.ob [.om j]}))|_,v=>(v,st)
def kK(m:Nat)(i:Nat):List Lf->List SV->ae->List SV×ae|l::ls,v::vs,st=>((rV P m i l v st).1::(kK m i ls vs (rV P m i l v st).2).1,(kK m i ls vs (rV P m i l v st).2).2)|_,vs,st=>(vs,st)
def mo(b:TypeId->Nat):List Nat->ae->ae
 |[],st=>st
 |i::is,st=>match st.ob.get i with
  |some (.box t cs)=>
   let p:=kK P (b t) i (lay P t) cs st
   mo b is (match cJ p.1 with|true=>{p.2 with ob:=p.2.ob.put i (.box t p.1)}|false=>p.2)|_=>mo b is st
def cq(ob:Tr aq)(L:List Nat):List Nat->List aq|[]=>[]|i::is=>(match ob.get i with|some (.box t cs)=>.box t (iV L cs)|some x=>x|none=>.gone)::cq ob L is
def nodup:List Nat->Bool|[]=>true|x::xs=>!mR xs x&&nodup xs
def oq:SV->List Nat|.own i=>[i]|_=>[]
def iW:List aq->Bool|[]=>true|.box _ cs::os=>cJ cs&&iW os|_::os=>iW os
def nX:List aq->Bool|[]=>true|.gone::_=>false|_::os=>nX os
def lF(b:TypeId->Nat)(st:ae)(bu:List SV)(pre:List Nat):Option (List SV×List aq×List Nat×ae):=
 let c:=mo P b (qf st.ob 200 (pre++dV bu) []) st
 let L:=qf c.ob 200 (pre++dV bu) []
 let aA:=cq c.ob L L
 match nodup L&&iW aA with|true=>some (iV L bu,aA,L,c)|false=>none
def AA:List Nat->List Nat->Bool|[],_=>true|_,[]=>false|x::xs,y::ys=>Nat.beq x y&&AA xs ys
def zl:List Sh->Bool|[]=>true|.aM::_=>false|_::ss=>zl ss
def TH(aA:List aq):SV->Sh
 |.sc (.int k _)=>.int k
 |.sc (.bool _)=>.bool
 |.sc (.string _)=>.str
 |.dl t _=>.dl t
 |.md t _=>.md t
 |.own i=>match aA[i]? with|some (.arr t _ l)=>.own t l|some (.tr t _ _)=>.tr t|some (.bh _ t)=>.bh t|_=>.aM
 |.om i=>match aA[i]? with|some (.mp t _ _)=>.md t|_=>.aM
 |.opt _ v=>.opt v
 |.ref i o=>.gz (.ref i o)
 |.fn f cs=>match dV cs with|[]=>.gz (.fn f cs)|_=>.aM
 |.sc v=>.gz (.sc v)|_=>.aM
def kz(aA:List aq):List aq->List Sh|[]=>[]|.box _ cs::os=>cs.map (TH aA)++kz aA os|_::os=>kz aA os
def E6(A:dr)(aA:List aq):List aq->List Sh|[]=>[]|.box t cs::os=>(match A.kept t with|true=>cs.map (TH aA)|false=>cs.map λ_=>.aR)++E6 A aA os|_::os=>E6 A aA os
def PE(A:dr)(f:FuncId)(aA:List aq):List Sh:=match A.pn f with|true=>E6 A aA aA|false=>[]
def nO(m:Nat):List Lf->List Sh|[]=>[]|.int k::ls=>.int k::nO m ls|.bool::ls=>.bool::nO m ls|.str::ls=>.str::nO m ls|.sl t::ls=>(match m with|0=>.dl t|m+1=>match isByte P t with|true=>.bh t|false=>.own t (Nat.beq m 0))::nO m ls|.no::ls=>.aM::nO m ls
def El(m:Nat)(t:TypeId):List Sh:=match kT P t with|some _=>[.md t]|none=>nO P m (lay P t)
def mH(m:Nat):List TypeId->List Sh|[]=>[]|t::ts=>El P m t++mH m ts
def p6:List TypeId->List SV->List SV
 |[],_=>[]
 |t::ts,vs=>
  let n:=(lay P t).length
  (match ep P t with|some true=>.agg (vs.take n)|_=>(vs.take n).headD .aM)::p6 ts (vs.drop n)
def gO(ob:Tr aq):List Nat->Tr aq|[]=>ob|i::is=>gO (ob.put i .gone) is
def jY:List Nat->List aq->List SV->Tr aq->Tr aq|i::is,.box t cs::os,vs,ob=>jY is os (vs.drop cs.length) (ob.put i (.box t (vs.take cs.length)))|_::is,_::os,vs,ob=>jY is os vs ob|_,_,_,ob=>ob
mutual
def rW(L:List Nat):SV->SV|.ref i o=>(match L[i]? with|some j=>.ref j o|none=>.aM)|.opt b v=>.opt b (rW L v)|.fn f cs=>.fn f (nP L cs)|v=>v
def nP(L:List Nat):List SV->List SV|[]=>[]|v::vs=>rW L v::nP L vs
end
def qu(shs:List Sh)(m:Nat)(ts:List TypeId)(L:List Nat)(aA:List aq)(c:ae)(r:RT (bF shs))(k:SV->ae->Option ρ):Option ρ:=
 let p:=cD shs r {c with ob:=gO c.ob L}
 let us:=nP L p.1
 match cJ (us.drop m)with|false=>none|true=>k (match p6 P ts (us.take m)with|[v]=>v|vs=>.bC vs) {p.2 with ob:=jY L aA (us.drop m) p.2.ob}
def so(f:FuncId)(fn:Func):List Sh:=mH P (A.own f) fn.resultTypes.toList
def FL(t:TypeId)(v:SV)(st:ae):Option (List (List AV)):=match v,st.ob.get 0 with|.bC [],some (.mp t' rows false)=>if t'=t then some rows else none|_,_=>none
def E7(t:TypeId)(rows:List (List AV)):ae:=⟨.leaf,Tr.leaf.put 0 (.mp t rows false),1,[],[],.no⟩
def E8(R:dJ A.pn)(st:ae)(f:FuncId)(args:List SV)(k:SV->ae->Option ρ):Option ρ:=match dV args with|[i]=>(match st.ob.get i with|some (.mp t rows false)=>ask (R.inl f (iV [i] args) (E7 t rows) (FL t) (λ_ _ _=>none)) λrows'=>k (.bC []) {st with ob:=st.ob.put i (.mp t rows' false)}|_=>none)|_=>none
def AB(R:dJ A.pn)(fn:Func)(kp:TypeId->List AV->ae->Option ρ)(st:ae)(f:FuncId)(args:List SV)(k:SV->ae->Option ρ):Option ρ:=match A.kn f with|some g=>(match g (args.map (mS st.ob))with|some (b,v)=>aa b (k v {st with ob:=bo st.ob (args.flatMap bl)}) none|none=>none)|none=>match lF P (A.bx f) {st with ob:=bo st.ob (args.flatMap bl)} (args.map (mS st.ob)) []with|none=>none|some (bu,aA,L,c)=>match zl (kz aA aA)&&nX aA with|false=>none|true=>RZ (A.pn f) (R.call f bu aA (so P A f fn++kz aA aA) (PE A f aA)) (λr=>qu P (so P A f fn++kz aA aA) (so P A f fn).length fn.resultTypes.toList L aA c r k) (λt row b=>qu P (PE A f aA) 0 [] L aA c b λ_ st=>kp t row st)
def E9(R:dJ A.pn)(fn:Func)(st:ae)(f:FuncId)(args:List SV)(k:SV->ae->Option ρ):Option ρ:=match dV (args.map (wa st.ob))with|[]=>AB P A R fn (λ_ _ _=>none) {st with ob:=.leaf} f (args.map (wa st.ob)) λv _=>(match v with|.sc u=>k (.sc u) st|_=>none)|_=>none
def AD(R:dJ A.pn)(kp:TypeId->List AV->ae->Option ρ)(st:ae)(f:FuncId)(args:List SV)(k:SV->ae->Option ρ):Option ρ:=match P.funcs[f]? with|none=>none|some fn=>match A.inl f with|true=>R.inl f args st k kp|false=>match A.HF f with|true=>E8 A R st f args k|false=>match A.tf f with|true=>E9 P A R fn st f args k|false=>AB P A R fn kp st f args k
def vb(R:dJ A.pn)(st:ae)(f:FuncId)(m:jg)(args:List SV)(k:Bool->ae->Option ρ):Option ρ:=match P.funcs[f]? with|none=>none|some fn=>match lF P (A.bx f) {st with ob:=bo st.ob (args.flatMap bl)} (args.map (mS st.ob)) []with|none=>none|some (bu,aA,L,c)=>match zl (kz aA aA)&&nX aA with|false=>none|true=>ask (R.qD f m bu aA (so P A f fn++kz aA aA)) λr=>qu P (so P A f fn++kz aA aA) (so P A f fn).length fn.resultTypes.toList L aA c r.2 λ_ st=>k r.1 st
def Em(R:dJ A.pn)(st:ae)(f:FuncId)(ts:List Tmp)(caps args:List SV)(k:SV->ae->Option ρ):Option ρ:=match lF P (A.bx f) {st with ob:=bo st.ob (args.flatMap bl)} (caps++args.map (mS st.ob)) []with|none=>none|some (bu,aA,L,c)=>match zl (kz aA aA)&&nX aA&&fj bu with|false=>none|true=>ask (R.gZ f ts bu aA (kz aA aA)) λr=>qu P (kz aA aA) 0 [] L aA c r λ_ st=>k (.sc (.bool true)) st
def oA(m:Nat)(e:TypeId)(v:SV)(st:ae):SV×ae:=match m,v with|2,.sc (.slice none 0 0)=>mB P st e|1,.sc (.slice none 0 0)=>(.dl e [],st)|1,.own i=>(bU st.ob (.own i),{st with ob:=bo st.ob [.own i]})|1,.om i=>(bU st.ob (.om i),{st with ob:=bo st.ob [.om i]})|3,.sc (.pointer none)=>(.ls e [],st)|_,v=>(v,st)
def ot(tm:Tr SV):List (Tmp×Nat×TypeId)->ae->List SV×ae|[],st=>([],st)|(t,m,e)::ts,st=>((oA P m e (bH tm (.tmp t)) st).1::(ot tm ts (oA P m e (bH tm (.tmp t)) st).2).1,(ot tm ts (oA P m e (bH tm (.tmp t)) st).2).2)
def upto:Nat->List Nat|0=>[]|n+1=>upto n++[n]
def FM:List (FuncId×List SV)->List Nat|[]=>[]|(_,vs)::l=>dV vs++FM l
def FN(L:List Nat):List (FuncId×List SV)->List (FuncId×List SV)|[]=>[]|(f,vs)::l=>(f,iV L vs)::FN L l
def sq(R:dJ A.pn)(f:FuncId)(shs psh:List Sh)(nb:Nat)(key:Nat)(st:ae):Option (AT (A.pn f) (bF shs) (bF psh)):=
 match st.cm,A.cut f key with
 |.no,some ts=>
  let p:=ot P st.tm ts st
  match lF P (A.bx f) p.2 p.1 (upto nb++FM st.df)with|none=>none|some (bu,aA,L,_)=>match AA (upto nb) L with|true=>R.jump f key shs psh nb bu aA (FN L st.df)|false=>none
 |_,_=>none
def Fa(st:ae)(v:SV)(k:SV->ae->Option ρ):Option ρ:=match v with|.ni i h=>(match st.ob.get i with|some (.tr t r false)=>jy {st with ob:=st.ob.put i .gone} (.tr t (r.take h.toNat) false) λj st=>k (.own j) st|_=>none)|v=>k v st
def sG(st:ae):Option Operand->Option SV|none=>none|some o=>some (bH st.tm o)
def yQ(st:ae)(b:Builtin)(c:Array TypeId)(args:List SV)(k:SV->ae->Option ρ):Option ρ:=
 match b,args with
 |.append,[x,y]=>match c[0]?,c[1]? with
  |some t,some t'=>match P.underlying t,P.underlying t' with|some (.slice e),some (.slice _)=>pZ P st e x y k|some (.slice e),some .string=>pZ P st e x y k|_,_=>none
  |_,_=>none
 |.len,[x]=>match lT st x,c[0]? with|some n,some t=>(match P.underlying t,Ek x with|some (.slice _),false=>k (.sc (.int .i64 n)) st|some .string,true=>k (.sc (.int .i64 n)) st|_,_=>none)|_,_=>none
 |.unsafeSliceData,[.own i]=>match st.ob.get i with|some (.bh s _)=>aa (decide (0<s.size)) (k (.fW i) st) (k (.sc (.pointer none)) st)|_=>none
 |.unsafeSliceData,[.sc (.slice none 0 0)]=>k (.sc (.pointer none)) st
 |.unsafeString,[.sc (.pointer none),.sc (.int _ n)]=>aa (n==0) (match c[0]? with|some _=>k (.sc (.string .empty)) st|none=>none) none
 |.unsafeString,[.fW i,.sc (.int _ n)]=>match st.ob.get i,c[0]? with
  |some (.bh s t),some pt=>match P.underlying pt with
   |some (.pointer u)=>match bt P u with|some 1=>if t=u then head s n λr=>k (.sc (.string r)) st else none|_=>none
   |_=>none
  |_,_=>none
 |_,_=>none
def abo:SV->Bool|.bC []=>true|_=>false
def tv(tm:Tr SV):List Operand->Bool|[]=>false|x::xs=>abo (bH tm x)||tv tm xs
def PF(t:TypeId):Option SV:=match P.info? t with|some i=>i.zero.map gx|none=>none
def h9(R:dJ A.pn)(kp:TypeId->List AV->ae->Option ρ)(o:Oper)(st:ae)(k:SV->ae->Option ρ):Option ρ:=
 let e:=bH st.tm
 match o.op with
 |.alloc t=>match P.info? t with
  |some i=>match i.zero with|some z=>(match cJ (bl (gx z))with|true=>jy st (.box t (bl (gx z))) λi st=>k (.ref i 0) st|false=>none)|none=>none
  |none=>none
 |.box t x=>match cJ (bl (e x))with|true=>jy st (.box t (bl (e x))) λi st=>k (.ref i 0) st|false=>none
 |.build t parts=>match Ej P t (parts.toList.map λ(i,x)=>(i,e x))with|some v=>k v st|none=>none
 |.buildSlice t len parts=>Ji P st t len (parts.toList.map λ(i,x)=>(i,e x)) k
 |.load t a=>va P st t (e a) λv=>k v st
 |.store t a x=>Fa st (e x) λv st=>Eh P st t (e a) v λst=>k (.bC []) st
 |.nilCheck x=>match e x with|.ref i o=>k (.ref i o) st|.dI i j o=>k (.dI i j o) st|.dj t r o=>k (.dj t r o) st|.fn f cs=>k (.fn f cs) st|.opt b (.ref i o)=>aa b (k (.ref i o) st) none|.pb t cs o=>k (.pb t cs o) st|.ls t rows=>mA rows λr rest=>k (.pb t (fU r (lay P t).dropLast 0++[.ls t rest]) 0) st|_=>none
 |.binOp op t x y _=>FJ P (mG x||mG y) op t (e x) (e y) λv=>k v st
 |.unOp op _ x=>match op,e x with|.not,.sc (.bool b)=>k (.sc (.bool !b)) st|.neg,.sc (.int kd n)=>k (.sc (.int kd (kd.wrap (0-n)))) st|_,_=>none
 |.convert s d x=>match e x with|.sc (.int _ n)=>(match P.underlying s,P.underlying d with|some (.int _),some (.int kd)=>k (.sc (.int kd (kd.wrap n))) st|_,_=>none)|.sc (.string v)=>(match P.underlying s,P.underlying d with|some .string,some .string=>k (.sc (.string v)) st|_,_=>none)|.sc (.pointer none)=>(match P.underlying s,P.underlying d with|some (.pointer _),some .unsafePointer=>k (.sc (.pointer none)) st|some .unsafePointer,some .unsafePointer=>k (.sc (.pointer none)) st|some .unsafePointer,some (.pointer _)=>k (.sc (.pointer none)) st|_,_=>none)|.ref i o=>(match st.ob.get i,P.underlying s,P.underlying d with|some (.box _ cs),some (.pointer t),some .unsafePointer=>(match bt P t with|some (_+1)=>if o+1<=cs.length then k (.ref i o) st else none|_=>none)|some (.box t cs),some .unsafePointer,some (.pointer u)=>(match bt P u with|some (_+1)=>if o+1<=cs.length then(match liesAt P P.depth t (cs.length/P.cellsOf t) o u 1 with|true=>k (.ref i o) st|false=>none)else none|_=>none)|_,_,_=>none)|.own i=>(match P.underlying s,P.underlying d,st.ob.get i with|some (.slice e),some .string,some (.bh b _)=>(match isByte P e with|true=>k (.sc (.string b)) st|false=>none)|_,_,_=>none)|_=>none
 |.makeInterface t x=>match P.underlying t with|some (.interface _)=>none|some _=>k (.eb t (e x)) st|none=>none
 |.makeFunc fn first caps=>match fn,first.toList with|.func f,[]=>k (.fn f (caps.toList.map e)) st|_,_=>none
 |.slice t x E hi D=>zE P st t (e x) (sG st E) (sG st hi) (sG st D) k
 |.fieldAddr t x f=>match CX P t (e x) f with|some v=>k v st|none=>none
 |.field t x f=>match Ei P t (e x) f with|some v=>k v st|none=>none
 |.indexAddr t x i=>CY P st t (e x) (e i) λv=>k v st
 |.index t x i=>match P.underlying t,e x,e i with|some .string,.sc (.string s),.sc (.int _ n)=>i6 s n λb=>k (.sc (.int .u8 b)) st|some (.array len el),.agg cs,.sc (.int _ n)=>FE P el len cs n λv=>k v st|_,_,_=>none
 |.extract t i=>match e t with
  |.bC vs=>match vs[i]? with|some v=>k v st|none=>none
  |_=>none
 |.call c=>match c.callee with|.builtin b=>yQ P st b c.argTypes (c.args.toList.map e) k|.invoke _ _=>none|.value f=>match e f with|.fn f caps=>(match P.funcs[f]? with|some fn=>(match fn.body with|some _=>AD P A R kp st f (c.args.toList.map e++caps) k|none=>match pY fn,c.args.toList.map e++caps with|1,[x]=>k x st|_,_=>none)|none=>none)|.yl f ts caps=>Em P A R st f ts caps (c.args.toList.map e) k|_=>none
 |.typeAssert x _ a ok=>match P.underlying a,e x with|some (.interface _),_=>none|some _,.eb t v=>(match Nat.beq t a with|true=>k (match ok with|true=>.bC [v,.sc (.bool true)]|false=>v) st|false=>match ok,PF P a with|true,some z=>k (.bC [z,.sc (.bool false)]) st|_,_=>none)|_,_=>none
 |.makeMap t none=>match kT P t with|some _=>jy st (.mp t [] false) λi st=>k (.om i) st|none=>none
 |.lookup t x i ok=>Az P st t (e x) (e i) ok λv=>k v st|.mapUpdate t m i x=>FD P st t (e m) (e i) (e x) λst=>k (.bC []) st|_=>none
def refine(d:Tmp)(t:Bool):List (Tmp×Tmp)->Tr SV->Tr SV|[],tm=>tm|(x,y)::l,tm=>match Nat.beq y d with|true=>refine d t l (tm.put x (.sc (.bool t)))|false=>match Nat.beq x d with|true=>refine d t l (tm.put y (.sc (.bool t)))|false=>refine d t l tm
def known(st:ae)(d:Tmp)(t:Bool):ae:={st with tm:=refine d t st.al (st.tm.put d (.sc (.bool t)))}
def uv(d:Tmp):List (Tmp×Tmp)->List (Tmp×Tmp)|[]=>[]|(x,y)::l=>match Nat.beq x d||Nat.beq y d with|true=>uv d l|false=>(x,y)::uv d l
def dq(st:ae)(dst:Option Tmp)(v:SV):ae:=match dst with|some d=>{st with tm:=st.tm.put d v,al:=uv d st.al}|none=>st
def jZ(st:ae)(dst:Option Tmp)(x:Operand):ae:=
 let v:=bH st.tm x
 let c:=dq st dst v
 match dst,x,v with
 |some d,.tmp s,.sc (.bool _)=>match Nat.beq d s with|true=>c|false=>{c with al:=(d,s)::c.al}
 |_,_,_=>c
def ke(R:dJ A.pn)(kp:TypeId->List AV->ae->Option ρ)(o:Oper)(st:ae)(k:ae->Option ρ):Option ρ:=
 match o.op with
 |.move x|.assign x=>k (jZ st o.dst x)
 |.pick c a b=>match c with
  |.tmp d=>match st.tm.get d with|some (.sc (.bool t))=>aa t (k (jZ (known st d true) o.dst a)) (k (jZ (known st d false) o.dst b))|_=>none
  |.const (.bool t)=>k (jZ st o.dst (match t with|true=>a|false=>b))|_=>none
 |_=>match tv st.tm o.op.operands.toList with|true=>none|false=>h9 P A R kp o st λv st=>k (dq st o.dst v)
def rX(ops:Array Oper)(o:Oper)(st:ae)(run:ae->Option ρ)(skip:ae->Option ρ):Option ρ:=
 match o.guard with
 |none=>run st
 |some (j,want)=>match(ops[j]?).bind (·.dst)with
  |some d=>match st.tm.get d with|some (.sc (.bool b))=>(match want with|true=>aa b (run (known st d true)) (skip (known st d false))|false=>aa b (skip (known st d true)) (run (known st d false)))|some (.bC [])=>skip st|_=>none
  |none=>none
def TI(A:dr)(c:Bool):Op->Bool|.panic _|.defer _=>true|.slice _ _ _ _ (some _)=>true|.call {callee:=.builtin .recover,..}=>true|.call {callee:=.builtin .max,..}=>true|.box t _=>c||A.ls t|_=>false
def lg(a b:Int):Int:=if b>a then b else a
def Bp(kd:IntKind):List SV->Int->Option Int|[],a=>some a|.sc (.int c b)::vs,a=>if kd=c then Bp kd vs (lg a b)else none|_,_=>none
def R3:List SV->Option SV
 |.sc (.int kd a)::vs=>match Bp kd vs a with|some m=>some (.sc (.int kd m))|none=>none
 |_=>none
def FO(st:ae)(t:TypeId)(cs:List SV):Option (SV×ae):=match dV (cs.map (bU st.ob)),cJ cs&&cJ (cs.map (bU st.ob))with|[],true=>some (.pb t (cs.map (bU st.ob)) 0,{st with ob:=bo st.ob cs})|_,_=>none
def FP(st:ae)(t:TypeId)(cs:List SV):Option (SV×ae):=match cJ cs,rowOf P st.ob (lay P t).dropLast cs.dropLast,cs.getLast? with|true,some row,some (.ls t' rows)=>if t'=t then some (.ls t (row::rows),{st with ob:=bo st.ob cs.dropLast})else none|true,some row,some (.sc (.pointer none))=>some (.ls t [row],{st with ob:=bo st.ob cs.dropLast})|_,_,_=>none
def Bq(t:TypeId)(row:List AV):SV:=.eb t (match ep P t,lay P t with|some false,[l]=>hY l row 0|_,ls=>.agg (fU row ls 0))
def ac0(t:TypeId):Bool:=(lay P t).all λ|.int _|.bool|.str=>true|_=>false
def Cf(A:dr)(kp:TypeId->List AV->ae->Option ρ)(o:Oper)(st:ae)(k:ae->Option ρ):Option ρ:=match tv st.tm o.op.operands.toList with|true=>none|false=>match o.op with|.panic x=>(match bH st.tm x with|.eb t v=>(match ac0 P t,ep P t,v with|true,some true,.agg cs=>(match rowOf P .leaf (lay P t) cs with|some row=>kp t row st|none=>none)|true,some false,v=>(match rowOf P .leaf (lay P t) [v]with|some row=>kp t row st|none=>none)|_,_,_=>none)|_=>none)|.defer c=>(match c.callee with|.value f=>(match bH st.tm f,st.cm with|.fn f caps,.no=>k (dq {st with df:=(f,c.args.toList.map (bH st.tm)++caps)::st.df} o.dst (.bC []))|_,_=>none)|_=>none)|.call {callee:=.builtin .recover,args,..}=>(match args.toList,st.cm with|[],.ret=>k (dq st o.dst (.sc .nilIface))|[],.aN t row false=>k (dq {st with cm:=.aN t row true} o.dst (Bq P t row))|_,_=>none)|.call {callee:=.builtin .max,args,..}=>(match R3 (args.toList.map (bH st.tm))with|some v=>k (dq st o.dst v)|none=>none)|.box t x=>(match(match A.ls t with|true=>FP P st t (bl (bH st.tm x))|false=>FO st t (bl (bH st.tm x)))with|some (v,st)=>k (dq st o.dst v)|none=>none)|.slice t x none (some hi) (some z)=>(match P.underlying t,bH st.tm x,bH st.tm hi,bH st.tm z with|some (.slice e),.own j,.sc (.int _ n),.sc (.int _ m)=>(match st.ob.get j with|some (.arr t' rows aY)=>(match Nat.beq t' e with|true=>aa (decide (n=(rows.length:Int)/\m=(rows.length:Int))) (k (dq {st with ob:=(st.ob.put j .gone).put st.nx (.arr e rows aY),nx:=st.nx+1} o.dst (.own st.nx))) none|false=>none)|_=>none)|_,_,_,_=>none)|_=>none
def lU(R:dJ A.pn)(c:Bool)(kp:TypeId->List AV->ae->Option ρ)(ops:Array Oper):List Oper->ae->(ae->Option ρ)->Option ρ|[],st,k=>k {st with al:=[]}|o::rest,st,k=>rX ops o st (λst=>match TI A c o.op with|true=>Cf P A kp o st λst=>lU R c kp ops rest st k|false=>ke P A R kp o st λst=>lU R c kp ops rest st k) (λst=>lU R c kp ops rest (dq st o.dst (.bC [])) k)
def hO(A:dr)(st:ae)(o:Oper):Bool:=match o.op with|.call c=>(match c.callee with|.value f=>(match bH st.tm f with|.fn g caps=>!A.inl g&&!A.HF g&&(A.tf g||(match dV ((c.args.toList.map (bH st.tm)++caps).map (mS st.ob))with|[]=>true|_=>false))|_=>false)|_=>false)|_=>false
def mT(st:ae)(o:Oper):Option Nat:=match o.op with|.load _ x=>(match bH st.tm x with|.ref j _=>some j|_=>none)|_=>none
def DV(ob:Tr aq)(L:List Nat):Nat->List Nat|0=>[]|n+1=>match ob.get n,mR L n with|some (.box _ _),false=>n::DV ob L n|_,_=>DV ob L n
def qv(st:ae)(o:Oper):List Nat:=DV st.ob (qf st.ob 200 (dV (o.op.operands.toList.map (bH st.tm))) []) st.nx
def R4:SV->Bool|.dj _ _ _=>true|.dl _ _=>true|.pb _ _ _=>true|.md _ _=>true|.sc _=>true|_=>false
def nQ(st:ae)(o:Oper):Bool:=o.op.operands.toList.all λx=>R4 (bH st.tm x)
def pR(st:ae)(o:Oper):Bool:=match o.op with|.store _ x _=>(match bH st.tm x with|.ref i _=>(match st.ob.get i with|some (.box _ _)=>true|_=>false)|_=>false)|_=>false
def sr:List Nat->ae->(ae->(SV->ae->Option ρ)->(TypeId->List AV->ae->Option ρ)->Option ρ)->(SV->ae->Option ρ)->(TypeId->List AV->ae->Option ρ)->Option ρ|[],st,run,k,kp=>run st k kp|j::js,st,run,k,kp=>match st.ob.get j with|some (.box t cs)=>sr js {st with ob:=st.ob.put j .gone} run (λv st'=>k v {st' with ob:=st'.ob.put j (.box t cs)}) (λt' row st'=>kp t' row {st' with ob:=st'.ob.put j (.box t cs)})|_=>none
def vc(b:List Nat)(fs:List (Nat×Bool))(es:List (Nat×Bool×List Nat))(rf:List (Nat×Nat)):Bool:=match es with|[]=>true|_=>es.all λe=>(fs.all λp=>(b.getD p.1 0).testBit e.1||(b.getD e.1 0).testBit p.1||(p.2&&e.2.1&&Nat.blt p.1 e.1))&&rf.all λp=>(b.getD p.1 0).testBit e.1||(b.getD e.1 0).testBit p.1||mR e.2.2 p.2
def iX(R:dJ A.pn)(ops:Array Oper)(b:List Nat)(m:Nat)(k:List (Nat×Bool)->List (Nat×Nat)->Option ρ):List Oper->Nat->List (Nat×Bool)->List (Nat×Nat)->ae->Option ρ|[],_,fs,rf,_=>k fs rf|o::rest,i,fs,rf,st=>match(b.getD i 0).testBit m with|true=>iX R ops b m k rest (i+1) fs rf (dq st o.dst .aM)|false=>match bg o.op||cd o.op with|true=>rX ops o st (λst=>ke P A R (λ_ _ _=>none) o st λst'=>(match cd o.op&&jt o.op,mT st o with|true,some j=>iX R ops b m k rest (i+1) fs ((i,j)::rf) st'|true,none=>iX R ops b m k rest (i+1) ((i,nQ st o)::fs) rf st'|false,_=>iX R ops b m k rest (i+1) fs rf st')) (λst=>iX R ops b m k rest (i+1) fs rf (dq st o.dst (.bC [])))|false=>none
def ja(R:dJ A.pn)(kp:TypeId->List AV->ae->Option ρ)(ops:Array Oper)(b:List Nat):List Oper->Nat->List (Nat×Bool×List Nat)->List (Nat×Bool)->List (Nat×Nat)->ae->(List (Nat×Bool×List Nat)->List (Nat×Bool)->List (Nat×Nat)->ae->Option ρ)->Option ρ|[],_,es,fs,rf,st,k=>k es fs rf {st with al:=[]}|o::rest,i,es,fs,rf,st,k=>rX ops o st (λst=>match bg o.op||cd o.op with|true=>ke P A R (λ_ _ _=>none) o st λst'=>(match cd o.op&&jt o.op,mT st o with|true,some j=>ja R kp ops b rest (i+1) es fs ((i,j)::rf) st' k|true,none=>ja R kp ops b rest (i+1) es ((i,nQ st o)::fs) rf st' k|false,_=>ja R kp ops b rest (i+1) es fs rf st' k)|false=>match tv st.tm o.op.operands.toList with|true=>none|false=>sr (match hO A st o with|true=>[]|false=>qv st o) st (λst k kp=>h9 P A R kp o st k) (λv st'=>ja R kp ops b rest (i+1) (match hO A st o with|true=>es|false=>(i,pR st o,qv st o)::es) fs rf (dq st' o.dst v) k) (λt row st'=>iX P A R ops b i (λfs rf=>match vc b fs es rf with|true=>kp t row {st' with tm:=.leaf,al:=[]}|false=>none) rest (i+1) fs rf (dq st o.dst .aM))) (λst=>ja R kp ops b rest (i+1) es fs rf (dq st o.dst (.bC [])) k)
def vA(R:dJ A.pn)(c:Bool)(kp:TypeId->List AV->ae->Option ρ)(ops:Array Oper)(draw:Bool)(st:ae)(k:ae->Option ρ):Option ρ:=match draw with|false=>lU P A R c kp ops ops.toList st k|true=>ja P A R (λt row st=>match te ops with|true=>kp t row st|false=>none) ops (fi ops.toList []) ops.toList 0 [] [] [] st λes fs rf st=>match te ops&&vc (fi ops.toList []) fs es rf with|true=>k st|false=>none
end
inductive ig where|normal|exit(id:Nat)|ret|aN(t:TypeId)(row:List AV)
def eG(key:Nat):Code->Bool|.seq a b=>eG key a||eG key b|.cond _ a b=>eG key a||eG key b|.block id b=>Nat.beq (key/2) id||eG key b|.loop b=>eG key b|.scope b=>eG key b|.region id _ _=>Nat.beq key (1000000+id)|_=>false
def cU(key:Nat):Code->Nat|.seq a b=>cU key a+cU key b|.cond _ a b=>cU key a+cU key b|.block id b=>(match Nat.beq (key/2) id with|true=>1|false=>0)+cU key b|.loop b=>cU key b|.scope b=>cU key b|.region id _ _=>(match Nat.beq key (1000000+id)with|true=>1|false=>0)|_=>0
def dW(n:Nat):Code->Bool
 |.seq a b=>dW n a&&dW n b
 |.cond _ a b=>dW n a&&dW n b
 |.block _ b=>dW n b
 |.loop b=>dW n b
 |.scope b=>dW n b
 |.region _ ops _=>ops.toList.all λo=>match o.dst with|some d=>Nat.blt d n|none=>true
 |_=>true
def eh:Code->Nat|.seq a b=>eh a+eh b|.cond _ a b=>eh a+eh b|.block _ b=>eh b|.loop b=>eh b|.scope b=>eh b|.rangeFunc _ _ a b=>1+eh a+eh b|_=>0
def fq:Code->Option (List Tmp×Code×Code)|.seq a b=>(match fq a with|some r=>some r|none=>fq b)|.cond _ a b=>(match fq a with|some r=>some r|none=>fq b)|.block _ b=>fq b|.loop b=>fq b|.scope b=>fq b|.rangeFunc _ ps a b=>some (ps.toList,a,b)|_=>none
def qw:Code->List Tmp|.seq a b=>qw a++qw b|.region _ ops _=>ops.toList.filterMap (·.dst)|_=>[]
def PG:SV->Bool|.aM|.opt _ _|.aR=>false|_=>true
def mI:List Tmp->List SV->Tr SV->Tr SV|t::ts,v::vs,tr=>(match PG v with|true=>mI ts vs (tr.put t v)|false=>mI ts vs tr)|_,_,tr=>tr
def ve(n:Nat):List Tmp->List SV->Tr SV->Option (Tr SV)|[],[],tr=>some tr|p::ps,v::vs,tr=>(match Nat.blt p n with|true=>ve n ps vs (tr.put p v)|false=>none)|_,_,_=>none
section
variable {ρ:Type}(A:dr)(R:dJ A.pn)(f:FuncId)(J:Nat->ae->Option ρ)
def FQ(st:ae)(fo:Operand)(k:ig->ae->Option ρ):Option ρ:=match bH st.tm fo,st.cm,A.lp f with|.fn g caps,.no,some ts=>(match P.funcs[g]? with|some fn=>(match fn.body with|some _=>AD P A R (λ_ _ _=>none) st g (.yl f ts (ts.map λt=>bH st.tm (.tmp t))::caps) λ_ st=>k .normal st|none=>none)|none=>none)|_,_,_=>none
def fh(z:Option Nat):Code->ae->(ig->ae->Option ρ)->Option ρ
 |.skip,st,k=>k .normal st
 |.label _,st,k=>k .normal st
 |.region id ops draw,st,k=>match A.cut f (1000000+id)with|some _=>J (1000000+id) st|none=>vA P A R (A.fz f) (λt row st=>k (.aN t row) st) ops draw st λst=>k .normal st
 |.seq a b,st,k=>fh none a st λex st=>match ex with|.normal=>fh none b st k|ex=>k ex st
 |.cond c a b,st,k=>match bH st.tm c with|.sc (.bool t)=>aa t (fh none a st k) (fh none b st k)|_=>none
 |.block id body,st,k=>fh (some id) body st λex st=>match(match ex with|.exit o=>Nat.beq o id|.normal=>true|_=>false)with|true=>(match A.cut f (2*id+1)with|some _=>J (2*id+1) st|none=>k .normal st)|false=>k ex st
 |.loop _,st,_=>match z with|some i=>J (2*i) st|none=>none
 |.exit id,st,k=>k (.exit id) st|.scope body,st,k=>fh none body st k|.ret,st,k=>k .ret st|.rangeFunc fo _ _ _,st,k=>FQ P A R f st fo k|_,_,_=>none
def gm(key:Nat)(c:Option Nat):Code->ae->(ig->ae->Option ρ)->Option ρ
 |.seq a b,st,k=>match eG key a with
  |true=>gm key none a st λex st=>match ex with|.normal=>fh P A R f J none b st k|ex=>k ex st
  |false=>gm key none b st k
 |.cond _ a b,st,k=>match eG key a with|true=>gm key none a st k|false=>gm key none b st k
 |.block id body,st,k=>match Nat.beq key (2*id+1)with|true=>k .normal st|false=>gm key (some id) body st λex st=>match(match ex with|.exit o=>Nat.beq o id|.normal=>true|_=>false)with|true=>(match A.cut f (2*id+1)with|some _=>J (2*id+1) st|none=>k .normal st)|false=>k ex st
 |.loop body,st,k=>match(match c with|some i=>Nat.beq key (2*i)|none=>false)with
  |true=>fh P A R f J none body st λex st=>match ex with|.normal=>J key st|ex=>k ex st
  |false=>gm key none body st λex st=>match ex with|.normal=>(match c with|some i=>J (2*i) st|none=>none)|ex=>k ex st
 |.scope body,st,k=>gm key none body st k|.region _ ops draw,st,k=>vA P A R (A.fz f) (λt row st=>k (.aN t row) st) ops draw st λst=>k .normal st|_,_,_=>none
end
section
variable (A:dr)(R:dJ A.pn)(f:FuncId)(shs psh:List Sh)(nb:Nat)
def mJ(P:Program)(st:ae):List ResultVar->Option (List SV)|[]=>some []|.tmp t::rs=>(mJ P st rs).map λvs=>bH st.tm (.tmp t)::vs|.cell a t::rs=>match va P st t (bH st.tm (.tmp a)) some,mJ P st rs with|some v,some vs=>some (v::vs)|_,_=>none
def mh(ob:Tr aq):List Nat->List SV|[]=>[]|i::is=>match ob.get i with|some (.box _ cs)=>cs++mh ob is|_=>mh ob is
def kx(P:Program):List TypeId->List SV->List SV|t::ts,v::vs=>(match ep P t with|some true=>bl v|_=>[v])++kx P ts vs|_,_=>[]
def mK(P:Program):List TypeId->List SV->Bool|[],[]=>true|t::ts,v::vs=>(match ep P t,v with|some true,.agg cs=>Nat.beq cs.length (lay P t).length|some true,_=>false|_,.agg _=>false|_,_=>Nat.beq (lay P t).length 1)&&mK P ts vs|_,_=>false
def qE(ts:List TypeId)(vs:List SV)(st:ae):Option (RT (bF shs)):=let cs:=kx P ts vs++mh st.ob (upto nb);match nodup (cs.flatMap oq)&&mK P ts vs with|true=>b9 P st.ob shs cs|false=>none
def oB(fn:Func)(st:ae):Option (RT (bF shs)):=match mJ P st fn.results.toList with|some vs=>qE P shs nb fn.resultTypes.toList vs st|none=>none
def FR{ρ:Type}(t:TypeId)(k:TypeId->Option ρ):List TypeId->Option ρ|[]=>none|t0::ts=>aa (Nat.beq t t0) (k t0) (FR t k ts)
def ju(fn:Func)(p:Bool):List (FuncId×List SV)->jg->ae->Option (AT p (bF shs) (bF psh))|[],.ret,st=>TG p (oB P shs nb fn st)|[],.aN t row false,st=>R0 p t row (qE P psh nb [] [] st)|(g,args)::ds,.ret,st=>vb P A R st g .ret args λ_ st=>ju fn p ds .ret st|(g,args)::ds,.aN t row false,st=>FR t (λt0=>vb P A R st g (.aN t0 row false) args λb st=>aa b (ju fn p ds .ret st) none) A.pts|_,_,_=>none
def Bs(fn:Func)(ex:ig)(st:ae):Option (AT (A.pn f) (bF shs) (bF psh)):=match ex,st.cm with|.exit _,_=>none|.aN t row,.no=>ju P A R shs psh nb fn (A.pn f) st.df (.aN t row false) {st with df:=[]}|_,.no=>ju P A R shs psh nb fn (A.pn f) st.df .ret {st with df:=[]}|_,_=>none
def Bt:jg->jg->Option Bool|.aN _ _ _,.aN _ _ b=>some b|.ret,.ret=>some false|_,_=>none
def qF{ρ:Type}(fn:Func)(c:ae)(k:SV->ae->Option ρ)(kp:TypeId->List AV->ae->Option ρ)(ex:ig)(st:ae):Option ρ:=match ex,st.df,st.cm with|.exit _,_,_=>none|.aN t row,[],.no=>kp t row {c with ob:=st.ob,nx:=st.nx}|_,[],.no=>(match mJ P st fn.results.toList with|some [v]=>k v {c with ob:=st.ob,nx:=st.nx}|some vs=>k (.bC vs) {c with ob:=st.ob,nx:=st.nx}|none=>none)|_,_,_=>none
def Bu(fn:Func)(md:jg)(ex:ig)(st:ae):Option (Bool×RT (bF shs)):=match ex,st.df,Bt md st.cm with|.normal,[],some b=>ask (oB P shs nb fn st) λr=>some (b,r)|.ret,[],some b=>ask (oB P shs nb fn st) λr=>some (b,r)|_,_,_=>none
def FT(ex:ig)(st:ae):Option (RT (bF shs)):=match ex,st.df with|.normal,[]=>qE P shs nb [] [] st|_,_=>none
def R5(ks:List Tmp)(st:ae)(k:ae->Option (RT (bF shs))):Option (RT (bF shs)):=match fj (ks.map λt=>bH st.tm (.tmp t)),st.df with|true,[]=>k {st with tm:=mI ks (ks.map λt=>bH st.tm (.tmp t)) .leaf,al:=[]}|_,_=>none
end
def Cg{ρ:Type}(A:dr)(R:dJ A.pn)(f:FuncId)(code:Code)(k:ig->ae->Option ρ):Nat->Nat->ae->Option ρ|0,_,_=>none|m+1,key,st=>match Nat.beq (cU key code) 1 with|true=>gm P A R f (Cg A R f code k m) key none code st k|false=>none
def bP{α:Type}:List α->Nat->Tr α->Tr α|[],_,t=>t|x::xs,i,t=>bP xs (i+1) (t.put i x)
def rY(ts:List (Tmp×Nat×TypeId))(vs:List SV):Tr SV:=match ts,vs with|(_,_)::ts,.aM::vs=>rY ts vs|(t,_)::ts,v::vs=>(rY ts vs).put t v|_,_=>.leaf
def dr.Ch(A:dr):dr:={A with inl:=λf=>A.inl f||A.in2 f}
def dE(A:dr):Nat->dJ A.pn
 |0=>⟨λ_ _ _ _ _=>none,λ_ _ _ _ _ _ _ _=>none,λ_ _ _ _ _=>none,λ_ _ _ _ _=>none,λ_ _ _ _ _=>none⟩
 |n+1=>⟨λf args aA shs psh=>match P.funcs[f]? with
  |some fn=>match fn.body with
   |some code=>match dW fn.ntmps code&&(A.kn f).isNone with|true=>fh P A (dE A n) f (sq P A (dE A n) f shs psh aA.length) none code ⟨bP args 0 .leaf,bP aA 0 .leaf,aA.length,[],[],.no⟩ (Bs P A (dE A n) f shs psh aA.length fn)|false=>none
   |none=>none
  |none=>none,
  λf key shs psh nb qT aA df=>match P.funcs[f]? with
  |some fn=>match fn.body with
   |some code=>match A.cut f key with|some ts=>(match dW fn.ntmps code&&Nat.beq (cU key code) 1 with|true=>gm P A (dE A n) f (sq P A (dE A n) f shs psh nb) key none code ⟨rY ts qT,bP aA 0 .leaf,aA.length,[],df,.no⟩ (Bs P A (dE A n) f shs psh nb fn)|false=>none)|none=>none
   |none=>none
  |none=>none,
  λf m args aA shs=>match P.funcs[f]? with
  |some fn=>match fn.body with
   |some code=>match dW fn.ntmps code,m with|true,.no=>none|true,m=>fh P A (dE A n) f (λ_ _=>none) none code ⟨bP args 0 .leaf,bP aA 0 .leaf,aA.length,[],[],m⟩ (Bu P shs aA.length fn m)|false,_=>none
   |none=>none
  |none=>none,
  λf args st k kp=>match P.funcs[f]? with
  |some fn=>match fn.body with
   |some code=>match dW fn.ntmps code&&(A.kn f).isNone with|true=>fh P A.Ch (dE A n) f (Cg P A.Ch (dE A n) f code (qF P fn st k kp) (A.un f)) none code ⟨bP args 0 .leaf,st.ob,st.nx,[],[],.no⟩ (qF P fn st k kp)|false=>none
   |none=>none
  |none=>none,
  λf ts bu aA shs=>match P.funcs[f]? with
  |some fn=>match fn.body with
   |some code=>match fq code with
    |some (ps,hd,bd)=>match Nat.beq (eh code) 1&&dW fn.ntmps hd&&dW fn.ntmps bd,ve fn.ntmps ps (bu.drop ts.length) (mI ts bu .leaf)with
     |true,some tm=>fh P A (dE A n) f (λ_ _=>none) none hd ⟨tm,bP aA 0 .leaf,aA.length,[],[],.gZ⟩ λex st=>match ex with|.normal=>R5 shs (ts++ps++qw hd) st λst=>fh P A (dE A n) f (λ_ _=>none) none bd st (FT P shs aA.length)|_=>none
     |_,_=>none
    |none=>none
   |none=>none
  |none=>none⟩
end
end
end Go.AI
end

namespace Go.AI
open Go
abbrev be:=IntKind.i64.wrap
abbrev Rows:=List (List AV)
abbrev bs(l:List UInt8):ByteArray:=⟨⟨l⟩⟩
def hZ(rows:Rows):List (List UInt8):=rows.map λr=>(gS r 0).data.toList
def mL(rows:Rows):Rows:=(j1 (hZ rows)).map λl=>[.sc (.string (bs l))]
def sa(rows:Rows):Bool:=qh (hZ rows)&&(hZ rows).all (λk=>Nat.ble k.length 9223372036854775807)&&Nat.ble (rows.length*16) 140737488355328
def LK(kf st:Nat):List SV->Option (Bool×SV)
 |[.fn f [.pb _ [.md _ rows] 0]]=>match Nat.beq f kf with|true=>some (sa rows,.dl st (mL rows))|false=>none
 |_=>none
def ou(l:Rows)(s:ByteArray):Int:=match l.reverse.findIdx? (λr=>ay (gS r 0) s)with|some i=>(l.length:Int)-1-i|none=>-1
def zI(l:Rows):Bool:=Nat.ble (l.length*16) 140737488351232
def Oh(st:Nat):List SV->Option (Bool×SV)
 |[.dl t rows,.sc (.string s)]=>match Nat.beq t st with|true=>some (zI rows,.sc (.int .i64 (ou rows s)))|false=>none
 |[.sc (.slice none 0 0),.sc (.string _)]=>some (true,.sc (.int .i64 (-1)))|_=>none
def MP:List SV->Option (Bool×SV)|[]=>some (true,.sc (.bool true))|_=>none
def aw{α β:Type}(x:Option (aW α Unit))(k:α->Option (aW β Unit)):Option (aW β Unit):=FK x k λt q _=>some (.aN t q ())
def eP{α:Type}(x:Option (aW α Unit)):Option (aW α Unit):=aw x λa=>some (.ret a)
end Go.AI

section
namespace Go.AI
mutual
def wtA:AV->Nat|.sc (.string s)=>s.size+1|.aQ rows _=>wtRs rows+1|_=>1
def wtR:List AV->Nat|[]=>0|c::r=>wtA c+wtR r
def wtRs:List (List AV)->Nat|[]=>0|r::rs=>wtR r+1+wtRs rs
end
end Go.AI
end
