/- A part of the proof. -/
import Derived.Test.YtkdhoflcgphcjaaGreatDoorAe
set_option linter.all false

section
namespace Go.AI
noncomputable section
inductive Lf where|int(k:IntKind)|bool|str|sl(t:TypeId)|no
def NQ:Nat->List Lf->List Lf|0,_=>[]|n+1,l=>l++NQ n l
mutual
def AA(P:Program):Nat->TypeId->List Lf|0,_=>[.no]|n+1,t=>match P.underlying t with|some (.int k)=>[.int k]|some .bool=>[.bool]|some .string=>[.str]|some (.slice e)=>[.sl e]|some (.array m e)=>NQ m (AA P n e)|some (.struct fs)=>M0 P n (fs.toList.map (·.type))|_=>[.no]
def M0(P:Program):Nat->List TypeId->List Lf|0,_=>[.no]|_,[]=>[]|n+1,t::ts=>AA P n t++M0 P n ts
end
def lay(P:Program)(t:TypeId):List Lf:=AA P 40 t
def gI(r:List AV)(j:Nat):Int:=match r[j]? with|some (.sc (.int _ n))=>n|_=>0
def gB(r:List AV)(j:Nat):Bool:=match r[j]? with|some (.sc (.bool b))=>b|_=>false
def gS(r:List AV)(j:Nat):ByteArray:=match r[j]? with|some (.sc (.string s))=>s|_=>.empty
def gD(r:List AV)(j:Nat):List (List AV):=match r[j]? with|some (.aI l _)=>l|_=>[]
inductive SV where|aA|sc(v:Value)|agg(cs:List SV)|dl(t:TypeId)(rows:List (List AV))|own(i:Nat)|ref(i off:Nat)|cV(i k off:Nat)|cI(t:TypeId)(row:List AV)(off:Nat)|fG(i:Nat)|opt(b:Bool)(v:SV)|fn(f:FuncId)(caps:List SV)|bl(vs:List SV)|dB(t:TypeId)(v:SV)|tZ(b:Bool)|ea|cl(t:TypeId)(rows:List (List AV))|yl(f:FuncId)(ts:List Tmp)(cs:List SV)|om(i:Nat)|md(t:TypeId)(rows:List (List AV))|ls(t:TypeId)(rows:List (List AV))|pb(t:TypeId)(cs:List SV)(off:Nat)|nR(i:Nat)(h:Int)
inductive ai where|box(t:TypeId)(cs:List SV)|arr(t:TypeId)(rows:List (List AV))(aM:Bool)|ba(s:ByteArray)(t:TypeId)|mp(t:TypeId)(rows:List (List AV))(aM:Bool)|tr(t:TypeId)(rows:List (List AV))(aM:Bool)|gone
inductive iY where|no|ret|aE(t:TypeId)(row:List AV)(rc:Bool)|gP
structure ad where
 tm:Tr SV
 ob:Tr ai
 nx:Nat
 al:List (Tmp×Tmp)df:List (FuncId×List SV)cm:iY
def ad.r(st:ad):List (Tmp×Tmp)×List (FuncId×List SV)×iY:=(st.al,st.df,st.cm)
def s8:Value->Bool|.agg _|.tuple _=>false|_=>true
def Bz(v:Value):SV:=match s8 v with|true=>.sc v|false=>.aA
def fL:Value->SV|.agg cs=>.agg (cs.toList.map Bz)|.tuple vs=>.bl (vs.toList.map Bz)|.func (.func f) a c=>(match a.toList,c.toList with|[],[]=>.fn f []|_,_=>.sc (.func (.func f) a c))|v=>.sc v
def bw(tm:Tr SV):Operand->SV
 |.tmp t=>match tm.get t with|some v=>v|none=>.aA
 |.const v=>fL v|.global _=>.aA|.func f=>.fn f []
mutual
def gi:SV->Bool|.yl _ _ _=>false|.agg cs=>eE cs|.bl cs=>eE cs|.fn _ cs=>eE cs|.opt _ v=>gi v|.dB _ v=>gi v|_=>true
def eE:List SV->Bool|[]=>true|v::vs=>gi v&&eE vs
end
def mo:SV->Bool|.aA|.agg _|.bl _|.yl _ _ _|.nR _ _=>false|.fn _ cs=>eE cs|.dB _ v=>gi v|.sc v=>(match v with|.agg _|.tuple _=>false|_=>true)|.opt _ v=>mo v|_=>true
def cn:List SV->Bool|[]=>true|v::vs=>mo v&&cn vs
def bc:SV->List SV|.agg cs=>cs|v=>[v]
def gU(l:Lf)(r:List AV)(j:Nat):SV:=match l with|.int k=>.sc (.int k (gI r j))|.bool=>.sc (.bool (gB r j))|.str=>.sc (.string (gS r j))|.sl t=>.dl t (gD r j)|.no=>.aA
def fB(r:List AV):List Lf->Nat->List SV|[],_=>[]|l::ls,j=>gU l r j::fB r ls (j+1)
noncomputable def both{α:Type}(x y:Option α):Option α:=by classical exact if x=y then x else none
theorem KA{α:Type}{x y:Option α}{r:α}(h:both x y=some r):x=some r/\y=some r:=by grind[both]
def dy(rows:List (List AV))(s:ByteArray):Option (List AV):=rows.find? λr=>s==gS r 0
def et{β:Type}(rows:List (List AV))(s:ByteArray)(k:List AV->Option β)(n:Option β):Option β:=match dy rows s with|some r=>k (r.drop 1)|none=>n
def a6:List (List AV)->ByteArray->List AV->List (List AV)|[],s,v=>[.sc (.string s)::v]|r::rs,s,v=>match s==gS r 0 with|true=>(.sc (.string s)::v)::rs|false=>r::a6 rs s v
def mV{α β:Type}(l:List α)(k:α->List α->Option β):Option β:=match l with|[]=>none|x::xs=>k x xs
def emp{α β:Type}(l:List α)(x y:Option β):Option β:=match l with|[]=>x|_::_=>y
def aa{α:Type}(b:Bool)(x y:Option α):Option α:=match b with|true=>x|false=>y
def zJ{β:Type}(n:Int):Nat->Nat->(Nat->Option β)->Option β|0,_,_=>none|c+1,i,k=>aa (n==(i:Int)) (k i) (zJ n c (i+1) k)
def jU{α β:Type}(l:List α)(n:Nat)(k:α->Option β):Option β:=match l[n]? with|some x=>k x|none=>none
def ab{α β:Type}(l:List α)(n:Int)(k:α->Option β):Option β:=match decide (0<=n)with|true=>(match l[n.toNat]? with|some x=>k x|none=>none)|false=>none
def ig{β:Type}(s:ByteArray)(n:Int)(k:Int->Option β):Option β:=match decide (0<=n)with|true=>(match s[n.toNat]? with|some x=>k x.toNat|none=>none)|false=>none
def fits{β:Type}(n b:Nat)(k:Option β):Option β:=match decide (n*b<=140737488355328)with|true=>k|false=>none
def ask{α β:Type}(x:Option α)(k:α->Option β):Option β:=match x with|some a=>k a|none=>none
section
variable {ρ:Type}(P:Program)
def cellOf(ob:Tr ai)(l:Lf)(v:SV):Option AV:=match l,v with
 |.int k,.sc (.int k' n)=>if k=k' then some (.sc (.int k n))else none
 |.bool,.sc (.bool b)=>some (.sc (.bool b))
 |.str,.sc (.string s)=>some (.sc (.string s))
 |.sl t,.dl t' r=>if t=t' then(bj P t).map λsz=>.aI r sz else none
 |.sl t,.sc (.slice none 0 0)=>(bj P t).map λsz=>.aI [] sz
 |.sl t,.own i=>match ob.get i with|some (.arr t' r _)=>if t=t' then(bj P t).map λsz=>.aI r sz else none|_=>none
 |_,_=>none
def rowOf(ob:Tr ai):List Lf->List SV->Option (List AV)
 |[],[]=>some []
 |l::ls,v::vs=>match cellOf P ob l v,rowOf ob ls vs with|some c,some cs=>some (c::cs)|_,_=>none
 |_,_=>none
def bg(ob:Tr ai):List SV->Tr ai
 |[]=>ob
 |.own i::vs=>match ob.get i with|some (.arr t r _)=>bg (ob.put i (.arr t r true)) vs|some (.tr t r _)=>bg (ob.put i (.tr t r true)) vs|_=>bg ob vs
 |.om i::vs=>match ob.get i with|some (.mp t r _)=>bg (ob.put i (.mp t r true)) vs|_=>bg ob vs
 |_::vs=>bg ob vs
def asData(ob:Tr ai)(t:TypeId):SV->Option (List (List AV))
 |.dl t' r=>if t=t' then some r else none
 |.sc (.slice none 0 0)=>some []
 |.own i=>match ob.get i with|some (.arr t' r _)=>if t=t' then some r else none|_=>none
 |_=>none
def lj(t:TypeId):Option TypeId:=match P.underlying t with|some (.map c e)=>(match P.underlying c,bj P e,dN P e with|some .string,some s,some z=>(match Nat.beq s (lay P e).length&&Nat.beq (aO z).length s&&(lay P e).all λl=>match l with|.no=>false|_=>true with|true=>some e|false=>none)|_,_,_=>none)|_=>none
def ni(ob:Tr ai)(t:TypeId):SV->Option (List (List AV))
 |.md t' r=>if t=t' then some r else none
 |.om i=>match ob.get i with|some (.mp t' r _)=>if t=t' then some r else none|_=>none
 |_=>none
def AB(e:TypeId)(r:List AV):Option SV:=match dG P e,lay P e with|some true,ls=>some (.agg (fB r ls 0))|some false,[l]=>some (gU l r 0)|_,_=>none
def M1(e:TypeId):Option SV:=match P.info? e with|some i=>i.zero.map fL|none=>none
def zK(st:ad)(t:TypeId)(x i:SV)(ok:Bool)(k:SV->Option ρ):Option ρ:=match lj P t,ni st.ob t x,i with|some e,some rows,.sc (.string s)=>(match M1 P e with|some z=>et rows s (λr=>match AB P e r with|some v=>k (match ok with|true=>.bl [v,.sc (.bool true)]|false=>v)|none=>none) (k (match ok with|true=>.bl [z,.sc (.bool false)]|false=>z))|none=>none)|_,_,_=>none
def Fk(st:ad)(t:TypeId)(m i x:SV)(k:ad->Option ρ):Option ρ:=match lj P t,m,i with|some e,.om j,.sc (.string s)=>(match(bg st.ob (bc x)).get j,rowOf P st.ob (lay P e) (bc x),dG P e,x with|some (.mp t' rows false),some aY,some true,.agg _=>if t=t' then k {st with ob:=(bg st.ob (bc x)).put j (.mp t (a6 rows s aY) false)}else none|_,_,some false,.agg _=>none|some (.mp t' rows false),some aY,some false,_=>if t=t' then k {st with ob:=(bg st.ob (bc x)).put j (.mp t (a6 rows s aY) false)}else none|_,_,_,_=>none)|_,_,_=>none
def vN(st:ad)(t:TypeId)(a:SV)(k:SV->Option ρ):Option ρ:=
 match dG P t,bj P t,a with
 |some g,some s,.ref i off=>match st.ob.get i with|some (.box _ cs)=>if off+s<=cs.length then(match g with|true=>k (.agg ((cs.drop off).take s))|false=>match cs[off]? with|some v=>k v|none=>none)else none|_=>none
 |some g,some s,.cI t' row off=>if off+s<=(lay P t').length then(match g with|true=>k (.agg (((fB row (lay P t') 0).drop off).take s))|false=>match(lay P t')[off]? with|some l=>k (gU l row off)|none=>none)else none
 |some g,some s,.cV i j off=>match st.ob.get i with|some (.arr t' rows _)=>jU rows j λrow=>if off+s<=(lay P t').length then(match g with|true=>k (.agg (((fB row (lay P t') 0).drop off).take s))|false=>match(lay P t')[off]? with|some l=>k (gU l row off)|none=>none)else none|_=>none
 |some g,some s,.pb _ cs off=>if off+s<=cs.length then(match g with|true=>k (.agg ((cs.drop off).take s))|false=>match cs[off]? with|some v=>k v|none=>none)else none|_,_,_=>none
def ot(c:List SV)(off:Nat)(new:List SV):List SV:=c.take off++(new++c.drop (off+new.length))
def D5(st:ad)(t:TypeId)(a v:SV)(k:ad->Option ρ):Option ρ:=
 match bj P t,a with
 |some s,.ref i off=>match st.ob.get i with|some (.box t' cs)=>if(bc v).length=s/\off+s<=cs.length/\cn (bc v)=true then k {st with ob:=st.ob.put i (.box t' (ot cs off (bc v)))}else none|_=>none
 |some s,.cV i j off=>match(bg st.ob (bc v)).get i with|some (.arr t' rows false)=>jU rows j λrow=>if(bc v).length=s/\off+s<=(lay P t').length then(match rowOf P st.ob (((lay P t').drop off).take s) (bc v)with|some new=>k {st with ob:=(bg st.ob (bc v)).put i (.arr t' (rows.set j (dn row off new)) false)}|none=>none)else none|_=>none
 |_,_=>none
def jk(st:ad)(x:ai)(k:Nat->ad->Option ρ):Option ρ:=k st.nx {st with ob:=st.ob.put st.nx x,nx:=st.nx+1}
def Cv(t:TypeId)(x:SV)(f:Nat):Option SV:=
 match P.underlying t with
 |some (.struct c)=>match c[f]? with
  |some fd=>match bj P fd.type,x with|some (_+1),.ref i off=>some (.ref i (off+fd.offset))|some (_+1),.cI t r off=>some (.cI t r (off+fd.offset))|some (_+1),.cV i j off=>some (.cV i j (off+fd.offset))|some (_+1),.pb t' cs off=>some (.pb t' cs (off+fd.offset))|_,_=>none
  |none=>none
 |_=>none
def D6(t:TypeId)(x:SV)(f:Nat):Option SV:=
 match P.underlying t,x with
 |some (.struct c),.agg cs=>match c[f]? with
  |some fd=>match dG P fd.type,bj P fd.type with|some true,some s=>if fd.offset+s<=cs.length then some (.agg ((cs.drop fd.offset).take s))else none|some false,some _=>cs[fd.offset]?|_,_=>none
  |none=>none
 |_,_=>none
def jM(place:Nat->Option (Nat×Nat))(cells:List SV):List (Nat×SV)->Option (List SV)|[]=>some cells|(i,v)::rest=>match place i with|none=>none|some (off,size)=>if(bc v).length=size/\off+size<=cells.length/\cn (bc v)=true then jM place (ot cells off (bc v)) rest else none
def D7(t:TypeId)(parts:List (Nat×SV)):Option SV:=
 match P.info? t,P.underlying t with
 |some it,some (.struct c)=>match it.zero,c.toList.mapM (λf=>(P.info? f.type).map λi=>(f.offset,i.size))with|some z,some places=>(jM (λi=>places[i]?) (bc (fL z)) parts).map .agg|_,_=>none
 |some it,some (.array _ e)=>match it.zero,P.info? e with|some z,some j=>(jM (λi=>some (i*j.size,j.size)) (bc (fL z)) parts).map .agg|_,_=>none
 |_,_=>none
def yS(z:List SV):Nat->List SV|0=>[]|n+1=>z++yS z n
def rowsOf(ob:Tr ai)(ls:List Lf)(s:Nat):Nat->List SV->Option (List (List AV))|0,_=>some []|n+1,cs=>match rowOf P ob ls (cs.take s),rowsOf ob ls s n (cs.drop s)with|some r,some rs=>some (r::rs)|_,_=>none
def Fl(el:TypeId)(len:Nat)(cs:List SV)(n:Int)(k:SV->Option ρ):Option ρ:=match bj P el,dG P el with|some s,some g=>(match Nat.beq s (lay P el).length,rowsOf P .leaf (lay P el) s len cs with|true,some rows=>ab rows n λr=>(match g with|true=>k (.agg (fB r (lay P el) 0))|false=>match lay P el with|[l]=>k (gU l r 0)|_=>none)|_,_=>none)|_,_=>none
def iJ(P:Program)(t:TypeId):Bool:=match bj P t,dN P t with|some s,some z=>Nat.beq s (lay P t).length&&Nat.blt 0 s&&Nat.beq (aO z).length s|_,_=>false
def isByte(P:Program)(t:TypeId):Bool:=match P.underlying t with|some (.int .u8)=>true|_=>false
def Fm{β:Type}(n:Int)(k:UInt8->Option β):Option β:=match decide (0<=n/\n<256)with|true=>k (UInt8.ofNat n.toNat)|false=>none
def yT:List SV->(List UInt8->Option ρ)->Option ρ|[],k=>k []|.sc (.int .u8 n)::xs,k=>Fm n λb=>yT xs λbs=>k (b::bs)|_,_=>none
def HN(st:ad)(t:TypeId)(len:Nat)(parts:List (Nat×SV))(k:SV->ad->Option ρ):Option ρ:=
 match P.underlying t with
 |some (.slice e)=>match bj P e,dN P e with
  |some s,some z=>if len*s<=16777216/\(aO z).length=s then
   (match P.info? e with
   |some c=>match c.zero with
    |some z=>match jM (λi=>some (i*s,s)) (yS (bc (fL z)) len) parts with
     |some cells=>match isByte P e with
      |true=>(match Nat.beq s 1 with
       |true=>yT cells λb=>match b with|[]=>none|b::bs=>jk st (.ba ⟨⟨b::bs⟩⟩ e) λi st=>k (.own i) st
       |false=>none)|false=>match iJ P e with|true=>(match rowsOf P st.ob (lay P e) s len cells with|some rows=>jk {st with ob:=bg st.ob cells} (.arr e rows false) λi st=>k (.own i) st|none=>none)|false=>none
     |none=>none
    |none=>none
   |none=>none)else none|_,_=>none
 |_=>none
def Fo(ob:Tr ai):SV->Option ByteArray
 |.sc (.string s)=>some s
 |.own j=>match ob.get j with|some (.ba s _)=>some s|_=>none
 |.sc (.slice none 0 0)=>some .empty|_=>none
def qJ(st:ad)(e:TypeId)(x y:SV)(k:SV->ad->Option ρ):Option ρ:=
 match iJ P e,mS P e with
 |true,some (c+1)=>match isByte P e with|true=>(match bj P e with|some 1=>(match Fo st.ob y with|none=>none|some new=>match x with|.sc (.slice none 0 0)=>fits new.size (c+1) (jk st (.ba new e) λi st=>k (.own i) st)|.own i=>(match st.ob.get i with|some (.ba s t)=>if t=e then fits (s.size+new.size) (c+1) (jk {st with ob:=st.ob.put i .gone} (.ba (s++new) e) λi st=>k (.own i) st)else none|_=>none)|_=>none)|_=>none)|false=>match asData st.ob e y with|none=>none|some new=>match x with|.sc (.slice none 0 0)=>fits new.length (c+1) (jk {st with ob:=bg st.ob [y]} (.arr e new false) λi st=>k (.own i) st)|.own i=>(match(bg st.ob [y]).get i with|some (.arr t rows aM)=>if t=e then fits (rows.length+new.length) (c+1) (jk {st with ob:=(bg st.ob [y]).put i .gone} (.arr e (rows++new) aM) λi st=>k (.own i) st)else none|some (.tr t rows false)=>(match new with|[]=>none|n::j=>if t=e then fits (rows.length+(n::j).length) (c+1) (jk {st with ob:=(bg st.ob [y]).put i .gone} (.tr e (rows++(n::j)) false) λi st=>k (.own i) st)else none)|_=>none)|.cl t rows=>(match new with|[]=>none|n::j=>if t=e then fits (rows.length+(n::j).length) (c+1) (jk {st with ob:=bg st.ob [y]} (.arr e (rows++(n::j)) false) λi st=>k (.own i) st)else none)|_=>none
 |_,_=>none
def l8(st:ad):SV->Option Int
 |.sc (.slice none 0 0)=>some 0
 |.dl _ r=>some r.length
 |.own i=>match st.ob.get i with|some (.arr _ r _)=>some r.length|some (.tr _ r _)=>some r.length|some (.ba s _)=>some s.size|_=>none
 |.sc (.string s)=>some s.size|_=>none
def D8:SV->Bool|.sc (.string _)=>true|_=>false
def AD:SV->Option Int|.sc (.int _ n)=>some n|_=>none
def Cw(st:ad)(t:TypeId)(x i:SV)(k:SV->Option ρ):Option ρ:=
 match P.underlying t,i with
 |some (.slice e),.sc (.int _ n)=>match x with
  |.dl t' rows=>if t'=e then ab rows n λr=>k (.cI e r 0)else none
  |.own j=>match st.ob.get j with|some (.arr t' rows _)=>if t'=e then ab rows n λ_=>k (.cV j n.toNat 0)else none|_=>none
  |_=>none
 |some (.array len e),.sc (.int _ n)=>match bj P e,x with|some s,.ref j off=>zJ n len 0 λi=>k (.ref j (off+i*s))|_,_=>none
 |_,_=>none
def jV{α β:Type}(l:List α)(c hi:Int)(k:List α->Option β):Option β:=match decide (0<=c/\c<=hi/\hi<=l.length)with|true=>k ((l.drop c.toNat).take (hi.toNat-c.toNat))|false=>none
def fH{β:Type}(s:ByteArray)(c hi:Int)(k:ByteArray->Option β):Option β:=match decide (0<=c/\c<=hi/\hi<=s.size)with|true=>k (s.extract c.toNat hi.toNat)|false=>none
def head{β:Type}(s:ByteArray)(n:Int)(k:ByteArray->Option β):Option β:=match decide (0<n/\n<=s.size/\n<=9223372036854775807)with|true=>k (s.extract 0 n.toNat)|false=>none
def yU(st:ad)(t:TypeId)(x:SV)(c hi i:Option SV)(k:SV->ad->Option ρ):Option ρ:=match(match c with|none=>some (0:Int)|some v=>AD v)with|none=>none|some l=>match(match hi with|none=>l8 st x|some v=>AD v)with|none=>none|some h=>match i with|some _=>none|none=>match P.underlying t,x with|some (.slice e),.dl t' rows=>if t'=e/\(bj P e).isSome=true then jV rows l h λr=>k (.dl e r) st else none|some (.slice e),.own j=>(match st.ob.get j with|some (.arr t' rows _)=>if t'=e/\(bj P e).isSome=true then jV rows l h λr=>k (.dl e r) {st with ob:=bg st.ob [x]}else none|some (.tr t' rows _)=>(match c with|none=>if t'=e/\(bj P e).isSome=true then aa (decide (0<=h/\h<=rows.length)) (k (.nR j h) st) none else none|_=>none)|_=>none)|some .string,.sc (.string s)=>fH s l h λr=>k (.sc (.string r)) st|_,_=>none
def nj:Operand->Bool|.const _=>true|_=>false
def wX(c:Bool)(t:TypeId)(x y:SV):Option Bool:=
 match P.underlying t,x,y with
 |some (.slice _),.dl _ r,.sc (.slice none 0 0)=>match r with|_::_=>some false|[]=>none
 |some (.interface _),.dB _ _,.sc .nilIface=>some false
 |some (.interface _),.tZ b,.sc .nilIface=>match c with|true=>some !b|false=>none
 |some (.interface _),.sc .nilIface,.sc .nilIface=>match c with|true=>some true|false=>none
 |some (.pointer _),.ref _ _,.sc (.pointer none)=>some false
 |some (.pointer _),.opt b (.ref _ _),.sc (.pointer none)=>some !b
 |some (.pointer e),.ref i o,.ref j o'=>match bj P e,Nat.beq i j with|some (_+1),true=>some (o==o')|_,_=>none
 |_,_,_=>none
def o5{β:Type}(a b:ByteArray)(k:ByteArray->Option β):Option β:=match decide (((a.size+b.size:Nat):Int)>IntKind.i64.max)with|true=>none|false=>k (a++b)
def ax(a b:ByteArray):Bool:=a.toList==b.toList
def BA(a b:ByteArray):Bool:=Op.bytesLess a.toList b.toList
def Fp(op:BinOp)(kd:IntKind)(a b:Int)(k:SV->Option ρ):Option ρ:=
 match op with
 |.add=>k (.sc (.int kd (kd.wrap (a+b))))
 |.sub=>k (.sc (.int kd (kd.wrap (a-b))))
 |.mul=>k (.sc (.int kd (kd.wrap (a*b))))
 |.quo=>match decide (b=0)with|true=>none|false=>k (.sc (.int kd (kd.wrap (a.tdiv b))))
 |.rem=>match decide (b=0)with|true=>none|false=>k (.sc (.int kd (a.tmod b)))
 |.eql=>k (.sc (.bool (a==b)))|.neq=>k (.sc (.bool (a !=b)))|.lss=>k (.sc (.bool (decide (a<b))))|.leq=>k (.sc (.bool (decide (a<=b))))|.gtr=>k (.sc (.bool (decide (a>b))))|.geq=>k (.sc (.bool (decide (a>=b))))|_=>none
def Fq(op:BinOp)(a b:ByteArray)(k:SV->Option ρ):Option ρ:=match op with|.add=>o5 a b λs=>k (.sc (.string s))|.eql=>k (.sc (.bool (ax a b)))|.neq=>k (.sc (.bool !(ax a b)))|.lss=>k (.sc (.bool (BA a b)))|.leq=>k (.sc (.bool (BA a b||ax a b)))|.gtr=>k (.sc (.bool !(BA a b||ax a b)))|.geq=>k (.sc (.bool !(BA a b)))|_=>none
def EH(t:TypeId):Bool:=match P.underlying t with|some (.struct ⟨[f,g,h]⟩)=>f.name != "_"&&g.name != "_"&&h.name != "_"&&f.offset==0&&g.offset==1&&h.offset==2&&(P.underlying f.type matches some (.int _))&&(P.underlying g.type matches some (.int _))&&(P.underlying h.type matches some .string)&&!P.stoodInHeld t&&!P.eqGuardType P.depth t|_=>false
def Fs(c:Bool)(op:BinOp)(t:TypeId)(x y:SV)(k:SV->Option ρ):Option ρ:=match x,y with|.agg [.sc (.int q a),.sc (.int p b),.sc (.string s)],.agg [.sc (.int kb a'),.sc (.int lb b'),.sc (.string s')]=>(match op,EH P t,decide (q=kb/\p=lb)with|.eql,true,true=>k (.sc (.bool (a==a'&&(b==b'&&ax s s'))))|_,_,_=>none)|.sc (.int kd a),.sc (.int m b)=>if kd=m then Fp op kd a b k else none|.sc (.string a),.sc (.string b)=>Fq op a b k|.sc (.bool a),.sc (.bool b)=>(match op,P.underlying t with|.eql,some .bool=>k (.sc (.bool (a==b)))|.neq,some .bool=>k (.sc (.bool !(a==b)))|_,_=>none)|.dl _ rows,.sc (.slice none 0 0)=>(match op,P.underlying t with|.eql,some (.slice _)=>emp rows (both (k (.sc (.bool true))) (k (.sc (.bool false)))) (k (.sc (.bool false)))|.neq,some (.slice _)=>emp rows (both (k (.sc (.bool false))) (k (.sc (.bool true)))) (k (.sc (.bool true)))|_,_=>none)|.ls _ rows,.sc (.pointer none)=>(match op,P.underlying t with|.eql,some (.pointer _)=>emp rows (k (.sc (.bool true))) (k (.sc (.bool false)))|.neq,some (.pointer _)=>emp rows (k (.sc (.bool false))) (k (.sc (.bool true)))|_,_=>none)|.opt b (.ref i o),.ref j o'=>aa b (match op,wX P c t (.ref i o) (.ref j o')with|.eql,some b=>k (.sc (.bool b))|.neq,some b=>k (.sc (.bool !b))|_,_=>none) none|x,y=>match op with|.eql=>(match wX P c t x y with|some b=>k (.sc (.bool b))|none=>none)|.neq=>(match wX P c t x y with|some b=>k (.sc (.bool !b))|none=>none)|_=>none
inductive LT where|int|bool|str|rows
abbrev LT.ty:LT->Type|.int=>Int|.bool=>Bool|.str=>ByteArray|.rows=>List (List AV)
def RT:List LT->Type|[]=>Unit|[a]=>a.ty|a::b::l=>a.ty×RT (b::l)
inductive Sh where|int(k:IntKind)|bool|str|dl(t:TypeId)|md(t:TypeId)|own(t:TypeId)(aM:Bool)|tr(t:TypeId)|ba(t:TypeId)|opt(v:SV)|iZ(v:SV)|aA|ea
def Sh.lt:Sh->Option LT|.int _=>some .int|.bool=>some .bool|.str=>some .str|.dl _=>some .rows|.md _=>some .rows|.own _ _=>some .rows|.tr _=>some .rows|.ba _=>some .str|.opt _=>some .bool|.iZ _=>none|.aA=>none|.ea=>none
def bB:List Sh->List LT|[]=>[]|s::ss=>match s.lt with|some a=>a::bB ss|none=>bB ss
def RT.cons{a:LT}:{l:List LT}->a.ty->RT l->RT (a::l)|[],x,_=>x|_::_,x,y=>(x,y)
def RT.head{a:LT}:{l:List LT}->RT (a::l)->a.ty|[],x=>x|_::_,x=>x.1
def RT.tail{a:LT}:{l:List LT}->RT (a::l)->RT l|[],_=>()|_::_,x=>x.2
def EI:IntKind->Nat|.i8=>0|.i16=>1|.i32=>2|.i64=>3|.u8=>4|.u16=>5|.u32=>6|.u64=>7
def NR:Int->Int->Bool|.ofNat a,.ofNat b=>Nat.beq a b|.negSucc a,.negSucc b=>Nat.beq a b|_,_=>false
def BB:List Nat->List Nat->Bool|[],[]=>true|x::xs,y::ys=>Nat.beq x y&&BB xs ys|_,_=>false
def wY:Value->Value->Bool|.int k n,.int k' m=>Nat.beq (EI k) (EI k')&&NR n m|.bool true,.bool true=>true|.bool false,.bool false=>true|.string s,.string s'=>BB (s.data.toList.map (·.toNat)) (s'.data.toList.map (·.toNat))|.slice none 0 0,.slice none 0 0=>true|_,_=>false
mutual
def BC:AV->AV->Bool|.sc v,.sc v'=>wY v v'|.aI rs z,.aI cC z'=>wq rs cC&&Nat.beq z z'|_,_=>false
def BE:List AV->List AV->Bool|[],[]=>true|x::xs,y::ys=>BC x y&&BE xs ys|_,_=>false
def wq:List (List AV)->List (List AV)->Bool|[],[]=>true|x::xs,y::ys=>BE x y&&wq xs ys|_,_=>false
end
mutual
def eqv:SV->SV->Bool|.ref i o,.ref j o'=>Nat.beq i j&&Nat.beq o o'|.fn f az,.fn g bs=>Nat.beq f g&&nG az bs|.pb t az o,.pb t' bs o'=>Nat.beq t t'&&nG az bs&&Nat.beq o o'|.dl t rs,.dl t' cC=>Nat.beq t t'&&wq rs cC|.sc (.pointer none),.sc (.pointer none)=>true|.sc .nilIface,.sc .nilIface=>true|.sc .nilFunc,.sc .nilFunc=>true|.sc v,.sc v'=>wY v v'|.aA,.aA=>true|_,_=>false
def nG:List SV->List SV->Bool|[],[]=>true|v::vs,u::us=>eqv v u&&nG vs us|_,_=>false
end
def AE(ob:Tr ai)(t:TypeId):SV->Option ByteArray
 |.sc (.slice none 0 0)=>some .empty
 |.own i=>match ob.get i with|some (.ba s t')=>if t'=t then some s else none|_=>none
 |_=>none
def yv(ob:Tr ai)(aM:Bool):SV->Bool
 |.sc (.slice none 0 0)=>true
 |.own i=>match ob.get i with|some (.arr _ _ l)=>aM||!l|some (.ba _ _)=>true|_=>false
 |_=>false
def AF(ob:Tr ai)(t:TypeId):SV->Option (List (List AV))
 |.sc (.slice none 0 0)=>some []
 |.own i=>match ob.get i with|some (.tr t' r false)=>if t=t' then some r else none|_=>none
 |_=>none
def bQ(ob:Tr ai):(shs:List Sh)->List SV->Option (RT (bB shs))
 |[],[]=>some ()
 |.int k::ss,.sc (.int k' n)::vs=>if k=k' then(bQ ob ss vs).map λr=>RT.cons (a:=.int) n r else none
 |.bool::ss,.sc (.bool b)::vs=>(bQ ob ss vs).map λr=>RT.cons (a:=.bool) b r
 |.str::ss,.sc (.string s)::vs=>(bQ ob ss vs).map λr=>RT.cons (a:=.str) s r
 |.dl t::ss,v::vs=>match asData ob t v,bQ ob ss vs with|some x,some r=>some (RT.cons (a:=.rows) x r)|_,_=>none
 |.md t::ss,v::vs=>match ni ob t v,bQ ob ss vs with|some x,some r=>some (RT.cons (a:=.rows) x r)|_,_=>none
 |.own t aM::ss,v::vs=>match yv ob aM v&&iJ P t&&!isByte P t,asData ob t v,bQ ob ss vs with|true,some x,some r=>some (RT.cons (a:=.rows) x r)|_,_,_=>none
 |.tr t::ss,v::vs=>match iJ P t&&!isByte P t,AF ob t v,bQ ob ss vs with|true,some x,some r=>some (RT.cons (a:=.rows) x r)|_,_,_=>none
 |.ba t::ss,v::vs=>match isByte P t,AE ob t v,bQ ob ss vs with|true,some x,some r=>some (RT.cons (a:=.str) x r)|_,_,_=>none
 |.opt w::ss,.opt b v::vs=>match eqv v w with|true=>(bQ ob ss vs).map λr=>RT.cons (a:=.bool) b r|false=>none
 |.opt _::ss,.sc (.pointer none)::vs=>(bQ ob ss vs).map λr=>RT.cons (a:=.bool) false r
 |.opt w::ss,.ref i o::vs=>match eqv (.ref i o) w with|true=>(bQ ob ss vs).map λr=>RT.cons (a:=.bool) true r|false=>none
 |.iZ w::ss,v::vs=>match eqv v w with|true=>bQ ob ss vs|false=>none
 |.aA::ss,_::vs=>bQ ob ss vs
 |.ea::ss,v::vs=>match mo v with|true=>bQ ob ss vs|false=>none
 |_,_=>none
def b7:(shs:List Sh)->RT (bB shs)->ad->List SV×ad|[],_,st=>([],st)|.int k::ss,r,st=>let p:=b7 ss (RT.tail (a:=.int) r) st;(.sc (.int k (RT.head (a:=.int) r))::p.1,p.2)|.bool::ss,r,st=>let p:=b7 ss (RT.tail (a:=.bool) r) st;(.sc (.bool (RT.head (a:=.bool) r))::p.1,p.2)|.str::ss,r,st=>let p:=b7 ss (RT.tail (a:=.str) r) st;(.sc (.string (RT.head (a:=.str) r))::p.1,p.2)|.dl t::ss,r,st=>let p:=b7 ss (RT.tail (a:=.rows) r) st;(.dl t (RT.head (a:=.rows) r)::p.1,p.2)|.md t::ss,r,st=>let p:=b7 ss (RT.tail (a:=.rows) r) st;(.md t (RT.head (a:=.rows) r)::p.1,p.2)|.own t l::ss,r,st=>let p:=b7 ss (RT.tail (a:=.rows) r) {st with ob:=st.ob.put st.nx (.arr t (RT.head (a:=.rows) r) l),nx:=st.nx+1};(.own st.nx::p.1,p.2)|.tr t::ss,r,st=>let p:=b7 ss (RT.tail (a:=.rows) r) {st with ob:=st.ob.put st.nx (.tr t (RT.head (a:=.rows) r) false),nx:=st.nx+1};(.own st.nx::p.1,p.2)|.ba t::ss,r,st=>let p:=b7 ss (RT.tail (a:=.str) r) {st with ob:=st.ob.put st.nx (.ba (RT.head (a:=.str) r) t),nx:=st.nx+1};(.own st.nx::p.1,p.2)|.opt w::ss,r,st=>let p:=b7 ss (RT.tail (a:=.bool) r) st;(.opt (RT.head (a:=.bool) r) w::p.1,p.2)|.iZ w::ss,r,st=>let p:=b7 ss r st;(w::p.1,p.2)|.aA::ss,r,st=>let p:=b7 ss r st;(.aA::p.1,p.2)|.ea::ss,r,st=>let p:=b7 ss r st;(.ea::p.1,p.2)
inductive rZ(α β:Type)where|ret(a:α)|aE(t:TypeId)(row:List AV)(b:β)
def AT(p:Bool)(l m:List LT):Type:=match p with|false=>RT l|true=>rZ (RT l) (RT m)
def aa3{ρ α β:Type}(x:Option (rZ α β))(k:α->Option ρ)(kp:TypeId->List AV->β->Option ρ):Option ρ:=ask x λa=>match a with|.ret a=>k a|.aE t row b=>kp t row b
def NS{ρ:Type}{l m:List LT}(p:Bool):Option (AT p l m)->(RT l->Option ρ)->(TypeId->List AV->RT m->Option ρ)->Option ρ:=match p with|false=>λx k _=>ask x k|true=>λx k kp=>aa3 x k kp
def OZ{l m:List LT}(p:Bool):Option (RT l)->Option (AT p l m):=match p with|false=>λx=>x|true=>λx=>ask x λa=>some (.ret a)
def NT{l m:List LT}(p:Bool)(t:TypeId)(row:List AV):Option (RT m)->Option (AT p l m):=match p with|false=>λ_=>none|true=>λx=>ask x λb=>some (.aE t row b)
structure dg(pn:FuncId->Bool):Type 1 where
 call:(f:FuncId)->(args:List SV)->(au:List ai)->(shs psh:List Sh)->Option (AT (pn f) (bB shs) (bB psh))
 jump:(f:FuncId)->(key:Nat)->(shs psh:List Sh)->(nb:Nat)->(r9:List SV)->(au:List ai)->(df:List (FuncId×List SV))->Option (AT (pn f) (bB shs) (bB psh))
 wt:(f:FuncId)->(m:iY)->(args:List SV)->(au:List ai)->(shs:List Sh)->Option (Bool×RT (bB shs))
 inl:{ρ:Type}->(f:FuncId)->(args:List SV)->(st:ad)->(k:SV->ad->Option ρ)->(kp:TypeId->List AV->ad->Option ρ)->Option ρ
 gP:(f:FuncId)->(ts:List Tmp)->(aY:List SV)->(au:List ai)->(shs:List Sh)->Option (RT (bB shs))
structure cQ where
 cut:FuncId->Nat->Option (List (Tmp×Nat×TypeId))
 own:FuncId->Nat
 bx:FuncId->TypeId->Nat
 kn:FuncId->Option (List SV->Option (Bool×SV))
 pn:FuncId->Bool
 kept:TypeId->Bool
 inl:FuncId->Bool
 pts:List TypeId
 lp:FuncId->Option (List Tmp)
 fz:FuncId->Bool
 ls:TypeId->Bool
 un:FuncId->Nat
 GU:FuncId->Bool
 in2:FuncId->Bool
 tf:FuncId->Bool
mutual
def wu:SV->List Nat|.ref i _=>[i]|.own i=>[i]|.cV i _ _=>[i]|.fG i=>[i]|.om i=>[i]|.nR i _=>[i]|.opt _ v=>wu v|.fn _ cs=>dw cs|.agg cs=>dw cs|.bl cs=>dw cs|.dB _ v=>wu v|.yl _ _ cs=>dw cs|_=>[]
def dw:List SV->List Nat|[]=>[]|v::vs=>wu v++dw vs
end
def aa4:ai->List Nat|.box _ cs=>dw cs|_=>[]
def l9:List Nat->Nat->Bool|[],_=>false|y::ys,x=>Nat.beq x y||l9 ys x
def idx:List Nat->Nat->Option Nat|[],_=>none|y::ys,x=>match Nat.beq x y with|true=>some 0|false=>(idx ys x).map (.+1)
def qZ(ob:Tr ai):Nat->List Nat->List Nat->List Nat|0,_,c=>c|_,[],c=>c|n+1,i::is,c=>match l9 c i with|true=>qZ ob n is c|false=>qZ ob n (is++(match ob.get i with|some x=>aa4 x|none=>[])) (c++[i])
mutual
def o6(L:List Nat):SV->SV|.ref i o=>(match idx L i with|some j=>.ref j o|none=>.aA)|.own i=>(match idx L i with|some j=>.own j|none=>.aA)|.om i=>(match idx L i with|some j=>.om j|none=>.aA)|.opt b v=>.opt b (o6 L v)|.fn f cs=>.fn f (iK L cs)|.agg cs=>.agg (iK L cs)|.bl cs=>.bl (iK L cs)|.dB t v=>.dB t (o6 L v)|.yl f ts cs=>.yl f ts (iK L cs)|.cV _ _ _=>.aA|.fG _=>.aA|.nR _ _=>.aA|v=>v
def iK(L:List Nat):List SV->List SV|[]=>[]|v::vs=>o6 L v::iK L vs
end
def bJ(ob:Tr ai):SV->SV
 |.own i=>match ob.get i with|some (.arr t r _)=>.dl t r|some (.tr t r _)=>.dl t r|_=>.aA
 |.om i=>match ob.get i with|some (.mp t r _)=>.md t r|_=>.aA
 |v=>v
def nH(ob:Tr ai):SV->SV|.agg cs=>.agg (cs.map (bJ ob))|v=>bJ ob v
def wv(ob:Tr ai):SV->SV
 |.ref i off=>match ob.get i with|some (.box t cs)=>(match dw (cs.map (bJ ob)),cn (cs.map (bJ ob))with|[],true=>.pb t (cs.map (bJ ob)) off|_,_=>.aA)|_=>.aA
 |v=>bJ ob v
def wZ(ob:Tr ai):SV->SV|.fn g cs=>.fn g (cs.map (wv ob))|.agg cs=>.agg (cs.map (bJ ob))|v=>wv ob v
section
variable (A:cQ)
def mW(st:ad)(e:TypeId):SV×ad:=match isByte P e,iJ P e with|true,_=>(.own st.nx,{st with ob:=st.ob.put st.nx (.ba .empty e),nx:=st.nx+1})|false,true=>(.own st.nx,{st with ob:=st.ob.put st.nx (.arr e [] false),nx:=st.nx+1})|false,false=>(.aA,st)
def s9(m:Nat)(i:Nat)(l:Lf)(v:SV)(st:ad):SV×ad:=match l,v with|.sl e,.sc (.slice none 0 0)=>(match m with|1=>(.dl e [],st)|3=>(match iJ P e&&!isByte P e with|true=>(.own st.nx,{st with ob:=st.ob.put st.nx (.tr e [] false),nx:=st.nx+1})|false=>(v,st))|4=>(v,st)|5=>((mW P st e).1,{(mW P st e).2 with ob:=bg (mW P st e).2.ob [(mW P st e).1]})|_=>mW P st e)|.sl _,.own j=>(match m with|1=>(bJ st.ob (.own j),{st with ob:=bg st.ob [.own j]})|5=>(v,{st with ob:=bg st.ob [.own j]})|_=>(v,st))|.no,.sc (.pointer none)=>(match m with|2=>(.opt false (.ref i 0),st)|_=>(v,st))|.no,.ref j o=>(match m with|2=>(.opt true (.ref j o),st)|_=>(v,st))|.no,.om j=>(match m with|4=>(v,st)|_=>(bJ st.ob (.om j),{st with ob:=bg st.ob [.om j]}))|_,v=>(v,st)
def kR(m:Nat)(i:Nat):List Lf->List SV->ad->List SV×ad|l::ls,v::vs,st=>((s9 P m i l v st).1::(kR m i ls vs (s9 P m i l v st).2).1,(kR m i ls vs (s9 P m i l v st).2).2)|_,vs,st=>(vs,st)
def mK(b:TypeId->Nat):List Nat->ad->ad
 |[],st=>st
 |i::is,st=>match st.ob.get i with
  |some (.box t cs)=>
   let p:=kR P (b t) i (lay P t) cs st
   mK b is (match cn p.1 with|true=>{p.2 with ob:=p.2.ob.put i (.box t p.1)}|false=>p.2)|_=>mK b is st
def bW(ob:Tr ai)(L:List Nat):List Nat->List ai|[]=>[]|i::is=>(match ob.get i with|some (.box t cs)=>.box t (iK L cs)|some x=>x|none=>.gone)::bW ob L is
def nodup:List Nat->Bool|[]=>true|x::xs=>!l9 xs x&&nodup xs
def oV:SV->List Nat|.own i=>[i]|_=>[]
def iL:List ai->Bool|[]=>true|.box _ cs::os=>cn cs&&iL os|_::os=>iL os
def oI:List ai->Bool|[]=>true|.gone::_=>false|_::os=>oI os
def lS(b:TypeId->Nat)(st:ad)(aY:List SV)(pre:List Nat):Option (List SV×List ai×List Nat×ad):=
 let c:=mK P b (qZ st.ob 200 (pre++dw aY) []) st
 let L:=qZ c.ob 200 (pre++dw aY) []
 let au:=bW c.ob L L
 match nodup L&&iL au with|true=>some (iK L aY,au,L,c)|false=>none
def zL:List Nat->List Nat->Bool|[],_=>true|_,[]=>false|x::xs,y::ys=>Nat.beq x y&&zL xs ys
def yw:List Sh->Bool|[]=>true|.aA::_=>false|_::ss=>yw ss
def O0(au:List ai):SV->Sh
 |.sc (.int k _)=>.int k
 |.sc (.bool _)=>.bool
 |.sc (.string _)=>.str
 |.dl t _=>.dl t
 |.md t _=>.md t
 |.own i=>match au[i]? with|some (.arr t _ l)=>.own t l|some (.tr t _ _)=>.tr t|some (.ba _ t)=>.ba t|_=>.aA
 |.om i=>match au[i]? with|some (.mp t _ _)=>.md t|_=>.aA
 |.opt _ v=>.opt v
 |.ref i o=>.iZ (.ref i o)
 |.fn f cs=>match dw cs with|[]=>.iZ (.fn f cs)|_=>.aA
 |.sc v=>.iZ (.sc v)|_=>.aA
def kz(au:List ai):List ai->List Sh|[]=>[]|.box _ cs::os=>cs.map (O0 au)++kz au os|_::os=>kz au os
def EJ(A:cQ)(au:List ai):List ai->List Sh|[]=>[]|.box t cs::os=>(match A.kept t with|true=>cs.map (O0 au)|false=>cs.map λ_=>.ea)++EJ A au os|_::os=>EJ A au os
def M3(A:cQ)(f:FuncId)(au:List ai):List Sh:=match A.pn f with|true=>EJ A au au|false=>[]
def ou(m:Nat):List Lf->List Sh|[]=>[]|.int k::ls=>.int k::ou m ls|.bool::ls=>.bool::ou m ls|.str::ls=>.str::ou m ls|.sl t::ls=>(match m with|0=>.dl t|m+1=>match isByte P t with|true=>.ba t|false=>.own t (Nat.beq m 0))::ou m ls|.no::ls=>.aA::ou m ls
def D9(m:Nat)(t:TypeId):List Sh:=match lj P t with|some _=>[.md t]|none=>ou P m (lay P t)
def nk(m:Nat):List TypeId->List Sh|[]=>[]|t::ts=>D9 P m t++nk m ts
def qK:List TypeId->List SV->List SV
 |[],_=>[]
 |t::ts,vs=>
  let n:=(lay P t).length
  (match dG P t with|some true=>.agg (vs.take n)|_=>(vs.take n).headD .aA)::qK ts (vs.drop n)
def gE(ob:Tr ai):List Nat->Tr ai|[]=>ob|i::is=>gE (ob.put i .gone) is
def jN:List Nat->List ai->List SV->Tr ai->Tr ai|i::is,.box t cs::os,vs,ob=>jN is os (vs.drop cs.length) (ob.put i (.box t (vs.take cs.length)))|_::is,_::os,vs,ob=>jN is os vs ob|_,_,_,ob=>ob
mutual
def ta(L:List Nat):SV->SV|.ref i o=>(match L[i]? with|some j=>.ref j o|none=>.aA)|.opt b v=>.opt b (ta L v)|.fn f cs=>.fn f (ov L cs)|v=>v
def ov(L:List Nat):List SV->List SV|[]=>[]|v::vs=>ta L v::ov L vs
end
def rp(shs:List Sh)(m:Nat)(ts:List TypeId)(L:List Nat)(au:List ai)(c:ad)(r:RT (bB shs))(k:SV->ad->Option ρ):Option ρ:=
 let p:=b7 shs r {c with ob:=gE c.ob L}
 let us:=ov L p.1
 match cn (us.drop m)with|false=>none|true=>k (match qK P ts (us.take m)with|[v]=>v|vs=>.bl vs) {p.2 with ob:=jN L au (us.drop m) p.2.ob}
def tw(f:FuncId)(fn:Func):List Sh:=nk P (A.own f) fn.resultTypes.toList
def Ft(t:TypeId)(v:SV)(st:ad):Option (List (List AV)):=match v,st.ob.get 0 with|.bl [],some (.mp t' rows false)=>if t'=t then some rows else none|_,_=>none
def EK(t:TypeId)(rows:List (List AV)):ad:=⟨.leaf,Tr.leaf.put 0 (.mp t rows false),1,[],[],.no⟩
def EL(R:dg A.pn)(st:ad)(f:FuncId)(args:List SV)(k:SV->ad->Option ρ):Option ρ:=match dw args with|[i]=>(match st.ob.get i with|some (.mp t rows false)=>ask (R.inl f (iK [i] args) (EK t rows) (Ft t) (λ_ _ _=>none)) λrows'=>k (.bl []) {st with ob:=st.ob.put i (.mp t rows' false)}|_=>none)|_=>none
def zM(R:dg A.pn)(fn:Func)(kp:TypeId->List AV->ad->Option ρ)(st:ad)(f:FuncId)(args:List SV)(k:SV->ad->Option ρ):Option ρ:=match A.kn f with|some g=>(match g (args.map (nH st.ob))with|some (b,v)=>aa b (k v {st with ob:=bg st.ob (args.flatMap bc)}) none|none=>none)|none=>match lS P (A.bx f) {st with ob:=bg st.ob (args.flatMap bc)} (args.map (nH st.ob)) []with|none=>none|some (aY,au,L,c)=>match yw (kz au au)&&oI au with|false=>none|true=>NS (A.pn f) (R.call f aY au (tw P A f fn++kz au au) (M3 A f au)) (λr=>rp P (tw P A f fn++kz au au) (tw P A f fn).length fn.resultTypes.toList L au c r k) (λt row b=>rp P (M3 A f au) 0 [] L au c b λ_ st=>kp t row st)
def EM(R:dg A.pn)(fn:Func)(st:ad)(f:FuncId)(args:List SV)(k:SV->ad->Option ρ):Option ρ:=match dw (args.map (wZ st.ob))with|[]=>zM P A R fn (λ_ _ _=>none) {st with ob:=.leaf} f (args.map (wZ st.ob)) λv _=>(match v with|.sc u=>k (.sc u) st|_=>none)|_=>none
def zN(R:dg A.pn)(kp:TypeId->List AV->ad->Option ρ)(st:ad)(f:FuncId)(args:List SV)(k:SV->ad->Option ρ):Option ρ:=match P.funcs[f]? with|none=>none|some fn=>match A.inl f with|true=>R.inl f args st k kp|false=>match A.GU f with|true=>EL A R st f args k|false=>match A.tf f with|true=>EM P A R fn st f args k|false=>zM P A R fn kp st f args k
def vO(R:dg A.pn)(st:ad)(f:FuncId)(m:iY)(args:List SV)(k:Bool->ad->Option ρ):Option ρ:=match P.funcs[f]? with|none=>none|some fn=>match lS P (A.bx f) {st with ob:=bg st.ob (args.flatMap bc)} (args.map (nH st.ob)) []with|none=>none|some (aY,au,L,c)=>match yw (kz au au)&&oI au with|false=>none|true=>ask (R.wt f m aY au (tw P A f fn++kz au au)) λr=>rp P (tw P A f fn++kz au au) (tw P A f fn).length fn.resultTypes.toList L au c r.2 λ_ st=>k r.1 st
def Ea(R:dg A.pn)(st:ad)(f:FuncId)(ts:List Tmp)(caps args:List SV)(k:SV->ad->Option ρ):Option ρ:=match lS P (A.bx f) {st with ob:=bg st.ob (args.flatMap bc)} (caps++args.map (nH st.ob)) []with|none=>none|some (aY,au,L,c)=>match yw (kz au au)&&oI au&&eE aY with|false=>none|true=>ask (R.gP f ts aY au (kz au au)) λr=>rp P (kz au au) 0 [] L au c r λ_ st=>k (.sc (.bool true)) st
def o7(m:Nat)(e:TypeId)(v:SV)(st:ad):SV×ad:=match m,v with|2,.sc (.slice none 0 0)=>mW P st e|1,.sc (.slice none 0 0)=>(.dl e [],st)|1,.own i=>(bJ st.ob (.own i),{st with ob:=bg st.ob [.own i]})|1,.om i=>(bJ st.ob (.om i),{st with ob:=bg st.ob [.om i]})|3,.sc (.pointer none)=>(.ls e [],st)|_,v=>(v,st)
def oW(tm:Tr SV):List (Tmp×Nat×TypeId)->ad->List SV×ad|[],st=>([],st)|(t,m,e)::ts,st=>((o7 P m e (bw tm (.tmp t)) st).1::(oW tm ts (o7 P m e (bw tm (.tmp t)) st).2).1,(oW tm ts (o7 P m e (bw tm (.tmp t)) st).2).2)
def upto:Nat->List Nat|0=>[]|n+1=>upto n++[n]
def Fu:List (FuncId×List SV)->List Nat|[]=>[]|(_,vs)::l=>dw vs++Fu l
def Fv(L:List Nat):List (FuncId×List SV)->List (FuncId×List SV)|[]=>[]|(f,vs)::l=>(f,iK L vs)::Fv L l
def tx(R:dg A.pn)(f:FuncId)(shs psh:List Sh)(nb:Nat)(key:Nat)(st:ad):Option (AT (A.pn f) (bB shs) (bB psh)):=
 match st.cm,A.cut f key with
 |.no,some ts=>
  let p:=oW P st.tm ts st
  match lS P (A.bx f) p.2 p.1 (upto nb++Fu st.df)with|none=>none|some (aY,au,L,_)=>match zL (upto nb) L with|true=>R.jump f key shs psh nb aY au (Fv L st.df)|false=>none
 |_,_=>none
def EN(st:ad)(v:SV)(k:SV->ad->Option ρ):Option ρ:=match v with|.nR i h=>(match st.ob.get i with|some (.tr t r false)=>jk {st with ob:=st.ob.put i .gone} (.tr t (r.take h.toNat) false) λj st=>k (.own j) st|_=>none)|v=>k v st
def tK(st:ad):Option Operand->Option SV|none=>none|some o=>some (bw st.tm o)
def xS(st:ad)(b:Builtin)(c:Array TypeId)(args:List SV)(k:SV->ad->Option ρ):Option ρ:=
 match b,args with
 |.append,[x,y]=>match c[0]?,c[1]? with
  |some t,some t'=>match P.underlying t,P.underlying t' with|some (.slice e),some (.slice _)=>qJ P st e x y k|some (.slice e),some .string=>qJ P st e x y k|_,_=>none
  |_,_=>none
 |.len,[x]=>match l8 st x,c[0]? with|some n,some t=>(match P.underlying t,D8 x with|some (.slice _),false=>k (.sc (.int .i64 n)) st|some .string,true=>k (.sc (.int .i64 n)) st|_,_=>none)|_,_=>none
 |.unsafeSliceData,[.own i]=>match st.ob.get i with|some (.ba s _)=>aa (decide (0<s.size)) (k (.fG i) st) (k (.sc (.pointer none)) st)|_=>none
 |.unsafeSliceData,[.sc (.slice none 0 0)]=>k (.sc (.pointer none)) st
 |.unsafeString,[.sc (.pointer none),.sc (.int _ n)]=>aa (n==0) (match c[0]? with|some _=>k (.sc (.string .empty)) st|none=>none) none
 |.unsafeString,[.fG i,.sc (.int _ n)]=>match st.ob.get i,c[0]? with
  |some (.ba s t),some m=>match P.underlying m with
   |some (.pointer u)=>match bj P u with|some 1=>if t=u then head s n λr=>k (.sc (.string r)) st else none|_=>none
   |_=>none
  |_,_=>none
 |.clear,[.om j]=>match st.ob.get j,c[0]?.bind P.underlying with|some (.mp t _ false),some _=>k (.bl []) {st with ob:=st.ob.put j (.mp t [] false)}|_,_=>none
 |_,_=>none
def WV:SV->Bool|.bl []=>true|_=>false
def uH(tm:Tr SV):List Operand->Bool|[]=>false|x::xs=>WV (bw tm x)||uH tm xs
def M4(t:TypeId):Option SV:=match P.info? t with|some i=>i.zero.map fL|none=>none
def gX(R:dg A.pn)(kp:TypeId->List AV->ad->Option ρ)(o:Oper)(st:ad)(k:SV->ad->Option ρ):Option ρ:=
 let e:=bw st.tm
 match o.op with
 |.alloc t=>match P.info? t with
  |some i=>match i.zero with|some z=>(match cn (bc (fL z))with|true=>jk st (.box t (bc (fL z))) λi st=>k (.ref i 0) st|false=>none)|none=>none
  |none=>none
 |.box t x=>match cn (bc (e x))with|true=>jk st (.box t (bc (e x))) λi st=>k (.ref i 0) st|false=>none
 |.build t parts=>match D7 P t (parts.toList.map λ(i,x)=>(i,e x))with|some v=>k v st|none=>none
 |.buildSlice t len parts=>HN P st t len (parts.toList.map λ(i,x)=>(i,e x)) k
 |.load t a=>vN P st t (e a) λv=>k v st
 |.store t a x=>EN st (e x) λv st=>D5 P st t (e a) v λst=>k (.bl []) st
 |.nilCheck x=>match e x with|.ref i o=>k (.ref i o) st|.cV i j o=>k (.cV i j o) st|.cI t r o=>k (.cI t r o) st|.fn f cs=>k (.fn f cs) st|.opt b (.ref i o)=>aa b (k (.ref i o) st) none|.pb t cs o=>k (.pb t cs o) st|.ls t rows=>mV rows λr rest=>k (.pb t (fB r (lay P t).dropLast 0++[.ls t rest]) 0) st|_=>none
 |.binOp op t x y _=>Fs P (nj x||nj y) op t (e x) (e y) λv=>k v st
 |.unOp op _ x=>match op,e x with|.not,.sc (.bool b)=>k (.sc (.bool !b)) st|.neg,.sc (.int kd n)=>k (.sc (.int kd (kd.wrap (0-n)))) st|_,_=>none
 |.convert s d x=>match e x with|.sc (.int _ n)=>(match P.underlying s,P.underlying d with|some (.int _),some (.int kd)=>k (.sc (.int kd (kd.wrap n))) st|_,_=>none)|.sc (.string v)=>(match P.underlying s,P.underlying d with|some .string,some .string=>k (.sc (.string v)) st|_,_=>none)|.sc (.pointer none)=>(match P.underlying s,P.underlying d with|some (.pointer _),some .unsafePointer=>k (.sc (.pointer none)) st|some .unsafePointer,some .unsafePointer=>k (.sc (.pointer none)) st|some .unsafePointer,some (.pointer _)=>k (.sc (.pointer none)) st|_,_=>none)|.ref i o=>(match st.ob.get i,P.underlying s,P.underlying d with|some (.box _ cs),some (.pointer t),some .unsafePointer=>(match bj P t with|some (_+1)=>if o+1<=cs.length then k (.ref i o) st else none|_=>none)|some (.box t cs),some .unsafePointer,some (.pointer u)=>(match bj P u with|some (_+1)=>if o+1<=cs.length then(match liesAt P P.depth t (cs.length/P.cellsOf t) o u 1 with|true=>k (.ref i o) st|false=>none)else none|_=>none)|_,_,_=>none)|.own i=>(match P.underlying s,P.underlying d,st.ob.get i with|some (.slice e),some .string,some (.ba b _)=>(match isByte P e with|true=>k (.sc (.string b)) st|false=>none)|_,_,_=>none)|_=>none
 |.makeInterface t x=>match P.underlying t with|some (.interface _)=>none|some _=>k (.dB t (e x)) st|none=>none
 |.makeFunc fn first caps=>match fn,first.toList with|.func f,[]=>k (.fn f (caps.toList.map e)) st|_,_=>none
 |.slice t x q hi p=>yU P st t (e x) (tK st q) (tK st hi) (tK st p) k
 |.fieldAddr t x f=>match Cv P t (e x) f with|some v=>k v st|none=>none
 |.field t x f=>match D6 P t (e x) f with|some v=>k v st|none=>none
 |.indexAddr t x i=>Cw P st t (e x) (e i) λv=>k v st
 |.index t x i=>match P.underlying t,e x,e i with|some .string,.sc (.string s),.sc (.int _ n)=>ig s n λb=>k (.sc (.int .u8 b)) st|some (.array len el),.agg cs,.sc (.int _ n)=>Fl P el len cs n λv=>k v st|_,_,_=>none
 |.extract t i=>match e t with
  |.bl vs=>match vs[i]? with|some v=>k v st|none=>none
  |_=>none
 |.call c=>match c.callee with|.builtin b=>xS P st b c.argTypes (c.args.toList.map e) k|.invoke _ _=>none|.value f=>match e f with|.fn f caps=>(match P.funcs[f]? with|some fn=>(match fn.body with|some _=>zN P A R kp st f (c.args.toList.map e++caps) k|none=>match qI fn,c.args.toList.map e++caps with|1,[x]=>k x st|_,_=>none)|none=>none)|.yl f ts caps=>Ea P A R st f ts caps (c.args.toList.map e) k|_=>none
 |.typeAssert x _ a ok=>match P.underlying a,e x with|some (.interface _),_=>none|some _,.dB t v=>(match Nat.beq t a with|true=>k (match ok with|true=>.bl [v,.sc (.bool true)]|false=>v) st|false=>match ok,M4 P a with|true,some z=>k (.bl [z,.sc (.bool false)]) st|_,_=>none)|_,_=>none
 |.makeMap t none=>match lj P t with|some _=>jk st (.mp t [] false) λi st=>k (.om i) st|none=>none
 |.lookup t x i ok=>zK P st t (e x) (e i) ok λv=>k v st|.mapUpdate t m i x=>Fk P st t (e m) (e i) (e x) λst=>k (.bl []) st|_=>none
def refine(d:Tmp)(t:Bool):List (Tmp×Tmp)->Tr SV->Tr SV|[],tm=>tm|(x,y)::l,tm=>match Nat.beq y d with|true=>refine d t l (tm.put x (.sc (.bool t)))|false=>match Nat.beq x d with|true=>refine d t l (tm.put y (.sc (.bool t)))|false=>refine d t l tm
def known(st:ad)(d:Tmp)(t:Bool):ad:={st with tm:=refine d t st.al (st.tm.put d (.sc (.bool t)))}
def ve(d:Tmp):List (Tmp×Tmp)->List (Tmp×Tmp)|[]=>[]|(x,y)::l=>match Nat.beq x d||Nat.beq y d with|true=>ve d l|false=>(x,y)::ve d l
def cP(st:ad)(dst:Option Tmp)(v:SV):ad:=match dst with|some d=>{st with tm:=st.tm.put d v,al:=ve d st.al}|none=>st
def jO(st:ad)(dst:Option Tmp)(x:Operand):ad:=
 let v:=bw st.tm x
 let c:=cP st dst v
 match dst,x,v with
 |some d,.tmp s,.sc (.bool _)=>match Nat.beq d s with|true=>c|false=>{c with al:=(d,s)::c.al}
 |_,_,_=>c
def j8(R:dg A.pn)(kp:TypeId->List AV->ad->Option ρ)(o:Oper)(st:ad)(k:ad->Option ρ):Option ρ:=
 match o.op with
 |.move x|.assign x=>k (jO st o.dst x)
 |.pick c a b=>match c with
  |.tmp d=>match st.tm.get d with|some (.sc (.bool t))=>aa t (k (jO (known st d true) o.dst a)) (k (jO (known st d false) o.dst b))|_=>none
  |.const (.bool t)=>k (jO st o.dst (match t with|true=>a|false=>b))|_=>none
 |_=>match uH st.tm o.op.operands.toList with|true=>none|false=>gX P A R kp o st λv st=>k (cP st o.dst v)
def tb(ops:Array Oper)(o:Oper)(st:ad)(run:ad->Option ρ)(skip:ad->Option ρ):Option ρ:=
 match o.guard with
 |none=>run st
 |some (j,want)=>match(ops[j]?).bind (·.dst)with
  |some d=>match st.tm.get d with|some (.sc (.bool b))=>(match want with|true=>aa b (run (known st d true)) (skip (known st d false))|false=>aa b (skip (known st d true)) (run (known st d false)))|some (.bl [])=>skip st|_=>none
  |none=>none
def Pa(A:cQ)(c:Bool):Op->Bool|.panic _|.defer _=>true|.slice _ _ _ _ (some _)=>true|.call {callee:=.builtin .recover,..}=>true|.call {callee:=.builtin .max,..}=>true|.box t _=>c||A.ls t|_=>false
def imx(a b:Int):Int:=if b>a then b else a
def AG(kd:IntKind):List SV->Int->Option Int|[],a=>some a|.sc (.int c b)::vs,a=>if kd=c then AG kd vs (imx a b)else none|_,_=>none
def NU:List SV->Option SV
 |.sc (.int kd a)::vs=>match AG kd vs a with|some m=>some (.sc (.int kd m))|none=>none
 |_=>none
def Fw(st:ad)(t:TypeId)(cs:List SV):Option (SV×ad):=match dw (cs.map (bJ st.ob)),cn cs&&cn (cs.map (bJ st.ob))with|[],true=>some (.pb t (cs.map (bJ st.ob)) 0,{st with ob:=bg st.ob cs})|_,_=>none
def Fx(st:ad)(t:TypeId)(cs:List SV):Option (SV×ad):=match cn cs,rowOf P st.ob (lay P t).dropLast cs.dropLast,cs.getLast? with|true,some row,some (.ls t' rows)=>if t'=t then some (.ls t (row::rows),{st with ob:=bg st.ob cs.dropLast})else none|true,some row,some (.sc (.pointer none))=>some (.ls t [row],{st with ob:=bg st.ob cs.dropLast})|_,_,_=>none
def AH(t:TypeId)(row:List AV):SV:=.dB t (match dG P t,lay P t with|some false,[l]=>gU l row 0|_,ls=>.agg (fB row ls 0))
def Yr(t:TypeId):Bool:=(lay P t).all λ|.int _|.bool|.str=>true|_=>false
def BF(A:cQ)(kp:TypeId->List AV->ad->Option ρ)(o:Oper)(st:ad)(k:ad->Option ρ):Option ρ:=match uH st.tm o.op.operands.toList with|true=>none|false=>match o.op with|.panic x=>(match bw st.tm x with|.dB t v=>(match Yr P t,dG P t,v with|true,some true,.agg cs=>(match rowOf P .leaf (lay P t) cs with|some row=>kp t row st|none=>none)|true,some false,v=>(match rowOf P .leaf (lay P t) [v]with|some row=>kp t row st|none=>none)|_,_,_=>none)|_=>none)|.defer c=>(match c.callee with|.value f=>(match bw st.tm f,st.cm with|.fn f caps,.no=>k (cP {st with df:=(f,c.args.toList.map (bw st.tm)++caps)::st.df} o.dst (.bl []))|_,_=>none)|_=>none)|.call {callee:=.builtin .recover,args,..}=>(match args.toList,st.cm with|[],.ret=>k (cP st o.dst (.sc .nilIface))|[],.aE t row false=>k (cP {st with cm:=.aE t row true} o.dst (AH P t row))|_,_=>none)|.call {callee:=.builtin .max,args,..}=>(match NU (args.toList.map (bw st.tm))with|some v=>k (cP st o.dst v)|none=>none)|.box t x=>(match(match A.ls t with|true=>Fx P st t (bc (bw st.tm x))|false=>Fw st t (bc (bw st.tm x)))with|some (v,st)=>k (cP st o.dst v)|none=>none)|.slice t x none (some hi) (some i)=>(match P.underlying t,bw st.tm x,bw st.tm hi,bw st.tm i with|some (.slice e),.own j,.sc (.int _ n),.sc (.int _ m)=>(match st.ob.get j with|some (.arr t' rows aM)=>(match Nat.beq t' e with|true=>aa (decide (n=(rows.length:Int)/\m=(rows.length:Int))) (k (cP {st with ob:=(st.ob.put j .gone).put st.nx (.arr e rows aM),nx:=st.nx+1} o.dst (.own st.nx))) none|false=>none)|_=>none)|_,_,_,_=>none)|_=>none
def ma(R:dg A.pn)(c:Bool)(kp:TypeId->List AV->ad->Option ρ)(ops:Array Oper):List Oper->ad->(ad->Option ρ)->Option ρ|[],st,k=>k {st with al:=[]}|o::rest,st,k=>tb ops o st (λst=>match Pa A c o.op with|true=>BF P A kp o st λst=>ma R c kp ops rest st k|false=>j8 P A R kp o st λst=>ma R c kp ops rest st k) (λst=>ma R c kp ops rest (cP st o.dst (.bl [])) k)
def gA(A:cQ)(st:ad)(o:Oper):Bool:=match o.op with|.call c=>(match c.callee with|.value f=>(match bw st.tm f with|.fn g caps=>!A.inl g&&!A.GU g&&(A.tf g||(match dw ((c.args.toList.map (bw st.tm)++caps).map (nH st.ob))with|[]=>true|_=>false))|_=>false)|_=>false)|_=>false
def mc(st:ad)(o:Oper):Option Nat:=match o.op with|.load _ x=>(match bw st.tm x with|.ref j _=>some j|.cV j _ _=>some j|_=>none)|_=>none
def wx:ai->Bool|.box _ _=>true|.arr _ _ _=>true|_=>false
def yx(ob:Tr ai)(L:List Nat):Nat->List Nat|0=>[]|n+1=>match ob.get n with|some x=>(match wx x&&!l9 L n with|true=>n::yx ob L n|false=>yx ob L n)|none=>yx ob L n
def oX(st:ad)(o:Oper):List Nat:=yx st.ob (qZ st.ob 200 (dw (o.op.operands.toList.map (bw st.tm))) []) st.nx
def NV:SV->Bool|.cI _ _ _=>true|.dl _ _=>true|.pb _ _ _=>true|.md _ _=>true|.sc _=>true|_=>false
def ow(st:ad)(o:Oper):Bool:=o.op.operands.toList.all λx=>NV (bw st.tm x)
def oi(st:ad)(o:Oper):Bool:=match o.op with|.store _ x _=>(match bw st.tm x with|.ref i _=>(match st.ob.get i with|some (.box _ _)=>true|_=>false)|_=>false)|_=>false
def tz:List Nat->ad->(ad->(SV->ad->Option ρ)->(TypeId->List AV->ad->Option ρ)->Option ρ)->(SV->ad->Option ρ)->(TypeId->List AV->ad->Option ρ)->Option ρ|[],st,run,k,kp=>run st k kp|j::js,st,run,k,kp=>match st.ob.get j with|some x=>(match wx x with|true=>tz js {st with ob:=st.ob.put j .gone} run (λv st'=>k v {st' with ob:=st'.ob.put j x}) (λt' row st'=>kp t' row {st' with ob:=st'.ob.put j x})|false=>none)|none=>none
def rG(o:Oper)(v:SV):Option Nat:=match o.op with|.call {callee:=.builtin .append,..}=>(match v with|.own d=>some d|_=>none)|_=>none
def jI(ob:Tr ai):List (Nat×Bool×List Nat×Option Nat)->List Nat|[]=>[]|e::es=>match e.2.2.2 with|some d=>(match ob.get d with|some (.arr _ _ false)=>e.1::jI ob es|_=>jI ob es)|none=>jI ob es
def vP(b:List Nat)(fs:List (Nat×Bool×List Nat))(es:List (Nat×Bool×List Nat×Option Nat))(rf:List (Nat×Nat)):Bool:=match es with|[]=>true|_=>es.all λe=>(fs.all λp=>(b.getD p.1 0).testBit e.1||(b.getD e.1 0).testBit p.1||(p.2.1&&(e.2.1&&Nat.blt p.1 e.1||l9 p.2.2 e.1)))&&rf.all λp=>(b.getD p.1 0).testBit e.1||(b.getD e.1 0).testBit p.1||l9 e.2.2.1 p.2
def iM(R:dg A.pn)(ops:Array Oper)(b:List Nat)(m:Nat)(k:List (Nat×Bool×List Nat)->List (Nat×Nat)->Option ρ):List Oper->Nat->List (Nat×Bool×List Nat)->List (Nat×Nat)->ad->Option ρ|[],_,fs,rf,_=>k fs rf|o::rest,i,fs,rf,st=>match(b.getD i 0).testBit m with|true=>iM R ops b m k rest (i+1) fs rf (cP st o.dst .aA)|false=>match aX o.op||bN o.op with|true=>tb ops o st (λst=>j8 P A R (λ_ _ _=>none) o st λst'=>(match bN o.op&&iF o.op,mc st o with|true,some j=>iM R ops b m k rest (i+1) fs ((i,j)::rf) st'|true,none=>iM R ops b m k rest (i+1) ((i,ow st o,[])::fs) rf st'|false,_=>iM R ops b m k rest (i+1) fs rf st')) (λst=>iM R ops b m k rest (i+1) fs rf (cP st o.dst (.bl [])))|false=>none
def iP(R:dg A.pn)(kp:TypeId->List AV->ad->Option ρ)(ops:Array Oper)(b:List Nat):List Oper->Nat->List (Nat×Bool×List Nat×Option Nat)->List (Nat×Bool×List Nat)->List (Nat×Nat)->ad->(List (Nat×Bool×List Nat×Option Nat)->List (Nat×Bool×List Nat)->List (Nat×Nat)->ad->Option ρ)->Option ρ|[],_,es,fs,rf,st,k=>k es fs rf {st with al:=[]}|o::rest,i,es,fs,rf,st,k=>tb ops o st (λst=>match aX o.op||bN o.op with|true=>j8 P A R (λ_ _ _=>none) o st λst'=>(match bN o.op&&iF o.op,mc st o with|true,some j=>iP R kp ops b rest (i+1) es fs ((i,j)::rf) st' k|true,none=>iP R kp ops b rest (i+1) es ((i,ow st o,jI st.ob es)::fs) rf st' k|false,_=>iP R kp ops b rest (i+1) es fs rf st' k)|false=>match uH st.tm o.op.operands.toList with|true=>none|false=>tz (match gA A st o with|true=>[]|false=>oX st o) st (λst k kp=>gX P A R kp o st k) (λv st'=>iP R kp ops b rest (i+1) (match gA A st o with|true=>es|false=>(i,oi st o,oX st o,rG o v)::es) fs rf (cP st' o.dst v) k) (λt row st'=>iM P A R ops b i (λfs rf=>match vP b fs es rf with|true=>kp t row {st' with tm:=.leaf,al:=[]}|false=>none) rest (i+1) fs rf (cP st o.dst .aA))) (λst=>iP R kp ops b rest (i+1) es fs rf (cP st o.dst (.bl [])) k)
def wy(R:dg A.pn)(c:Bool)(kp:TypeId->List AV->ad->Option ρ)(ops:Array Oper)(draw:Bool)(st:ad)(k:ad->Option ρ):Option ρ:=match draw with|false=>ma P A R c kp ops ops.toList st k|true=>iP P A R (λt row st=>match uB ops with|true=>kp t row st|false=>none) ops (eh ops.toList []) ops.toList 0 [] [] [] st λes fs rf st=>match uB ops&&vP (eh ops.toList []) fs es rf with|true=>k st|false=>none
end
inductive gZ where|normal|exit(id:Nat)|ret|aE(t:TypeId)(row:List AV)
def dO(key:Nat):Code->Bool|.seq a b=>dO key a||dO key b|.cond _ a b=>dO key a||dO key b|.block id b=>Nat.beq (key/2) id||dO key b|.loop b=>dO key b|.scope b=>dO key b|.region id _ _=>Nat.beq key (1000000+id)|_=>false
def cA(key:Nat):Code->Nat|.seq a b=>cA key a+cA key b|.cond _ a b=>cA key a+cA key b|.block id b=>(match Nat.beq (key/2) id with|true=>1|false=>0)+cA key b|.loop b=>cA key b|.scope b=>cA key b|.region id _ _=>(match Nat.beq key (1000000+id)with|true=>1|false=>0)|_=>0
def dx(n:Nat):Code->Bool
 |.seq a b=>dx n a&&dx n b
 |.cond _ a b=>dx n a&&dx n b
 |.block _ b=>dx n b
 |.loop b=>dx n b
 |.scope b=>dx n b
 |.region _ ops _=>ops.toList.all λo=>match o.dst with|some d=>Nat.blt d n|none=>true
 |_=>true
def dD:Code->Nat|.seq a b=>dD a+dD b|.cond _ a b=>dD a+dD b|.block _ b=>dD b|.loop b=>dD b|.scope b=>dD b|.rangeFunc _ _ a b=>1+dD a+dD b|_=>0
def eJ:Code->Option (List Tmp×Code×Code)|.seq a b=>(match eJ a with|some r=>some r|none=>eJ b)|.cond _ a b=>(match eJ a with|some r=>some r|none=>eJ b)|.block _ b=>eJ b|.loop b=>eJ b|.scope b=>eJ b|.rangeFunc _ ps a b=>some (ps.toList,a,b)|_=>none
def rq:Code->List Tmp|.seq a b=>rq a++rq b|.region _ ops _=>ops.toList.filterMap (·.dst)|_=>[]
def M5:SV->Bool|.aA|.opt _ _|.ea=>false|_=>true
def np:List Tmp->List SV->Tr SV->Tr SV|t::ts,v::vs,tr=>(match M5 v with|true=>np ts vs (tr.put t v)|false=>np ts vs tr)|_,_,tr=>tr
def vQ(n:Nat):List Tmp->List SV->Tr SV->Option (Tr SV)|[],[],tr=>some tr|p::ps,v::vs,tr=>(match Nat.blt p n with|true=>vQ n ps vs (tr.put p v)|false=>none)|_,_,_=>none
section
variable {ρ:Type}(A:cQ)(R:dg A.pn)(f:FuncId)(J:Nat->ad->Option ρ)
def Fy(st:ad)(fo:Operand)(k:gZ->ad->Option ρ):Option ρ:=match bw st.tm fo,st.cm,A.lp f with|.fn g caps,.no,some ts=>(match P.funcs[g]? with|some fn=>(match fn.body with|some _=>zN P A R (λ_ _ _=>none) st g (.yl f ts (ts.map λt=>bw st.tm (.tmp t))::caps) λ_ st=>k .normal st|none=>none)|none=>none)|_,_,_=>none
def eD(m:Option Nat):Code->ad->(gZ->ad->Option ρ)->Option ρ
 |.skip,st,k=>k .normal st
 |.label _,st,k=>k .normal st
 |.region id ops draw,st,k=>match A.cut f (1000000+id)with|some _=>J (1000000+id) st|none=>wy P A R (A.fz f) (λt row st=>k (.aE t row) st) ops draw st λst=>k .normal st
 |.seq a b,st,k=>eD none a st λex st=>match ex with|.normal=>eD none b st k|ex=>k ex st
 |.cond c a b,st,k=>match bw st.tm c with|.sc (.bool t)=>aa t (eD none a st k) (eD none b st k)|_=>none
 |.block id body,st,k=>eD (some id) body st λex st=>match(match ex with|.exit j=>Nat.beq j id|.normal=>true|_=>false)with|true=>(match A.cut f (2*id+1)with|some _=>J (2*id+1) st|none=>k .normal st)|false=>k ex st
 |.loop _,st,_=>match m with|some i=>J (2*i) st|none=>none
 |.exit id,st,k=>k (.exit id) st|.scope body,st,k=>eD none body st k|.ret,st,k=>k .ret st|.rangeFunc fo _ _ _,st,k=>Fy P A R f st fo k|_,_,_=>none
def fX(key:Nat)(c:Option Nat):Code->ad->(gZ->ad->Option ρ)->Option ρ
 |.seq a b,st,k=>match dO key a with
  |true=>fX key none a st λex st=>match ex with|.normal=>eD P A R f J none b st k|ex=>k ex st
  |false=>fX key none b st k
 |.cond _ a b,st,k=>match dO key a with|true=>fX key none a st k|false=>fX key none b st k
 |.block id body,st,k=>match Nat.beq key (2*id+1)with|true=>k .normal st|false=>fX key (some id) body st λex st=>match(match ex with|.exit j=>Nat.beq j id|.normal=>true|_=>false)with|true=>(match A.cut f (2*id+1)with|some _=>J (2*id+1) st|none=>k .normal st)|false=>k ex st
 |.loop body,st,k=>match(match c with|some i=>Nat.beq key (2*i)|none=>false)with
  |true=>eD P A R f J none body st λex st=>match ex with|.normal=>J key st|ex=>k ex st
  |false=>fX key none body st λex st=>match ex with|.normal=>(match c with|some i=>J (2*i) st|none=>none)|ex=>k ex st
 |.scope body,st,k=>fX key none body st k|.region _ ops draw,st,k=>wy P A R (A.fz f) (λt row st=>k (.aE t row) st) ops draw st λst=>k .normal st|_,_,_=>none
end
section
variable (A:cQ)(R:dg A.pn)(f:FuncId)(shs psh:List Sh)(nb:Nat)
def nq(P:Program)(st:ad):List ResultVar->Option (List SV)|[]=>some []|.tmp t::rs=>(nq P st rs).map λvs=>bw st.tm (.tmp t)::vs|.cell a t::rs=>match vN P st t (bw st.tm (.tmp a)) some,nq P st rs with|some v,some vs=>some (v::vs)|_,_=>none
def mE(ob:Tr ai):List Nat->List SV|[]=>[]|i::is=>match ob.get i with|some (.box _ cs)=>cs++mE ob is|_=>mE ob is
def ku(P:Program):List TypeId->List SV->List SV|t::ts,v::vs=>(match dG P t with|some true=>bc v|_=>[v])++ku P ts vs|_,_=>[]
def nr(P:Program):List TypeId->List SV->Bool|[],[]=>true|t::ts,v::vs=>(match dG P t,v with|some true,.agg cs=>Nat.beq cs.length (lay P t).length|some true,_=>false|_,.agg _=>false|_,_=>Nat.beq (lay P t).length 1)&&nr P ts vs|_,_=>false
def rH(ts:List TypeId)(vs:List SV)(st:ad):Option (RT (bB shs)):=let cs:=ku P ts vs++mE st.ob (upto nb);match nodup (cs.flatMap oV)&&nr P ts vs with|true=>bQ P st.ob shs cs|false=>none
def o8(fn:Func)(st:ad):Option (RT (bB shs)):=match nq P st fn.results.toList with|some vs=>rH P shs nb fn.resultTypes.toList vs st|none=>none
def Fz{ρ:Type}(t:TypeId)(k:TypeId->Option ρ):List TypeId->Option ρ|[]=>none|t0::ts=>aa (Nat.beq t t0) (k t0) (Fz t k ts)
def jf(fn:Func)(p:Bool):List (FuncId×List SV)->iY->ad->Option (AT p (bB shs) (bB psh))|[],.ret,st=>OZ p (o8 P shs nb fn st)|[],.aE t row false,st=>NT p t row (rH P psh nb [] [] st)|(g,args)::ds,.ret,st=>vO P A R st g .ret args λ_ st=>jf fn p ds .ret st|(g,args)::ds,.aE t row false,st=>Fz t (λt0=>vO P A R st g (.aE t0 row false) args λb st=>aa b (jf fn p ds .ret st) none) A.pts|_,_,_=>none
def AJ(fn:Func)(ex:gZ)(st:ad):Option (AT (A.pn f) (bB shs) (bB psh)):=match ex,st.cm with|.exit _,_=>none|.aE t row,.no=>jf P A R shs psh nb fn (A.pn f) st.df (.aE t row false) {st with df:=[]}|_,.no=>jf P A R shs psh nb fn (A.pn f) st.df .ret {st with df:=[]}|_,_=>none
def AK:iY->iY->Option Bool|.aE _ _ _,.aE _ _ b=>some b|.ret,.ret=>some false|_,_=>none
def rJ{ρ:Type}(fn:Func)(c:ad)(k:SV->ad->Option ρ)(kp:TypeId->List AV->ad->Option ρ)(ex:gZ)(st:ad):Option ρ:=match ex,st.df,st.cm with|.exit _,_,_=>none|.aE t row,[],.no=>kp t row {c with ob:=st.ob,nx:=st.nx}|_,[],.no=>(match nq P st fn.results.toList with|some [v]=>k v {c with ob:=st.ob,nx:=st.nx}|some vs=>k (.bl vs) {c with ob:=st.ob,nx:=st.nx}|none=>none)|_,_,_=>none
def AL(fn:Func)(md:iY)(ex:gZ)(st:ad):Option (Bool×RT (bB shs)):=match ex,st.df,AK md st.cm with|.normal,[],some b=>ask (o8 P shs nb fn st) λr=>some (b,r)|.ret,[],some b=>ask (o8 P shs nb fn st) λr=>some (b,r)|_,_,_=>none
def FA(ex:gZ)(st:ad):Option (RT (bB shs)):=match ex,st.df with|.normal,[]=>rH P shs nb [] [] st|_,_=>none
def NW(ks:List Tmp)(st:ad)(k:ad->Option (RT (bB shs))):Option (RT (bB shs)):=match eE (ks.map λt=>bw st.tm (.tmp t)),st.df with|true,[]=>k {st with tm:=np ks (ks.map λt=>bw st.tm (.tmp t)) .leaf,al:=[]}|_,_=>none
end
def BG{ρ:Type}(A:cQ)(R:dg A.pn)(f:FuncId)(code:Code)(k:gZ->ad->Option ρ):Nat->Nat->ad->Option ρ|0,_,_=>none|m+1,key,st=>match Nat.beq (cA key code) 1 with|true=>fX P A R f (BG A R f code k m) key none code st k|false=>none
def bH{α:Type}:List α->Nat->Tr α->Tr α|[],_,t=>t|x::xs,i,t=>bH xs (i+1) (t.put i x)
def tc(ts:List (Tmp×Nat×TypeId))(vs:List SV):Tr SV:=match ts,vs with|(_,_)::ts,.aA::vs=>tc ts vs|(t,_)::ts,v::vs=>(tc ts vs).put t v|_,_=>.leaf
def cQ.BH(A:cQ):cQ:={A with inl:=λf=>A.inl f||A.in2 f}
def dh(A:cQ):Nat->dg A.pn
 |0=>⟨λ_ _ _ _ _=>none,λ_ _ _ _ _ _ _ _=>none,λ_ _ _ _ _=>none,λ_ _ _ _ _=>none,λ_ _ _ _ _=>none⟩
 |n+1=>⟨λf args au shs psh=>match P.funcs[f]? with
  |some fn=>match fn.body with
   |some code=>match dx fn.ntmps code&&(A.kn f).isNone with|true=>eD P A (dh A n) f (tx P A (dh A n) f shs psh au.length) none code ⟨bH args 0 .leaf,bH au 0 .leaf,au.length,[],[],.no⟩ (AJ P A (dh A n) f shs psh au.length fn)|false=>none
   |none=>none
  |none=>none,
  λf key shs psh nb r9 au df=>match P.funcs[f]? with
  |some fn=>match fn.body with
   |some code=>match A.cut f key with|some ts=>(match dx fn.ntmps code&&Nat.beq (cA key code) 1 with|true=>fX P A (dh A n) f (tx P A (dh A n) f shs psh nb) key none code ⟨tc ts r9,bH au 0 .leaf,au.length,[],df,.no⟩ (AJ P A (dh A n) f shs psh nb fn)|false=>none)|none=>none
   |none=>none
  |none=>none,
  λf m args au shs=>match P.funcs[f]? with
  |some fn=>match fn.body with
   |some code=>match dx fn.ntmps code,m with|true,.no=>none|true,m=>eD P A (dh A n) f (λ_ _=>none) none code ⟨bH args 0 .leaf,bH au 0 .leaf,au.length,[],[],m⟩ (AL P shs au.length fn m)|false,_=>none
   |none=>none
  |none=>none,
  λf args st k kp=>match P.funcs[f]? with
  |some fn=>match fn.body with
   |some code=>match dx fn.ntmps code&&(A.kn f).isNone with|true=>eD P A.BH (dh A n) f (BG P A.BH (dh A n) f code (rJ P fn st k kp) (A.un f)) none code ⟨bH args 0 .leaf,st.ob,st.nx,[],[],.no⟩ (rJ P fn st k kp)|false=>none
   |none=>none
  |none=>none,
  λf ts aY au shs=>match P.funcs[f]? with
  |some fn=>match fn.body with
   |some code=>match eJ code with
    |some (ps,hd,bd)=>match Nat.beq (dD code) 1&&dx fn.ntmps hd&&dx fn.ntmps bd,vQ fn.ntmps ps (aY.drop ts.length) (np ts aY .leaf)with
     |true,some tm=>eD P A (dh A n) f (λ_ _=>none) none hd ⟨tm,bH au 0 .leaf,au.length,[],[],.gP⟩ λex st=>match ex with|.normal=>NW shs (ts++ps++rq hd) st λst=>eD P A (dh A n) f (λ_ _=>none) none bd st (FA P shs au.length)|_=>none
     |_,_=>none
    |none=>none
   |none=>none
  |none=>none⟩
end
end
end Go.AI
end

namespace Go.AI
open Go
abbrev Rows:=List (List AV)
abbrev bs(l:List UInt8):ByteArray:=⟨⟨l⟩⟩
def gV(rows:Rows):List (List UInt8):=rows.map λr=>(gS r 0).data.toList
def kW(rows:Rows):Rows:=(ia (gV rows)).map λl=>[.sc (.string (bs l))]
def te(rows:Rows):Bool:=oM (gV rows)&&(gV rows).all (λk=>Nat.ble k.length 9223372036854775807)&&Nat.ble (rows.length*16) 140737488355328
def JN(kf st:Nat):List SV->Option (Bool×SV)
 |[.fn f [.pb _ [.md _ rows] 0]]=>match Nat.beq f kf with|true=>some (te rows,.dl st (kW rows))|false=>none
 |_=>none
def eg(l:Rows)(s:ByteArray):Int:=match l.reverse.findIdx? (λr=>ax (gS r 0) s)with|some i=>(l.length:Int)-1-i|none=>-1
def ra(l:Rows):Bool:=Nat.ble (l.length*16) 140737488351232
def LW(st:Nat):List SV->Option (Bool×SV)
 |[.dl t rows,.sc (.string s)]=>match Nat.beq t st with|true=>some (ra rows,.sc (.int .i64 (eg rows s)))|false=>none
 |[.sc (.slice none 0 0),.sc (.string _)]=>some (true,.sc (.int .i64 (-1)))|_=>none
def LX(c:Nat):List SV->Option (Bool×SV)
 |[.dl t rows]=>match Nat.beq t c with|true=>some (true,.cl c rows)|false=>none
 |[.sc (.slice none 0 0)]=>some (true,.cl c [])|_=>none
def KP:List SV->Option (Bool×SV)|[]=>some (true,.sc (.bool true))|_=>none
end Go.AI

section
namespace Go.AI
mutual
def wtA:AV->Nat|.sc (.string s)=>s.size+1|.aI rows _=>wtRs rows+1|_=>1
def wtR:List AV->Nat|[]=>0|c::r=>wtA c+wtR r
def wtRs:List (List AV)->Nat|[]=>0|r::rs=>wtR r+1+wtRs rs
end
end Go.AI
end
