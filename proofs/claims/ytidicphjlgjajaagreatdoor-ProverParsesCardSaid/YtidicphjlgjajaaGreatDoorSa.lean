/-
  A part of the proof: SvDefs KnPP Wt.
-/
import Derived.Lib.Join
import Derived.Lib.ItoaNum
import Derived.Lib.Split
import Derived.Lib.TrimByte
import Derived.Lib.AtoiAll
import Derived.Test.YtidicphjlgjajaaGreatDoorAa
set_option linter.all false

section
namespace Go.AI
noncomputable section
inductive Lf where|int(k:IntKind)|bool|str|sl(t:TypeId)|no
def M6:Nat->List Lf->List Lf|0,_=>[]|n+1,l=>l++M6 n l
mutual
def E9(P:Program):Nat->TypeId->List Lf|0,_=>[.no]|n+1,t=>match P.underlying t with|some (.int k)=>[.int k]|some .bool=>[.bool]|some .string=>[.str]|some (.slice e)=>[.sl e]|some (.array m e)=>M6 m (E9 P n e)|some (.struct fs)=>Mb P n (fs.toList.map (·.type))|_=>[.no]
def Mb(P:Program):Nat->List TypeId->List Lf|0,_=>[.no]|_,[]=>[]|n+1,t::ts=>E9 P n t++Mb P n ts
end
def lay(P:Program)(t:TypeId):List Lf:=E9 P 40 t
def gI(r:List AV)(j:Nat):Int:=match r[j]? with|some (.sc (.int _ n))=>n|_=>0
def gB(r:List AV)(j:Nat):Bool:=match r[j]? with|some (.sc (.bool b))=>b|_=>false
def gS(r:List AV)(j:Nat):ByteArray:=match r[j]? with|some (.sc (.string s))=>s|_=>.empty
def gD(r:List AV)(j:Nat):List (List AV):=match r[j]? with|some (.aG l _)=>l|_=>[]
inductive SV where|aO|sc(v:Value)|agg(cs:List SV)|dl(t:TypeId)(rows:List (List AV))|own(i:Nat)|ref(i off:Nat)|dU(i k off:Nat)|dN(t:TypeId)(row:List AV)(off:Nat)|h8(i:Nat)|opt(b:Bool)(v:SV)|fn(f:FuncId)(dV:List SV)|aR(vs:List SV)|eI(t:TypeId)(v:SV)|qZ(b:Bool)|cV|cl(t:TypeId)(rows:List (List AV))|yl(f:FuncId)(ts:List Tmp)(cs:List SV)
instance :Inhabited SV:=⟨.aO⟩
inductive au where|box(t:TypeId)(cs:List SV)|arr(t:TypeId)(rows:List (List AV))(bE:Bool)|aK(s:ByteArray)(t:TypeId)|gone
inductive jM where|no|ret|aB(t:TypeId)(row:List AV)(rc:Bool)|gk
structure af where
 tm:Tr SV
 ob:Tr au
 nx:Nat
 al:List (Tmp×Tmp)df:List (FuncId×List SV)cm:jM
def af.r(st:af):List (Tmp×Tmp)×List (FuncId×List SV)×jM:=(st.al,st.df,st.cm)
def u3:Value->Bool|.agg _|.tuple _=>false|_=>true
def Bu(v:Value):SV:=match u3 v with|true=>.sc v|false=>.aO
def ib:Value->SV|.agg cs=>.agg (cs.toList.map Bu)|.tuple vs=>.aR (vs.toList.map Bu)|.func (.func f) a c=>(match a.toList,c.toList with|[],[]=>.fn f []|_,_=>.sc (.func (.func f) a c))|v=>.sc v
def bK(tm:Tr SV):Operand->SV
 |.tmp t=>match tm.get t with|some v=>v|none=>.aO
 |.const v=>ib v|.global _=>.aO|.func f=>.fn f []
mutual
def lP:SV->Bool|.yl _ _ _=>false|.agg cs=>jG cs|.aR cs=>jG cs|.fn _ cs=>jG cs|.opt _ v=>lP v|.eI _ v=>lP v|_=>true
def jG:List SV->Bool|[]=>true|v::vs=>lP v&&jG vs
end
def n7:SV->Bool|.aO|.agg _|.aR _|.yl _ _ _=>false|.fn _ cs=>jG cs|.eI _ v=>lP v|.sc v=>(match v with|.agg _|.tuple _=>false|_=>true)|.opt _ v=>n7 v|_=>true
def cK:List SV->Bool|[]=>true|v::vs=>n7 v&&cK vs
def cj:SV->List SV|.agg cs=>cs|v=>[v]
def j6(l:Lf)(r:List AV)(j:Nat):SV:=match l with|.int k=>.sc (.int k (gI r j))|.bool=>.sc (.bool (gB r j))|.str=>.sc (.string (gS r j))|.sl t=>.dl t (gD r j)|.no=>.aO
def lA(r:List AV):List Lf->Nat->List SV|[],_=>[]|l::ls,j=>j6 l r j::lA r ls (j+1)
noncomputable def both{α:Type}(x y:Option α):Option α:=by classical exact if x=y then x else none
theorem JL{α:Type}{x y:Option α}{r:α}(h:both x y=some r):x=some r/\y=some r:=by
 unfold both at h
 split at h
 .rename_i e;exact⟨h,by rw[<-e];exact h⟩
 .cases h
theorem adm{α:Type}(x:Option α):both x x=x:=by unfold both;rw[if_pos rfl]
def emp{α β:Type}(l:List α)(x y:Option β):Option β:=match l with|[]=>x|_::_=>y
def aa{α:Type}(b:Bool)(x y:Option α):Option α:=match b with|true=>x|false=>y
def cL{α β:Type}(l:List α)(n:Nat)(k:α->Option β):Option β:=match l[n]? with|some x=>k x|none=>none
def ae{α β:Type}(l:List α)(n:Int)(k:α->Option β):Option β:=match decide (0<=n)with|true=>(match l[n.toNat]? with|some x=>k x|none=>none)|false=>none
def aV{β:Type}(s:ByteArray)(n:Int)(k:Int->Option β):Option β:=match decide (0<=n)with|true=>(match s[n.toNat]? with|some x=>k x.toNat|none=>none)|false=>none
def fits{β:Type}(n b:Nat)(k:Option β):Option β:=match decide (n*b<=140737488355328)with|true=>k|false=>none
def ask{α β:Type}(x:Option α)(k:α->Option β):Option β:=match x with|some a=>k a|none=>none
section
variable {ρ:Type}(P:Program)
def cellOf(ob:Tr au)(l:Lf)(v:SV):Option AV:=match l,v with
 |.int k,.sc (.int c n)=>if k=c then some (.sc (.int k n))else none
 |.bool,.sc (.bool b)=>some (.sc (.bool b))
 |.str,.sc (.string s)=>some (.sc (.string s))
 |.sl t,.dl t' r=>if t=t' then(bB P t).map λsz=>.aG r sz else none
 |.sl t,.sc (.slice none 0 0)=>(bB P t).map λsz=>.aG [] sz
 |.sl t,.own i=>match ob.get i with|some (.arr t' r _)=>if t=t' then(bB P t).map λsz=>.aG r sz else none|_=>none
 |_,_=>none
def rowOf(ob:Tr au):List Lf->List SV->Option (List AV)
 |[],[]=>some []
 |l::ls,v::vs=>match cellOf P ob l v,rowOf ob ls vs with|some c,some cs=>some (c::cs)|_,_=>none
 |_,_=>none
def cv(ob:Tr au):List SV->Tr au
 |[]=>ob
 |.own i::vs=>match ob.get i with|some (.arr t r _)=>cv (ob.put i (.arr t r true)) vs|_=>cv ob vs
 |_::vs=>cv ob vs
def bytesRow(s:ByteArray):List (List AV):=s.data.toList.map λb=>[.sc (.int .u8 b.toNat)]
def asData(ob:Tr au)(t:TypeId):SV->Option (List (List AV))
 |.dl t' r=>if t=t' then some r else none
 |.sc (.slice none 0 0)=>some []
 |.own i=>match ob.get i with|some (.arr t' r _)=>if t=t' then some r else none|_=>none
 |_=>none
def vy(st:af)(t:TypeId)(a:SV)(k:SV->Option ρ):Option ρ:=
 match jw P t,bB P t,a with
 |some g,some s,.ref i off=>match st.ob.get i with|some (.box _ cs)=>if off+s<=cs.length then(match g with|true=>k (.agg ((cs.drop off).take s))|false=>match cs[off]? with|some v=>k v|none=>none)else none|_=>none
 |some g,some s,.dN t' row off=>if off+s<=(lay P t').length then(match g with|true=>k (.agg (((lA row (lay P t') 0).drop off).take s))|false=>match(lay P t')[off]? with|some l=>k (j6 l row off)|none=>none)else none
 |some g,some s,.dU i j off=>match st.ob.get i with|some (.arr t' rows _)=>cL rows j λrow=>if off+s<=(lay P t').length then(match g with|true=>k (.agg (((lA row (lay P t') 0).drop off).take s))|false=>match(lay P t')[off]? with|some l=>k (j6 l row off)|none=>none)else none|_=>none
 |_,_,_=>none
def oy(c:List SV)(off:Nat)(new:List SV):List SV:=c.take off++(new++c.drop (off+new.length))
def D4(st:af)(t:TypeId)(a v:SV)(k:af->Option ρ):Option ρ:=
 match bB P t,a with
 |some s,.ref i off=>match st.ob.get i with|some (.box t' cs)=>if(cj v).length=s/\off+s<=cs.length/\cK (cj v)=true then k {st with ob:=st.ob.put i (.box t' (oy cs off (cj v)))}else none|_=>none
 |some s,.dU i j off=>match(cv st.ob (cj v)).get i with|some (.arr t' rows false)=>cL rows j λrow=>if(cj v).length=s/\off+s<=(lay P t').length then(match rowOf P st.ob (((lay P t').drop off).take s) (cj v)with|some new=>k {st with ob:=(cv st.ob (cj v)).put i (.arr t' (rows.set j (cO row off new)) false)}|none=>none)else none|_=>none
 |_,_=>none
def adA:SV->Option AV|.sc v=>some (.sc v)|.agg cs=>(cs.mapM λ(x:SV)=>match x with|SV.sc v=>some (AV.sc v)|_=>none).map AV.agg|_=>none
def mg(st:af)(x:au)(k:Nat->af->Option ρ):Option ρ:=k st.nx {st with ob:=st.ob.put st.nx x,nx:=st.nx+1}
def Cx(t:TypeId)(x:SV)(f:Nat):Option SV:=
 match P.underlying t with
 |some (.struct b)=>match b[f]? with
  |some fd=>match bB P fd.type,x with|some (_+1),.ref i off=>some (.ref i (off+fd.offset))|some (_+1),.dN t r off=>some (.dN t r (off+fd.offset))|some (_+1),.dU i j off=>some (.dU i j (off+fd.offset))|_,_=>none
  |none=>none
 |_=>none
def D5(t:TypeId)(x:SV)(f:Nat):Option SV:=
 match P.underlying t,x with
 |some (.struct b),.agg cs=>match b[f]? with
  |some fd=>match jw P fd.type,bB P fd.type with|some true,some s=>if fd.offset+s<=cs.length then some (.agg ((cs.drop fd.offset).take s))else none|some false,some _=>cs[fd.offset]?|_,_=>none
  |none=>none
 |_,_=>none
def kF(place:Nat->Option (Nat×Nat))(cells:List SV):List (Nat×SV)->Option (List SV)|[]=>some cells|(i,v)::rest=>match place i with|none=>none|some (off,size)=>if(cj v).length=size/\off+size<=cells.length/\cK (cj v)=true then kF place (oy cells off (cj v)) rest else none
def D6(t:TypeId)(parts:List (Nat×SV)):Option SV:=
 match P.info? t,P.underlying t with
 |some it,some (.struct b)=>match it.zero,b.toList.mapM (λf=>(P.info? f.type).map λi=>(f.offset,i.size))with|some z,some places=>(kF (λi=>places[i]?) (cj (ib z)) parts).map .agg|_,_=>none
 |some it,some (.array _ e)=>match it.zero,P.info? e with|some z,some c=>(kF (λi=>some (i*c.size,c.size)) (cj (ib z)) parts).map .agg|_,_=>none
 |_,_=>none
def yZ(z:List SV):Nat->List SV|0=>[]|n+1=>z++yZ z n
def rowsOf(ob:Tr au)(ls:List Lf)(s:Nat):Nat->List SV->Option (List (List AV))|0,_=>some []|n+1,cs=>match rowOf P ob ls (cs.take s),rowsOf ob ls s n (cs.drop s)with|some r,some rs=>some (r::rs)|_,_=>none
def Fa(el:TypeId)(len:Nat)(cs:List SV)(n:Int)(k:SV->Option ρ):Option ρ:=match bB P el,jw P el with|some s,some g=>(match Nat.beq s (lay P el).length,rowsOf P .leaf (lay P el) s len cs with|true,some rows=>ae rows n λr=>(match g with|true=>k (.agg (lA r (lay P el) 0))|false=>match lay P el with|[l]=>k (j6 l r 0)|_=>none)|_,_=>none)|_,_=>none
def mh(P:Program)(t:TypeId):Bool:=match bB P t,fk P t with|some s,some z=>Nat.beq s (lay P t).length&&Nat.blt 0 s&&Nat.beq (bm z).length s|_,_=>false
def isByte(P:Program)(t:TypeId):Bool:=match P.underlying t with|some (.int .u8)=>true|_=>false
def jH{β:Type}(n:Int)(k:UInt8->Option β):Option β:=match decide (0<=n/\n<256)with|true=>k (UInt8.ofNat n.toNat)|false=>none
def y5:List SV->(List UInt8->Option ρ)->Option ρ|[],k=>k []|.sc (.int .u8 n)::xs,k=>jH n λb=>y5 xs λbs=>k (b::bs)|_,_=>none
def Hb(st:af)(t:TypeId)(len:Nat)(parts:List (Nat×SV))(k:SV->af->Option ρ):Option ρ:=
 match P.underlying t with
 |some (.slice e)=>match bB P e,fk P e with
  |some s,some z=>if len*s<=16777216/\(bm z).length=s then
   (match P.info? e with
   |some c=>match c.zero with
    |some z=>match kF (λi=>some (i*s,s)) (yZ (cj (ib z)) len) parts with
     |some cells=>match isByte P e with
      |true=>(match Nat.beq s 1 with
       |true=>y5 cells λb=>match b with|[]=>none|b::bs=>mg st (.aK ⟨⟨b::bs⟩⟩ e) λi st=>k (.own i) st
       |false=>none)|false=>match mh P e with|true=>(match rowsOf P st.ob (lay P e) s len cells with|some rows=>mg {st with ob:=cv st.ob cells} (.arr e rows false) λi st=>k (.own i) st|none=>none)|false=>none
     |none=>none
    |none=>none
   |none=>none)else none|_,_=>none
 |_=>none
def Fb(ob:Tr au):SV->Option ByteArray
 |.sc (.string s)=>some s
 |.own j=>match ob.get j with|some (.aK s _)=>some s|_=>none
 |.sc (.slice none 0 0)=>some .empty|_=>none
def p9(st:af)(e:TypeId)(x y:SV)(k:SV->af->Option ρ):Option ρ:=
 match mh P e,nu P e with
 |true,some (b+1)=>match isByte P e with|true=>(match bB P e with|some 1=>(match Fb st.ob y with|none=>none|some new=>match x with|.sc (.slice none 0 0)=>fits new.size (b+1) (mg st (.aK new e) λi st=>k (.own i) st)|.own i=>(match st.ob.get i with|some (.aK s t)=>if t=e then fits (s.size+new.size) (b+1) (mg {st with ob:=st.ob.put i .gone} (.aK (s++new) e) λi st=>k (.own i) st)else none|_=>none)|_=>none)|_=>none)|false=>match asData st.ob e y with|none=>none|some new=>match x with|.sc (.slice none 0 0)=>fits new.length (b+1) (mg {st with ob:=cv st.ob [y]} (.arr e new false) λi st=>k (.own i) st)|.own i=>(match(cv st.ob [y]).get i with|some (.arr t rows bE)=>if t=e then fits (rows.length+new.length) (b+1) (mg {st with ob:=(cv st.ob [y]).put i .gone} (.arr e (rows++new) bE) λi st=>k (.own i) st)else none|_=>none)|.cl t rows=>(match new with|[]=>none|n::c=>if t=e then fits (rows.length+(n::c).length) (b+1) (mg {st with ob:=cv st.ob [y]} (.arr e (rows++(n::c)) false) λi st=>k (.own i) st)else none)|_=>none
 |_,_=>none
def nM(st:af):SV->Option Int
 |.sc (.slice none 0 0)=>some 0
 |.dl _ r=>some r.length
 |.own i=>match st.ob.get i with|some (.arr _ r _)=>some r.length|some (.aK s _)=>some s.size|_=>none
 |.sc (.string s)=>some s.size|_=>none
def D7:SV->Bool|.sc (.string _)=>true|_=>false
def AL:SV->Option Int|.sc (.int _ n)=>some n|_=>none
def Cy(st:af)(t:TypeId)(x i:SV)(k:SV->Option ρ):Option ρ:=
 match P.underlying t,i with
 |some (.slice e),.sc (.int _ n)=>match x with
  |.dl t' rows=>if t'=e then ae rows n λr=>k (.dN e r 0)else none
  |.own j=>match st.ob.get j with|some (.arr t' rows _)=>if t'=e then ae rows n λ_=>k (.dU j n.toNat 0)else none|_=>none
  |_=>none
 |some (.array len e),.sc (.int _ n)=>match bB P e,x with|some s,.ref j off=>if 0<=n/\n.toNat<len then k (.ref j (off+n.toNat*s))else none|_,_=>none
 |_,_=>none
def jd{α β:Type}(l:List α)(lo hi:Int)(k:List α->Option β):Option β:=match decide (0<=lo/\lo<=hi/\hi<=l.length)with|true=>k ((l.drop lo.toNat).take (hi.toNat-lo.toNat))|false=>none
def cn{β:Type}(s:ByteArray)(lo hi:Int)(k:ByteArray->Option β):Option β:=match decide (0<=lo/\lo<=hi/\hi<=s.size)with|true=>k (s.extract lo.toNat hi.toNat)|false=>none
def head{β:Type}(s:ByteArray)(n:Int)(k:ByteArray->Option β):Option β:=match decide (0<n/\n<=s.size/\n<=9223372036854775807)with|true=>k (s.extract 0 n.toNat)|false=>none
def y6(st:af)(t:TypeId)(x:SV)(lo hi b:Option SV)(k:SV->af->Option ρ):Option ρ:=match(match lo with|none=>some (0:Int)|some v=>AL v)with|none=>none|some l=>match(match hi with|none=>nM st x|some v=>AL v)with|none=>none|some h=>match b with|some _=>none|none=>match P.underlying t,x with|some (.slice e),.dl t' rows=>if t'=e/\(bB P e).isSome=true then jd rows l h λr=>k (.dl e r) st else none|some (.slice e),.own j=>(match st.ob.get j with|some (.arr t' rows _)=>if t'=e/\(bB P e).isSome=true then jd rows l h λr=>k (.dl e r) {st with ob:=cv st.ob [x]}else none|_=>none)|some .string,.sc (.string s)=>cn s l h λr=>k (.sc (.string r)) st|_,_=>none
def nD:Operand->Bool|.const _=>true|_=>false
def wR(c:Bool)(t:TypeId)(x y:SV):Option Bool:=
 match P.underlying t,x,y with
 |some (.slice _),.dl _ r,.sc (.slice none 0 0)=>match r with|_::_=>some false|[]=>none
 |some (.interface _),.eI _ _,.sc .nilIface=>some false
 |some (.interface _),.qZ b,.sc .nilIface=>match c with|true=>some !b|false=>none
 |some (.interface _),.sc .nilIface,.sc .nilIface=>match c with|true=>some true|false=>none
 |some (.pointer _),.ref _ _,.sc (.pointer none)=>some false
 |some (.pointer _),.opt b (.ref _ _),.sc (.pointer none)=>some !b
 |some (.pointer e),.ref i o,.ref j o'=>match bB P e,Nat.beq i j with|some (_+1),true=>some (o==o')|_,_=>none
 |_,_,_=>none
def ai{β:Type}(a b:ByteArray)(k:ByteArray->Option β):Option β:=match decide (((a.size+b.size:Nat):Int)>IntKind.i64.max)with|true=>none|false=>k (a++b)
def ao(a b:ByteArray):Bool:=a.toList==b.toList
def Bv(a b:ByteArray):Bool:=Op.bytesLess a.toList b.toList
def Fc(op:BinOp)(kd:IntKind)(a b:Int)(k:SV->Option ρ):Option ρ:=
 match op with
 |.add=>k (.sc (.int kd (kd.wrap (a+b))))
 |.sub=>k (.sc (.int kd (kd.wrap (a-b))))
 |.mul=>k (.sc (.int kd (kd.wrap (a*b))))
 |.quo=>match decide (b=0)with|true=>none|false=>k (.sc (.int kd (kd.wrap (a.tdiv b))))
 |.rem=>match decide (b=0)with|true=>none|false=>k (.sc (.int kd (a.tmod b)))
 |.eql=>k (.sc (.bool (a==b)))|.neq=>k (.sc (.bool (a !=b)))|.lss=>k (.sc (.bool (decide (a<b))))|.leq=>k (.sc (.bool (decide (a<=b))))|.gtr=>k (.sc (.bool (decide (a>b))))|.geq=>k (.sc (.bool (decide (a>=b))))|_=>none
def Fe(op:BinOp)(a b:ByteArray)(k:SV->Option ρ):Option ρ:=match op with|.add=>ai a b λs=>k (.sc (.string s))|.eql=>k (.sc (.bool (ao a b)))|.neq=>k (.sc (.bool !(ao a b)))|.lss=>k (.sc (.bool (Bv a b)))|.leq=>k (.sc (.bool (Bv a b||ao a b)))|.gtr=>k (.sc (.bool !(Bv a b||ao a b)))|.geq=>k (.sc (.bool !(Bv a b)))|_=>none
def Ff(c:Bool)(op:BinOp)(t:TypeId)(x y:SV)(k:SV->Option ρ):Option ρ:=match x,y with|.sc (.int kd a),.sc (.int e b)=>if kd=e then Fc op kd a b k else none|.sc (.string a),.sc (.string b)=>Fe op a b k|.sc (.bool a),.sc (.bool b)=>(match op,P.underlying t with|.eql,some .bool=>k (.sc (.bool (a==b)))|.neq,some .bool=>k (.sc (.bool !(a==b)))|_,_=>none)|.dl t' rows,.sc (.slice none 0 0)=>(match op,P.underlying t,lay P t' with|_,_,[.str]=>none|.eql,some (.slice _),_=>emp rows (both (k (.sc (.bool true))) (k (.sc (.bool false)))) (k (.sc (.bool false)))|.neq,some (.slice _),_=>emp rows (both (k (.sc (.bool false))) (k (.sc (.bool true)))) (k (.sc (.bool true)))|_,_,_=>none)|.opt b (.ref i o),.ref j o'=>aa b (match op,wR P c t (.ref i o) (.ref j o')with|.eql,some b=>k (.sc (.bool b))|.neq,some b=>k (.sc (.bool !b))|_,_=>none) none|x,y=>match op with|.eql=>(match wR P c t x y with|some b=>k (.sc (.bool b))|none=>none)|.neq=>(match wR P c t x y with|some b=>k (.sc (.bool !b))|none=>none)|_=>none
inductive LT where|int|bool|str|rows
abbrev LT.ty:LT->Type|.int=>Int|.bool=>Bool|.str=>ByteArray|.rows=>List (List AV)
def RT:List LT->Type|[]=>Unit|[a]=>a.ty|a::b::l=>a.ty×RT (b::l)
inductive Sh where|int(k:IntKind)|bool|str|dl(t:TypeId)|own(t:TypeId)(bE:Bool)|aK(t:TypeId)|opt(v:SV)|gC(v:SV)|aO|cV
def Sh.lt:Sh->Option LT|.int _=>some .int|.bool=>some .bool|.str=>some .str|.dl _=>some .rows|.own _ _=>some .rows|.aK _=>some .str|.opt _=>some .bool|.gC _=>none|.aO=>none|.cV=>none
def bC:List Sh->List LT|[]=>[]|s::ss=>match s.lt with|some a=>a::bC ss|none=>bC ss
def RT.cons{a:LT}:{l:List LT}->a.ty->RT l->RT (a::l)|[],x,_=>x|_::_,x,y=>(x,y)
def RT.head{a:LT}:{l:List LT}->RT (a::l)->a.ty|[],x=>x|_::_,x=>x.1
def RT.tail{a:LT}:{l:List LT}->RT (a::l)->RT l|[],_=>()|_::_,x=>x.2
def eqv:SV->SV->Bool|.ref i o,.ref j o'=>Nat.beq i j&&Nat.beq o o'|.fn f [],.fn g []=>Nat.beq f g|.sc (.pointer none),.sc (.pointer none)=>true|.sc .nilIface,.sc .nilIface=>true|.sc .nilFunc,.sc .nilFunc=>true|.aO,.aO=>true|_,_=>false
def wj(ob:Tr au)(t:TypeId):SV->Option ByteArray
 |.sc (.slice none 0 0)=>some .empty
 |.own i=>match ob.get i with|some (.aK s t')=>if t'=t then some s else none|_=>none
 |_=>none
def uP(ob:Tr au)(bE:Bool):SV->Bool
 |.sc (.slice none 0 0)=>true
 |.own i=>match ob.get i with|some (.arr _ _ l)=>bE||!l|some (.aK _ _)=>true|_=>false
 |_=>false
def bY(ob:Tr au):(aq:List Sh)->List SV->Option (RT (bC aq))
 |[],[]=>some ()
 |.int k::ss,.sc (.int c n)::vs=>if k=c then(bY ob ss vs).map λr=>RT.cons (a:=.int) n r else none
 |.bool::ss,.sc (.bool b)::vs=>(bY ob ss vs).map λr=>RT.cons (a:=.bool) b r
 |.str::ss,.sc (.string s)::vs=>(bY ob ss vs).map λr=>RT.cons (a:=.str) s r
 |.dl t::ss,v::vs=>match asData ob t v,bY ob ss vs with|some x,some r=>some (RT.cons (a:=.rows) x r)|_,_=>none
 |.own t bE::ss,v::vs=>match uP ob bE v&&mh P t&&!isByte P t,asData ob t v,bY ob ss vs with|true,some x,some r=>some (RT.cons (a:=.rows) x r)|_,_,_=>none
 |.aK t::ss,v::vs=>match isByte P t,wj ob t v,bY ob ss vs with|true,some x,some r=>some (RT.cons (a:=.str) x r)|_,_,_=>none
 |.opt w::ss,.opt b v::vs=>match eqv v w with|true=>(bY ob ss vs).map λr=>RT.cons (a:=.bool) b r|false=>none
 |.opt _::ss,.sc (.pointer none)::vs=>(bY ob ss vs).map λr=>RT.cons (a:=.bool) false r
 |.opt w::ss,.ref i o::vs=>match eqv (.ref i o) w with|true=>(bY ob ss vs).map λr=>RT.cons (a:=.bool) true r|false=>none
 |.gC w::ss,v::vs=>match eqv v w with|true=>bY ob ss vs|false=>none
 |.aO::ss,_::vs=>bY ob ss vs
 |.cV::ss,v::vs=>match n7 v with|true=>bY ob ss vs|false=>none
 |_,_=>none
def cz:(aq:List Sh)->RT (bC aq)->af->List SV×af|[],_,st=>([],st)|.int k::ss,r,st=>let p:=cz ss (RT.tail (a:=.int) r) st;(.sc (.int k (RT.head (a:=.int) r))::p.1,p.2)|.bool::ss,r,st=>let p:=cz ss (RT.tail (a:=.bool) r) st;(.sc (.bool (RT.head (a:=.bool) r))::p.1,p.2)|.str::ss,r,st=>let p:=cz ss (RT.tail (a:=.str) r) st;(.sc (.string (RT.head (a:=.str) r))::p.1,p.2)|.dl t::ss,r,st=>let p:=cz ss (RT.tail (a:=.rows) r) st;(.dl t (RT.head (a:=.rows) r)::p.1,p.2)|.own t l::ss,r,st=>let p:=cz ss (RT.tail (a:=.rows) r) {st with ob:=st.ob.put st.nx (.arr t (RT.head (a:=.rows) r) l),nx:=st.nx+1};(.own st.nx::p.1,p.2)|.aK t::ss,r,st=>let p:=cz ss (RT.tail (a:=.str) r) {st with ob:=st.ob.put st.nx (.aK (RT.head (a:=.str) r) t),nx:=st.nx+1};(.own st.nx::p.1,p.2)|.opt w::ss,r,st=>let p:=cz ss (RT.tail (a:=.bool) r) st;(.opt (RT.head (a:=.bool) r) w::p.1,p.2)|.gC w::ss,r,st=>let p:=cz ss r st;(w::p.1,p.2)|.aO::ss,r,st=>let p:=cz ss r st;(.aO::p.1,p.2)|.cV::ss,r,st=>let p:=cz ss r st;(.cV::p.1,p.2)
inductive bg(α β:Type)where|ret(a:α)|aB(t:TypeId)(row:List AV)(b:β)
def AT(p:Bool)(l m:List LT):Type:=match p with|false=>RT l|true=>bg (RT l) (RT m)
def tu{ρ α β:Type}(x:Option (bg α β))(k:α->Option ρ)(kp:TypeId->List AV->β->Option ρ):Option ρ:=ask x λa=>match a with|.ret a=>k a|.aB t row b=>kp t row b
def M7{ρ:Type}{l m:List LT}(p:Bool):Option (AT p l m)->(RT l->Option ρ)->(TypeId->List AV->RT m->Option ρ)->Option ρ:=match p with|false=>λx k _=>ask x k|true=>λx k kp=>tu x k kp
def NZ{l m:List LT}(p:Bool):Option (RT l)->Option (AT p l m):=match p with|false=>λx=>x|true=>λx=>ask x λa=>some (.ret a)
def M8{l m:List LT}(p:Bool)(t:TypeId)(row:List AV):Option (RT m)->Option (AT p l m):=match p with|false=>λ_=>none|true=>λx=>ask x λb=>some (.aB t row b)
structure eD(pn:FuncId->Bool):Type 1 where
 call:(f:FuncId)->(args:List SV)->(aA:List au)->(aq bt:List Sh)->Option (AT (pn f) (bC aq) (bC bt))
 jump:(f:FuncId)->(key:Nat)->(aq bt:List Sh)->(nb:Nat)->(mP:List SV)->(aA:List au)->Option (AT (pn f) (bC aq) (bC bt))
 qH:(f:FuncId)->(m:jM)->(args:List SV)->(aA:List au)->(aq:List Sh)->Option (Bool×RT (bC aq))
 inl:{ρ:Type}->(f:FuncId)->(args:List SV)->(st:af)->(k:SV->af->Option ρ)->(kp:TypeId->List AV->af->Option ρ)->Option ρ
 gk:(f:FuncId)->(ts:List Tmp)->(cB:List SV)->(aA:List au)->(aq:List Sh)->Option (RT (bC aq))
structure dX where
 cut:FuncId->Nat->Option (List (Tmp×Nat×TypeId))
 own:FuncId->Nat
 bx:FuncId->TypeId->Nat
 kn:FuncId->Option (List SV->Option (Bool×SV))
 pn:FuncId->Bool
 kept:TypeId->Bool
 inl:FuncId->Bool
 pts:List TypeId
 lp:FuncId->Option (List Tmp)
mutual
def Fg:SV->List Nat|.ref i _=>[i]|.own i=>[i]|.dU i _ _=>[i]|.h8 i=>[i]|.opt _ v=>Fg v|.fn _ cs=>j7 cs|.agg cs=>j7 cs|.aR cs=>j7 cs|.eI _ v=>Fg v|.yl _ _ cs=>j7 cs|_=>[]
def j7:List SV->List Nat|[]=>[]|v::vs=>Fg v++j7 vs
end
def XE:au->List Nat|.box _ cs=>j7 cs|_=>[]
def o3:List Nat->Nat->Bool|[],_=>false|y::ys,x=>Nat.beq x y||o3 ys x
def idx:List Nat->Nat->Option Nat|[],_=>none|y::ys,x=>match Nat.beq x y with|true=>some 0|false=>(idx ys x).map (.+1)
def sF(ob:Tr au):Nat->List Nat->List Nat->List Nat|0,_,acc=>acc|_,[],acc=>acc|n+1,i::is,acc=>match o3 acc i with|true=>sF ob n is acc|false=>sF ob n (is++(match ob.get i with|some x=>XE x|none=>[])) (acc++[i])
mutual
def qI(L:List Nat):SV->SV|.ref i o=>(match idx L i with|some j=>.ref j o|none=>.aO)|.own i=>(match idx L i with|some j=>.own j|none=>.aO)|.opt b v=>.opt b (qI L v)|.fn f cs=>.fn f (kG L cs)|.agg cs=>.agg (kG L cs)|.aR cs=>.aR (kG L cs)|.eI t v=>.eI t (qI L v)|.yl f ts cs=>.yl f ts (kG L cs)|.dU _ _ _=>.aO|.h8 _=>.aO|v=>v
def kG(L:List Nat):List SV->List SV|[]=>[]|v::vs=>qI L v::kG L vs
end
def cW(ob:Tr au):SV->SV
 |.own i=>match ob.get i with|some (.arr t r _)=>.dl t r|_=>.aO
 |v=>v
def o4(ob:Tr au):SV->SV|.agg cs=>.agg (cs.map (cW ob))|v=>cW ob v
section
variable (A:dX)
def u4(st:af)(e:TypeId):SV×af:=match isByte P e,mh P e with|true,_=>(.own st.nx,{st with ob:=st.ob.put st.nx (.aK .empty e),nx:=st.nx+1})|false,true=>(.own st.nx,{st with ob:=st.ob.put st.nx (.arr e [] false),nx:=st.nx+1})|false,false=>(.aO,st)
def sG(m:Nat)(i:Nat)(l:Lf)(v:SV)(st:af):SV×af:=match l,v with|.sl e,.sc (.slice none 0 0)=>(match m with|1=>(.dl e [],st)|_=>u4 P st e)|.sl _,.own j=>(match m with|1=>(cW st.ob (.own j),{st with ob:=cv st.ob [.own j]})|_=>(v,st))|.no,.sc (.pointer none)=>(match m with|2=>(.opt false (.ref i 0),st)|_=>(v,st))|.no,.ref j o=>(match m with|2=>(.opt true (.ref j o),st)|_=>(v,st))|_,v=>(v,st)
def lD(m:Nat)(i:Nat):List Lf->List SV->af->List SV×af|l::ls,v::vs,st=>((sG P m i l v st).1::(lD m i ls vs (sG P m i l v st).2).1,(lD m i ls vs (sG P m i l v st).2).2)|_,vs,st=>(vs,st)
def nq(b:TypeId->Nat):List Nat->af->af
 |[],st=>st
 |i::is,st=>match st.ob.get i with
  |some (.box t cs)=>
   let p:=lD P (b t) i (lay P t) cs st
   nq b is (match cK p.1 with|true=>{p.2 with ob:=p.2.ob.put i (.box t p.1)}|false=>p.2)|_=>nq b is st
def bZ(ob:Tr au)(L:List Nat):List Nat->List au|[]=>[]|i::is=>(match ob.get i with|some (.box t cs)=>.box t (kG L cs)|some x=>x|none=>.gone)::bZ ob L is
def nodup:List Nat->Bool|[]=>true|x::xs=>!o3 xs x&&nodup xs
def nE:SV->List Nat|.own i=>[i]|_=>[]
def Mc:List au->List Nat|[]=>[]|.box _ cs::os=>cs.flatMap nE++Mc os|_::os=>Mc os
def kH:List au->Bool|[]=>true|.box _ cs::os=>cK cs&&kH os|_::os=>kH os
def oF:List au->Bool|[]=>true|.gone::_=>false|_::os=>oF os
def l9(b:TypeId->Nat)(st:af)(cB:List SV)(pre:List Nat):Option (List SV×List au×List Nat×af):=
 let c:=nq P b (sF st.ob 200 (pre++j7 cB) []) st
 let L:=sF c.ob 200 (pre++j7 cB) []
 let aA:=bZ c.ob L L
 match nodup L&&kH aA with|true=>some (kG L cB,aA,L,c)|false=>none
def zQ:List Nat->List Nat->Bool|[],_=>true|_,[]=>false|x::xs,y::ys=>Nat.beq x y&&zQ xs ys
def yB:List Sh->Bool|[]=>true|.aO::_=>false|_::ss=>yB ss
def N0(aA:List au):SV->Sh
 |.sc (.int k _)=>.int k
 |.sc (.bool _)=>.bool
 |.sc (.string _)=>.str
 |.dl t _=>.dl t
 |.own i=>match aA[i]? with|some (.arr t _ l)=>.own t l|some (.aK _ t)=>.aK t|_=>.aO
 |.opt _ v=>.opt v|.ref i o=>.gC (.ref i o)|.fn f []=>.gC (.fn f [])|.sc v=>.gC (.sc v)|_=>.aO
def ln(aA:List au):List au->List Sh|[]=>[]|.box _ cs::os=>cs.map (N0 aA)++ln aA os|_::os=>ln aA os
def EM(A:dX)(aA:List au):List au->List Sh|[]=>[]|.box t cs::os=>(match A.kept t with|true=>cs.map (N0 aA)|false=>cs.map λ_=>.cV)++EM A aA os|_::os=>EM A aA os
def Md(A:dX)(f:FuncId)(aA:List au):List Sh:=match A.pn f with|true=>EM A aA aA|false=>[]
def oz(m:Nat):List Lf->List Sh|[]=>[]|.int k::ls=>.int k::oz m ls|.bool::ls=>.bool::oz m ls|.str::ls=>.str::oz m ls|.sl t::ls=>(match m with|0=>.dl t|m+1=>match isByte P t with|true=>.aK t|false=>.own t (Nat.beq m 0))::oz m ls|.no::ls=>.aO::oz m ls
def nF(m:Nat):List TypeId->List Sh|[]=>[]|t::ts=>oz P m (lay P t)++nF m ts
def qa:List TypeId->List SV->List SV
 |[],_=>[]
 |t::ts,vs=>
  let n:=(lay P t).length
  (match jw P t with|some true=>.agg (vs.take n)|_=>(vs.take n).headD .aO)::qa ts (vs.drop n)
def hQ(ob:Tr au):List Nat->Tr au|[]=>ob|i::is=>hQ (ob.put i .gone) is
def kI:List Nat->List au->List SV->Tr au->Tr au|i::is,.box t cs::os,vs,ob=>kI is os (vs.drop cs.length) (ob.put i (.box t (vs.take cs.length)))|_::is,_::os,vs,ob=>kI is os vs ob|_,_,_,ob=>ob
mutual
def qj(L:List Nat):SV->SV|.ref i o=>(match L[i]? with|some j=>.ref j o|none=>.aO)|.opt b v=>.opt b (qj L v)|.fn f cs=>.fn f (nr L cs)|v=>v
def nr(L:List Nat):List SV->List SV|[]=>[]|v::vs=>qj L v::nr L vs
end
def qq(aq:List Sh)(m:Nat)(ts:List TypeId)(L:List Nat)(aA:List au)(b:af)(r:RT (bC aq))(k:SV->af->Option ρ):Option ρ:=
 let p:=cz aq r {b with ob:=hQ b.ob L}
 let us:=nr L p.1
 match cK (us.drop m)with|false=>none|true=>k (match qa P ts (us.take m)with|[v]=>v|vs=>.aR vs) {p.2 with ob:=kI L aA (us.drop m) p.2.ob}
def sZ(f:FuncId)(fn:Func):List Sh:=nF P (A.own f) fn.resultTypes.toList
def zR(R:eD A.pn)(kp:TypeId->List AV->af->Option ρ)(st:af)(f:FuncId)(args:List SV)(k:SV->af->Option ρ):Option ρ:=match P.funcs[f]? with|none=>none|some fn=>match A.inl f with|true=>R.inl f args st k kp|false=>match A.kn f with|some g=>(match g (args.map (o4 st.ob))with|some (b,v)=>aa b (k v {st with ob:=cv st.ob (args.flatMap cj)}) none|none=>none)|none=>match l9 P (A.bx f) {st with ob:=cv st.ob (args.flatMap cj)} (args.map (o4 st.ob)) []with|none=>none|some (cB,aA,L,c)=>match yB (ln aA aA)&&oF aA with|false=>none|true=>M7 (A.pn f) (R.call f cB aA (sZ P A f fn++ln aA aA) (Md A f aA)) (λr=>qq P (sZ P A f fn++ln aA aA) (sZ P A f fn).length fn.resultTypes.toList L aA c r k) (λt row b=>qq P (Md A f aA) 0 [] L aA c b λ_ st=>kp t row st)
def vz(R:eD A.pn)(st:af)(f:FuncId)(m:jM)(args:List SV)(k:Bool->af->Option ρ):Option ρ:=match P.funcs[f]? with|none=>none|some fn=>match l9 P (A.bx f) {st with ob:=cv st.ob (args.flatMap cj)} (args.map (o4 st.ob)) []with|none=>none|some (cB,aA,L,b)=>match yB (ln aA aA)&&oF aA with|false=>none|true=>ask (R.qH f m cB aA (sZ P A f fn++ln aA aA)) λr=>qq P (sZ P A f fn++ln aA aA) (sZ P A f fn).length fn.resultTypes.toList L aA b r.2 λ_ st=>k r.1 st
def D8(R:eD A.pn)(st:af)(f:FuncId)(ts:List Tmp)(dV args:List SV)(k:SV->af->Option ρ):Option ρ:=match l9 P (A.bx f) {st with ob:=cv st.ob (args.flatMap cj)} (dV++args.map (o4 st.ob)) []with|none=>none|some (cB,aA,L,b)=>match yB (ln aA aA)&&oF aA&&jG cB with|false=>none|true=>ask (R.gk f ts cB aA (ln aA aA)) λr=>qq P (ln aA aA) 0 [] L aA b r λ_ st=>k (.sc (.bool true)) st
def o5(m:Nat)(e:TypeId)(v:SV)(st:af):SV×af:=match m,v with|2,.sc (.slice none 0 0)=>u4 P st e|1,.sc (.slice none 0 0)=>(.dl e [],st)|1,.own i=>(cW st.ob (.own i),{st with ob:=cv st.ob [.own i]})|_,v=>(v,st)
def oS(tm:Tr SV):List (Tmp×Nat×TypeId)->af->List SV×af|[],st=>([],st)|(t,m,e)::ts,st=>((o5 P m e (bK tm (.tmp t)) st).1::(oS tm ts (o5 P m e (bK tm (.tmp t)) st).2).1,(oS tm ts (o5 P m e (bK tm (.tmp t)) st).2).2)
def upto:Nat->List Nat|0=>[]|n+1=>upto n++[n]
def s0(R:eD A.pn)(f:FuncId)(aq bt:List Sh)(nb:Nat)(key:Nat)(st:af):Option (AT (A.pn f) (bC aq) (bC bt)):=
 match st.df,st.cm,A.cut f key with
 |[],.no,some ts=>
  let p:=oS P st.tm ts st
  match l9 P (A.bx f) p.2 p.1 (upto nb)with|none=>none|some (cB,aA,L,_)=>match zQ (upto nb) L with|true=>R.jump f key aq bt nb cB aA|false=>none
 |_,_,_=>none
def tv(st:af):Option Operand->Option SV|none=>none|some o=>some (bK st.tm o)
def x3(st:af)(b:Builtin)(c:Array TypeId)(args:List SV)(k:SV->af->Option ρ):Option ρ:=
 match b,args with
 |.append,[x,y]=>match c[0]?,c[1]? with
  |some t,some t'=>match P.underlying t,P.underlying t' with|some (.slice e),some (.slice _)=>p9 P st e x y k|some (.slice e),some .string=>p9 P st e x y k|_,_=>none
  |_,_=>none
 |.len,[x]=>match nM st x,c[0]? with|some n,some t=>(match P.underlying t,D7 x with|some (.slice _),false=>k (.sc (.int .i64 n)) st|some .string,true=>k (.sc (.int .i64 n)) st|_,_=>none)|_,_=>none
 |.unsafeSliceData,[.own i]=>match st.ob.get i with|some (.aK s _)=>aa (decide (0<s.size)) (k (.h8 i) st) (k (.sc (.pointer none)) st)|_=>none
 |.unsafeSliceData,[.sc (.slice none 0 0)]=>k (.sc (.pointer none)) st
 |.unsafeString,[.sc (.pointer none),.sc (.int _ n)]=>aa (n==0) (match c[0]? with|some _=>k (.sc (.string .empty)) st|none=>none) none
 |.unsafeString,[.h8 i,.sc (.int _ n)]=>match st.ob.get i,c[0]? with
  |some (.aK s t),some pt=>match P.underlying pt with
   |some (.pointer u)=>match bB P u with|some 1=>if t=u then head s n λr=>k (.sc (.string r)) st else none|_=>none
   |_=>none
  |_,_=>none
 |_,_=>none
def UF:SV->Bool|.aR []=>true|_=>false
def uE(tm:Tr SV):List Operand->Bool|[]=>false|x::xs=>UF (bK tm x)||uE tm xs
def Me(t:TypeId):Option SV:=match P.info? t with|some i=>i.zero.map ib|none=>none
def iD(R:eD A.pn)(kp:TypeId->List AV->af->Option ρ)(o:Oper)(st:af)(k:SV->af->Option ρ):Option ρ:=
 let e:=bK st.tm
 match o.op with
 |.alloc t=>match P.info? t with
  |some i=>match i.zero with|some z=>(match cK (cj (ib z))with|true=>mg st (.box t (cj (ib z))) λi st=>k (.ref i 0) st|false=>none)|none=>none
  |none=>none
 |.box t x=>match cK (cj (e x))with|true=>mg st (.box t (cj (e x))) λi st=>k (.ref i 0) st|false=>none
 |.build t parts=>match D6 P t (parts.toList.map λ(i,x)=>(i,e x))with|some v=>k v st|none=>none
 |.buildSlice t len parts=>Hb P st t len (parts.toList.map λ(i,x)=>(i,e x)) k
 |.load t a=>vy P st t (e a) λv=>k v st
 |.store t a x=>D4 P st t (e a) (e x) λst=>k (.aR []) st
 |.nilCheck x=>match e x with|.ref i o=>k (.ref i o) st|.dU i j o=>k (.dU i j o) st|.dN t r o=>k (.dN t r o) st|.fn f cs=>k (.fn f cs) st|.opt b (.ref i o)=>aa b (k (.ref i o) st) none|_=>none
 |.binOp op t x y _=>Ff P (nD x||nD y) op t (e x) (e y) λv=>k v st
 |.unOp op _ x=>match op,e x with|.not,.sc (.bool b)=>k (.sc (.bool !b)) st|.neg,.sc (.int kd n)=>k (.sc (.int kd (kd.wrap (0-n)))) st|_,_=>none
 |.convert s d x=>match e x with|.sc (.int _ n)=>(match P.underlying s,P.underlying d with|some (.int _),some (.int kd)=>k (.sc (.int kd (kd.wrap n))) st|_,_=>none)|.sc (.string v)=>(match P.underlying s,P.underlying d with|some .string,some .string=>k (.sc (.string v)) st|_,_=>none)|.sc (.pointer none)=>(match P.underlying s,P.underlying d with|some (.pointer _),some .unsafePointer=>k (.sc (.pointer none)) st|some .unsafePointer,some .unsafePointer=>k (.sc (.pointer none)) st|some .unsafePointer,some (.pointer _)=>k (.sc (.pointer none)) st|_,_=>none)|.ref i o=>(match st.ob.get i,P.underlying s,P.underlying d with|some (.box _ cs),some (.pointer t),some .unsafePointer=>(match bB P t with|some (_+1)=>if o+1<=cs.length then k (.ref i o) st else none|_=>none)|some (.box t cs),some .unsafePointer,some (.pointer u)=>(match bB P u with|some (_+1)=>if o+1<=cs.length then(match liesAt P P.depth t (cs.length/P.cellsOf t) o u 1 with|true=>k (.ref i o) st|false=>none)else none|_=>none)|_,_,_=>none)|.own i=>(match P.underlying s,P.underlying d,st.ob.get i with|some (.slice e),some .string,some (.aK b _)=>(match isByte P e with|true=>k (.sc (.string b)) st|false=>none)|_,_,_=>none)|_=>none
 |.makeInterface t x=>match P.underlying t with|some (.interface _)=>none|some _=>k (.eI t (e x)) st|none=>none
 |.makeFunc fn first dV=>match fn,first.toList with|.func f,[]=>k (.fn f (dV.toList.map e)) st|_,_=>none
 |.slice t x lo hi g=>y6 P st t (e x) (tv st lo) (tv st hi) (tv st g) k
 |.fieldAddr t x f=>match Cx P t (e x) f with|some v=>k v st|none=>none
 |.field t x f=>match D5 P t (e x) f with|some v=>k v st|none=>none
 |.indexAddr t x i=>Cy P st t (e x) (e i) λv=>k v st
 |.index t x i=>match P.underlying t,e x,e i with|some .string,.sc (.string s),.sc (.int _ n)=>aV s n λb=>k (.sc (.int .u8 b)) st|some (.array len el),.agg cs,.sc (.int _ n)=>Fa P el len cs n λv=>k v st|_,_,_=>none
 |.extract t i=>match e t with
  |.aR vs=>match vs[i]? with|some v=>k v st|none=>none
  |_=>none
 |.call c=>match c.callee with|.builtin b=>x3 P st b c.argTypes (c.args.toList.map e) k|.invoke _ _=>none|.value f=>match e f with|.fn f dV=>(match P.funcs[f]? with|some fn=>(match fn.body with|some _=>zR P A R kp st f (c.args.toList.map e++dV) k|none=>match p8 fn,c.args.toList.map e++dV with|1,[x]=>k x st|_,_=>none)|none=>none)|.yl f ts dV=>D8 P A R st f ts dV (c.args.toList.map e) k|_=>none
 |.typeAssert x _ a ok=>match P.underlying a,e x with|some (.interface _),_=>none|some _,.eI t v=>(match Nat.beq t a with|true=>k (match ok with|true=>.aR [v,.sc (.bool true)]|false=>v) st|false=>match ok,Me P a with|true,some z=>k (.aR [z,.sc (.bool false)]) st|_,_=>none)|_,_=>none
 |_=>none
def refine(d:Tmp)(t:Bool):List (Tmp×Tmp)->Tr SV->Tr SV|[],tm=>tm|(x,y)::l,tm=>match Nat.beq y d with|true=>refine d t l (tm.put x (.sc (.bool t)))|false=>match Nat.beq x d with|true=>refine d t l (tm.put y (.sc (.bool t)))|false=>refine d t l tm
def known(st:af)(d:Tmp)(t:Bool):af:={st with tm:=refine d t st.al (st.tm.put d (.sc (.bool t)))}
def u5(d:Tmp):List (Tmp×Tmp)->List (Tmp×Tmp)|[]=>[]|(x,y)::l=>match Nat.beq x d||Nat.beq y d with|true=>u5 d l|false=>(x,y)::u5 d l
def fu(st:af)(dst:Option Tmp)(v:SV):af:=match dst with|some d=>{st with tm:=st.tm.put d v,al:=u5 d st.al}|none=>st
def kJ(st:af)(dst:Option Tmp)(x:Operand):af:=
 let v:=bK st.tm x
 let b:=fu st dst v
 match dst,x,v with
 |some d,.tmp s,.sc (.bool _)=>match Nat.beq d s with|true=>b|false=>{b with al:=(d,s)::b.al}
 |_,_,_=>b
def mQ(R:eD A.pn)(kp:TypeId->List AV->af->Option ρ)(o:Oper)(st:af)(k:af->Option ρ):Option ρ:=
 match o.op with
 |.move x|.assign x=>k (kJ st o.dst x)
 |.pick c a b=>match c with
  |.tmp d=>match st.tm.get d with|some (.sc (.bool t))=>aa t (k (kJ (known st d true) o.dst a)) (k (kJ (known st d false) o.dst b))|_=>none
  |.const (.bool t)=>k (kJ st o.dst (match t with|true=>a|false=>b))|_=>none
 |_=>match uE st.tm o.op.operands.toList with|true=>none|false=>iD P A R kp o st λv st=>k (fu st o.dst v)
def y7(ops:Array Oper)(o:Oper)(st:af)(run:af->Option ρ)(skip:af->Option ρ):Option ρ:=
 match o.guard with
 |none=>run st
 |some (j,want)=>match(ops[j]?).bind (·.dst)with
  |some d=>match st.tm.get d with|some (.sc (.bool b))=>(match want with|true=>aa b (run (known st d true)) (skip (known st d false))|false=>aa b (skip (known st d true)) (run (known st d false)))|some (.aR [])=>skip st|_=>none
  |none=>none
def N1:Op->Bool|.panic _|.defer _=>true|.slice _ _ _ _ (some _)=>true|.call {callee:=.builtin .recover,..}=>true|_=>false
def AM(t:TypeId)(row:List AV):SV:=.eI t (match jw P t,lay P t with|some false,[l]=>j6 l row 0|_,ls=>.agg (lA row ls 0))
def VU(t:TypeId):Bool:=(lay P t).all λ|.int _|.bool|.str=>true|_=>false
def Bw(kp:TypeId->List AV->af->Option ρ)(o:Oper)(st:af)(k:af->Option ρ):Option ρ:=match uE st.tm o.op.operands.toList with|true=>none|false=>match o.op with|.panic x=>(match bK st.tm x with|.eI t v=>(match VU P t,jw P t,v with|true,some true,.agg cs=>(match rowOf P .leaf (lay P t) cs with|some row=>kp t row st|none=>none)|true,some false,v=>(match rowOf P .leaf (lay P t) [v]with|some row=>kp t row st|none=>none)|_,_,_=>none)|_=>none)|.defer c=>(match c.callee with|.value f=>(match bK st.tm f,st.cm with|.fn f dV,.no=>k (fu {st with df:=(f,c.args.toList.map (bK st.tm)++dV)::st.df} o.dst (.aR []))|_,_=>none)|_=>none)|.call {callee:=.builtin .recover,args,..}=>(match args.toList,st.cm with|[],.ret=>k (fu st o.dst (.sc .nilIface))|[],.aB t row false=>k (fu {st with cm:=.aB t row true} o.dst (AM P t row))|_,_=>none)|.slice t x none (some hi) (some b)=>(match P.underlying t,bK st.tm x,bK st.tm hi,bK st.tm b with|some (.slice e),.own j,.sc (.int _ n),.sc (.int _ m)=>(match st.ob.get j with|some (.arr t' rows bE)=>(match Nat.beq t' e with|true=>aa (decide (n=(rows.length:Int)/\m=(rows.length:Int))) (k (fu {st with ob:=(st.ob.put j .gone).put st.nx (.arr e rows bE),nx:=st.nx+1} o.dst (.own st.nx))) none|false=>none)|_=>none)|_,_,_,_=>none)|_=>none
def mG(R:eD A.pn)(kp:TypeId->List AV->af->Option ρ)(ops:Array Oper):List Oper->af->(af->Option ρ)->Option ρ|[],st,k=>k {st with al:=[]}|o::rest,st,k=>y7 ops o st (λst=>match N1 o.op with|true=>Bw P kp o st λst=>mG R kp ops rest st k|false=>mQ P A R kp o st λst=>mG R kp ops rest st k) (λst=>mG R kp ops rest (fu st o.dst (.aR [])) k)
def iX(A:dX)(st:af)(o:Oper):Bool:=match o.op with|.call c=>(match c.callee with|.value f=>(match bK st.tm f with|.fn g dV=>!A.inl g&&(match j7 ((c.args.toList.map (bK st.tm)++dV).map (o4 st.ob))with|[]=>true|_=>false)|_=>false)|_=>false)|_=>false
def o6(st:af)(o:Oper):Option Nat:=match o.op with|.load _ x=>(match bK st.tm x with|.ref j _=>some j|_=>none)|_=>none
def oT(b:List Nat)(j:Nat):List (Nat×Nat)->List Nat->List Nat|[],acc=>acc|(i,o)::l,acc=>match(b.getD j 0).testBit i||o3 acc o with|true=>oT b j l acc|false=>oT b j l (o::acc)
def s5:List Nat->af->(af->(SV->af->Option ρ)->(TypeId->List AV->af->Option ρ)->Option ρ)->(SV->af->Option ρ)->(TypeId->List AV->af->Option ρ)->Option ρ|[],st,run,k,kp=>run st k kp|j::js,st,run,k,kp=>match st.ob.get j with|some (.box t cs)=>s5 js {st with ob:=st.ob.put j .gone} run (λv ah=>k v {ah with ob:=ah.ob.put j (.box t cs)}) (λt' row ah=>kp t' row {ah with ob:=ah.ob.put j (.box t cs)})|_=>none
def waits(b:List Nat)(i:Nat):List Oper->Nat->Bool|[],_=>true|_::qs,k=>(b.getD k 0).testBit i&&waits b i qs (k+1)
def jI(R:eD A.pn)(kp:TypeId->List AV->af->Option ρ)(ops:Array Oper)(b:List Nat):List Oper->Nat->Bool->List Nat->List Nat->List (Nat×Nat)->af->(List Nat->List Nat->List (Nat×Nat)->af->Option ρ)->Option ρ|[],_,_,es,fs,rf,st,k=>k es fs rf {st with al:=[]}|o::rest,i,c,es,fs,rf,st,k=>y7 ops o st (λst=>match a6 o.op||bT o.op with|true=>mQ P A R (λ_ _ _=>none) o st λah=>(match bT o.op&&kD o.op,o6 st o with|true,some j=>jI R kp ops b rest (i+1) (c&&!a6 o.op) es fs ((i,j)::rf) ah k|true,none=>jI R kp ops b rest (i+1) (c&&!a6 o.op) es (i::fs) rf ah k|false,_=>jI R kp ops b rest (i+1) (c&&!a6 o.op) es fs rf ah k)|false=>match uE st.tm o.op.operands.toList with|true=>none|false=>s5 (match iX A st o with|true=>[]|false=>oT b i rf []) st (λst k kp=>iD P A R kp o st k) (λv ah=>jI R kp ops b rest (i+1) false (match iX A st o with|true=>es|false=>i::es) fs rf (fu ah o.dst v) k) (λt row ah=>match c&&waits b i rest (i+1)with|true=>kp t row {ah with tm:=.leaf,al:=[]}|false=>none)) (λst=>jI R kp ops b rest (i+1) (c&&(a6 o.op||bT o.op)) es fs rf (fu st o.dst (.aR [])) k)
def zU(b:List Nat)(fs es:List Nat)(rf:List (Nat×Nat)):Bool:=es.all λj=>(fs.all λi=>(b.getD i 0).testBit j||(b.getD j 0).testBit i)&&rf.all λp=>Nat.blt p.1 j||(b.getD p.1 0).testBit j||(b.getD j 0).testBit p.1
def wk(R:eD A.pn)(kp:TypeId->List AV->af->Option ρ)(ops:Array Oper)(draw:Bool)(st:af)(k:af->Option ρ):Option ρ:=match draw with|false=>mG P A R kp ops ops.toList st k|true=>jI P A R (λt row st=>match ur ops with|true=>kp t row st|false=>none) ops (hZ ops.toList []) ops.toList 0 true [] [] [] st λes fs rf st=>match ur ops&&(match es with|[]=>true|_=>zU (hZ ops.toList []) fs es rf)with|true=>k st|false=>none
end
inductive jg where|normal|exit(id:Nat)|ret|aB(t:TypeId)(row:List AV)
def eB(key:Nat):Code->Bool|.seq a b=>eB key a||eB key b|.cond _ a b=>eB key a||eB key b|.block id b=>Nat.beq (key/2) id||eB key b|.loop b=>eB key b|.scope b=>eB key b|.region id _ _=>Nat.beq key (1000000+id)|_=>false
def cJ(key:Nat):Code->Nat|.seq a b=>cJ key a+cJ key b|.cond _ a b=>cJ key a+cJ key b|.block id b=>(match Nat.beq (key/2) id with|true=>1|false=>0)+cJ key b|.loop b=>cJ key b|.scope b=>cJ key b|.region id _ _=>(match Nat.beq key (1000000+id)with|true=>1|false=>0)|_=>0
def dR(n:Nat):Code->Bool
 |.seq a b=>dR n a&&dR n b
 |.cond _ a b=>dR n a&&dR n b
 |.block _ b=>dR n b
 |.loop b=>dR n b
 |.scope b=>dR n b
 |.region _ ops _=>ops.toList.all λo=>match o.dst with|some d=>Nat.blt d n|none=>true
 |_=>true
def ea:Code->Nat|.seq a b=>ea a+ea b|.cond _ a b=>ea a+ea b|.block _ b=>ea b|.loop b=>ea b|.scope b=>ea b|.rangeFunc _ _ a b=>1+ea a+ea b|_=>0
def fE:Code->Option (List Tmp×Code×Code)|.seq a b=>(match fE a with|some r=>some r|none=>fE b)|.cond _ a b=>(match fE a with|some r=>some r|none=>fE b)|.block _ b=>fE b|.loop b=>fE b|.scope b=>fE b|.rangeFunc _ ps a b=>some (ps.toList,a,b)|_=>none
def qt:Code->List Tmp|.seq a b=>qt a++qt b|.region _ ops _=>ops.toList.filterMap (·.dst)|_=>[]
def Mf:SV->Bool|.aO|.opt _ _|.cV=>false|_=>true
def nG:List Tmp->List SV->Tr SV->Tr SV|t::ts,v::vs,tr=>(match Mf v with|true=>nG ts vs (tr.put t v)|false=>nG ts vs tr)|_,_,tr=>tr
def vA(n:Nat):List Tmp->List SV->Tr SV->Option (Tr SV)|[],[],tr=>some tr|p::ps,v::vs,tr=>(match Nat.blt p n with|true=>vA n ps vs (tr.put p v)|false=>none)|_,_,_=>none
section
variable {ρ:Type}(A:dX)(R:eD A.pn)(f:FuncId)(J:Nat->af->Option ρ)
def Fh(st:af)(fo:Operand)(k:jg->af->Option ρ):Option ρ:=match bK st.tm fo,st.cm,A.lp f with|.fn g dV,.no,some ts=>(match P.funcs[g]? with|some fn=>(match fn.body with|some _=>zR P A R (λ_ _ _=>none) st g (.yl f ts (ts.map λt=>bK st.tm (.tmp t))::dV) λ_ st=>k .normal st|none=>none)|none=>none)|_,_,_=>none
def fm(g:Option Nat):Code->af->(jg->af->Option ρ)->Option ρ
 |.skip,st,k=>k .normal st
 |.label _,st,k=>k .normal st
 |.region id ops draw,st,k=>match A.cut f (1000000+id)with|some _=>J (1000000+id) st|none=>wk P A R (λt row st=>k (.aB t row) st) ops draw st λst=>k .normal st
 |.seq a b,st,k=>fm none a st λex st=>match ex with|.normal=>fm none b st k|ex=>k ex st
 |.cond c a b,st,k=>match bK st.tm c with|.sc (.bool t)=>aa t (fm none a st k) (fm none b st k)|_=>none
 |.block id body,st,k=>fm (some id) body st λex st=>match(match ex with|.exit e=>Nat.beq e id|.normal=>true|_=>false)with|true=>(match A.cut f (2*id+1)with|some _=>J (2*id+1) st|none=>k .normal st)|false=>k ex st
 |.loop _,st,_=>match g with|some i=>J (2*i) st|none=>none
 |.exit id,st,k=>k (.exit id) st|.scope body,st,k=>fm none body st k|.ret,st,k=>k .ret st|.rangeFunc fo _ _ _,st,k=>Fh P A R f st fo k|_,_,_=>none
def hV(key:Nat)(c:Option Nat):Code->af->(jg->af->Option ρ)->Option ρ
 |.seq a b,st,k=>match eB key a with
  |true=>hV key none a st λex st=>match ex with|.normal=>fm P A R f J none b st k|ex=>k ex st
  |false=>hV key none b st k
 |.cond _ a b,st,k=>match eB key a with|true=>hV key none a st k|false=>hV key none b st k
 |.block id body,st,k=>match Nat.beq key (2*id+1)with|true=>k .normal st|false=>hV key (some id) body st λex st=>match(match ex with|.exit e=>Nat.beq e id|.normal=>true|_=>false)with|true=>(match A.cut f (2*id+1)with|some _=>J (2*id+1) st|none=>k .normal st)|false=>k ex st
 |.loop body,st,k=>match(match c with|some i=>Nat.beq key (2*i)|none=>false)with
  |true=>fm P A R f J none body st λex st=>match ex with|.normal=>J key st|ex=>k ex st
  |false=>hV key none body st λex st=>match ex with|.normal=>(match c with|some i=>J (2*i) st|none=>none)|ex=>k ex st
 |.scope body,st,k=>hV key none body st k|.region _ ops draw,st,k=>wk P A R (λt row st=>k (.aB t row) st) ops draw st λst=>k .normal st|_,_,_=>none
end
section
variable (A:dX)(R:eD A.pn)(f:FuncId)(aq bt:List Sh)(nb:Nat)
def mi(P:Program)(st:af):List ResultVar->Option (List SV)|[]=>some []|.tmp t::rs=>(mi P st rs).map λvs=>bK st.tm (.tmp t)::vs|.cell a t::rs=>match vy P st t (bK st.tm (.tmp a)) some,mi P st rs with|some v,some vs=>some (v::vs)|_,_=>none
def nh(ob:Tr au):List Nat->List SV|[]=>[]|i::is=>match ob.get i with|some (.box _ cs)=>cs++nh ob is|_=>nh ob is
def lj(P:Program):List TypeId->List SV->List SV|t::ts,v::vs=>(match jw P t with|some true=>cj v|_=>[v])++lj P ts vs|_,_=>[]
def nH(P:Program):List TypeId->List SV->Bool|[],[]=>true|t::ts,v::vs=>(match jw P t,v with|some true,.agg cs=>Nat.beq cs.length (lay P t).length|some true,_=>false|_,.agg _=>false|_,_=>Nat.beq (lay P t).length 1)&&nH P ts vs|_,_=>false
def qJ(ts:List TypeId)(vs:List SV)(st:af):Option (RT (bC aq)):=let cs:=lj P ts vs++nh st.ob (upto nb);match nodup (cs.flatMap nE)&&nH P ts vs with|true=>bY P st.ob aq cs|false=>none
def o7(fn:Func)(st:af):Option (RT (bC aq)):=match mi P st fn.results.toList with|some vs=>qJ P aq nb fn.resultTypes.toList vs st|none=>none
def Fi{ρ:Type}(t:TypeId)(k:TypeId->Option ρ):List TypeId->Option ρ|[]=>none|t0::ts=>aa (Nat.beq t t0) (k t0) (Fi t k ts)
def jY(fn:Func)(p:Bool):List (FuncId×List SV)->jM->af->Option (AT p (bC aq) (bC bt))|[],.ret,st=>NZ p (o7 P aq nb fn st)|[],.aB t row false,st=>M8 p t row (qJ P bt nb [] [] st)|(g,args)::ds,.ret,st=>vz P A R st g .ret args λ_ st=>jY fn p ds .ret st|(g,args)::ds,.aB t row false,st=>Fi t (λt0=>vz P A R st g (.aB t0 row false) args λb st=>aa b (jY fn p ds .ret st) none) A.pts|_,_,_=>none
def AN(fn:Func)(ex:jg)(st:af):Option (AT (A.pn f) (bC aq) (bC bt)):=match ex,st.cm with|.exit _,_=>none|.aB t row,.no=>jY P A R aq bt nb fn (A.pn f) st.df (.aB t row false) {st with df:=[]}|_,.no=>jY P A R aq bt nb fn (A.pn f) st.df .ret {st with df:=[]}|_,_=>none
def AP:jM->jM->Option Bool|.aB _ _ _,.aB _ _ b=>some b|.ret,.ret=>some false|_,_=>none
def wm{ρ:Type}(fn:Func)(b:af)(k:SV->af->Option ρ)(kp:TypeId->List AV->af->Option ρ)(ex:jg)(st:af):Option ρ:=match ex,st.df,st.cm with|.exit _,_,_=>none|.aB t row,[],.no=>kp t row {b with ob:=st.ob,nx:=st.nx}|_,[],.no=>(match mi P st fn.results.toList with|some [v]=>k v {b with ob:=st.ob,nx:=st.nx}|some vs=>k (.aR vs) {b with ob:=st.ob,nx:=st.nx}|none=>none)|_,_,_=>none
def AQ(fn:Func)(md:jM)(ex:jg)(st:af):Option (Bool×RT (bC aq)):=match ex,st.df,AP md st.cm with|.normal,[],some b=>ask (o7 P aq nb fn st) λr=>some (b,r)|.ret,[],some b=>ask (o7 P aq nb fn st) λr=>some (b,r)|_,_,_=>none
def Fj(ex:jg)(st:af):Option (RT (bC aq)):=match ex,st.df with|.normal,[]=>qJ P aq nb [] [] st|_,_=>none
def M9(ks:List Tmp)(st:af)(k:af->Option (RT (bC aq))):Option (RT (bC aq)):=match jG (ks.map λt=>bK st.tm (.tmp t)),st.df with|true,[]=>k {st with tm:=nG ks (ks.map λt=>bK st.tm (.tmp t)) .leaf,al:=[]}|_,_=>none
end
def bJ{α:Type}:List α->Nat->Tr α->Tr α|[],_,t=>t|x::xs,i,t=>bJ xs (i+1) (t.put i x)
def sH(ts:List (Tmp×Nat×TypeId))(vs:List SV):Tr SV:=match ts,vs with|(_,_)::ts,.aO::vs=>sH ts vs|(t,_)::ts,v::vs=>(sH ts vs).put t v|_,_=>.leaf
def eb(A:dX):Nat->eD A.pn
 |0=>⟨λ_ _ _ _ _=>none,λ_ _ _ _ _ _ _=>none,λ_ _ _ _ _=>none,λ_ _ _ _ _=>none,λ_ _ _ _ _=>none⟩
 |n+1=>⟨λf args aA aq bt=>match P.funcs[f]? with
  |some fn=>match fn.body with
   |some code=>match dR fn.ntmps code&&(A.kn f).isNone with|true=>fm P A (eb A n) f (s0 P A (eb A n) f aq bt aA.length) none code ⟨bJ args 0 .leaf,bJ aA 0 .leaf,aA.length,[],[],.no⟩ (AN P A (eb A n) f aq bt aA.length fn)|false=>none
   |none=>none
  |none=>none,
  λf key aq bt nb mP aA=>match P.funcs[f]? with
  |some fn=>match fn.body with
   |some code=>match A.cut f key with|some ts=>(match dR fn.ntmps code&&Nat.beq (cJ key code) 1 with|true=>hV P A (eb A n) f (s0 P A (eb A n) f aq bt nb) key none code ⟨sH ts mP,bJ aA 0 .leaf,aA.length,[],[],.no⟩ (AN P A (eb A n) f aq bt nb fn)|false=>none)|none=>none
   |none=>none
  |none=>none,
  λf m args aA aq=>match P.funcs[f]? with
  |some fn=>match fn.body with
   |some code=>match dR fn.ntmps code,m with|true,.no=>none|true,m=>fm P A (eb A n) f (λ_ _=>none) none code ⟨bJ args 0 .leaf,bJ aA 0 .leaf,aA.length,[],[],m⟩ (AQ P aq aA.length fn m)|false,_=>none
   |none=>none
  |none=>none,
  λf args st k kp=>match P.funcs[f]? with
  |some fn=>match fn.body with
   |some code=>match dR fn.ntmps code&&(A.kn f).isNone with|true=>fm P A (eb A n) f (λ_ _=>none) none code ⟨bJ args 0 .leaf,st.ob,st.nx,[],[],.no⟩ (wm P fn st k kp)|false=>none
   |none=>none
  |none=>none,
  λf ts cB aA aq=>match P.funcs[f]? with
  |some fn=>match fn.body with
   |some code=>match fE code with
    |some (ps,hd,bd)=>match Nat.beq (ea code) 1&&dR fn.ntmps hd&&dR fn.ntmps bd,vA fn.ntmps ps (cB.drop ts.length) (nG ts cB .leaf)with
     |true,some tm=>fm P A (eb A n) f (λ_ _=>none) none hd ⟨tm,bJ aA 0 .leaf,aA.length,[],[],.gk⟩ λex st=>match ex with|.normal=>M9 aq (ts++ps++qt hd) st λst=>fm P A (eb A n) f (λ_ _=>none) none bd st (Fj P aq aA.length)|_=>none
     |_,_=>none
    |none=>none
   |none=>none
  |none=>none⟩
end
end
end Go.AI
end

section
namespace Go.AI
open Go
abbrev Rows:=List (List AV)
abbrev bs(l:List UInt8):ByteArray:=⟨⟨l⟩⟩
def o8(rows:Rows):List (List UInt8):=rows.map λr=>(gS r 0).data.toList
def nI(rows:Rows)(s:ByteArray):ByteArray:=bs (Lib.join (o8 rows) s.data.toList)
def D9(rows:Rows)(s:ByteArray):Bool:=decide (rows.length<=140737488355328/\(Lib.join (o8 rows) s.data.toList).length<=140737488355328)
def KX:List SV->Option (Bool×SV)|[.dl 9 rows,.sc (.string s)]=>some (D9 rows s,.sc (.string (nI rows s)))|_=>none
def cQ:Nat->List UInt8->List UInt8|0,_=>[]|n+1,l=>l++cQ n l
def oG(s:ByteArray)(n:Int):ByteArray:=bs (cQ n.toNat s.data.toList)
def sk(s:ByteArray)(n:Int):Bool:=decide (0<=n/\n<=9223372036854775807/\n*s.size<=140737488355328)
def Ix:List SV->Option (Bool×SV)|[.sc (.string s),.sc (.int .i64 n)]=>some (sk s n,.sc (.string (oG s n)))|_=>none
def aY(n:Int):ByteArray:=bs (Lib.itoa n)
def ny(n:Int):Bool:=decide (-9223372036854775808<=n/\n<=9223372036854775807)
def KY:List SV->Option (Bool×SV)|[.sc (.int .i64 n)]=>some (ny n,.sc (.string (aY n)))|_=>none
def dt(n:Int):ByteArray:=if n=1 then bs [116,114,117,101]else if n=2 then bs [102,97,108,115,101]else if n=8 then bs [102,111,114,97,108,108,32]else if n=9 then bs [101,120,105,115,116,115,32]else if n=56 then bs [102,117,110,32]else if n=46 then bs [80,79,87]else if n=47 then bs [99,97,114,100]else if n=48 then bs [109,105,110]else if n=49 then bs [109,97,120]else if n=50 then bs [100,111,109]else if n=51 then bs [114,97,110]else bs []
def yC(n:Int):Bool:=decide (0<=n/\n<57)
def JM:List SV->Option (Bool×SV)|[.sc (.int .i64 n)]=>some (yC n,.sc (.string (dt n)))|_=>none
def splitB(s p:ByteArray):Rows:=(Lib.split s.data.toList p.data.toList).map λl=>[.sc (.string (bs l))]
def sn(s p:ByteArray):Bool:=decide (s.size<4294967281/\1<=p.size)
def JN:List SV->Option (Bool×SV)|[.sc (.string s),.sc (.string p)]=>some (sn s p,.dl 9 (splitB s p))|_=>none
def lI(s p:ByteArray):ByteArray:=bs (Lib.cut s.data.toList p.data.toList).1
def nN(s p:ByteArray):ByteArray:=bs (Lib.cut s.data.toList p.data.toList).2.1
def tw(s p:ByteArray):Bool:=(Lib.cut s.data.toList p.data.toList).2.2
def zV(s:ByteArray):Bool:=decide (s.size<4294967281)
def Mg:List SV->Option (Bool×SV)|[.sc (.string s),.sc (.string p)]=>some (zV s,.aR [.sc (.string (lI s p)),.sc (.string (nN s p)),.sc (.bool (tw s p))])|_=>none
def oU(s:ByteArray):ByteArray:=bs (Lib.trimLeftB s.data.toList 32)
def u6(p:ByteArray):Bool:=ao p (bs [32])
def KZ:List SV->Option (Bool×SV)|[.sc (.string s),.sc (.string p)]=>some (u6 p,.sc (.string (oU s)))|_=>none
def qK(s p:ByteArray):Bool:=Lib.hasPrefix s.data.toList p.data.toList
def K0:List SV->Option (Bool×SV)|[.sc (.string s),.sc (.string p)]=>some (true,.sc (.bool (qK s p)))|_=>none
def fp(s:ByteArray):Int:=match Lib.atoiAll s.data.toList with|.ok v=>v|.range=>Lib.atoiSat s.data.toList|_=>0
def gR(s:ByteArray):Bool:=match Lib.atoiAll s.data.toList with|.ok _=>false|_=>true
def sI(s:ByteArray):Bool:=decide (s.size<=281474976710656)
def K1:List SV->Option (Bool×SV)|[.sc (.string s)]=>some (sI s,.aR [.sc (.int .i64 (fp s)),.qZ (gR s)])|_=>none
def JO:List SV->Option (Bool×SV)|[]=>some (true,.sc (.bool true))|_=>none
def wS(rows:Rows):Bool:=match rows with|[]=>false|_::_=>true
def K2:List SV->Option (Bool×SV)|[.dl 3 rows]=>some (wS rows,.cl 3 rows)|[.sc (.slice none 0 0)]=>some (true,.sc (.slice none 0 0))|_=>none
def a7{α β:Type}(x:Option (bg α Unit))(k:α->Option (bg β Unit)):Option (bg β Unit):=tu x k λt q _=>some (.aB t q ())
def dy{α:Type}(x:Option (bg α Unit)):Option (bg α Unit):=a7 x λa=>some (.ret a)
def wU(f:FuncId):Option (List SV->Option (Bool×SV)):=match f with|4=>some JO|67=>some KX|26=>some Ix|175=>some JM|65=>some KY|46=>some JN|15=>some Mg|16=>some KZ|62=>some K0|97=>some K1|112=>some K2|_=>none
end Go.AI
end

section
namespace Go.AI
mutual
def BX:AV->Nat|.sc (.string s)=>s.size+1|.aG rows _=>cd rows+1|_=>1
def fM:List AV->Nat|[]=>0|c::r=>BX c+fM r
def cd:List (List AV)->Nat|[]=>0|r::rs=>fM r+1+cd rs
end
end Go.AI
end
