/- A part of the proof that the law returns true for every input: an executor for the model's code, and what functions of the program compute. -/
import Derived.Test.YtcafjpldfnegiaaGreatDoorB02
import Derived.Orders
open Go IntKind
namespace Go.Fw
def z2C(P:Program)(t:TypeId):Bool:=(P.info? t).isSome
def X9(op:BinOp)(k:IntKind)(x y:Int):Int:=
 let a:=BitVec.ofInt k.bits x
 let b:=BitVec.ofInt k.bits y
 k.wrap (match op with| .and=>(a&&&b).toNat| .or=>(a|||b).toNat| .xor=>(a^^^b).toNat|_=>(a&&& ~~~b).toNat:Nat)
def z2D(k:IntKind)(n:Int):MV:= .cv (.lit (.int k n))
def z8N(b:Bool):MV:= .cv (.lit (.bool b))
def zif(s:ByteArray):MV:= .cv (.lit (.string s))
def z9v(d:TypeDesc)(x y:MV):Option Bool:=
 match d,x,y with
 | .bool,.cv (.lit (.bool a)),.cv (.lit (.bool b))=>some (a==b)
 | .int _,.cv (.lit (.int k a)),.cv (.lit (.int k' b))=>if k=k' then some (a==b)else none
 | .string,.cv (.lit (.string a)),.cv (.lit (.string b))=>some (a==b)
 |_,_,_=>none
def z8T(P:Program)(T:TypeId)(cells:List MV)(off:Nat):Option MV:=
 let l:=(cells.drop off).take (P.cellsOf T)
 if l.length=P.cellsOf T then z0W P T l else none
def zsD(f:TypeId→Nat→Option Bool):List Field→Option Bool
 | []=>some true
 |fd::fs=>
  if fd.name== "_" then none else
  match f fd.type fd.offset,zsD f fs with
  |some b,some c=>some (b&&c)
  |_,_=>none
def zsH(f:Nat→Option Bool):List Nat→Option Bool
 | []=>some true
 |i::is=>
  match f i,zsH f is with
  |some b,some c=>some (b&&c)
  |_,_=>none
def eqT(P:Program):Nat→TypeId→MV→MV→Option Bool
 |0,_,_,_=>none
 |d+1,t,x,y=>
  match P.underlying t with
  |some (.struct fs)=>
   if P.stoodInHeld t then none else
   match x.agg?,y.agg? with
   |some cx,some cy=>zsD (fun T off=>match z8T P T cx off,z8T P T cy off with|some a,some b=>eqT P d T a b|_,_=>none) fs.toList
   |_,_=>none
  |some (.array n e)=>
   if !z2C P e then none else
   match x.agg?,y.agg? with
   |some cx,some cy=>zsH (fun i=>match z8T P e cx (i*P.cellsOf e),z8T P e cy (i*P.cellsOf e)with|some a,some b=>eqT P d e a b|_,_=>none) (List.range n)
   |_,_=>none
  |some dd=>z9v dd x y
  |none=>none
def ztH:BinOp→Int→Int→Option Bool
 | .eql,x,y=>some (x==y)
 | .neq,x,y=>some (x != y)
 | .lss,x,y=>some (decide (x<y))
 | .leq,x,y=>some (decide (x≤y))
 | .gtr,x,y=>some (decide (x>y))
 | .geq,x,y=>some (decide (x≥y))
 |_,_,_=>none
def zt2(op:BinOp)(k:IntKind)(a b:Int):Option (MV×List Prop):=
 match op with
 | .add=>some (z2D k (k.wrap (a+b)),[])
 | .sub=>some (z2D k (k.wrap (a-b)),[])
 | .mul=>some (z2D k (k.wrap (a*b)),[])
 | .quo=>some (z2D k (k.wrap (a.tdiv b)),[b≠0])
 | .rem=>some (z2D k (a.tmod b),[b≠0])
 | .and=>some (z2D k (X9 .and k a b),[])
 | .or=>some (z2D k (X9 .or k a b),[])
 | .xor=>some (z2D k (X9 .xor k a b),[])
 | .andNot=>some (z2D k (X9 .andNot k a b),[])
 | .shl| .shr=>none
 |op=>match ztH op a b with|some t=>some (z8N t,[])|none=>none
def ztm(op:BinOp)(x y:ByteArray):Option (MV×List Prop):=
 let eq:=x.toList==y.toList
 let lt:=Op.bytesLess x.toList y.toList
 match op with
 | .add=>some (zif (x++y),[((x.size+y.size:Nat):Int)≤i64.max])
 | .eql=>some (z8N eq,[])
 | .neq=>some (z8N !eq,[])
 | .lss=>some (z8N lt,[])
 | .leq=>some (z8N (lt||eq),[])
 | .gtr=>some (z8N !(lt||eq),[])
 | .geq=>some (z8N !lt,[])
 |_=>none
def zti(P:Program)(op:BinOp)(t:TypeId)(x y:MV):Option (MV×List Prop):=
 match x,y with
 | .cv (.lit (.int k a)),.cv (.lit (.int k' b))=>
  match op with
  | .shl=>some (z2D k (k.wrap (a*2^min b.toNat k.bits)),[0≤b])
  | .shr=>some (z2D k (a.fdiv (2^min b.toNat k.bits)),[0≤b])
  |op=>if k=k' then zt2 op k a b else none
 | .cv (.lit (.string a)),.cv (.lit (.string b))=>ztm op a b
 | .cv (.lit (.bool a)),.cv (.lit (.bool b))=>
  match P.underlying t with
  |some .bool=>match op with| .eql=>some (z8N (a==b),[])| .neq=>some (z8N !(a==b),[])|_=>none
  |_=>none
 |x,y=>
  match x.agg?,y.agg? with
  |some _,some _=>
   if P.eqGuardType P.depth t then none else
   match op,eqT P 20 t x y with
   | .eql,some b=>some (z8N b,[])
   | .neq,some b=>some (z8N !b,[])
   |_,_=>none
  |_,_=>none
def unM(op:UnOp)(x:MV):Option MV:=
 match op,x with
 | .neg,.cv (.lit (.int k n))=>some (z2D k (k.wrap (0-n)))
 | .xor,.cv (.lit (.int k n))=>some (z2D k (X9 .xor k (if k.signed then-1 else k.max) n))
 | .not,.cv (.lit (.bool b))=>some (z8N !b)
 |_,_=>none
def j6(cs:List MV)(off:Nat)(new:List MV):List MV:=cs.take off++new++cs.drop (off+new.length)
def z68(place:Nat→Option (Nat×Nat)):List MV→List (Nat×MV)→Option (List MV)
 |cells,[]=>some cells
 |cells,(i,v)::rest=>
  match place i with
  |none=>none
  |some (off,size)=>
   if v.known&&v.cells.length=size&&off+v.cells.length≤cells.length then z68 place (j6 cells off v.cells) rest else none
def zcO(P:Program)(t:TypeId)(parts:List (Nat×MV)):Option MV:=
 match z00 P t,P.underlying t with
 |some zero,some (.struct fields)=>
  if fields.toList.all fun f=>z2C P f.type then(z68 (fun i=>(fields[i]?).map fun f=>(f.offset,P.cellsOf f.type)) zero parts).map .agg else none
 |some zero,some (.array _ elem)=>if z2C P elem then(z68 (fun i=>some (i*P.cellsOf elem,P.cellsOf elem)) zero parts).map .agg else none
 |_,_=>none
def z21(zero:List MV)(n:Nat):List MV:=
 match zero with
 | [z]=>List.replicate n z
 |zero=>(List.range n).map fun i=>zero.getD (i%zero.length) .unk
def z5E(P:Program)(t:TypeId)(len:Nat)(parts:List (Nat×MV)):Option (List MV):=
 match P.underlying t with
 |some (.slice elem)=>
  let size:=P.cellsOf elem
  if z2C P elem&&len*size≤2^24 then
   if len*size=0 then z68 (fun i=>some (i*size,size)) [] parts else
   match z00 P elem with
   |some zero=>if zero.length==size then z68 (fun i=>some (i*size,size)) (z21 zero (len*size)) parts else none
   |none=>none
  else none
 |_=>none
def z86(a:MV)(n:Nat):Option MV:=
 match a with
 | .ptr i off=>some (.ptr i (off+n))
 | .pim es off=>some (.pim es (off+n))
 |_=>none
def z4q(P:Program)(s:TypeId)(x:MV)(f:Nat):Option MV:=
 match P.underlying s with
 |some (.struct fields)=>
  match fields[f]? with
  |some f=>if P.cellsOf f.type=0 then none else z86 x f.offset
  |none=>none
 |_=>none
def z4S(P:Program)(t:TypeId)(x i:MV):Option (MV×List Prop):=
 match i with
 | .cv (.lit (.int _ n))=>
  match P.underlying t with
  |some (.array len elem)=>
   if z2C P elem then
    match z86 x (n.toNat*P.cellsOf elem)with
    |some v=>some (v,[0≤n∧n<len])
    |none=>none
   else none
  |some (.slice elem)=>
   if z2C P elem then
    match x with
    | .sl b off len _=>some (.ptr b (off+n.toNat*P.cellsOf elem),[0≤n∧n<len])
    | .cv (.lst len es)=>some (.pim es (n.toNat*P.cellsOf elem),[0≤n∧n<len])
    |_=>none
   else none
  |_=>none
 |_=>none
def zeB(P:Program)(t:TypeId)(x i:MV):Option (MV×List Prop):=
 match i with
 | .cv (.lit (.int _ n))=>
  match P.underlying t with
  |some (.array len elem)=>
   match x.agg? with
   |some cells=>
    if z2C P elem then
     match z8T P elem cells (n.toNat*P.cellsOf elem)with
     |some v=>some (v,[0≤n∧n<len])
     |none=>none
    else none
   |none=>none
  |some .string=>match x with
   | .cv (.lit (.string s))=>some (z2D .u8 ((s.data.getD n.toNat 0).toNat:Nat),[0≤n∧n<s.size])
   |_=>none
  |_=>none
 |_=>none
def zes(P:Program)(t:TypeId)(x:MV)(f:Nat):Option MV:=
 match P.underlying t with
 |some (.struct fields)=>
  match fields[f]? with
  |some f=>
   match x.agg? with
   |some cells=>z8T P f.type cells f.offset
   |none=>none
  |none=>none
 |_=>none
def z7S(x:MV)(i:Nat):Option MV:=
 match x with
 | .cv (.tup vs)=>(vs[i]?).map .cv
 | .tup vs=>vs[i]?
 |_=>none
def zsJ(P:Program)(t:TypeId)(x:MV):Option MV:=
 match P.underlying t,x with
 |some .string,.cv (.lit (.string s))=>some (z2D .i64 s.size)
 |some (.array n _),_=>some (z2D .i64 n)
 |some (.slice _),.cv (.lst n _)=>some (z2D .i64 n)
 |some (.slice _),.sl _ _ n _=>some (z2D .i64 n)
 |some (.slice _),.cv (.lit (.slice _ n _))=>some (z2D .i64 n)
 |_,_=>none
def zmV(P:Program)(src dst:TypeId)(x:MV):Option MV:=
 match P.underlying src,P.underlying dst,x with
 |some (.int _),some (.int k),.cv (.lit (.int _ n))=>some (z2D k (k.wrap n))
 |some .string,some .string,.cv (.lit (.string s))=>some (zif s)
 |some (.int _),some .string,.cv (.lit (.int _ n))=>some (zif (Utf8.encode n))
 |_,_,_=>none
def z1u(x:Option MV)(d:Nat):Option Int:=
 match x with
 |none=>some d
 |some (.cv (.lit (.int _ n)))=>some n
 |_=>none
def zcN(P:Program)(t:TypeId)(x:MV)(lo hi mx:Option MV):Option (MV×List Prop):=
 match mx with
 |some _=>none
 |none=>
  match P.underlying t with
  |some .string=>match x with
   | .cv (.lit (.string s))=>
    match z1u lo 0,z1u hi s.size with
    |some l,some h=>some (zif (s.extract l.toNat h.toNat),[0≤l∧l≤h∧h≤s.size])
    |_,_=>none
   |_=>none
  |some (.slice elem)=>
   if z2C P elem then
    match x with
    | .sl b off len sz=>
     if sz=P.cellsOf elem then
      match z1u lo 0,z1u hi len with
      |some l,some h=>some (.sl b (off+l.toNat*P.cellsOf elem) (h-l).toNat sz,[0≤l∧l≤h∧h≤len∧(l=0∨l<h)])
      |_,_=>none
     else none
    | .cv (.lst len es)=>
     match z1u lo 0,z1u hi len with
     |some l,some h=>
      some (.cv (.lst (h-l).toNat ((es.drop (l.toNat*P.cellsOf elem)).take ((h-l).toNat*P.cellsOf elem))),[0≤l∧l≤h∧h≤len,es.length=len*P.cellsOf elem])
     |_,_=>none
    |_=>none
   else none
  |_=>none
def z9f(P:Program)(hp:List Blk)(n:Nat)(elem:TypeId)(x:MV)(lo hi mx:Option MV):Option Eff:=
 match lo,hi,mx with
 |none,none,none=>
  if z2C P elem then
   match x with
   | .ptr b off=>match hp[b]? with
    |some (some cells)=>some ⟨.sl b off n (P.cellsOf elem),[b],[],none,[off+n*P.cellsOf elem≤cells.length]⟩
    |_=>none
   |_=>none
  else none
 |_,_,_=>none
def zdg(P:Program)(t:TypeId)(x:MV)(lo hi mx:Option MV):Option (MV×List Prop):=
 match mx with
 |some _=>none
 |none=>
  match P.underlying t with
  |some (.slice elem)=>
   if z2C P elem then
    match x with
    | .sl _ _ len _=>
     match z1u lo 0,z1u hi len with
     |some l,some h=>some (.cv (.lst 0 []),[0≤l∧l=h∧h≤len])
     |_,_=>none
    |_=>none
   else none
  |_=>none
def z1i(hp:List Blk):List MV→List (List CV)→Option (List CV×List Nat×List Prop)
 | [],_=>some ([],[],[])
 | .sl i off len sz::ms,es::ess=>
  match hp[i]?,z1i hp ms ess with
  |some (some cells),some (cs,is,ob)=>some (.lst len es::cs,i::is,((cells.drop off).take (len*sz)=es.map .cv)::ob)
  |_,_=>none
 | .sl .. ::_,[]=>none
 |m::ms,ess=>
  match m.toCV,z1i hp ms ess with
  |some c,some (cs,is,ob)=>some (c::cs,is,ob)
  |_,_=>none
def zsC(hp:List Blk)(sz:Nat)(x:MV):Option (List MV×Nat×List Nat×List Prop):=
 match x with
 | .sl j o n sz'=>match hp[j]? with
  |some (some cells)=>if sz'=sz then some ((cells.drop o).take (n*sz),n,[j],[((cells.drop o).take (n*sz)).length=n*sz])else none
  |_=>none
 | .cv (.lst n es)=>some (es.map .cv,n,[],[es.length=n*sz,0<n])
 |_=>none
def zb7(l:List MV):Prop:= ∀m∈l,m.one=true
def z4P(P:Program)(hp:List Blk)(slot:Nat)(t:TypeId)(s x:MV):Option Eff:=
 match P.underlying t with
 |some (.slice elem)=>
  let sz:=P.cellsOf elem
  if !(z2C P elem&&(z00 P elem).isSome&&((z00 P elem).getD []).length==sz&&0<sz)then none else
  match zsC hp sz x with
  |none=>none
  |some (new,n,js,ob)=>
   match s with
   | .cv (.lit (.slice none 0 0))=>some ⟨.sl slot 0 n sz,js,[],some new,[n*P.bytesOf elem≤1099511627776,n≤1099511627776,0<n]++ob⟩
   | .sl i 0 len sz'=>
    match hp[i]? with
    |some (some cells)=>
     if sz'=sz&&!js.contains i then
      some ⟨.sl slot 0 (len+n) sz,js,[(i,none)],some (cells++new),[(len+n)*P.bytesOf elem≤1099511627776,len+n≤1099511627776,cells.length=len*sz,zb7 new]++ob⟩
     else none
    |_=>none
   |_=>none
 |_=>none
def z2I(hp:List Blk)(or:Option Or)(x:MV):Option Eff:=
 match x,or with
 | .sl i off len _,some (.r (.lit (.string s)) _)=>
  match hp[i]? with
  |some (some cells)=>some ⟨zif s,[i],[],none,[(cells.drop off).take len=s.data.toList.map (fun b=>z2D .u8 (b.toNat:Nat)),s.size=len]⟩
  |_=>none
 | .cv (.lst n es),some (.r (.lit (.string s)) _)=>some ⟨zif s,[],[],none,[es=s.data.toList.map (fun b=>CV.lit (.int .u8 (b.toNat:Nat))),s.size=n]⟩
 |_,_=>none
def z26(v:Option MV):Option Eff:=match v with|some v=>some ⟨v,[],[],none,[]⟩|none=>none
def z8H(v:Option (MV×List Prop)):Option Eff:=match v with|some (v,ob)=>some ⟨v,[],[],none,ob⟩|none=>none
def zbL(P:Program)(or:Option Or)(hp:List Blk)(T:TypeId)(a:MV):Option Eff:=
 let n:=P.cellsOf T
 match a with
 | .ptr i off=>
  match hp[i]? with
  |some (some cells)=>
   match or with
   |some (.e (.agg ms))=>match z0W P T ms with
    |some v=>some ⟨v,[i],[],none,[(cells.drop off).take n=ms,ms.length=n]⟩
    |none=>none
   |some (.e m)=>match z0W P T [m]with
    |some v=>some ⟨v,[i],[],none,[cells[off]?=some m,1=n]⟩
    |none=>none
   |_=>
    let l:=(cells.drop off).take n
    if l.length=n then match z0W P T l with|some v=>some ⟨v,[i],[],none,[]⟩|none=>none else none
  |_=>none
 | .pim es off=>
  match or with
  |some (.r (.agg cs) _)=>match z0W P T (cs.map .cv)with
   |some v=>some ⟨v,[],[],none,[(es.drop off).take n=cs,cs.length=n]⟩
   |none=>none
  |some (.r c _)=>match z0W P T [.cv c]with
   |some v=>some ⟨v,[],[],none,[es[off]?=some c,1=n]⟩
   |none=>none
  |_=>
   let l:=(es.drop off).take n
   if l.length=n then z26 (z0W P T (l.map .cv))else none
 |_=>none
def z8b(P:Program)(hp:List Blk)(T:TypeId)(a x:MV):Option Eff:=
 match a with
 | .ptr i off=>
  match hp[i]? with
  |some (some cells)=>
   let new:=x.cells
   if x.known&&new.all MV.one&&new.length=P.cellsOf T&&z2C P T then some ⟨undefM,[],[(i,some (j6 cells off new))],none,[off+P.cellsOf T≤cells.length]⟩else none
  |_=>none
 |_=>none
def z2a(P:Program)(slot:Nat)(T:TypeId)(l c:MV):Option Eff:=
 match P.underlying T,l,c with
 |some (.slice elem),.cv (.lit (.int _ a)),.cv (.lit (.int _ b))=>
  match z00 P elem with
  |some zero=>some ⟨.sl slot 0 a.toNat (P.cellsOf elem),[],[],some (z21 zero (b.toNat*P.cellsOf elem)),[0≤a∧a≤b∧(P.bytesOf elem:Int)*b≤140737488355328∧b≤4611686018427387904∧zero.length=P.cellsOf elem]⟩
  |none=>none
 |_,_,_=>none
def zcs(i:Nat):Nat→List Nat→Option Nat
 |_,[]=>none
 |k,j::js=>if j=i then some k else zcs i (k+1) js
mutual
def MV.inv(σ:List Nat):MV→Option MV
 | .cv c=>some (.cv c)
 | .ptr i off=>match zcs i 0 σ with|some k=>some (.ptr k off)|none=>none
 | .sl i off len sz=>match zcs i 0 σ with|some k=>some (.sl k off len sz)|none=>none
 | .pim es off=>some (.pim es off)
 | .agg ms=>match MV.invL σ ms with|some l=>some (.agg l)|none=>none
 | .tup ms=>match MV.invL σ ms with|some l=>some (.tup l)|none=>none
 | .fn g a b=>match MV.invL σ a,MV.invL σ b with|some x,some y=>some (.fn g x y)|_,_=>none
 | .unk=>none
def MV.invL(σ:List Nat):List MV→Option (List MV)
 | []=>some []
 |m::ms=>match MV.inv σ m,MV.invL σ ms with|some x,some l=>some (x::l)|_,_=>none
end
mutual
def MV.ren(σ:List Nat):MV→MV
 | .cv c=> .cv c
 | .ptr i off=> .ptr (σ.getD i 0) off
 | .sl i off len sz=> .sl (σ.getD i 0) off len sz
 | .pim es off=> .pim es off
 | .agg ms=> .agg (MV.renL σ ms)
 | .tup ms=> .tup (MV.renL σ ms)
 | .fn g a b=> .fn g (MV.renL σ a) (MV.renL σ b)
 | .unk=> .unk
def MV.renL(σ:List Nat):List MV→List MV
 | []=>[]
 |m::ms=>MV.ren σ m::MV.renL σ ms
end
mutual
def MV.under(m:Nat):MV→Bool
 | .ptr i _=>decide (i<m)
 | .sl i _ _ _=>decide (i<m)
 | .agg ms=>MV.underL m ms
 | .tup ms=>MV.underL m ms
 | .fn _ a b=>MV.underL m a&&MV.underL m b
 |_=>true
def MV.underL(m:Nat):List MV→Bool
 | []=>true
 |v::vs=>MV.under m v&&MV.underL m vs
end
def zrt(b:Blk):Prop:= ∀cells,b=some cells→ ∀m∈cells,∃c,m= .cv c
def BlksCv(l:List Blk):Prop:= ∀b∈l,zrt b
def z48(hp:List Blk):List Nat→Option (List Blk)
 | []=>some []
 |i::is=>match hp[i]?,z48 hp is with
  |some (some cells),some l=>some (some cells::l)
  |_,_=>none
def z0E:List Nat→Bool
 | []=>true
 |i::is=>!is.contains i&&z0E is
def z7v(P:Program)(or:Option Or)(hp:List Blk)(slot:Nat)(g:FuncId)(args:List MV):Option Eff:=
 match or with
 |some (.r v es)=>match z1i hp args es with
  |some (cs,is,ob)=>some ⟨.cv v,[],is.map fun i=>(i,none),none,PCall P g cs v::ob⟩
  |none=>none
 |some (.k v es)=>match z1i hp args es with
  |some (cs,is,ob)=>if v.flat then some ⟨.cv v,is,[],none,PCall P g cs v::ob⟩else none
  |none=>none
 |some (.m σ v hp')=>match MV.invL σ args,z48 hp σ with
  |some args0,some hp0=>
   if z0E σ&&v.under σ.length&&hp'.length==σ.length then some ⟨v.ren σ,σ,σ.zip hp',none,[z2l P g hp0 args0 v hp',BlksCv (hp0++hp')]⟩else none
  |_,_=>none
 |some (.f v cells es)=>match z1i hp args es with
  |some (cs,is,ob)=>if v.under 1 then some ⟨v.ren [slot],[],is.map fun i=>(i,none),some (own cells),FCall P g cs v cells::ob⟩else none
  |none=>none
 |some (.g v cells es)=>match z1i hp args es with
  |some (cs,is,ob)=>if v.slM then some ⟨v.ren [slot],is,[],some (own cells),zc8 P g cs v cells::ob⟩else none
  |none=>none
 |_=>none
def zem(P:Program)(or:Option Or)(hp:List Blk)(slot:Nat)(f:MV)(args:List MV):Option Eff:=
 match f with
 | .cv (.lit (.func (.func g) first captured))=>if z4h P g&&first.isEmpty&&captured.isEmpty then z7v P or hp slot g args else none
 | .fn g first cap=>if z4h P g then z7v P or hp slot g (first++args++cap)else none
 |_=>none
def Q5(P:Program)(or:Option Or)(ev:Operand→MV)(hp:List Blk)(slot:Nat)(op:Op):Option Eff:=
 match op with
 | .move x| .assign x=>z26 (some (ev x))
 | .pick c a b=>match ev c with
  | .cv (.lit (.bool t))=>z26 (some (match t with|true=>ev a|false=>ev b))
  |_=>none
 | .alloc T=>match z00 P T with|some cs=>some ⟨.ptr slot 0,[],[],some cs,[]⟩|none=>none
 | .box _ x=>if(ev x).known then some ⟨.ptr slot 0,[],[],some (ev x).cells,[]⟩else none
 | .build T ps=>z26 (zcO P T (ps.toList.map fun p=>(p.1,ev p.2)))
 | .buildSlice T n ps=>match P.underlying T with
  |some (.slice elem)=>match z5E P T n (ps.toList.map fun p=>(p.1,ev p.2))with
   |some cs=>some ⟨.sl slot 0 n (P.cellsOf elem),[],[],some cs,[]⟩
   |none=>none
  |_=>none
 | .load T a=>zbL P or hp T (ev a)
 | .store T a x=>z8b P hp T (ev a) (ev x)
 | .nilCheck x=>match ev x with
  | .ptr i off=>z26 (some (.ptr i off))
  | .pim es off=>z26 (some (.pim es off))
  | .fn g a b=>z26 (some (.fn g a b))
  |_=>none
 | .makeFunc (.func g) a b=>z26 (some (.fn g (a.toList.map ev) (b.toList.map ev)))
 | .binOp op t x y _=>z8H (zti P op t (ev x) (ev y))
 | .unOp op _ x=>z26 (unM op (ev x))
 | .convert s d x=>match P.underlying s,P.underlying d with
  |some (.slice e),some .string=>match P.underlying e with|some (.int .u8)=>z2I hp or (ev x)|_=>none
  |_,_=>z26 (zmV P s d (ev x))
 | .makeSlice T l c=>z2a P slot T (ev l) (ev c)
 | .slice T x lo hi mx=>match or with
  |some (.r (.lst 0 []) _)=>z8H (zdg P T (ev x) (lo.map ev) (hi.map ev) (mx.map ev))
  |_=>match P.underlying T with
   |some (.array n elem)=>z9f P hp n elem (ev x) (lo.map ev) (hi.map ev) (mx.map ev)
   |_=>z8H (zcN P T (ev x) (lo.map ev) (hi.map ev) (mx.map ev))
 | .fieldAddr s x f=>z26 (z4q P s (ev x) f)
 | .field t x f=>z26 (zes P t (ev x) f)
 | .indexAddr t x i=>z8H (z4S P t (ev x) (ev i))
 | .index t x i=>z8H (zeB P t (ev x) (ev i))
 | .extract x i=>z26 (z7S (ev x) i)
 | .call {callee:= .builtin .len,args,argTypes}=>
  match argTypes[0]?,args.toList with
  |some t,[x]=>z26 (zsJ P t (ev x))
  |_,_=>none
 | .call {callee:= .builtin .max,args,argTypes:=_}=>
  match args.toList with
  | [x,y]=>match ev x,ev y with
   | .cv (.lit (.int k a)),.cv (.lit (.int _ b))=>z26 (some (z2D k (if b>a then b else a)))
   |_,_=>none
  |_=>none
 | .call {callee:= .builtin .min,args,argTypes:=_}=>
  match args.toList with
  | [x,y]=>match ev x,ev y with
   | .cv (.lit (.int k a)),.cv (.lit (.int _ b))=>z26 (some (z2D k (if b<a then b else a)))
   |_,_=>none
  |_=>none
 | .call {callee:= .builtin .append,args,argTypes}=>
  match argTypes.toList,args.toList with
  | [t,u],[s,x]=>if t=u then z4P P hp slot t (ev s) (ev x)else none
  |_,_=>none
 | .call {callee:= .value f,args, .. }=>zem P or hp slot (ev f) (args.toList.map ev)
 |_=>none
def z4Q(or:Option Or)(e:Eff):Option Eff:=
 match or with
 |some (.b d)=>match e.v with
  | .cv (.lit (.bool t))=>some {e with v:=z8N d,ob:=(t=d)::e.ob}
  |_=>none
 |_=>some e
def z9w:Op→Bool
 | .alloc _| .box .. | .buildSlice .. | .makeSlice .. | .call {callee:= .builtin .append, .. }| .call {callee:= .value _, .. }=>true
 |_=>false
def X6(ops:List Oper)(i:Nat):Nat:=(ops.take i).countP fun o=>z9w o.op
def z0g(ops:List Oper)(tm:List MV)(o:Oper):Option Bool:=
 match o.guard with
 |none=>some true
 |some (j,want)=>
  match ops[j]? with
  |some oj=>match oj.dst with
   |some d=>match tm[d]? with
    |some (.cv (.lit (.bool t)))=>some (t==want)
    |some (.cv (.lit (.tuple _)))=>some false
    |_=>none
   |none=>none
  |none=>none
def z6v(tm:List MV)(dst:Option Tmp)(v:MV):List MV:=
 match dst with
 |some d=>tm.set d v
 |none=>tm
def X5(hp:List Blk):List (Nat×Blk)→List Blk
 | []=>hp
 |(i,b)::r=>X5 (hp.set i b) r
def V6(hp:List Blk)(slot:Nat)(e:Eff):List Blk:=
 match e.al with
 |some cs=>(X5 hp e.wr).set slot (some cs)
 |none=>X5 hp e.wr
def mOp(P:Program)(ops:List Oper)(base:Nat)(or:Option Or)(i:Nat)(s:St):Option (St×Option Eff):=
 match ops[i]? with
 |none=>none
 |some o=>
  match z0g ops s.tm o with
  |none=>none
  |some false=>some ({s with tm:=z6v s.tm o.dst undefM},none)
  |some true=>
   match Q5 P or (z1R s.tm) s.hp (base+X6 ops i) o.op with
   |none=>none
   |some e=>
    match z4Q or e with
    |none=>none
    |some e=>some (⟨z6v s.tm o.dst e.v,V6 s.hp (base+X6 ops i) e⟩,some e)
abbrev Ors:=List (Nat×Or)
def z72(n:Nat):Ors→Option Or×Ors
 |(k,o)::r=>if k==n then(some o,r)else(none,(k,o)::r)
 | []=>(none,[])
def zbY(ops:List Oper)(i:Nat):Bool:=ops.any fun o=>match o.guard with|some (j,_)=>j==i|none=>false
def zr4(ops:List Oper)(i:Nat):Bool:=match ops[i]? with|some o=>(match o.op with| .load .. =>true|_=>false)|none=>false
inductive MRes where
 |ok (n:Nat) (ors:Ors) (s:St) (ob:List Prop) (es:List (Nat×Option Eff))
 |bad (n i:Nat) (s:St)
def zfy(P:Program)(ops:List Oper)(base:Nat)(ask:Bool):List Nat→Nat→Ors→St→List Prop→List (Nat×Option Eff)→MRes
 | [],n,ors,s,ob,es=> .ok n ors s ob es.reverse
 |i::is,n,ors,s,ob,es=>
  match z72 n ors with
  |(or,ors')=>
   if ask&&or.isNone&&zr4 ops i then .bad n i s else
   match mOp P ops base or i s with
   |none=> .bad n i s
   |some (s',none)=>zfy P ops base ask is (n+1) ors' s' ob ((i,none)::es)
   |some (s',some e)=>
    if ask&&or.isNone&&zbY ops i then .bad n i s
    else zfy P ops base ask is (n+1) ors' s' (ob++e.ob) ((i,some e)::es)
def z5b(base:Nat)(ops:List Oper)(i:Nat)(e:Eff):List Nat:=if e.al.isSome then [base+X6 ops i]else []
def z3Q(base:Nat)(ops:List Oper)(i j:Nat)(e f:Eff):Bool:=
 let wi:=e.wr.map (·.1)++z5b base ops i e
 let wj:=f.wr.map (·.1)++z5b base ops j f
 wi.all (fun x=>!(f.rd++wj).contains x)&&wj.all (fun x=>!(e.rd++wi).contains x)
def z7B(ops:List Oper)(i j:Nat):Bool:=
 match ops[j]? with
 |some o=>o.after.toList.any fun e=>e.on==i&&Region.binds .any e
 |none=>false
def z5p(ops:List Oper)(i j:Nat):Bool:=
 match ops[i]?,ops[j]? with
 |some x,some y=>x.apart ops.toArray y
 |_,_=>false
def zbc(base:Nat)(ops:List Oper)(i:Nat)(e:Option Eff)(j:Nat)(f:Option Eff):Bool:=
 z7B ops i j||(z5p ops i j&&match e,f with|some e,some f=>z3Q base ops i j e f|_,_=>true)
def z62(base:Nat)(ops:List Oper):List (Nat×Option Eff)→Bool
 | []=>true
 |(i,e)::r=>r.all (fun p=>zbc base ops i e p.1 p.2)&&z62 base ops r
def z0J:Nat→List Oper→Bool
 |_,[]=>true
 |i,o::r=>(o.after.toList.all fun e=>!Region.binds .any e||decide (e.on<i))&&z0J (i+1) r
inductive Out where
 |ret (v:CV) (ob:List Prop)
 |retM (v:MV) (hp:List Blk) (n:Nat) (ob:List Prop)
 |stop (todo:List Item) (s:St) (ob:List Prop)
 |fail (n:Nat) (why:Nat) (op:List Oper) (s:St) (i:Nat)
def z9q(P:Program)(s:St):ResultVar→Option MV
 | .tmp t=>s.tm[t]?
 | .cell a T=>
  match s.tm[a]? with
  |some (.ptr i off)=>match s.hp[i]? with
   |some (some cells)=>
    let l:=(cells.drop off).take (P.cellsOf T)
    if l.length=P.cellsOf T then z0W P T l else none
   |_=>none
  |_=>none
def z1L(P:Program)(s:St):List ResultVar→Option (List MV)
 | []=>some []
 |r::rs=>match z9q P s r,z1L P s rs with
  |some m,some ms=>some (m::ms)
  |_,_=>none
def z7R:List MV→MV
 | [c]=>c
 |cs=> .tup cs
def zhI:List CV→CV
 | [c]=>c
 |cs=> .tup cs
def z6P(P:Program)(rs:List ResultVar)(n:Nat)(s:St)(ors:Ors)(ob:List Prop):Out:=
 match z1L P s rs with
 |none=> .fail n 1 [] s 0
 |some ms=>
  match z1i s.hp ms (match z72 n ors with|(some (.r _ es),_)=>es|_=>[])with
  |none=> .fail n 2 [] s 0
  |some (cs,_,o)=> .ret (zhI cs) (ob++o)
def z4J(n:Nat):List Blk→Bool
 | []=>true
 |some cells::r=>cells.all (MV.under n)&&z4J n r
 |none::r=>z4J n r
def zen:Nat→List Nat→Nat
 |k,i::is=>if i==k then zen (k+1) is else k
 |k,[]=>k
def CvL(l:List MV):Prop:= ∀m∈l,∃c,m= .cv c
def CellsC:List Blk→List Prop
 | []=>[]
 |some cells::r=>CvL cells::CellsC r
 |none::r=>CellsC r
def z4r(P:Program)(rs:List ResultVar)(m:Nat)(ask:Bool)(n:Nat)(s:St)(ors:Ors)(ob:List Prop):Out:=
 match z1L P s rs with
 |none=> .fail n 1 [] s 0
 |some ms=>
  match z72 n ors with
  |(some (.m σ _ _),_)=>
   match(z7R ms).inv σ with
   |some v=>if z0E σ&&σ.length==m then .retM v (σ.map fun i=>s.hp.getD i none) (zen 0 σ) (ob++CellsC (σ.map fun i=>s.hp.getD i none))else .fail n 15 [] s 0
   |none=> .fail n 15 [] s 0
  |(or,_)=>
   if(z7R ms).under m then
    match or with
    |some .a=> .retM (z7R ms) (s.hp.take m) m (ob++[m≤s.hp.length,BlksCv (s.hp.take m)])
    |or=>if ask&&or.isNone then .fail n 14 [] s 0 else if z4J m (s.hp.take m)then .retM (z7R ms) (s.hp.take m) m (ob++[m≤s.hp.length])else .fail n 13 [] s 0
   else .fail n 2 [] s 0
def z9V(P:Program)(rs:List ResultVar)(md:Option Nat)(ask:Bool)(n:Nat)(s:St)(ors:Ors)(ob:List Prop):Out:=
 match md with
 |none=>z6P P rs n s ors ob
 |some m=>z4r P rs m ask n s ors ob
def run(P:Program)(rs:List ResultVar)(md:Option Nat)(ask:Bool):Nat→Nat→List Item→St→Ors→List Prop→Out
 |0,n,_,s,_,_=> .fail n 3 [] s 0
 |fuel+1,n,todo,s,ors,ob=>
  match todo with
  | []| .code .ret::_=>z9V P rs md ask n s ors ob
  | .code .skip::k| .code (.label _)::k| .inBlock _::k| .inScope _::k=>run P rs md ask fuel n k s ors ob
  | .code (.seq a b)::k=>run P rs md ask fuel n (.code a:: .code b::k) s ors ob
  | .code (.block id c)::k=>run P rs md ask fuel n (.code c:: .inBlock id::k) s ors ob
  | .code (.scope c)::k=>run P rs md ask fuel n (.code c:: .inScope c::k) s ors ob
  | .code (.exit id)::k=>match exitTo id k with|some k=>run P rs md ask fuel n k s ors ob|none=> .fail n 4 [] s 0
  | .code (.cond c a b)::k=>
   match z1R s.tm c with
   | .cv (.lit (.bool t))=>
    match z72 n ors with
    |(some (.b d),ors)=>run P rs md ask fuel (n+1) (.code (match d with|true=>a|false=>b)::k) s ors (ob++[t=d])
    |(o,ors)=>
     if ask&&o.isNone then .fail n 5 [] ⟨[z8N t],[]⟩ 0 else
     match t with
     |true=>run P rs md ask fuel (n+1) (.code a::k) s ors ob
     |false=>run P rs md ask fuel (n+1) (.code b::k) s ors ob
   |_=> .fail n 6 [] s 0
  | .code (.loop c)::k| .inLoop c::k=>
   match z72 n ors with
   |(some .stop,_)=> .stop (.inLoop c::k) s ob
   |(or,ors)=>if ask&&or.isNone then .fail n 12 [] s 0 else run P rs md ask fuel (n+1) (.code c:: .inLoop c::k) s ors ob
  | .code (.region _ ops draw)::k=>
   match zfy P ops.toList s.hp.length ask (List.range ops.size) n ors {s with hp:=s.hp++List.replicate (X6 ops.toList ops.size) none} [] []with
   | .ok n ors s' o es=>
    if draw&&!(z62 s.hp.length ops.toList es&&z0J 0 ops.toList&&P.follows .mixedOrders)then .fail n 7 ops.toList s 0
    else run P rs md ask fuel n k s' ors (ob++o)
   | .bad n i s=> .fail n 8 ops.toList s i
  |_=> .fail n 9 [] s 0
def z52(P:Program)(f:FuncId)(args:List CV):Option (List Item×St×List ResultVar):=
 match P.funcs[f]? with
 |some fn=>match fn.body with
  |some c=>some ([.code c],⟨args.map .cv++List.replicate (fn.ntmps-args.length) undefM,[]⟩,fn.results.toList)
  |none=>none
 |none=>none
def zcz(P:Program)(f:FuncId)(args:List CV)(ors:Ors)(ask:Bool)(fuel:Nat):Out:=
 match z52 P f args with
 |some (todo,s,rs)=>run P rs none ask fuel 0 todo s ors []
 |none=> .fail 0 10 [] ⟨[],[]⟩ 0
def z3O(P:Program)(f:FuncId)(todo:List Item)(s:St)(ors:Ors)(ask:Bool)(fuel:Nat):Out:=
 match P.funcs[f]? with
 |some fn=>run P fn.results.toList none ask fuel 0 todo s ors []
 |none=> .fail 0 11 [] ⟨[],[]⟩ 0
def zkS(P:Program)(f:FuncId)(args:List CV)(ors:Ors)(ask:Bool)(fuel:Nat):Out:=
 match z52 P f args with
 |some (todo,s,rs)=>run P rs (some 1) ask fuel 0 todo s ors []
 |none=> .fail 0 10 [] ⟨[],[]⟩ 0
def zbP(P:Program)(f:FuncId)(hp:List Blk)(args:List MV)(ors:Ors)(ask:Bool)(fuel:Nat):Out:=
 match P.funcs[f]? with
 |some fn=>match fn.body with
  |some c=>run P fn.results.toList (some hp.length) ask fuel 0 [.code c] ⟨args++List.replicate (fn.ntmps-args.length) undefM,hp⟩ ors []
  |none=> .fail 0 10 [] ⟨[],[]⟩ 0
 |none=> .fail 0 10 [] ⟨[],[]⟩ 0
def z6z(P:Program)(f:FuncId)(m:Nat)(todo:List Item)(s:St)(ors:Ors)(ask:Bool)(fuel:Nat):Out:=
 match P.funcs[f]? with
 |some fn=>run P fn.results.toList (some m) ask fuel 0 todo s ors []
 |none=> .fail 0 11 [] ⟨[],[]⟩ 0
def z2P:Code→List Item→List (List Item)
 | .seq a b,k=>z2P a (.code b::k)++z2P b k
 | .cond _ a b,k=>z2P a k++z2P b k
 | .block id c,k=>z2P c (.inBlock id::k)
 | .scope c,k=>z2P c (.inScope c::k)
 | .loop c,k=>(.inLoop c::k)::z2P c (.inLoop c::k)
 |_,_=>[]
def loopHead(P:Program)(f:FuncId)(n:Nat):List Item:=
 match P.funcs[f]? with
 |some fn=>match fn.body with
  |some c=>(z2P c []).getD n []
  |none=>[]
 |none=>[]
end Go.Fw
