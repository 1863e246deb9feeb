/- A part of the proof that the law returns true for every input: an executor for the model's code, and what functions of the program compute. -/
import Derived.Test.YtcafjpldfnegiaaGreatDoorB02
import Derived.Orders
open Go IntKind
namespace Go.Fw
def z20(P:Program)(t:TypeId):Bool:=(P.info? t).isSome
def X5(op:BinOp)(k:IntKind)(x y:Int):Int:=
 let a:=BitVec.ofInt k.bits x
 let b:=BitVec.ofInt k.bits y
 k.wrap (match op with| .and=>(a&&&b).toNat| .or=>(a|||b).toNat| .xor=>(a^^^b).toNat|_=>(a&&& ~~~b).toNat:Nat)
def z22(k:IntKind)(n:Int):MV:= .cv (.lit (.int k n))
def z7J(b:Bool):MV:= .cv (.lit (.bool b))
def zfS(s:ByteArray):MV:= .cv (.lit (.string s))
def z8e(d:TypeDesc)(x y:MV):Option Bool:=
 match d,x,y with
 | .bool,.cv (.lit (.bool a)),.cv (.lit (.bool b))=>some (a==b)
 | .int _,.cv (.lit (.int k a)),.cv (.lit (.int k' b))=>if k=k' then some (a==b)else none
 | .string,.cv (.lit (.string a)),.cv (.lit (.string b))=>some (a==b)
 |_,_,_=>none
def z7g(P:Program)(T:TypeId)(cells:List MV)(off:Nat):Option MV:=
 let l:=(cells.drop off).take (P.cellsOf T)
 if l.length=P.cellsOf T then z0w P T l else none
def znk(f:TypeId→Nat→Option Bool):List Field→Option Bool
 | []=>some true
 |fd::fs=>
  if fd.name== "_" then none else
  match f fd.type fd.offset,znk f fs with
  |some b,some c=>some (b&&c)
  |_,_=>none
def zn8(f:Nat→Option Bool):List Nat→Option Bool
 | []=>some true
 |i::is=>
  match f i,zn8 f is with
  |some b,some c=>some (b&&c)
  |_,_=>none
def eqT(P:Program):Nat→TypeId→MV→MV→Option Bool
 |0,_,_,_=>none
 |d+1,t,x,y=>
  match P.underlying t with
  |some (.struct fs)=>
   if P.stoodInHeld t then none else
   match x.agg?,y.agg? with
   |some cx,some cy=>znk (fun T off=>match z7g P T cx off,z7g P T cy off with|some a,some b=>eqT P d T a b|_,_=>none) fs.toList
   |_,_=>none
  |some (.array n e)=>
   if !z20 P e then none else
   match x.agg?,y.agg? with
   |some cx,some cy=>zn8 (fun i=>match z7g P e cx (i*P.cellsOf e),z7g P e cy (i*P.cellsOf e)with|some a,some b=>eqT P d e a b|_,_=>none) (List.range n)
   |_,_=>none
  |some dd=>z8e dd x y
  |none=>none
def zo2:BinOp→Int→Int→Option Bool
 | .eql,x,y=>some (x==y)
 | .neq,x,y=>some (x != y)
 | .lss,x,y=>some (decide (x<y))
 | .leq,x,y=>some (decide (x≤y))
 | .gtr,x,y=>some (decide (x>y))
 | .geq,x,y=>some (decide (x≥y))
 |_,_,_=>none
def znz(op:BinOp)(k:IntKind)(a b:Int):Option (MV×List Prop):=
 match op with
 | .add=>some (z22 k (k.wrap (a+b)),[])
 | .sub=>some (z22 k (k.wrap (a-b)),[])
 | .mul=>some (z22 k (k.wrap (a*b)),[])
 | .quo=>some (z22 k (k.wrap (a.tdiv b)),[b≠0])
 | .rem=>some (z22 k (a.tmod b),[b≠0])
 | .and=>some (z22 k (X5 .and k a b),[])
 | .or=>some (z22 k (X5 .or k a b),[])
 | .xor=>some (z22 k (X5 .xor k a b),[])
 | .andNot=>some (z22 k (X5 .andNot k a b),[])
 | .shl| .shr=>none
 |op=>match zo2 op a b with|some t=>some (z7J t,[])|none=>none
def znP(op:BinOp)(x y:ByteArray):Option (MV×List Prop):=
 let eq:=x.toList==y.toList
 let lt:=Op.bytesLess x.toList y.toList
 match op with
 | .add=>some (zfS (x++y),[((x.size+y.size:Nat):Int)≤i64.max])
 | .eql=>some (z7J eq,[])
 | .neq=>some (z7J !eq,[])
 | .lss=>some (z7J lt,[])
 | .leq=>some (z7J (lt||eq),[])
 | .gtr=>some (z7J !(lt||eq),[])
 | .geq=>some (z7J !lt,[])
 |_=>none
def znB(P:Program)(op:BinOp)(t:TypeId)(x y:MV):Option (MV×List Prop):=
 match x,y with
 | .cv (.lit (.int k a)),.cv (.lit (.int k' b))=>
  match op with
  | .shl=>some (z22 k (k.wrap (a*2^min b.toNat k.bits)),[0≤b])
  | .shr=>some (z22 k (a.fdiv (2^min b.toNat k.bits)),[0≤b])
  |op=>if k=k' then znz op k a b else none
 | .cv (.lit (.string a)),.cv (.lit (.string b))=>znP op a b
 | .cv (.lit (.bool a)),.cv (.lit (.bool b))=>
  match P.underlying t with
  |some .bool=>match op with| .eql=>some (z7J (a==b),[])| .neq=>some (z7J !(a==b),[])|_=>none
  |_=>none
 |x,y=>
  match x.agg?,y.agg? with
  |some _,some _=>
   if P.eqGuardType P.depth t then none else
   match op,eqT P 20 t x y with
   | .eql,some b=>some (z7J b,[])
   | .neq,some b=>some (z7J !b,[])
   |_,_=>none
  |_,_=>none
def unM(op:UnOp)(x:MV):Option MV:=
 match op,x with
 | .neg,.cv (.lit (.int k n))=>some (z22 k (k.wrap (0-n)))
 | .xor,.cv (.lit (.int k n))=>some (z22 k (X5 .xor k (if k.signed then-1 else k.max) n))
 | .not,.cv (.lit (.bool b))=>some (z7J !b)
 |_,_=>none
def j4(cs:List MV)(off:Nat)(new:List MV):List MV:=cs.take off++new++cs.drop (off+new.length)
def z4V(place:Nat→Option (Nat×Nat)):List MV→List (Nat×MV)→Option (List MV)
 |cells,[]=>some cells
 |cells,(i,v)::rest=>
  match place i with
  |none=>none
  |some (off,size)=>
   if v.known&&v.cells.length=size&&off+v.cells.length≤cells.length then z4V place (j4 cells off v.cells) rest else none
def zbk(P:Program)(t:TypeId)(parts:List (Nat×MV)):Option MV:=
 match U0 P t,P.underlying t with
 |some zero,some (.struct fields)=>
  if fields.toList.all fun f=>z20 P f.type then(z4V (fun i=>(fields[i]?).map fun f=>(f.offset,P.cellsOf f.type)) zero parts).map .agg else none
 |some zero,some (.array _ elem)=>if z20 P elem then(z4V (fun i=>some (i*P.cellsOf elem,P.cellsOf elem)) zero parts).map .agg else none
 |_,_=>none
def z1v(zero:List MV)(n:Nat):List MV:=
 match zero with
 | [z]=>List.replicate n z
 |zero=>(List.range n).map fun i=>zero.getD (i%zero.length) .unk
def z5B(P:Program)(t:TypeId)(len:Nat)(parts:List (Nat×MV)):Option (List MV):=
 match P.underlying t with
 |some (.slice elem)=>
  let size:=P.cellsOf elem
  if z20 P elem&&len*size≤2^24 then
   if len*size=0 then z4V (fun i=>some (i*size,size)) [] parts else
   match U0 P elem with
   |some zero=>if zero.length==size then z4V (fun i=>some (i*size,size)) (z1v zero (len*size)) parts else none
   |none=>none
  else none
 |_=>none
def z6d(a:MV)(n:Nat):Option MV:=
 match a with
 | .ptr i off=>some (.ptr i (off+n))
 | .pim es off=>some (.pim es (off+n))
 |_=>none
def z3F(P:Program)(s:TypeId)(x:MV)(f:Nat):Option MV:=
 match P.underlying s with
 |some (.struct fields)=>
  match fields[f]? with
  |some f=>if P.cellsOf f.type=0 then none else z6d x f.offset
  |none=>none
 |_=>none
def z3A(P:Program)(t:TypeId)(x i:MV):Option (MV×List Prop):=
 match i with
 | .cv (.lit (.int _ n))=>
  match P.underlying t with
  |some (.array len elem)=>
   if z20 P elem then
    match z6d x (n.toNat*P.cellsOf elem)with
    |some v=>some (v,[0≤n∧n<len])
    |none=>none
   else none
  |some (.slice elem)=>
   if z20 P elem then
    match x with
    | .sl b off len _=>some (.ptr b (off+n.toNat*P.cellsOf elem),[0≤n∧n<len])
    | .cv (.lst len es)=>some (.pim es (n.toNat*P.cellsOf elem),[0≤n∧n<len])
    |_=>none
   else none
  |_=>none
 |_=>none
def zbX(P:Program)(t:TypeId)(x i:MV):Option (MV×List Prop):=
 match i with
 | .cv (.lit (.int _ n))=>
  match P.underlying t with
  |some (.array len elem)=>
   match x.agg? with
   |some cells=>
    if z20 P elem then
     match z7g P elem cells (n.toNat*P.cellsOf elem)with
     |some v=>some (v,[0≤n∧n<len])
     |none=>none
    else none
   |none=>none
  |some .string=>match x with
   | .cv (.lit (.string s))=>some (z22 .u8 ((s.data.getD n.toNat 0).toNat:Nat),[0≤n∧n<s.size])
   |_=>none
  |_=>none
 |_=>none
def zcx(P:Program)(t:TypeId)(x:MV)(f:Nat):Option MV:=
 match P.underlying t with
 |some (.struct fields)=>
  match fields[f]? with
  |some f=>
   match x.agg? with
   |some cells=>z7g P f.type cells f.offset
   |none=>none
  |none=>none
 |_=>none
def z6S(x:MV)(i:Nat):Option MV:=
 match x with
 | .cv (.tup vs)=>(vs[i]?).map .cv
 | .tup vs=>vs[i]?
 |_=>none
def znN(P:Program)(t:TypeId)(x:MV):Option MV:=
 match P.underlying t,x with
 |some .string,.cv (.lit (.string s))=>some (z22 .i64 s.size)
 |some (.array n _),_=>some (z22 .i64 n)
 |some (.slice _),.cv (.lst n _)=>some (z22 .i64 n)
 |some (.slice _),.sl _ _ n _=>some (z22 .i64 n)
 |some (.slice _),.cv (.lit (.slice _ n _))=>some (z22 .i64 n)
 |_,_=>none
def zgy(P:Program)(src dst:TypeId)(x:MV):Option MV:=
 match P.underlying src,P.underlying dst,x with
 |some (.int _),some (.int k),.cv (.lit (.int _ n))=>some (z22 k (k.wrap n))
 |some .string,some .string,.cv (.lit (.string s))=>some (zfS s)
 |some (.int _),some .string,.cv (.lit (.int _ n))=>some (zfS (Utf8.encode n))
 |_,_,_=>none
def z0Y(x:Option MV)(d:Nat):Option Int:=
 match x with
 |none=>some d
 |some (.cv (.lit (.int _ n)))=>some n
 |_=>none
def zbJ(P:Program)(t:TypeId)(x:MV)(lo hi mx:Option MV):Option (MV×List Prop):=
 match mx with
 |some _=>none
 |none=>
  match P.underlying t with
  |some .string=>match x with
   | .cv (.lit (.string s))=>
    match z0Y lo 0,z0Y hi s.size with
    |some l,some h=>some (zfS (s.extract l.toNat h.toNat),[0≤l∧l≤h∧h≤s.size])
    |_,_=>none
   |_=>none
  |some (.slice elem)=>
   if z20 P elem then
    match x with
    | .sl b off len sz=>
     if sz=P.cellsOf elem then
      match z0Y lo 0,z0Y hi len with
      |some l,some h=>some (.sl b (off+l.toNat*P.cellsOf elem) (h-l).toNat sz,[0≤l∧l≤h∧h≤len∧(l=0∨l<h)])
      |_,_=>none
     else none
    | .cv (.lst len es)=>
     match z0Y lo 0,z0Y hi len with
     |some l,some h=>
      some (.cv (.lst (h-l).toNat ((es.drop (l.toNat*P.cellsOf elem)).take ((h-l).toNat*P.cellsOf elem))),[0≤l∧l≤h∧h≤len,es.length=len*P.cellsOf elem])
     |_,_=>none
    |_=>none
   else none
  |_=>none
def z7R(P:Program)(hp:List Blk)(n:Nat)(elem:TypeId)(x:MV)(lo hi mx:Option MV):Option Eff:=
 match lo,hi,mx with
 |none,none,none=>
  if z20 P elem then
   match x with
   | .ptr b off=>match hp[b]? with
    |some (some cells)=>some ⟨.sl b off n (P.cellsOf elem),[b],[],none,[off+n*P.cellsOf elem≤cells.length]⟩
    |_=>none
   |_=>none
  else none
 |_,_,_=>none
def zb3(P:Program)(t:TypeId)(x:MV)(lo hi mx:Option MV):Option (MV×List Prop):=
 match mx with
 |some _=>none
 |none=>
  match P.underlying t with
  |some (.slice elem)=>
   if z20 P elem then
    match x with
    | .sl _ _ len _=>
     match z0Y lo 0,z0Y hi len with
     |some l,some h=>some (.cv (.lst 0 []),[0≤l∧l=h∧h≤len])
     |_,_=>none
    |_=>none
   else none
  |_=>none
def z0L(hp:List Blk):List MV→List (List CV)→Option (List CV×List Nat×List Prop)
 | [],_=>some ([],[],[])
 | .sl i off len sz::ms,es::ess=>
  match hp[i]?,z0L hp ms ess with
  |some (some cells),some (cs,is,ob)=>some (.lst len es::cs,i::is,((cells.drop off).take (len*sz)=es.map .cv)::ob)
  |_,_=>none
 | .sl .. ::_,[]=>none
 |m::ms,ess=>
  match m.toCV,z0L hp ms ess with
  |some c,some (cs,is,ob)=>some (c::cs,is,ob)
  |_,_=>none
def znc(hp:List Blk)(sz:Nat)(x:MV):Option (List MV×Nat×List Nat×List Prop):=
 match x with
 | .sl j o n sz'=>match hp[j]? with
  |some (some cells)=>if sz'=sz then some ((cells.drop o).take (n*sz),n,[j],[((cells.drop o).take (n*sz)).length=n*sz])else none
  |_=>none
 | .cv (.lst n es)=>some (es.map .cv,n,[],[es.length=n*sz,0<n])
 |_=>none
def z98(l:List MV):Prop:= ∀m∈l,m.one=true
def z3Q(P:Program)(hp:List Blk)(slot:Nat)(t:TypeId)(s x:MV):Option Eff:=
 match P.underlying t with
 |some (.slice elem)=>
  let sz:=P.cellsOf elem
  if !(z20 P elem&&(U0 P elem).isSome&&((U0 P elem).getD []).length==sz&&0<sz)then none else
  match znc hp sz x with
  |none=>none
  |some (new,n,js,ob)=>
   match s with
   | .cv (.lit (.slice none 0 0))=>some ⟨.sl slot 0 n sz,js,[],some new,[n*P.bytesOf elem≤1099511627776,n≤1099511627776,0<n]++ob⟩
   | .sl i 0 len sz'=>
    match hp[i]? with
    |some (some cells)=>
     if sz'=sz&&!js.contains i then
      some ⟨.sl slot 0 (len+n) sz,js,[(i,none)],some (cells++new),[(len+n)*P.bytesOf elem≤1099511627776,len+n≤1099511627776,cells.length=len*sz,z98 new]++ob⟩
     else none
    |_=>none
   |_=>none
 |_=>none
def z2b(hp:List Blk)(or:Option Or)(x:MV):Option Eff:=
 match x,or with
 | .sl i off len _,some (.r (.lit (.string s)) _)=>
  match hp[i]? with
  |some (some cells)=>some ⟨zfS s,[i],[],none,[(cells.drop off).take len=s.data.toList.map (fun b=>z22 .u8 (b.toNat:Nat)),s.size=len]⟩
  |_=>none
 | .cv (.lst n es),some (.r (.lit (.string s)) _)=>some ⟨zfS s,[],[],none,[es=s.data.toList.map (fun b=>CV.lit (.int .u8 (b.toNat:Nat))),s.size=n]⟩
 |_,_=>none
def z1x(v:Option MV):Option Eff:=match v with|some v=>some ⟨v,[],[],none,[]⟩|none=>none
def z72(v:Option (MV×List Prop)):Option Eff:=match v with|some (v,ob)=>some ⟨v,[],[],none,ob⟩|none=>none
def z9L(P:Program)(or:Option Or)(hp:List Blk)(T:TypeId)(a:MV):Option Eff:=
 let n:=P.cellsOf T
 match a with
 | .ptr i off=>
  match hp[i]? with
  |some (some cells)=>
   match or with
   |some (.e (.agg ms))=>match z0w P T ms with
    |some v=>some ⟨v,[i],[],none,[(cells.drop off).take n=ms,ms.length=n]⟩
    |none=>none
   |some (.e m)=>match z0w P T [m]with
    |some v=>some ⟨v,[i],[],none,[cells[off]?=some m,1=n]⟩
    |none=>none
   |_=>
    let l:=(cells.drop off).take n
    if l.length=n then match z0w P T l with|some v=>some ⟨v,[i],[],none,[]⟩|none=>none else none
  |_=>none
 | .pim es off=>
  match or with
  |some (.r (.agg cs) _)=>match z0w P T (cs.map .cv)with
   |some v=>some ⟨v,[],[],none,[(es.drop off).take n=cs,cs.length=n]⟩
   |none=>none
  |some (.r c _)=>match z0w P T [.cv c]with
   |some v=>some ⟨v,[],[],none,[es[off]?=some c,1=n]⟩
   |none=>none
  |_=>
   let l:=(es.drop off).take n
   if l.length=n then z1x (z0w P T (l.map .cv))else none
 |_=>none
def z7v(P:Program)(hp:List Blk)(T:TypeId)(a x:MV):Option Eff:=
 match a with
 | .ptr i off=>
  match hp[i]? with
  |some (some cells)=>
   let new:=x.cells
   if x.known&&new.all MV.one&&new.length=P.cellsOf T&&z20 P T then some ⟨undefM,[],[(i,some (j4 cells off new))],none,[off+P.cellsOf T≤cells.length]⟩else none
  |_=>none
 |_=>none
def z1s(P:Program)(slot:Nat)(T:TypeId)(l c:MV):Option Eff:=
 match P.underlying T,l,c with
 |some (.slice elem),.cv (.lit (.int _ a)),.cv (.lit (.int _ b))=>
  match U0 P elem with
  |some zero=>some ⟨.sl slot 0 a.toNat (P.cellsOf elem),[],[],some (z1v zero (b.toNat*P.cellsOf elem)),[0≤a∧a≤b∧(P.bytesOf elem:Int)*b≤140737488355328∧b≤4611686018427387904∧zero.length=P.cellsOf elem]⟩
  |none=>none
 |_,_,_=>none
def zaD(i:Nat):Nat→List Nat→Option Nat
 |_,[]=>none
 |k,j::js=>if j=i then some k else zaD i (k+1) js
mutual
def MV.inv(σ:List Nat):MV→Option MV
 | .cv c=>some (.cv c)
 | .ptr i off=>match zaD i 0 σ with|some k=>some (.ptr k off)|none=>none
 | .sl i off len sz=>match zaD i 0 σ with|some k=>some (.sl k off len sz)|none=>none
 | .pim es off=>some (.pim es off)
 | .agg ms=>match MV.invL σ ms with|some l=>some (.agg l)|none=>none
 | .tup ms=>match MV.invL σ ms with|some l=>some (.tup l)|none=>none
 | .fn g a b=>match MV.invL σ a,MV.invL σ b with|some x,some y=>some (.fn g x y)|_,_=>none
 | .unk=>none
def MV.invL(σ:List Nat):List MV→Option (List MV)
 | []=>some []
 |m::ms=>match MV.inv σ m,MV.invL σ ms with|some x,some l=>some (x::l)|_,_=>none
end
mutual
def MV.ren(σ:List Nat):MV→MV
 | .cv c=> .cv c
 | .ptr i off=> .ptr (σ.getD i 0) off
 | .sl i off len sz=> .sl (σ.getD i 0) off len sz
 | .pim es off=> .pim es off
 | .agg ms=> .agg (MV.renL σ ms)
 | .tup ms=> .tup (MV.renL σ ms)
 | .fn g a b=> .fn g (MV.renL σ a) (MV.renL σ b)
 | .unk=> .unk
def MV.renL(σ:List Nat):List MV→List MV
 | []=>[]
 |m::ms=>MV.ren σ m::MV.renL σ ms
end
mutual
def MV.under(m:Nat):MV→Bool
 | .ptr i _=>decide (i<m)
 | .sl i _ _ _=>decide (i<m)
 | .agg ms=>MV.underL m ms
 | .tup ms=>MV.underL m ms
 | .fn _ a b=>MV.underL m a&&MV.underL m b
 |_=>true
def MV.underL(m:Nat):List MV→Bool
 | []=>true
 |v::vs=>MV.under m v&&MV.underL m vs
end
def zjR(b:Blk):Prop:= ∀cells,b=some cells→ ∀m∈cells,∃c,m= .cv c
def BlksCv(l:List Blk):Prop:= ∀b∈l,zjR b
def z3q(hp:List Blk):List Nat→Option (List Blk)
 | []=>some []
 |i::is=>match hp[i]?,z3q hp is with
  |some (some cells),some l=>some (some cells::l)
  |_,_=>none
def z05:List Nat→Bool
 | []=>true
 |i::is=>!is.contains i&&z05 is
def z6b(P:Program)(or:Option Or)(hp:List Blk)(slot:Nat)(g:FuncId)(args:List MV):Option Eff:=
 match or with
 |some (.r v es)=>match z0L hp args es with
  |some (cs,is,ob)=>some ⟨.cv v,[],is.map fun i=>(i,none),none,PCall P g cs v::ob⟩
  |none=>none
 |some (.k v es)=>match z0L hp args es with
  |some (cs,is,ob)=>if v.flat then some ⟨.cv v,is,[],none,PCall P g cs v::ob⟩else none
  |none=>none
 |some (.m σ v hp')=>match MV.invL σ args,z3q hp σ with
  |some args0,some hp0=>
   if z05 σ&&v.under σ.length&&hp'.length==σ.length then some ⟨v.ren σ,σ,σ.zip hp',none,[z1K P g hp0 args0 v hp',BlksCv (hp0++hp')]⟩else none
  |_,_=>none
 |some (.f v cells es)=>match z0L hp args es with
  |some (cs,is,ob)=>if v.under 1 then some ⟨v.ren [slot],[],is.map fun i=>(i,none),some (own cells),FCall P g cs v cells::ob⟩else none
  |none=>none
 |some (.g v cells es)=>match z0L hp args es with
  |some (cs,is,ob)=>if v.slM then some ⟨v.ren [slot],is,[],some (own cells),zf4 P g cs v cells::ob⟩else none
  |none=>none
 |_=>none
def zbn(P:Program)(or:Option Or)(hp:List Blk)(slot:Nat)(f:MV)(args:List MV):Option Eff:=
 match f with
 | .cv (.lit (.func (.func g) first captured))=>if z2V P g&&first.isEmpty&&captured.isEmpty then z6b P or hp slot g args else none
 | .fn g first cap=>if z2V P g then z6b P or hp slot g (first++args++cap)else none
 |_=>none
def Q0(P:Program)(or:Option Or)(ev:Operand→MV)(hp:List Blk)(slot:Nat)(op:Op):Option Eff:=
 match op with
 | .move x| .assign x=>z1x (some (ev x))
 | .pick c a b=>match ev c with
  | .cv (.lit (.bool t))=>z1x (some (match t with|true=>ev a|false=>ev b))
  |_=>none
 | .alloc T=>match U0 P T with|some cs=>some ⟨.ptr slot 0,[],[],some cs,[]⟩|none=>none
 | .box _ x=>if(ev x).known then some ⟨.ptr slot 0,[],[],some (ev x).cells,[]⟩else none
 | .build T ps=>z1x (zbk P T (ps.toList.map fun p=>(p.1,ev p.2)))
 | .buildSlice T n ps=>match P.underlying T with
  |some (.slice elem)=>match z5B P T n (ps.toList.map fun p=>(p.1,ev p.2))with
   |some cs=>some ⟨.sl slot 0 n (P.cellsOf elem),[],[],some cs,[]⟩
   |none=>none
  |_=>none
 | .load T a=>z9L P or hp T (ev a)
 | .store T a x=>z7v P hp T (ev a) (ev x)
 | .nilCheck x=>match ev x with
  | .ptr i off=>z1x (some (.ptr i off))
  | .pim es off=>z1x (some (.pim es off))
  | .fn g a b=>z1x (some (.fn g a b))
  |_=>none
 | .makeFunc (.func g) a b=>z1x (some (.fn g (a.toList.map ev) (b.toList.map ev)))
 | .binOp op t x y _=>z72 (znB P op t (ev x) (ev y))
 | .unOp op _ x=>z1x (unM op (ev x))
 | .convert s d x=>match P.underlying s,P.underlying d with
  |some (.slice e),some .string=>match P.underlying e with|some (.int .u8)=>z2b hp or (ev x)|_=>none
  |_,_=>z1x (zgy P s d (ev x))
 | .makeSlice T l c=>z1s P slot T (ev l) (ev c)
 | .slice T x lo hi mx=>match or with
  |some (.r (.lst 0 []) _)=>z72 (zb3 P T (ev x) (lo.map ev) (hi.map ev) (mx.map ev))
  |_=>match P.underlying T with
   |some (.array n elem)=>z7R P hp n elem (ev x) (lo.map ev) (hi.map ev) (mx.map ev)
   |_=>z72 (zbJ P T (ev x) (lo.map ev) (hi.map ev) (mx.map ev))
 | .fieldAddr s x f=>z1x (z3F P s (ev x) f)
 | .field t x f=>z1x (zcx P t (ev x) f)
 | .indexAddr t x i=>z72 (z3A P t (ev x) (ev i))
 | .index t x i=>z72 (zbX P t (ev x) (ev i))
 | .extract x i=>z1x (z6S (ev x) i)
 | .call {callee:= .builtin .len,args,argTypes}=>
  match argTypes[0]?,args.toList with
  |some t,[x]=>z1x (znN P t (ev x))
  |_,_=>none
 | .call {callee:= .builtin .max,args,argTypes:=_}=>
  match args.toList with
  | [x,y]=>match ev x,ev y with
   | .cv (.lit (.int k a)),.cv (.lit (.int _ b))=>z1x (some (z22 k (if b>a then b else a)))
   |_,_=>none
  |_=>none
 | .call {callee:= .builtin .min,args,argTypes:=_}=>
  match args.toList with
  | [x,y]=>match ev x,ev y with
   | .cv (.lit (.int k a)),.cv (.lit (.int _ b))=>z1x (some (z22 k (if b<a then b else a)))
   |_,_=>none
  |_=>none
 | .call {callee:= .builtin .append,args,argTypes}=>
  match argTypes.toList,args.toList with
  | [t,u],[s,x]=>if t=u then z3Q P hp slot t (ev s) (ev x)else none
  |_,_=>none
 | .call {callee:= .value f,args, .. }=>zbn P or hp slot (ev f) (args.toList.map ev)
 |_=>none
def z3P(or:Option Or)(e:Eff):Option Eff:=
 match or with
 |some (.b d)=>match e.v with
  | .cv (.lit (.bool t))=>some {e with v:=z7J d,ob:=(t=d)::e.ob}
  |_=>none
 |_=>some e
def z87:Op→Bool
 | .alloc _| .box .. | .buildSlice .. | .makeSlice .. | .call {callee:= .builtin .append, .. }| .call {callee:= .value _, .. }=>true
 |_=>false
def W4(ops:List Oper)(i:Nat):Nat:=(ops.take i).countP fun o=>z87 o.op
def U8(ops:List Oper)(tm:List MV)(o:Oper):Option Bool:=
 match o.guard with
 |none=>some true
 |some (j,want)=>
  match ops[j]? with
  |some oj=>match oj.dst with
   |some d=>match tm[d]? with
    |some (.cv (.lit (.bool t)))=>some (t==want)
    |some (.cv (.lit (.tuple _)))=>some false
    |_=>none
   |none=>none
  |none=>none
def z5F(tm:List MV)(dst:Option Tmp)(v:MV):List MV:=
 match dst with
 |some d=>tm.set d v
 |none=>tm
def Y8(hp:List Blk):List (Nat×Blk)→List Blk
 | []=>hp
 |(i,b)::r=>Y8 (hp.set i b) r
def X4(hp:List Blk)(slot:Nat)(e:Eff):List Blk:=
 match e.al with
 |some cs=>(Y8 hp e.wr).set slot (some cs)
 |none=>Y8 hp e.wr
def mOp(P:Program)(ops:List Oper)(base:Nat)(or:Option Or)(i:Nat)(s:St):Option (St×Option Eff):=
 match ops[i]? with
 |none=>none
 |some o=>
  match U8 ops s.tm o with
  |none=>none
  |some false=>some ({s with tm:=z5F s.tm o.dst undefM},none)
  |some true=>
   match Q0 P or (z1m s.tm) s.hp (base+W4 ops i) o.op with
   |none=>none
   |some e=>
    match z3P or e with
    |none=>none
    |some e=>some (⟨z5F s.tm o.dst e.v,X4 s.hp (base+W4 ops i) e⟩,some e)
abbrev Ors:=List (Nat×Or)
def z5R(n:Nat):Ors→Option Or×Ors
 |(k,o)::r=>if k==n then(some o,r)else(none,(k,o)::r)
 | []=>(none,[])
def zan(ops:List Oper)(i:Nat):Bool:=ops.any fun o=>match o.guard with|some (j,_)=>j==i|none=>false
def zll(ops:List Oper)(i:Nat):Bool:=match ops[i]? with|some o=>(match o.op with| .load .. =>true|_=>false)|none=>false
inductive MRes where
 |ok (n:Nat) (ors:Ors) (s:St) (ob:List Prop) (es:List (Nat×Option Eff))
 |bad (n i:Nat) (s:St)
def zdk(P:Program)(ops:List Oper)(base:Nat)(ask:Bool):List Nat→Nat→Ors→St→List Prop→List (Nat×Option Eff)→MRes
 | [],n,ors,s,ob,es=> .ok n ors s ob es.reverse
 |i::is,n,ors,s,ob,es=>
  match z5R n ors with
  |(or,ors')=>
   if ask&&or.isNone&&zll ops i then .bad n i s else
   match mOp P ops base or i s with
   |none=> .bad n i s
   |some (s',none)=>zdk P ops base ask is (n+1) ors' s' ob ((i,none)::es)
   |some (s',some e)=>
    if ask&&or.isNone&&zan ops i then .bad n i s
    else zdk P ops base ask is (n+1) ors' s' (ob++e.ob) ((i,some e)::es)
def z4f(base:Nat)(ops:List Oper)(i:Nat)(e:Eff):List Nat:=if e.al.isSome then [base+W4 ops i]else []
def z3g(base:Nat)(ops:List Oper)(i j:Nat)(e f:Eff):Bool:=
 let wi:=e.wr.map (·.1)++z4f base ops i e
 let wj:=f.wr.map (·.1)++z4f base ops j f
 wi.all (fun x=>!(f.rd++wj).contains x)&&wj.all (fun x=>!(e.rd++wi).contains x)
def z6G(ops:List Oper)(i j:Nat):Bool:=
 match ops[j]? with
 |some o=>o.after.toList.any fun e=>e.on==i&&Region.binds .any e
 |none=>false
def z4w(ops:List Oper)(i j:Nat):Bool:=
 match ops[i]?,ops[j]? with
 |some x,some y=>x.apart ops.toArray y
 |_,_=>false
def z8S(base:Nat)(ops:List Oper)(i:Nat)(e:Option Eff)(j:Nat)(f:Option Eff):Bool:=
 z6G ops i j||(z4w ops i j&&match e,f with|some e,some f=>z3g base ops i j e f|_,_=>true)
def z5D(base:Nat)(ops:List Oper):List (Nat×Option Eff)→Bool
 | []=>true
 |(i,e)::r=>r.all (fun p=>z8S base ops i e p.1 p.2)&&z5D base ops r
def z0p:Nat→List Oper→Bool
 |_,[]=>true
 |i,o::r=>(o.after.toList.all fun e=>!Region.binds .any e||decide (e.on<i))&&z0p (i+1) r
inductive Out where
 |ret (v:CV) (ob:List Prop)
 |retM (v:MV) (hp:List Blk) (n:Nat) (ob:List Prop)
 |stop (todo:List Item) (s:St) (ob:List Prop)
 |fail (n:Nat) (why:Nat) (op:List Oper) (s:St) (i:Nat)
def z8F(P:Program)(s:St):ResultVar→Option MV
 | .tmp t=>s.tm[t]?
 | .cell a T=>
  match s.tm[a]? with
  |some (.ptr i off)=>match s.hp[i]? with
   |some (some cells)=>
    let l:=(cells.drop off).take (P.cellsOf T)
    if l.length=P.cellsOf T then z0w P T l else none
   |_=>none
  |_=>none
def z1f(P:Program)(s:St):List ResultVar→Option (List MV)
 | []=>some []
 |r::rs=>match z8F P s r,z1f P s rs with
  |some m,some ms=>some (m::ms)
  |_,_=>none
def z6F:List MV→MV
 | [c]=>c
 |cs=> .tup cs
def zfn:List CV→CV
 | [c]=>c
 |cs=> .tup cs
def z5Z(P:Program)(rs:List ResultVar)(n:Nat)(s:St)(ors:Ors)(ob:List Prop):Out:=
 match z1f P s rs with
 |none=> .fail n 1 [] s 0
 |some ms=>
  match z0L s.hp ms (match z5R n ors with|(some (.r _ es),_)=>es|_=>[])with
  |none=> .fail n 2 [] s 0
  |some (cs,_,o)=> .ret (zfn cs) (ob++o)
def z3B(n:Nat):List Blk→Bool
 | []=>true
 |some cells::r=>cells.all (MV.under n)&&z3B n r
 |none::r=>z3B n r
def zbH:Nat→List Nat→Nat
 |k,i::is=>if i==k then zbH (k+1) is else k
 |k,[]=>k
def CvL(l:List MV):Prop:= ∀m∈l,∃c,m= .cv c
def CellsC:List Blk→List Prop
 | []=>[]
 |some cells::r=>CvL cells::CellsC r
 |none::r=>CellsC r
def z3w(P:Program)(rs:List ResultVar)(m:Nat)(ask:Bool)(n:Nat)(s:St)(ors:Ors)(ob:List Prop):Out:=
 match z1f P s rs with
 |none=> .fail n 1 [] s 0
 |some ms=>
  match z5R n ors with
  |(some (.m σ _ _),_)=>
   match(z6F ms).inv σ with
   |some v=>if z05 σ&&σ.length==m then .retM v (σ.map fun i=>s.hp.getD i none) (zbH 0 σ) (ob++CellsC (σ.map fun i=>s.hp.getD i none))else .fail n 15 [] s 0
   |none=> .fail n 15 [] s 0
  |(or,_)=>
   if(z6F ms).under m then
    match or with
    |some .a=> .retM (z6F ms) (s.hp.take m) m (ob++[m≤s.hp.length,BlksCv (s.hp.take m)])
    |or=>if ask&&or.isNone then .fail n 14 [] s 0 else if z3B m (s.hp.take m)then .retM (z6F ms) (s.hp.take m) m (ob++[m≤s.hp.length])else .fail n 13 [] s 0
   else .fail n 2 [] s 0
def z8x(P:Program)(rs:List ResultVar)(md:Option Nat)(ask:Bool)(n:Nat)(s:St)(ors:Ors)(ob:List Prop):Out:=
 match md with
 |none=>z5Z P rs n s ors ob
 |some m=>z3w P rs m ask n s ors ob
def run(P:Program)(rs:List ResultVar)(md:Option Nat)(ask:Bool):Nat→Nat→List Item→St→Ors→List Prop→Out
 |0,n,_,s,_,_=> .fail n 3 [] s 0
 |fuel+1,n,todo,s,ors,ob=>
  match todo with
  | []| .code .ret::_=>z8x P rs md ask n s ors ob
  | .code .skip::k| .code (.label _)::k| .inBlock _::k| .inScope _::k=>run P rs md ask fuel n k s ors ob
  | .code (.seq a b)::k=>run P rs md ask fuel n (.code a:: .code b::k) s ors ob
  | .code (.block id c)::k=>run P rs md ask fuel n (.code c:: .inBlock id::k) s ors ob
  | .code (.scope c)::k=>run P rs md ask fuel n (.code c:: .inScope c::k) s ors ob
  | .code (.exit id)::k=>match exitTo id k with|some k=>run P rs md ask fuel n k s ors ob|none=> .fail n 4 [] s 0
  | .code (.cond c a b)::k=>
   match z1m s.tm c with
   | .cv (.lit (.bool t))=>
    match z5R n ors with
    |(some (.b d),ors)=>run P rs md ask fuel (n+1) (.code (match d with|true=>a|false=>b)::k) s ors (ob++[t=d])
    |(o,ors)=>
     if ask&&o.isNone then .fail n 5 [] ⟨[z7J t],[]⟩ 0 else
     match t with
     |true=>run P rs md ask fuel (n+1) (.code a::k) s ors ob
     |false=>run P rs md ask fuel (n+1) (.code b::k) s ors ob
   |_=> .fail n 6 [] s 0
  | .code (.loop c)::k| .inLoop c::k=>
   match z5R n ors with
   |(some .stop,_)=> .stop (.inLoop c::k) s ob
   |(or,ors)=>if ask&&or.isNone then .fail n 12 [] s 0 else run P rs md ask fuel (n+1) (.code c:: .inLoop c::k) s ors ob
  | .code (.region _ ops draw)::k=>
   match zdk P ops.toList s.hp.length ask (List.range ops.size) n ors {s with hp:=s.hp++List.replicate (W4 ops.toList ops.size) none} [] []with
   | .ok n ors s' o es=>
    if draw&&!(z5D s.hp.length ops.toList es&&z0p 0 ops.toList&&P.follows .mixedOrders)then .fail n 7 ops.toList s 0
    else run P rs md ask fuel n k s' ors (ob++o)
   | .bad n i s=> .fail n 8 ops.toList s i
  |_=> .fail n 9 [] s 0
def z48(P:Program)(f:FuncId)(args:List CV):Option (List Item×St×List ResultVar):=
 match P.funcs[f]? with
 |some fn=>match fn.body with
  |some c=>some ([.code c],⟨args.map .cv++List.replicate (fn.ntmps-args.length) undefM,[]⟩,fn.results.toList)
  |none=>none
 |none=>none
def zaJ(P:Program)(f:FuncId)(args:List CV)(ors:Ors)(ask:Bool)(fuel:Nat):Out:=
 match z48 P f args with
 |some (todo,s,rs)=>run P rs none ask fuel 0 todo s ors []
 |none=> .fail 0 10 [] ⟨[],[]⟩ 0
def z38(P:Program)(f:FuncId)(todo:List Item)(s:St)(ors:Ors)(ask:Bool)(fuel:Nat):Out:=
 match P.funcs[f]? with
 |some fn=>run P fn.results.toList none ask fuel 0 todo s ors []
 |none=> .fail 0 11 [] ⟨[],[]⟩ 0
def ziA(P:Program)(f:FuncId)(args:List CV)(ors:Ors)(ask:Bool)(fuel:Nat):Out:=
 match z48 P f args with
 |some (todo,s,rs)=>run P rs (some 1) ask fuel 0 todo s ors []
 |none=> .fail 0 10 [] ⟨[],[]⟩ 0
def z9N(P:Program)(f:FuncId)(hp:List Blk)(args:List MV)(ors:Ors)(ask:Bool)(fuel:Nat):Out:=
 match P.funcs[f]? with
 |some fn=>match fn.body with
  |some c=>run P fn.results.toList (some hp.length) ask fuel 0 [.code c] ⟨args++List.replicate (fn.ntmps-args.length) undefM,hp⟩ ors []
  |none=> .fail 0 10 [] ⟨[],[]⟩ 0
 |none=> .fail 0 10 [] ⟨[],[]⟩ 0
def z5J(P:Program)(f:FuncId)(m:Nat)(todo:List Item)(s:St)(ors:Ors)(ask:Bool)(fuel:Nat):Out:=
 match P.funcs[f]? with
 |some fn=>run P fn.results.toList (some m) ask fuel 0 todo s ors []
 |none=> .fail 0 11 [] ⟨[],[]⟩ 0
def z27:Code→List Item→List (List Item)
 | .seq a b,k=>z27 a (.code b::k)++z27 b k
 | .cond _ a b,k=>z27 a k++z27 b k
 | .block id c,k=>z27 c (.inBlock id::k)
 | .scope c,k=>z27 c (.inScope c::k)
 | .loop c,k=>(.inLoop c::k)::z27 c (.inLoop c::k)
 |_,_=>[]
def loopHead(P:Program)(f:FuncId)(n:Nat):List Item:=
 match P.funcs[f]? with
 |some fn=>match fn.body with
  |some c=>(z27 c []).getD n []
  |none=>[]
 |none=>[]
end Go.Fw
