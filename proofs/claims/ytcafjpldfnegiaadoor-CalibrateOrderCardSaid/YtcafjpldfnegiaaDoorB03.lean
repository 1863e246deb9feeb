/- A part of the proof that the law returns true for every input: an executor for the model's code, and what functions of the program compute. -/
import Derived.Test.YtcafjpldfnegiaaDoorB02
import Derived.Orders
open Go IntKind
namespace Go.Fw
def z13(P:Program)(t:TypeId):Bool:=(P.info? t).isSome
def Y2(op:BinOp)(k:IntKind)(x y:Int):Int:=
 let a:=BitVec.ofInt k.bits x
 let b:=BitVec.ofInt k.bits y
 k.wrap (match op with| .and=>(a&&&b).toNat| .or=>(a|||b).toNat| .xor=>(a^^^b).toNat|_=>(a&&& ~~~b).toNat:Nat)
def z14(k:IntKind)(n:Int):MV:= .cv (.lit (.int k n))
def z5u(b:Bool):MV:= .cv (.lit (.bool b))
def zbR(s:ByteArray):MV:= .cv (.lit (.string s))
def z6y(d:TypeDesc)(x y:MV):Option Bool:=
 match d,x,y with
 | .bool,.cv (.lit (.bool a)),.cv (.lit (.bool b))=>some (a==b)
 | .int _,.cv (.lit (.int k a)),.cv (.lit (.int k' b))=>if k=k' then some (a==b)else none
 | .string,.cv (.lit (.string a)),.cv (.lit (.string b))=>some (a==b)
 |_,_,_=>none
def z5I(P:Program)(T:TypeId)(cells:List MV)(off:Nat):Option MV:=
 let l:=(cells.drop off).take (P.cellsOf T)
 if l.length=P.cellsOf T then U9 P T l else none
def zgv(f:TypeId→Nat→Option Bool):List Field→Option Bool
 | []=>some true
 |fd::fs=>
  if fd.name== "_" then none else
  match f fd.type fd.offset,zgv f fs with
  |some b,some c=>some (b&&c)
  |_,_=>none
def zgx(f:Nat→Option Bool):List Nat→Option Bool
 | []=>some true
 |i::is=>
  match f i,zgx f is with
  |some b,some c=>some (b&&c)
  |_,_=>none
def eqT(P:Program):Nat→TypeId→MV→MV→Option Bool
 |0,_,_,_=>none
 |d+1,t,x,y=>
  match P.underlying t with
  |some (.struct fs)=>
   if P.stoodInHeld t then none else
   match x.agg?,y.agg? with
   |some cx,some cy=>zgv (fun T off=>match z5I P T cx off,z5I P T cy off with|some a,some b=>eqT P d T a b|_,_=>none) fs.toList
   |_,_=>none
  |some (.array n e)=>
   if !z13 P e then none else
   match x.agg?,y.agg? with
   |some cx,some cy=>zgx (fun i=>match z5I P e cx (i*P.cellsOf e),z5I P e cy (i*P.cellsOf e)with|some a,some b=>eqT P d e a b|_,_=>none) (List.range n)
   |_,_=>none
  |some dd=>z6y dd x y
  |none=>none
def zhd:BinOp→Int→Int→Option Bool
 | .eql,x,y=>some (x==y)
 | .neq,x,y=>some (x != y)
 | .lss,x,y=>some (decide (x<y))
 | .leq,x,y=>some (decide (x≤y))
 | .gtr,x,y=>some (decide (x>y))
 | .geq,x,y=>some (decide (x≥y))
 |_,_,_=>none
def zh4(op:BinOp)(k:IntKind)(a b:Int):Option (MV×List Prop):=
 match op with
 | .add=>some (z14 k (k.wrap (a+b)),[])
 | .sub=>some (z14 k (k.wrap (a-b)),[])
 | .mul=>some (z14 k (k.wrap (a*b)),[])
 | .quo=>some (z14 k (k.wrap (a.tdiv b)),[b≠0])
 | .rem=>some (z14 k (a.tmod b),[b≠0])
 | .and=>some (z14 k (Y2 .and k a b),[])
 | .or=>some (z14 k (Y2 .or k a b),[])
 | .xor=>some (z14 k (Y2 .xor k a b),[])
 | .andNot=>some (z14 k (Y2 .andNot k a b),[])
 | .shl| .shr=>none
 |op=>match zhd op a b with|some t=>some (z5u t,[])|none=>none
def zgW(op:BinOp)(x y:ByteArray):Option (MV×List Prop):=
 let eq:=x.toList==y.toList
 let lt:=Op.bytesLess x.toList y.toList
 match op with
 | .add=>some (zbR (x++y),[((x.size+y.size:Nat):Int)≤i64.max])
 | .eql=>some (z5u eq,[])
 | .neq=>some (z5u !eq,[])
 | .lss=>some (z5u lt,[])
 | .leq=>some (z5u (lt||eq),[])
 | .gtr=>some (z5u !(lt||eq),[])
 | .geq=>some (z5u !lt,[])
 |_=>none
def zgR(P:Program)(op:BinOp)(t:TypeId)(x y:MV):Option (MV×List Prop):=
 match x,y with
 | .cv (.lit (.int k a)),.cv (.lit (.int k' b))=>
  match op with
  | .shl=>some (z14 k (k.wrap (a*2^min b.toNat k.bits)),[0≤b])
  | .shr=>some (z14 k (a.fdiv (2^min b.toNat k.bits)),[0≤b])
  |op=>if k=k' then zh4 op k a b else none
 | .cv (.lit (.string a)),.cv (.lit (.string b))=>zgW op a b
 | .cv (.lit (.bool a)),.cv (.lit (.bool b))=>
  match P.underlying t with
  |some .bool=>match op with| .eql=>some (z5u (a==b),[])| .neq=>some (z5u !(a==b),[])|_=>none
  |_=>none
 |x,y=>
  match x.agg?,y.agg? with
  |some _,some _=>
   if P.eqGuardType P.depth t then none else
   match op,eqT P 20 t x y with
   | .eql,some b=>some (z5u b,[])
   | .neq,some b=>some (z5u !b,[])
   |_,_=>none
  |_,_=>none
def unM(op:UnOp)(x:MV):Option MV:=
 match op,x with
 | .neg,.cv (.lit (.int k n))=>some (z14 k (k.wrap (0-n)))
 | .xor,.cv (.lit (.int k n))=>some (z14 k (Y2 .xor k (if k.signed then-1 else k.max) n))
 | .not,.cv (.lit (.bool b))=>some (z5u !b)
 |_,_=>none
def j4(cs:List MV)(off:Nat)(new:List MV):List MV:=cs.take off++new++cs.drop (off+new.length)
def z3V(place:Nat→Option (Nat×Nat)):List MV→List (Nat×MV)→Option (List MV)
 |cells,[]=>some cells
 |cells,(i,v)::rest=>
  match place i with
  |none=>none
  |some (off,size)=>
   if v.known&&v.cells.length=size&&off+v.cells.length≤cells.length then z3V place (j4 cells off v.cells) rest else none
def z94(P:Program)(t:TypeId)(parts:List (Nat×MV)):Option MV:=
 match Z6 P t,P.underlying t with
 |some zero,some (.struct fields)=>
  if fields.toList.all fun f=>z13 P f.type then(z3V (fun i=>(fields[i]?).map fun f=>(f.offset,P.cellsOf f.type)) zero parts).map .agg else none
 |some zero,some (.array _ elem)=>if z13 P elem then(z3V (fun i=>some (i*P.cellsOf elem,P.cellsOf elem)) zero parts).map .agg else none
 |_,_=>none
def z0J(zero:List MV)(n:Nat):List MV:=
 match zero with
 | [z]=>List.replicate n z
 |zero=>(List.range n).map fun i=>zero.getD (i%zero.length) .unk
def z4g(P:Program)(t:TypeId)(len:Nat)(parts:List (Nat×MV)):Option (List MV):=
 match P.underlying t with
 |some (.slice elem)=>
  let size:=P.cellsOf elem
  if z13 P elem&&len*size≤2^24 then
   if len*size=0 then z3V (fun i=>some (i*size,size)) [] parts else
   match Z6 P elem with
   |some zero=>if zero.length==size then z3V (fun i=>some (i*size,size)) (z0J zero (len*size)) parts else none
   |none=>none
  else none
 |_=>none
def z4U(a:MV)(n:Nat):Option MV:=
 match a with
 | .ptr i off=>some (.ptr i (off+n))
 | .pim es off=>some (.pim es (off+n))
 |_=>none
def z2L(P:Program)(s:TypeId)(x:MV)(f:Nat):Option MV:=
 match P.underlying s with
 |some (.struct fields)=>
  match fields[f]? with
  |some f=>if P.cellsOf f.type=0 then none else z4U x f.offset
  |none=>none
 |_=>none
def z2O(P:Program)(t:TypeId)(x i:MV):Option (MV×List Prop):=
 match i with
 | .cv (.lit (.int _ n))=>
  match P.underlying t with
  |some (.array len elem)=>
   if z13 P elem then
    match z4U x (n.toNat*P.cellsOf elem)with
    |some v=>some (v,[0≤n∧n<len])
    |none=>none
   else none
  |some (.slice elem)=>
   if z13 P elem then
    match x with
    | .sl b off len _=>some (.ptr b (off+n.toNat*P.cellsOf elem),[0≤n∧n<len])
    | .cv (.lst len es)=>some (.pim es (n.toNat*P.cellsOf elem),[0≤n∧n<len])
    |_=>none
   else none
  |_=>none
 |_=>none
def z8m(P:Program)(t:TypeId)(x i:MV):Option (MV×List Prop):=
 match i with
 | .cv (.lit (.int _ n))=>
  match P.underlying t with
  |some (.array len elem)=>
   match x.agg? with
   |some cells=>
    if z13 P elem then
     match z5I P elem cells (n.toNat*P.cellsOf elem)with
     |some v=>some (v,[0≤n∧n<len])
     |none=>none
    else none
   |none=>none
  |some .string=>match x with
   | .cv (.lit (.string s))=>some (z14 .u8 ((s.data.getD n.toNat 0).toNat:Nat),[0≤n∧n<s.size])
   |_=>none
  |_=>none
 |_=>none
def z9i(P:Program)(t:TypeId)(x:MV)(f:Nat):Option MV:=
 match P.underlying t with
 |some (.struct fields)=>
  match fields[f]? with
  |some f=>
   match x.agg? with
   |some cells=>z5I P f.type cells f.offset
   |none=>none
  |none=>none
 |_=>none
def z4N(x:MV)(i:Nat):Option MV:=
 match x with
 | .cv (.tup vs)=>(vs[i]?).map .cv
 | .tup vs=>vs[i]?
 |_=>none
def zh7(P:Program)(t:TypeId)(x:MV):Option MV:=
 match P.underlying t,x with
 |some .string,.cv (.lit (.string s))=>some (z14 .i64 s.size)
 |some (.array n _),_=>some (z14 .i64 n)
 |some (.slice _),.cv (.lst n _)=>some (z14 .i64 n)
 |some (.slice _),.sl _ _ n _=>some (z14 .i64 n)
 |some (.slice _),.cv (.lit (.slice _ n _))=>some (z14 .i64 n)
 |_,_=>none
def zdO(P:Program)(src dst:TypeId)(x:MV):Option MV:=
 match P.underlying src,P.underlying dst,x with
 |some (.int _),some (.int k),.cv (.lit (.int _ n))=>some (z14 k (k.wrap n))
 |some .string,some .string,.cv (.lit (.string s))=>some (zbR s)
 |some (.int _),some .string,.cv (.lit (.int _ n))=>some (zbR (Utf8.encode n))
 |_,_,_=>none
def z0k(x:Option MV)(d:Nat):Option Int:=
 match x with
 |none=>some d
 |some (.cv (.lit (.int _ n)))=>some n
 |_=>none
def z95(P:Program)(t:TypeId)(x:MV)(lo hi mx:Option MV):Option (MV×List Prop):=
 match mx with
 |some _=>none
 |none=>
  match P.underlying t with
  |some .string=>match x with
   | .cv (.lit (.string s))=>
    match z0k lo 0,z0k hi s.size with
    |some l,some h=>some (zbR (s.extract l.toNat h.toNat),[0≤l∧l≤h∧h≤s.size])
    |_,_=>none
   |_=>none
  |some (.slice elem)=>
   if z13 P elem then
    match x with
    | .sl b off len sz=>
     if sz=P.cellsOf elem then
      match z0k lo 0,z0k hi len with
      |some l,some h=>some (.sl b (off+l.toNat*P.cellsOf elem) (h-l).toNat sz,[0≤l∧l≤h∧h≤len∧(l=0∨l<h)])
      |_,_=>none
     else none
    | .cv (.lst len es)=>
     match z0k lo 0,z0k hi len with
     |some l,some h=>
      some (.cv (.lst (h-l).toNat ((es.drop (l.toNat*P.cellsOf elem)).take ((h-l).toNat*P.cellsOf elem))),[0≤l∧l≤h∧h≤len,es.length=len*P.cellsOf elem])
     |_,_=>none
    |_=>none
   else none
  |_=>none
def z61(P:Program)(hp:List Blk)(n:Nat)(elem:TypeId)(x:MV)(lo hi mx:Option MV):Option Eff:=
 match lo,hi,mx with
 |none,none,none=>
  if z13 P elem then
   match x with
   | .ptr b off=>match hp[b]? with
    |some (some cells)=>some ⟨.sl b off n (P.cellsOf elem),[b],[],none,[off+n*P.cellsOf elem≤cells.length]⟩
    |_=>none
   |_=>none
  else none
 |_,_,_=>none
def z9n(P:Program)(t:TypeId)(x:MV)(lo hi mx:Option MV):Option (MV×List Prop):=
 match mx with
 |some _=>none
 |none=>
  match P.underlying t with
  |some (.slice elem)=>
   if z13 P elem then
    match x with
    | .sl _ _ len _=>
     match z0k lo 0,z0k hi len with
     |some l,some h=>some (.cv (.lst 0 []),[0≤l∧l=h∧h≤len])
     |_,_=>none
    |_=>none
   else none
  |_=>none
def z0d(hp:List Blk):List MV→List (List CV)→Option (List CV×List Nat×List Prop)
 | [],_=>some ([],[],[])
 | .sl i off len sz::ms,es::ess=>
  match hp[i]?,z0d hp ms ess with
  |some (some cells),some (cs,is,ob)=>some (.lst len es::cs,i::is,((cells.drop off).take (len*sz)=es.map .cv)::ob)
  |_,_=>none
 | .sl .. ::_,[]=>none
 |m::ms,ess=>
  match m.toCV,z0d hp ms ess with
  |some c,some (cs,is,ob)=>some (c::cs,is,ob)
  |_,_=>none
def zen(hp:List Blk)(sz:Nat)(x:MV):Option (List MV×Nat×List Nat×List Prop):=
 match x with
 | .sl j o n sz'=>match hp[j]? with
  |some (some cells)=>if sz'=sz then some ((cells.drop o).take (n*sz),n,[j],[((cells.drop o).take (n*sz)).length=n*sz])else none
  |_=>none
 | .cv (.lst n es)=>some (es.map .cv,n,[],[es.length=n*sz,0<n])
 |_=>none
def zdi(l:List MV):Prop:= ∀m∈l,m.one=true
def z1g(P:Program)(hp:List Blk)(slot:Nat)(t:TypeId)(s x:MV):Option Eff:=
 match P.underlying t with
 |some (.slice elem)=>
  let sz:=P.cellsOf elem
  if !(z13 P elem&&(Z6 P elem).isSome&&((Z6 P elem).getD []).length==sz&&0<sz)then none else
  match zen hp sz x with
  |none=>none
  |some (new,n,js,ob)=>
   match s with
   | .cv (.lit (.slice none 0 0))=>some ⟨.sl slot 0 n sz,js,[],some new,[n*P.bytesOf elem≤1099511627776,n≤1099511627776,0<n]++ob⟩
   | .sl i 0 len sz'=>
    match hp[i]? with
    |some (some cells)=>
     if sz'=sz&&!js.contains i then
      some ⟨.sl slot 0 (len+n) sz,js,[(i,none)],some (cells++new),[(len+n)*P.bytesOf elem≤1099511627776,len+n≤1099511627776,cells.length=len*sz,zdi new]++ob⟩
     else none
    |_=>none
   |_=>none
 |_=>none
def z17(P:Program)(hp:List Blk)(slot:Nat)(t:TypeId)(s x:MV):Option Eff:=
 match P.underlying t,x,s with
 |some (.slice elem),.cv (.lit (.slice none 0 0)),.sl i off len sz=>
  match hp[i]? with
  |some (some cells)=>if(Z6 P elem).isSome then some ⟨.sl slot off len sz,[],[(i,none)],some cells,[]⟩else none
  |_=>none
 |_,_,_=>none
def zgw(P:Program)(hp:List Blk)(slot:Nat)(t:TypeId)(s x:MV):Option Eff:=
 match z17 P hp slot t s x with
 |some e=>some e
 |none=>z1g P hp slot t s x
theorem z4m{P:Program}{hp:List Blk}{slot:Nat}{t:TypeId}{s x:MV}{e:Eff}(h:z1g P hp slot t s x=some e)(hp':List Blk):z17 P hp' slot t s x=none:=by
 unfold z17
 split
 · unfold z1g at h
   split at h
   · dsimp only at h
     split at h
     · cases h
     · simp only[zen]at h
       cases h
   · cases h
 · rfl
theorem z6D{P:Program}{hp hp':List Blk}{slot:Nat}{t:TypeId}{s x:MV}{e:Eff}(h:z17 P hp slot t s x=some e)(hh: ∀j∈e.rd++e.wr.map (·.1),hp'[j]?=hp[j]?):z17 P hp' slot t s x=some e:=by
 unfold z17 at h ⊢
 split at h
 · rename_i elem i off len sz hu
   split at h
   · rename_i cells hi
     split at h
     · rename_i hz
       cases h
       have:=hh i (by simp)
       rw[this,hi]
       dsimp only
       rw[if_pos hz]
     · cases h
   · cases h
 · cases h
def z1o(hp:List Blk)(or:Option Or)(x:MV):Option Eff:=
 match x,or with
 | .sl i off len _,some (.r (.lit (.string s)) _)=>
  match hp[i]? with
  |some (some cells)=>some ⟨zbR s,[i],[],none,[(cells.drop off).take len=s.data.toList.map (fun b=>z14 .u8 (b.toNat:Nat)),s.size=len]⟩
  |_=>none
 | .cv (.lst n es),some (.r (.lit (.string s)) _)=>some ⟨zbR s,[],[],none,[es=s.data.toList.map (fun b=>CV.lit (.int .u8 (b.toNat:Nat))),s.size=n]⟩
 |_,_=>none
def z0F(v:Option MV):Option Eff:=match v with|some v=>some ⟨v,[],[],none,[]⟩|none=>none
def z5r(v:Option (MV×List Prop)):Option Eff:=match v with|some (v,ob)=>some ⟨v,[],[],none,ob⟩|none=>none
def z7v(P:Program)(or:Option Or)(hp:List Blk)(T:TypeId)(a:MV):Option Eff:=
 let n:=P.cellsOf T
 match a with
 | .ptr i off=>
  match hp[i]? with
  |some (some cells)=>
   match or with
   |some (.e (.agg ms))=>match U9 P T ms with
    |some v=>some ⟨v,[i],[],none,[(cells.drop off).take n=ms,ms.length=n]⟩
    |none=>none
   |some (.e m)=>match U9 P T [m]with
    |some v=>some ⟨v,[i],[],none,[cells[off]?=some m,1=n]⟩
    |none=>none
   |_=>
    let l:=(cells.drop off).take n
    if l.length=n then match U9 P T l with|some v=>some ⟨v,[i],[],none,[]⟩|none=>none else none
  |_=>none
 | .pim es off=>
  match or with
  |some (.r (.agg cs) _)=>match U9 P T (cs.map .cv)with
   |some v=>some ⟨v,[],[],none,[(es.drop off).take n=cs,cs.length=n]⟩
   |none=>none
  |some (.r c _)=>match U9 P T [.cv c]with
   |some v=>some ⟨v,[],[],none,[es[off]?=some c,1=n]⟩
   |none=>none
  |_=>
   let l:=(es.drop off).take n
   if l.length=n then z0F (U9 P T (l.map .cv))else none
 |_=>none
def z5S(P:Program)(hp:List Blk)(T:TypeId)(a x:MV):Option Eff:=
 match a with
 | .ptr i off=>
  match hp[i]? with
  |some (some cells)=>
   let new:=x.cells
   if x.known&&new.all MV.one&&new.length=P.cellsOf T&&z13 P T then some ⟨undefM,[],[(i,some (j4 cells off new))],none,[off+P.cellsOf T≤cells.length]⟩else none
  |_=>none
 |_=>none
def z0L(P:Program)(slot:Nat)(T:TypeId)(l c:MV):Option Eff:=
 match P.underlying T,l,c with
 |some (.slice elem),.cv (.lit (.int _ a)),.cv (.lit (.int _ b))=>
  match Z6 P elem with
  |some zero=>some ⟨.sl slot 0 a.toNat (P.cellsOf elem),[],[],some (z0J zero (b.toNat*P.cellsOf elem)),[0≤a∧a≤b∧(P.bytesOf elem:Int)*b≤140737488355328∧b≤4611686018427387904∧zero.length=P.cellsOf elem]⟩
  |none=>none
 |_,_,_=>none
def z7x(i:Nat):Nat→List Nat→Option Nat
 |_,[]=>none
 |k,j::js=>if j=i then some k else z7x i (k+1) js
mutual
def MV.inv(σ:List Nat):MV→Option MV
 | .cv c=>some (.cv c)
 | .ptr i off=>match z7x i 0 σ with|some k=>some (.ptr k off)|none=>none
 | .sl i off len sz=>match z7x i 0 σ with|some k=>some (.sl k off len sz)|none=>none
 | .pim es off=>some (.pim es off)
 | .agg ms=>match MV.invL σ ms with|some l=>some (.agg l)|none=>none
 | .tup ms=>match MV.invL σ ms with|some l=>some (.tup l)|none=>none
 | .fn g a b=>match MV.invL σ a,MV.invL σ b with|some x,some y=>some (.fn g x y)|_,_=>none
 | .unk=>none
def MV.invL(σ:List Nat):List MV→Option (List MV)
 | []=>some []
 |m::ms=>match MV.inv σ m,MV.invL σ ms with|some x,some l=>some (x::l)|_,_=>none
end
mutual
def MV.ren(σ:List Nat):MV→MV
 | .cv c=> .cv c
 | .ptr i off=> .ptr (σ.getD i 0) off
 | .sl i off len sz=> .sl (σ.getD i 0) off len sz
 | .pim es off=> .pim es off
 | .agg ms=> .agg (MV.renL σ ms)
 | .tup ms=> .tup (MV.renL σ ms)
 | .fn g a b=> .fn g (MV.renL σ a) (MV.renL σ b)
 | .unk=> .unk
def MV.renL(σ:List Nat):List MV→List MV
 | []=>[]
 |m::ms=>MV.ren σ m::MV.renL σ ms
end
mutual
def MV.under(m:Nat):MV→Bool
 | .ptr i _=>decide (i<m)
 | .sl i _ _ _=>decide (i<m)
 | .agg ms=>MV.underL m ms
 | .tup ms=>MV.underL m ms
 | .fn _ a b=>MV.underL m a&&MV.underL m b
 |_=>true
def MV.underL(m:Nat):List MV→Bool
 | []=>true
 |v::vs=>MV.under m v&&MV.underL m vs
end
def zfn(b:Blk):Prop:= ∀cells,b=some cells→ ∀m∈cells,∃c,m= .cv c
def BlksCv(l:List Blk):Prop:= ∀b∈l,zfn b
def z2k(hp:List Blk):List Nat→Option (List Blk)
 | []=>some []
 |i::is=>match hp[i]?,z2k hp is with
  |some (some cells),some l=>some (some cells::l)
  |_,_=>none
def V8:List Nat→Bool
 | []=>true
 |i::is=>!is.contains i&&V8 is
def z52(P:Program)(or:Option Or)(hp:List Blk)(slot:Nat)(g:FuncId)(args:List MV):Option Eff:=
 match or with
 |some (.r v es)=>match z0d hp args es with
  |some (cs,is,ob)=>some ⟨.cv v,[],is.map fun i=>(i,none),none,PCall P g cs v::ob⟩
  |none=>none
 |some (.k v es)=>match z0d hp args es with
  |some (cs,is,ob)=>if v.flat then some ⟨.cv v,is,[],none,PCall P g cs v::ob⟩else none
  |none=>none
 |some (.m σ v hp')=>match MV.invL σ args,z2k hp σ with
  |some args0,some hp0=>
   if V8 σ&&v.under σ.length&&hp'.length==σ.length then some ⟨v.ren σ,σ,σ.zip hp',none,[z2j P g hp0 args0 v hp',BlksCv (hp0++hp')]⟩else none
  |_,_=>none
 |some (.f v cells es)=>match z0d hp args es with
  |some (cs,is,ob)=>if v.under 1 then some ⟨v.ren [slot],[],is.map fun i=>(i,none),some (own cells),z50 P g cs v cells::ob⟩else none
  |none=>none
 |some (.g v cells es)=>match z0d hp args es with
  |some (cs,is,ob)=>if v.slM then some ⟨v.ren [slot],is,[],some (own cells),zcv P g cs v cells::ob⟩else none
  |none=>none
 |_=>none
def z9o(P:Program)(or:Option Or)(hp:List Blk)(slot:Nat)(f:MV)(args:List MV):Option Eff:=
 match f with
 | .cv (.lit (.func (.func g) first captured))=>if z2n P g&&first.isEmpty&&captured.isEmpty then z52 P or hp slot g args else none
 | .fn g first cap=>if z2n P g then z52 P or hp slot g (first++args++cap)else none
 |_=>none
def j8(P:Program)(or:Option Or)(ev:Operand→MV)(hp:List Blk)(slot:Nat)(op:Op):Option Eff:=
 match op with
 | .move x| .assign x=>z0F (some (ev x))
 | .pick c a b=>match ev c with
  | .cv (.lit (.bool t))=>z0F (some (match t with|true=>ev a|false=>ev b))
  |_=>none
 | .alloc T=>match Z6 P T with|some cs=>some ⟨.ptr slot 0,[],[],some cs,[]⟩|none=>none
 | .box _ x=>if(ev x).known then some ⟨.ptr slot 0,[],[],some (ev x).cells,[]⟩else none
 | .build T ps=>z0F (z94 P T (ps.toList.map fun p=>(p.1,ev p.2)))
 | .buildSlice T n ps=>match P.underlying T with
  |some (.slice elem)=>match z4g P T n (ps.toList.map fun p=>(p.1,ev p.2))with
   |some cs=>some ⟨.sl slot 0 n (P.cellsOf elem),[],[],some cs,[]⟩
   |none=>none
  |_=>none
 | .load T a=>z7v P or hp T (ev a)
 | .store T a x=>z5S P hp T (ev a) (ev x)
 | .nilCheck x=>match ev x with
  | .ptr i off=>z0F (some (.ptr i off))
  | .pim es off=>z0F (some (.pim es off))
  | .fn g a b=>z0F (some (.fn g a b))
  |_=>none
 | .makeFunc (.func g) a b=>z0F (some (.fn g (a.toList.map ev) (b.toList.map ev)))
 | .binOp op t x y _=>z5r (zgR P op t (ev x) (ev y))
 | .unOp op _ x=>z0F (unM op (ev x))
 | .convert s d x=>match P.underlying s,P.underlying d with
  |some (.slice e),some .string=>match P.underlying e with|some (.int .u8)=>z1o hp or (ev x)|_=>none
  |_,_=>z0F (zdO P s d (ev x))
 | .makeSlice T l c=>z0L P slot T (ev l) (ev c)
 | .slice T x lo hi mx=>match or with
  |some (.r (.lst 0 []) _)=>z5r (z9n P T (ev x) (lo.map ev) (hi.map ev) (mx.map ev))
  |_=>match P.underlying T with
   |some (.array n elem)=>z61 P hp n elem (ev x) (lo.map ev) (hi.map ev) (mx.map ev)
   |_=>z5r (z95 P T (ev x) (lo.map ev) (hi.map ev) (mx.map ev))
 | .fieldAddr s x f=>z0F (z2L P s (ev x) f)
 | .field t x f=>z0F (z9i P t (ev x) f)
 | .indexAddr t x i=>z5r (z2O P t (ev x) (ev i))
 | .index t x i=>z5r (z8m P t (ev x) (ev i))
 | .extract x i=>z0F (z4N (ev x) i)
 | .call {callee:= .builtin .len,args,argTypes}=>
  match argTypes[0]?,args.toList with
  |some t,[x]=>z0F (zh7 P t (ev x))
  |_,_=>none
 | .call {callee:= .builtin .max,args,argTypes:=_}=>
  match args.toList with
  | [x,y]=>match ev x,ev y with
   | .cv (.lit (.int k a)),.cv (.lit (.int _ b))=>z0F (some (z14 k (if b>a then b else a)))
   |_,_=>none
  |_=>none
 | .call {callee:= .builtin .min,args,argTypes:=_}=>
  match args.toList with
  | [x,y]=>match ev x,ev y with
   | .cv (.lit (.int k a)),.cv (.lit (.int _ b))=>z0F (some (z14 k (if b<a then b else a)))
   |_,_=>none
  |_=>none
 | .call {callee:= .builtin .append,args,argTypes}=>
  match argTypes.toList,args.toList with
  | [t,u],[s,x]=>if t=u then zgw P hp slot t (ev s) (ev x)else none
  |_,_=>none
 | .call {callee:= .value f,args, .. }=>z9o P or hp slot (ev f) (args.toList.map ev)
 |_=>none
def z2I(or:Option Or)(e:Eff):Option Eff:=
 match or with
 |some (.b d)=>match e.v with
  | .cv (.lit (.bool t))=>some {e with v:=z5u d,ob:=(t=d)::e.ob}
  |_=>none
 |_=>some e
def z6B:Op→Bool
 | .alloc _| .box .. | .buildSlice .. | .makeSlice .. | .call {callee:= .builtin .append, .. }| .call {callee:= .value _, .. }=>true
 |_=>false
def Q9(ops:List Oper)(i:Nat):Nat:=(ops.take i).countP fun o=>z6B o.op
def W8(ops:List Oper)(tm:List MV)(o:Oper):Option Bool:=
 match o.guard with
 |none=>some true
 |some (j,want)=>
  match ops[j]? with
  |some oj=>match oj.dst with
   |some d=>match tm[d]? with
    |some (.cv (.lit (.bool t)))=>some (t==want)
    |some (.cv (.lit (.tuple _)))=>some false
    |_=>none
   |none=>none
  |none=>none
def z4i(tm:List MV)(dst:Option Tmp)(v:MV):List MV:=
 match dst with
 |some d=>tm.set d v
 |none=>tm
def Q8(hp:List Blk):List (Nat×Blk)→List Blk
 | []=>hp
 |(i,b)::r=>Q8 (hp.set i b) r
def Z5(hp:List Blk)(slot:Nat)(e:Eff):List Blk:=
 match e.al with
 |some cs=>(Q8 hp e.wr).set slot (some cs)
 |none=>Q8 hp e.wr
def mOp(P:Program)(ops:List Oper)(base:Nat)(or:Option Or)(i:Nat)(s:St):Option (St×Option Eff):=
 match ops[i]? with
 |none=>none
 |some o=>
  match W8 ops s.tm o with
  |none=>none
  |some false=>some ({s with tm:=z4i s.tm o.dst undefM},none)
  |some true=>
   match j8 P or (z0D s.tm) s.hp (base+Q9 ops i) o.op with
   |none=>none
   |some e=>
    match z2I or e with
    |none=>none
    |some e=>some (⟨z4i s.tm o.dst e.v,Z5 s.hp (base+Q9 ops i) e⟩,some e)
abbrev Ors:=List (Nat×Or)
def z4x(n:Nat):Ors→Option Or×Ors
 |(k,o)::r=>if k==n then(some o,r)else(none,(k,o)::r)
 | []=>(none,[])
def z7D(ops:List Oper)(i:Nat):Bool:=ops.any fun o=>match o.guard with|some (j,_)=>j==i|none=>false
def zeL(ops:List Oper)(i:Nat):Bool:=match ops[i]? with|some o=>(match o.op with| .load .. =>true|_=>false)|none=>false
inductive MRes where
 |ok (n:Nat) (ors:Ors) (s:St) (ob:List Prop) (es:List (Nat×Option Eff))
 |bad (n i:Nat) (s:St)
def z9S(P:Program)(ops:List Oper)(base:Nat)(ask:Bool):List Nat→Nat→Ors→St→List Prop→List (Nat×Option Eff)→MRes
 | [],n,ors,s,ob,es=> .ok n ors s ob es.reverse
 |i::is,n,ors,s,ob,es=>
  match z4x n ors with
  |(or,ors')=>
   if ask&&or.isNone&&zeL ops i then .bad n i s else
   match mOp P ops base or i s with
   |none=> .bad n i s
   |some (s',none)=>z9S P ops base ask is (n+1) ors' s' ob ((i,none)::es)
   |some (s',some e)=>
    if ask&&or.isNone&&z7D ops i then .bad n i s
    else z9S P ops base ask is (n+1) ors' s' (ob++e.ob) ((i,some e)::es)
def z32(base:Nat)(ops:List Oper)(i:Nat)(e:Eff):List Nat:=if e.al.isSome then [base+Q9 ops i]else []
def z2e(base:Nat)(ops:List Oper)(i j:Nat)(e f:Eff):Bool:=
 let wi:=e.wr.map (·.1)++z32 base ops i e
 let wj:=f.wr.map (·.1)++z32 base ops j f
 wi.all (fun x=>!(f.rd++wj).contains x)&&wj.all (fun x=>!(e.rd++wi).contains x)
def z5j(ops:List Oper)(i j:Nat):Bool:=
 match ops[j]? with
 |some o=>o.after.toList.any fun e=>e.on==i&&Region.binds .any e
 |none=>false
def z3o(ops:List Oper)(i j:Nat):Bool:=
 match ops[i]?,ops[j]? with
 |some x,some y=>x.apart ops.toArray y
 |_,_=>false
def z6W(base:Nat)(ops:List Oper)(i:Nat)(e:Option Eff)(j:Nat)(f:Option Eff):Bool:=
 z5j ops i j||(z3o ops i j&&match e,f with|some e,some f=>z2e base ops i j e f|_,_=>true)
def z4a(base:Nat)(ops:List Oper):List (Nat×Option Eff)→Bool
 | []=>true
 |(i,e)::r=>r.all (fun p=>z6W base ops i e p.1 p.2)&&z4a base ops r
def U3:Nat→List Oper→Bool
 |_,[]=>true
 |i,o::r=>(o.after.toList.all fun e=>!Region.binds .any e||decide (e.on<i))&&U3 (i+1) r
inductive Out where
 |ret (v:CV) (ob:List Prop)
 |retM (v:MV) (hp:List Blk) (n:Nat) (ob:List Prop)
 |stop (todo:List Item) (s:St) (ob:List Prop)
 |fail (n:Nat) (why:Nat) (op:List Oper) (s:St) (i:Nat)
def z6i(P:Program)(s:St):ResultVar→Option MV
 | .tmp t=>s.tm[t]?
 | .cell a T=>
  match s.tm[a]? with
  |some (.ptr i off)=>match s.hp[i]? with
   |some (some cells)=>
    let l:=(cells.drop off).take (P.cellsOf T)
    if l.length=P.cellsOf T then U9 P T l else none
   |_=>none
  |_=>none
def z0v(P:Program)(s:St):List ResultVar→Option (List MV)
 | []=>some []
 |r::rs=>match z6i P s r,z0v P s rs with
  |some m,some ms=>some (m::ms)
  |_,_=>none
def z55:List MV→MV
 | [c]=>c
 |cs=> .tup cs
def zbo:List CV→CV
 | [c]=>c
 |cs=> .tup cs
def z4E(P:Program)(rs:List ResultVar)(n:Nat)(s:St)(ors:Ors)(ob:List Prop):Out:=
 match z0v P s rs with
 |none=> .fail n 1 [] s 0
 |some ms=>
  match z0d s.hp ms (match z4x n ors with|(some (.r _ es),_)=>es|_=>[])with
  |none=> .fail n 2 [] s 0
  |some (cs,_,o)=> .ret (zbo cs) (ob++o)
def z2E(n:Nat):List Blk→Bool
 | []=>true
 |some cells::r=>cells.all (MV.under n)&&z2E n r
 |none::r=>z2E n r
def z8f:Nat→List Nat→Nat
 |k,i::is=>if i==k then z8f (k+1) is else k
 |k,[]=>k
def CvL(l:List MV):Prop:= ∀m∈l,∃c,m= .cv c
def CellsC:List Blk→List Prop
 | []=>[]
 |some cells::r=>CvL cells::CellsC r
 |none::r=>CellsC r
def z2G(P:Program)(rs:List ResultVar)(m:Nat)(ask:Bool)(n:Nat)(s:St)(ors:Ors)(ob:List Prop):Out:=
 match z0v P s rs with
 |none=> .fail n 1 [] s 0
 |some ms=>
  match z4x n ors with
  |(some (.m σ _ _),_)=>
   match(z55 ms).inv σ with
   |some v=>if V8 σ&&σ.length==m then .retM v (σ.map fun i=>s.hp.getD i none) (z8f 0 σ) (ob++CellsC (σ.map fun i=>s.hp.getD i none))else .fail n 15 [] s 0
   |none=> .fail n 15 [] s 0
  |(or,_)=>
   if(z55 ms).under m then
    match or with
    |some .a=> .retM (z55 ms) (s.hp.take m) m (ob++[m≤s.hp.length,BlksCv (s.hp.take m)])
    |or=>if ask&&or.isNone then .fail n 14 [] s 0 else if z2E m (s.hp.take m)then .retM (z55 ms) (s.hp.take m) m (ob++[m≤s.hp.length])else .fail n 13 [] s 0
   else .fail n 2 [] s 0
def z6c(P:Program)(rs:List ResultVar)(md:Option Nat)(ask:Bool)(n:Nat)(s:St)(ors:Ors)(ob:List Prop):Out:=
 match md with
 |none=>z4E P rs n s ors ob
 |some m=>z2G P rs m ask n s ors ob
def run(P:Program)(rs:List ResultVar)(md:Option Nat)(ask:Bool):Nat→Nat→List Item→St→Ors→List Prop→Out
 |0,n,_,s,_,_=> .fail n 3 [] s 0
 |fuel+1,n,todo,s,ors,ob=>
  match todo with
  | []| .code .ret::_=>z6c P rs md ask n s ors ob
  | .code .skip::k| .code (.label _)::k| .inBlock _::k| .inScope _::k=>run P rs md ask fuel n k s ors ob
  | .code (.seq a b)::k=>run P rs md ask fuel n (.code a:: .code b::k) s ors ob
  | .code (.block id c)::k=>run P rs md ask fuel n (.code c:: .inBlock id::k) s ors ob
  | .code (.scope c)::k=>run P rs md ask fuel n (.code c:: .inScope c::k) s ors ob
  | .code (.exit id)::k=>match exitTo id k with|some k=>run P rs md ask fuel n k s ors ob|none=> .fail n 4 [] s 0
  | .code (.cond c a b)::k=>
   match z0D s.tm c with
   | .cv (.lit (.bool t))=>
    match z4x n ors with
    |(some (.b d),ors)=>run P rs md ask fuel (n+1) (.code (match d with|true=>a|false=>b)::k) s ors (ob++[t=d])
    |(o,ors)=>
     if ask&&o.isNone then .fail n 5 [] ⟨[z5u t],[]⟩ 0 else
     match t with
     |true=>run P rs md ask fuel (n+1) (.code a::k) s ors ob
     |false=>run P rs md ask fuel (n+1) (.code b::k) s ors ob
   |_=> .fail n 6 [] s 0
  | .code (.loop c)::k| .inLoop c::k=>
   match z4x n ors with
   |(some .stop,_)=> .stop (.inLoop c::k) s ob
   |(or,ors)=>if ask&&or.isNone then .fail n 12 [] s 0 else run P rs md ask fuel (n+1) (.code c:: .inLoop c::k) s ors ob
  | .code (.region _ ops draw)::k=>
   match z9S P ops.toList s.hp.length ask (List.range ops.size) n ors {s with hp:=s.hp++List.replicate (Q9 ops.toList ops.size) none} [] []with
   | .ok n ors s' o es=>
    if draw&&!(z4a s.hp.length ops.toList es&&U3 0 ops.toList&&P.follows .mixedOrders)then .fail n 7 ops.toList s 0
    else run P rs md ask fuel n k s' ors (ob++o)
   | .bad n i s=> .fail n 8 ops.toList s i
  |_=> .fail n 9 [] s 0
def z30(P:Program)(f:FuncId)(args:List CV):Option (List Item×St×List ResultVar):=
 match P.funcs[f]? with
 |some fn=>match fn.body with
  |some c=>some ([.code c],⟨args.map .cv++List.replicate (fn.ntmps-args.length) undefM,[]⟩,fn.results.toList)
  |none=>none
 |none=>none
def zar(P:Program)(f:FuncId)(args:List CV)(ors:Ors)(ask:Bool)(fuel:Nat):Out:=
 match z30 P f args with
 |some (todo,s,rs)=>run P rs none ask fuel 0 todo s ors []
 |none=> .fail 0 10 [] ⟨[],[]⟩ 0
def z71(P:Program)(f:FuncId)(todo:List Item)(s:St)(ors:Ors)(ask:Bool)(fuel:Nat):Out:=
 match P.funcs[f]? with
 |some fn=>run P fn.results.toList none ask fuel 0 todo s ors []
 |none=> .fail 0 11 [] ⟨[],[]⟩ 0
def zcY(P:Program)(f:FuncId)(args:List CV)(ors:Ors)(ask:Bool)(fuel:Nat):Out:=
 match z30 P f args with
 |some (todo,s,rs)=>run P rs (some 1) ask fuel 0 todo s ors []
 |none=> .fail 0 10 [] ⟨[],[]⟩ 0
def z7X(P:Program)(f:FuncId)(hp:List Blk)(args:List MV)(ors:Ors)(ask:Bool)(fuel:Nat):Out:=
 match P.funcs[f]? with
 |some fn=>match fn.body with
  |some c=>run P fn.results.toList (some hp.length) ask fuel 0 [.code c] ⟨args++List.replicate (fn.ntmps-args.length) undefM,hp⟩ ors []
  |none=> .fail 0 10 [] ⟨[],[]⟩ 0
 |none=> .fail 0 10 [] ⟨[],[]⟩ 0
def z4l(P:Program)(f:FuncId)(m:Nat)(todo:List Item)(s:St)(ors:Ors)(ask:Bool)(fuel:Nat):Out:=
 match P.funcs[f]? with
 |some fn=>run P fn.results.toList (some m) ask fuel 0 todo s ors []
 |none=> .fail 0 11 [] ⟨[],[]⟩ 0
def z1b:Code→List Item→List (List Item)
 | .seq a b,k=>z1b a (.code b::k)++z1b b k
 | .cond _ a b,k=>z1b a k++z1b b k
 | .block id c,k=>z1b c (.inBlock id::k)
 | .scope c,k=>z1b c (.inScope c::k)
 | .loop c,k=>(.inLoop c::k)::z1b c (.inLoop c::k)
 |_,_=>[]
def loopHead(P:Program)(f:FuncId)(n:Nat):List Item:=
 match P.funcs[f]? with
 |some fn=>match fn.body with
  |some c=>(z1b c []).getD n []
  |none=>[]
 |none=>[]
end Go.Fw
