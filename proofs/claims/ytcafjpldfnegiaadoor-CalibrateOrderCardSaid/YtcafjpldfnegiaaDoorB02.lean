/- A part of the proof that the law returns true for every input: an executor for the model's code, and what functions of the program compute. -/
import Derived.Below
open Go IntKind
namespace Go.Fw
inductive CV where
 |lit (x:Value)
 |lst (n:Nat) (es:List CV)
 |agg (cs:List CV)
 |tup (vs:List CV)
inductive MV where
 |cv (c:CV)
 |ptr (i off:Nat)
 |sl (i off len sz:Nat)
 |pim (es:List CV) (off:Nat)
 |agg (cs:List MV)
 |tup (vs:List MV)
 |fn (g:FuncId) (first cap:List MV)
 |unk
abbrev Blk:=Option (List MV)
def own(cs:List CV):List MV:=cs.map .cv
structure St where
 tm:List MV
 hp:List Blk
inductive Or where
 |a
 |r (v:CV) (es:List (List CV):=[])
 |k (v:CV) (es:List (List CV):=[])
 |b (d:Bool)
 |e (v:MV)
 |m (σ:List Nat) (v:MV) (hp:List Blk)
 |f (v:MV) (cells:List CV) (es:List (List CV):=[])
 |g (v:MV) (cells:List CV) (es:List (List CV):=[])
 |stop
structure Eff where
 v:MV
 rd:List Nat
 wr:List (Nat×Blk)
 al:Option (List MV)
 ob:List Prop
def undefM:MV:= .cv (.lit undef)
mutual
def MV.toCV:MV→Option CV
 | .cv c=>some c
 | .agg ms=>match MV.toCVs ms with|some cs=>some (.agg cs)|none=>none
 | .tup ms=>match MV.toCVs ms with|some cs=>some (.tup cs)|none=>none
 |_=>none
def MV.toCVs:List MV→Option (List CV)
 | []=>some []
 |m::ms=>match MV.toCV m with
  |some c=>match MV.toCVs ms with|some cs=>some (c::cs)|none=>none
  |none=>none
end
def MV.cells:MV→List MV
 | .cv (.agg cs)=>cs.map .cv
 | .cv (.lit x)=>x.cells.toList.map fun v=> .cv (.lit v)
 | .agg ms=>ms
 |m=>[m]
def MV.agg?:MV→Option (List MV)
 | .cv (.agg cs)=>some (cs.map .cv)
 | .cv (.lit (.agg a))=>some (a.toList.map fun v=> .cv (.lit v))
 | .agg ms=>some ms
 |_=>none
def MV.known:MV→Bool
 | .unk=>false
 |_=>true
def MV.one:MV→Bool
 | .cv (.lit (.agg _))| .cv (.lit (.tuple _))| .cv (.agg _)| .cv (.tup _)| .agg _| .tup _| .unk=>false
 |_=>true
def z07:TypeDesc→Bool
 | .struct _| .array _ _=>true
 |_=>false
def z0D(tm:List MV):Operand→MV
 | .tmp t=>tm.getD t undefM
 | .const v=> .cv (.lit v)
 | .global _=> .unk
 | .func f=> .cv (.lit (.func (.func f) #[] #[]))
def Z6(P:Program)(T:TypeId):Option (List MV):=
 match P.info? T with
 |some i=>match i.zero with
  |some v=>some (v.cells.toList.map fun x=> .cv (.lit x))
  |none=>none
 |none=>none
def U9(P:Program)(T:TypeId)(cells:List MV):Option MV:=
 match P.underlying T with
 |some d=>if z07 d then some (.agg cells)else match cells with| [m]=>some m|_=>none
 |none=>none
def z2n(P:Program)(f:FuncId):Bool:=
 match P.funcs[f]? with
 |some fn=>!(fn.name== "runtime.NumGoroutine")&&fn.body.isSome
 |none=>false
abbrev Imm:=Nat→Option (List Value)
abbrev Pl:=Nat→Option (Nat×Nat)
mutual
def CV.rep(Im:Imm):CV→Value→Prop
 | .lit x,y=>y=x
 | .lst n es, y => ∃ a cap, y = .slice a n cap ∧ n ≤ cap ∧ ((es = [] ∧ n = 0) ∨
     ∃b off cs,a=some ⟨b,off,none⟩∧Im b=some cs∧CV.repL Im es ((cs.drop off).take es.length))
 | .agg cs,y=> ∃ys:Array Value,y= .agg ys∧CV.repL Im cs ys.toList
 | .tup cs,y=> ∃ys:Array Value,y= .tuple ys∧CV.repL Im cs ys.toList
def CV.repL(Im:Imm):List CV→List Value→Prop
 | [],l=>l=[]
 |c::cs,l=> ∃y ys,l=y::ys∧CV.rep Im c y∧CV.repL Im cs ys
end
mutual
def MV.rep(Im:Imm)(ρ:Pl):MV→Value→Prop
 | .cv c,y=>c.rep Im y
 | .ptr i off,y=> ∃b κ,ρ i=some (b,κ)∧y= .pointer (some ⟨b,off,none⟩)
 | .sl i off len sz,y=> ∃b κ cap,ρ i=some (b,κ)∧y= .slice (some ⟨b,off,none⟩) len cap∧len≤cap∧off+cap*sz≤κ
 | .pim es off,y=> ∃b o cs,y= .pointer (some ⟨b,o+off,none⟩)∧Im b=some cs∧CV.repL Im es ((cs.drop o).take es.length)
 | .agg cs,y=> ∃ys:Array Value,y= .agg ys∧MV.repL Im ρ cs ys.toList
 | .tup cs,y=> ∃ys:Array Value,y= .tuple ys∧MV.repL Im ρ cs ys.toList
 | .fn g fs cs,y=> ∃f c:Array Value,y= .func (.func g) f c∧MV.repL Im ρ fs f.toList∧MV.repL Im ρ cs c.toList
 | .unk,_=>True
def MV.repL(Im:Imm)(ρ:Pl):List MV→List Value→Prop
 | [],l=>l=[]
 |c::cs,l=> ∃y ys,l=y::ys∧MV.rep Im ρ c y∧MV.repL Im ρ cs ys
end
mutual
def CV.flat:CV→Bool
 | .lit _=>true
 | .lst _ _=>false
 | .agg cs=>CV.flats cs
 | .tup cs=>CV.flats cs
def CV.flats:List CV→Bool
 | []=>true
 |c::cs=>CV.flat c&&CV.flats cs
end
def ImOk(Im:Imm)(w:World):Prop:= ∀b cs,Im b=some cs→ ∃c T fz,w.heap[b]?=some (.cells c T fz)∧c.toList=cs
def Imm.le(I J:Imm):Prop:= ∀b cs,I b=some cs→J b=some cs
def W9(P:Program)(f:FuncId)(args:List CV)(Q:CV→Prop):Prop:=
 ∀(Im:Imm) (w:World) (vs:Array Value),ImOk Im w→CV.repL Im args vs.toList→
  Calls P f vs w fun e w'=> ∃y v Im',e= .returned y∧Q v∧v.rep Im' y∧Im.le Im'∧ImOk Im' w'∧
   RowKit.Below w.heap.size w w'∧ ∀b,Im' b≠none→Im b≠none∨w.heap.size≤b
def PCall (P : Program) (f : FuncId) (args : List CV) (v : CV) : Prop := W9 P f args (· = v)
structure Start where
 w:World
 im:Imm
 pl:Pl
def Start.own(s:Start)(b:Nat):Prop:=s.w.heap.size≤b∨ ∃i κ,s.pl i=some (b,κ)
structure Blw(s:Start)(w:World):Prop where
 os:w.os=s.w.os
 tape:w.tape=s.w.tape
 output:w.output=s.w.output
 size:s.w.heap.size≤w.heap.size
 block: ∀k,¬s.own k→w.heap[k]?=s.w.heap[k]?
structure HRel(w0:Start)(hp:List Blk)(I:Imm)(p:Pl)(w:World):Prop where
 below:Blw w0 w
 im:ImOk I w
 imf: ∀b,I b≠none→w0.im b≠none∨w0.own b
 live: ∀(i:Nat) (cells:List MV),hp[i]?=some (some cells)→ ∃b κ c T,p i=some (b,κ)∧w.heap[b]?=some (.cells c T (0,0))∧c.size=κ∧
  MV.repL I p cells (c.toList.take cells.length)∧w0.own b∧I b=none
 inj: ∀(i j:Nat) (ci cj:List MV) (b κ b' κ':Nat),hp[i]?=some (some ci)→hp[j]?=some (some cj)→i≠j→p i=some (b,κ)→p j=some (b',κ')→b≠b'
def z43(P:Program)(f:FuncId)(hp:List Blk)(args:List MV)(Q:MV→List Blk→Prop):Prop:=
 ∀(I:Imm) (p:Pl) (w:World) (vs:Array Value),HRel ⟨w,I,p⟩ hp I p w→(∀k,k<hp.length↔p k≠none)→MV.repL I p args vs.toList→
  Calls P f vs w fun e w'=> ∃y v hp' I',e= .returned y∧Q v hp'∧v.rep I' p y∧I.le I'∧HRel ⟨w,I,p⟩ hp' I' p w'
def z2j(P:Program)(f:FuncId)(hp:List Blk)(args:List MV)(v:MV)(hp':List Blk):Prop:=z43 P f hp args (fun a b=>a=v∧b=hp')
def z4r(P:Program)(f:FuncId)(args:List CV)(Q:MV→List CV→Prop):Prop:=
 ∀(Im:Imm) (w:World) (vs:Array Value),ImOk Im w→CV.repL Im args vs.toList→
  Calls P f vs w fun e w'=> ∃y v cells Im' b κ c T,e= .returned y∧Q v cells∧v.rep Im' (fun k=>if k=0 then some (b,κ)else none) y∧Im.le Im'∧ImOk Im' w'∧
   RowKit.Below w.heap.size w w'∧(∀b,Im' b≠none→Im b≠none∨w.heap.size≤b)∧w.heap.size≤b∧Im' b=none∧w'.heap[b]?=some (.cells c T (0,0))∧c.size=κ∧
   CV.repL Im' cells (c.toList.take cells.length)
def z50(P:Program)(f:FuncId)(args:List CV)(v:MV)(cells:List CV):Prop:=z4r P f args (fun a b=>a=v∧b=cells)
def zcv(P:Program)(f:FuncId)(args:List CV)(v:MV)(cells:List CV):Prop:=z50 P f args v cells∧CV.flats cells=true
def MV.slM:MV→Bool
 | .sl 0 _ _ _=>true
 |_=>false
end Go.Fw
