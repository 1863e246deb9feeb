/- A part of the proof that the law returns true for every input: an executor for the model's code, and what functions of the program compute. -/
import Derived.Test.YtcafjpldfnegiaaDoorB05
import Derived.Test.YtcafjpldfnegiaaDoorB06
import Derived.Test.YtcafjpldfnegiaaDoorB11
import Derived.Test.YtcafjpldfnegiaaDoorB12
import Derived.RangeFuncNested
import Derived.RangeFuncBound
import Derived.RangeFuncCalls
import Derived.RangeFuncLeaves
import Derived.Shelf.Abstract
import Derived.Shelf.RegionOpen
import Derived.WalkKit
import Derived.OwnWalkIn
import Derived.TacticsInMore
import Derived.LoopNIn
import Derived.LoopIn
open Go IntKind
open Go Go.Proofs Go.Proofs.YtcafjpldfnegiaaDoor
namespace Go.Fw
open Go.ChangeShapes Go.WideShapes Go.ChangeAt Go.RowKit
set_option maxRecDepth 100000
inductive CT where
 |b
 |i (k:IntKind)
 |s
def CT.ok:CT→Value→Prop
 | .b,v=> ∃b,v= .bool b
 | .i k,v=> ∃n,v= .int k n∧(Lit.int k n).wf=true
 | .s,v=> ∃s,v= .string s
def CTs:List CT→List Value→Prop
 | [],l=>l=[]
 |c::cs,l=> ∃v vs,l=v::vs∧c.ok v∧CTs cs vs
theorem CTs.length: ∀{ts:List CT} {l:List Value},CTs ts l→l.length=ts.length
 | [],l,h=>by simp only[CTs]at h;subst h;rfl
 |c::cs,l,h=>by
  simp only[CTs]at h
  obtain⟨v,vs,rfl,_,h2⟩:=h
  simp[CTs.length h2]
theorem CTs.app: ∀{ts us:List CT} {l m:List Value},CTs ts l→CTs us m→CTs (ts++us) (l++m)
 | [],us,l,m,h,k=>by simp only[CTs]at h;subst h;simpa using k
 |c::cs,us,l,m,h,k=>by
  simp only[CTs]at h
  obtain⟨v,vs,rfl,h1,h2⟩:=h
  simp only[List.cons_append,CTs]
  exact⟨v,vs++m,rfl,h1,CTs.app h2 k⟩
def z9e(P:Program)(f:TypeId→Option (List CT)):Nat→List Field→Option (List CT)
 |_,[]=>some []
 |off,fd::fs=>
  if fd.offset=off then
   match f fd.type with
   |some ts=>
    if ts.length=P.cellsOf fd.type then
     match z9e P f (off+ts.length) fs with
     |some r=>some (ts++r)
     |none=>none
    else none
   |none=>none
  else none
def zgC(ts:List CT):Nat→List CT
 |0=>[]
 |n+1=>ts++zgC ts n
def z4v(P:Program):Nat→TypeId→Option (List CT)
 |0,_=>none
 |m+1,t=>
  match P.underlying t with
  |some .bool=>some [.b]
  |some (.int k)=>some [.i k]
  |some .string=>some [.s]
  |some (.struct fs)=>match z9e P (z4v P m) 0 fs.toList with
   |some ts=>if ts.length=P.cellsOf t then some ts else none
   |none=>none
  |some (.array n e)=>match z4v P m e with
   |some ts=>if ts.length=P.cellsOf e∧n*ts.length=P.cellsOf t then some (zgC ts n)else none
   |none=>none
  |_=>none
section
variable{H:Type}{enc:TypeId×Value→H}{P:Program}{w:World}{base:Nat}{sp:Nat→Bool}{hd:Bool}
theorem z1G{α β:Type}{f:α→Option β}{a:α}{l:List α}{r:List β}(h:(a::l).mapM f=some r): ∃x xs,f a=some x∧l.mapM f=some xs∧r=x::xs:=by
 rw[List.mapM_cons]at h
 cases hf:f a with
 |none=>simp[hf]at h
 |some x=>
  cases hl:l.mapM f with
  |none=>simp[hf,hl]at h
  |some xs=>simp[hf,hl]at h;exact⟨x,xs,rfl,rfl,h.symm⟩
theorem z6O {f : TypeId → Option (List CT)} {g : TypeId → List Value → Option (DataW H × List MemPlace)} (hfg : ∀ t l x ts, g t l = some x → f t = some ts → CTs ts l) (cs : List Value) :
    ∀(fs:List Field) (off:Nat) (ts:List CT) (xs:List (DataW H×List MemPlace)),z9e P f off fs=some ts→(fs.mapM fun fd=>g fd.type ((cs.drop fd.offset).take (P.cellsOf fd.type)))=some xs→off+ts.length=cs.length→CTs ts (cs.drop off)
 | [],off,ts,xs,h,_,hl=>by
  simp only[z9e]at h;cases h
  simp at hl
  simp only[CTs]
  rw[List.drop_eq_nil_iff];omega
 |fd::fs,off,ts,xs,h,hm,hl=>by
  simp only[z9e]at h
  split at h
  · rename_i ho
    split at h
    · rename_i ts1 h1
      split at h
      · rename_i hlen
        split at h
        · rename_i r hr
          cases h
          obtain⟨x,xs',e1,e2,_⟩:=z1G hm
          have k1:=hfg _ _ _ _ e1 h1
          simp only[List.length_append]at hl
          have k2:=z6O hfg cs fs (off+ts1.length) r xs' hr e2 (by omega)
          have:=CTs.app k1 k2
          rw[ho,←hlen]at this
          rw[←List.drop_drop,List.take_append_drop]at this
          exact this
        · cases h
      · cases h
    · cases h
  · cases h
theorem z9N {e : TypeId} {ts : List CT} {g : List Value → Option (DataW H × List MemPlace)} (hg : ∀ l x, g l = some x → CTs ts l) (hlen : ts.length = P.cellsOf e) (cs : List Value) :
    ∀(n k:Nat) (xs:List (DataW H×List MemPlace)),((List.range' k n).mapM fun i=>g ((cs.drop (i*P.cellsOf e)).take (P.cellsOf e)))=some xs→(k+n)*ts.length=cs.length→CTs (zgC ts n) (cs.drop (k*ts.length))
 |0,k,xs,_,hl=>by
  simp only[zgC,CTs]
  rw[List.drop_eq_nil_iff];simp at hl;omega
 |n+1,k,xs,h,hl=>by
  rw[List.range'_succ]at h
  obtain⟨x,xs',e1,e2,_⟩:=z1G h
  have k1:=hg _ _ e1
  have k2:=z9N hg hlen cs n (k+1) xs' e2 (by rw[←hl];congr 1;omega)
  have:=CTs.app k1 k2
  rw[←hlen,Nat.add_mul,Nat.one_mul,←List.drop_drop,List.take_append_drop]at this
  exact this
theorem z4f: ∀(m fuel:Nat) (t:TypeId) (cs:List Value) (x:DataW H×List MemPlace) (ts:List CT),DataW.trod enc P w base sp hd fuel t cs=some x→z4v P m t=some ts→CTs ts cs
 |0,_,_,_,_,_,_,h=>by simp[z4v]at h
 |m+1,0,_,_,_,_,h,_=>by simp[DataW.trod]at h
 |m+1,fuel+1,t,cs,x,ts,h,hf=>by
  simp only[z4v]at hf
  split at hf
  · rename_i hu
    cases hf
    simp only[DataW.trod,hu]at h
    split at h<;>first|(rename_i he;cases he;done)|skip
    all_goals first|(simp only[CTs,CT.ok];exact⟨_,_,rfl,⟨_,rfl⟩,rfl⟩)|simp_all
  · rename_i k hu
    cases hf
    simp only[DataW.trod,hu]at h
    split at h
    all_goals first|(simp_all;done)|skip
    all_goals (rename_i he;cases he;split at h;rename_i hk;obtain⟨rfl,hw⟩:=hk;simp only[CTs,CT.ok];exact⟨_,_,rfl,⟨_,rfl,hw⟩,rfl⟩;cases h)
  · rename_i hu
    cases hf
    simp only[DataW.trod,hu]at h
    split at h<;>first|(rename_i he;cases he;done)|skip
    all_goals first|(simp only[CTs,CT.ok];exact⟨_,_,rfl,⟨_,rfl⟩,rfl⟩)|simp_all
  · rename_i fs hu
    split at hf
    · rename_i ts' hts
      split at hf
      · rename_i hl
        cases hf
        have h':(if cs.length=P.cellsOf t then(fs.toList.mapM fun f=>DataW.trod enc P w base sp hd fuel f.type ((cs.drop f.offset).take (P.cellsOf f.type))).map fun xs=>(DataW.agg (xs.map (·.1)),xs.flatMap (·.2))else none)=some x:=by
         rw[←h];simp only[DataW.trod,hu]
        split at h'
        · rename_i hc
          cases hm:(fs.toList.mapM fun f=>DataW.trod enc P w base sp hd fuel f.type ((cs.drop f.offset).take (P.cellsOf f.type)))with
          |none=>rw[hm]at h';cases h'
          |some xs=>
           have:=z6O (P:=P) (fun t l x ts a b=>z4f m fuel t l x ts a b) cs _ 0 _ xs hts hm (by omega)
           simpa using this
        · cases h'
      · cases hf
    · cases hf
  · rename_i n e hu
    split at hf
    · rename_i ts' hts
      split at hf
      · rename_i hl
        cases hf
        have h':(if cs.length=P.cellsOf t then((List.range n).mapM fun i=>DataW.trod enc P w base sp hd fuel e ((cs.drop (i*P.cellsOf e)).take (P.cellsOf e))).map fun xs=>(DataW.agg (xs.map (·.1)),xs.flatMap (·.2))else none)=some x:=by
         rw[←h];simp only[DataW.trod,hu]
        split at h'
        · rename_i hc
          cases hm:((List.range n).mapM fun i=>DataW.trod enc P w base sp hd fuel e ((cs.drop (i*P.cellsOf e)).take (P.cellsOf e)))with
          |none=>rw[hm]at h';cases h'
          |some xs=>
           rw[List.range_eq_range']at hm
           have:=z9N (P:=P) (e:=e) (fun l x a=>z4f m fuel e l x ts' a hts) hl.1 cs n 0 xs hm (by rw[hc,←hl.2];simp)
           simpa using this
        · cases h'
      · cases hf
    · cases hf
  · cases hf
end
end Go.Fw
namespace Go.Fw
theorem AllP.of_mem: ∀{l:List Prop},(∀q∈l,q)→AllP l
 | [],_=>trivial
 | [p],h=>h p (by simp)
 |p::p'::ps,h=>⟨h p (by simp),AllP.of_mem (l:=p'::ps) (fun q hq=>h q (by simp only[List.mem_cons]at hq ⊢;exact .inr hq))⟩
inductive Ps:List Prop→Prop where
 |nil:Ps []
 |cons {p:Prop} {l:List Prop} (h:p) (t:Ps l):Ps (p::l)
theorem Ps.mem: ∀{l:List Prop},Ps l→ ∀q∈l,q
 | [],_,q,hq=>by simp at hq
 |p::ps,.cons h t,q,hq=>by
  simp only[List.mem_cons]at hq
  rcases hq with rfl|hq
  · exact h
  · exact t.mem q hq
theorem Ps.all{l:List Prop}(h:Ps l):AllP l:=AllP.of_mem h.mem
def Out.pick(keep σ:List Nat):Out→Option (List Item×St×List Prop)
 | .stop todo s ob=>some (todo,s.sel keep σ,ob++CellsC (σ.map fun i=>s.hp.getD i none))
 |_=>none
theorem z1n {keep σ : List Nat} {o : Out} {todo : List Item} {s : St} {ob : List Prop} (h : o.pick keep σ = some (todo, s, ob)) :
    ∃s0 ob0,o= .stop todo s0 ob0∧s=s0.sel keep σ∧ob=ob0++CellsC (σ.map fun i=>s0.hp.getD i none):=by
 unfold Out.pick at h
 split at h
 · rename_i t s0 ob0
   simp only[Option.some.injEq,Prod.mk.injEq]at h
   obtain⟨rfl,rfl,rfl⟩:=h
   exact⟨_,_,rfl,rfl,rfl⟩
 · cases h
theorem AllP.left{a b:List Prop}(h:AllP (a++b)):AllP a:=AllP.of_mem fun q hq=>h.mem q (List.mem_append.2 (.inl hq))
theorem AllP.right{a b:List Prop}(h:AllP (a++b)):AllP b:=AllP.of_mem fun q hq=>h.mem q (List.mem_append.2 (.inr hq))
section
variable{P:Program}{f:FuncId}{todo todo':List Item}{s s':St}{keep σ:List Nat}{ors:Ors}{ob:List Prop}
theorem okS{R:Goal}(h:(z71 P f todo s ors false 100000).pick keep σ=some (todo',s',ob))(hσ:V8 σ=true)(hob:Ps ob)(hn:j7 R.n σ=true)(hk:Ok P f todo' s' R):Ok P f todo s R:=by
 obtain⟨s0,ob0,h0,rfl,rfl⟩:=z1n h
 exact zdB 100000 h0 hob.all.left (Ok.sel keep σ hσ hn hob.all.right hk)
theorem zgY{m:Nat}{R:Goal}(h:(z4l P f m todo s ors false 100000).pick keep σ=some (todo',s',ob))(hσ:V8 σ=true)(hob:Ps ob)(hn:j7 R.n σ=true)(hk:Ok P f todo' s' R):Ok P f todo s R:=by
 obtain⟨s0,ob0,h0,rfl,rfl⟩:=z1n h
 exact zbv 100000 h0 hob.all.left (Ok.sel keep σ hσ hn hob.all.right hk)
theorem zgt{args:List CV}{R:CV→Prop}(h:(zar P f args ors false 100000).pick keep σ=some (todo',s',ob))(hσ:V8 σ=true)(hob:Ps ob)(hk:Ok P f todo' s' (.of R)):W9 P f args R:=by
 obtain⟨s0,ob0,h0,rfl,rfl⟩:=z1n h
 exact z6J 100000 h0 hob.all.left (Ok.sel keep σ hσ rfl hob.all.right hk)
theorem zbS{args:List CV}{Q:MV→List CV→Prop}(h:(zcY P f args ors false 100000).pick keep σ=some (todo',s',ob))(hσ:V8 σ=true)(hob:Ps ob)(hk:Ok P f todo' s' (.fresh (z3F Q))):z4r P f args Q:=by
 obtain⟨s0,ob0,h0,rfl,rfl⟩:=z1n h
 exact z6q 100000 h0 hob.all.left (Ok.sel keep σ hσ rfl hob.all.right hk)
theorem zbM{hp:List Blk}{args:List MV}{Q:MV→List Blk→Prop}(h:(z7X P f hp args ors false 100000).pick keep σ=some (todo',s',ob))(hσ:V8 σ=true)(hob:Ps ob)(hn:j7 hp.length σ=true)(hk:Ok P f todo' s' (.lent hp.length Q)):z43 P f hp args Q:=by
 obtain⟨s0,ob0,h0,rfl,rfl⟩:=z1n h
 exact z6b 100000 h0 hob.all.left (Ok.sel keep σ hσ hn hob.all.right hk)
theorem okR{v:CV}{R:Goal}(h:z71 P f todo s ors false 100000= .ret v ob)(hob:Ps ob)(hR:R.c v):Ok P f todo s R:=zfY 100000 h hob.all hR
theorem zgG{m:Nat}{v:MV}{hp':List Blk}{R:Goal}(h:z4l P f m todo s ors false 100000= .retM v hp' m ob)(hob:Ps ob)(hn:R.Lent m)(hR:R.m v hp'):Ok P f todo s R:=zcm 100000 h hob.all hn hR
theorem zhj{v:MV}{hp':List Blk}{R:Goal}(n0:Nat)(h:z4l P f 1 todo s ors false 100000= .retM v hp' n0 ob)(hob:Ps ob)(hn:R.Fresh)(hR:R.m v hp'):Ok P f todo s R:=zci 100000 h hob.all hn hR
theorem z4t{args:List CV}{v:CV}(h:zar P f args ors false 100000= .ret v ob)(hob:Ps ob):PCall P f args v:=z9A 100000 h hob.all
theorem z6M{hp:List Blk}{args:List MV}{v:MV}{hp':List Blk}(h:z7X P f hp args ors false 100000= .retM v hp' hp.length ob)(hob:Ps ob):z2j P f hp args v hp':=z7U 100000 h hob.all ⟨rfl,rfl⟩
end
inductive Os(P:Program):Ors→List Prop→Prop where
 |nil:Os P [] []
 |r {ors:Ors} {ob:List Prop} {g:FuncId} {args:List CV} {v:CV} (n:Nat) (h:PCall P g args v) (t:Os P ors ob):Os P ((n,.r v)::ors) (PCall P g args v::ob)
 |rs {ors:Ors} {ob:List Prop} {g:FuncId} {args:List CV} {v:CV} (n:Nat) (es:List (List CV)) (h:PCall P g args v) (t:Os P ors ob):Os P ((n,.r v es)::ors) (PCall P g args v::ob)
 |f {ors:Ors} {ob:List Prop} {g:FuncId} {args:List CV} {v:MV} {cells:List CV} (n:Nat) (h:z50 P g args v cells) (t:Os P ors ob):Os P ((n,.f v cells)::ors) (z50 P g args v cells::ob)
 |fs {ors:Ors} {ob:List Prop} {g:FuncId} {args:List CV} {v:MV} {cells:List CV} (n:Nat) (es:List (List CV)) (h:z50 P g args v cells) (t:Os P ors ob):Os P ((n,.f v cells es)::ors) (z50 P g args v cells::ob)
 |gs {ors:Ors} {ob:List Prop} {g:FuncId} {args:List CV} {v:MV} {cells:List CV} (n:Nat) (es:List (List CV)) (h:zcv P g args v cells) (t:Os P ors ob):Os P ((n,.g v cells es)::ors) (zcv P g args v cells::ob)
 |b {ors:Ors} {ob:List Prop} {c d:Bool} (n:Nat) (h:c=d) (t:Os P ors ob):Os P ((n,.b d)::ors) ((c=d)::ob)
 |c {ors:Ors} {ob:List Prop} {p:Prop} (h:p) (t:Os P ors ob):Os P ors (p::ob)
 |l {ors:Ors} {ob:List Prop} {es:List CV} {k:Nat} {v:CV} (n:Nat) (h:es[k]?=some v) (t:Os P ors ob):Os P ((n,.r v)::ors) ((es[k]?=some v)::ob)
 |e {ors:Ors} {ob:List Prop} {es:List MV} {k:Nat} {v:MV} (n:Nat) (h:es[k]?=some v) (t:Os P ors ob):Os P ((n,.e v)::ors) ((es[k]?=some v)::ob)
 |o {ors:Ors} {ob:List Prop} (n:Nat) (x:Or) (t:Os P ors ob):Os P ((n,x)::ors) ob
theorem lq(a b:Nat)(h:a≤b:=by decide):a≤b:=h
theorem eqn(a:Nat):a=a:=rfl
theorem bq(a b:Int)(h:0≤a∧a<b:=by decide):0≤a∧a<b:=h
theorem nz(a:Int)(h:a≠0:=by decide):a≠0:=h
theorem nn(a:Int)(h:0≤a:=by decide):0≤a:=h
theorem Os.ps{P:Program}{ors:Ors}{ob:List Prop}(h:Os P ors ob):Ps ob:=by
 induction h with
 |nil=>exact .nil
 |r n h t ih=>exact .cons h ih
 |rs n es h t ih=>exact .cons h ih
 |f n h t ih=>exact .cons h ih
 |fs n es h t ih=>exact .cons h ih
 |gs n es h t ih=>exact .cons h ih
 |b n h t ih=>exact .cons h ih
 |c h t ih=>exact .cons h ih
 |l n h t ih=>exact .cons h ih
 |e n h t ih=>exact .cons h ih
 |o n x t ih=>exact ih
def Out.pick2(keep σ:List Nat):Out→Option (List Item×St×List Prop)
 | .stop todo s ob=>some (todo,s.sel keep σ,ob)
 |_=>none
theorem z2B{keep σ:List Nat}{o:Out}{todo:List Item}{s:St}{ob:List Prop}(h:o.pick2 keep σ=some (todo,s,ob)):o.pick keep σ=some (todo,s,ob++CellsC s.hp):=by
 unfold Out.pick2 at h
 split at h
 · simp only[Option.some.injEq,Prod.mk.injEq]at h
   obtain⟨rfl,rfl,rfl⟩:=h
   rfl
 · cases h
theorem Ps.app2{a b:List Prop}(ha:Ps a)(hb:Ps b):Ps (a++b):=by
 induction ha with
 |nil=>exact hb
 |cons h t ih=>exact .cons h ih
section
variable{P:Program}{f:FuncId}{todo todo':List Item}{s s':St}{keep σ:List Nat}{ors:Ors}{ob:List Prop}
theorem z39{R:Goal}(q:Os P ors ob)(h:(z71 P f todo s ors false 100000).pick2 keep σ=some (todo',s',ob))(hσ:V8 σ=true)(hn:j7 R.n σ=true)(hk:Ok P f todo' s' R)(cv:Ps (CellsC s'.hp)):Ok P f todo s R:=
 okS (z2B h) hσ (q.ps.app2 cv) hn hk
theorem z4j{m:Nat}{R:Goal}(q:Os P ors ob)(h:(z4l P f m todo s ors false 100000).pick2 keep σ=some (todo',s',ob))(hσ:V8 σ=true)(hn:j7 R.n σ=true)(hk:Ok P f todo' s' R)(cv:Ps (CellsC s'.hp)):Ok P f todo s R:=
 zgY (z2B h) hσ (q.ps.app2 cv) hn hk
theorem W7{args:List CV}{R:CV→Prop}(q:Os P ors ob)(h:(zar P f args ors false 100000).pick2 keep σ=some (todo',s',ob))(hσ:V8 σ=true)(hk:Ok P f todo' s' (.of R))(cv:Ps (CellsC s'.hp)):W9 P f args R:=
 zgt (z2B h) hσ (q.ps.app2 cv) hk
theorem okT{v:CV}{R:Goal}(q:Os P ors ob)(h:z71 P f todo s ors false 100000= .ret v ob)(hR:R.c v):Ok P f todo s R:=okR h q.ps hR
theorem j3{args:List CV}{v:CV}(q:Os P ors ob)(h:zar P f args ors false 100000= .ret v ob):PCall P f args v:=z4t h q.ps
end
open Go.RowKit Go.Shelf
section
variable{F:Fence}{n:Nat}{P:Program}{ops:Array Oper}{Q:Exit→Act→World→Prop}{a:Act}{w w':World}{rest:List Oper}{o:Oper}
theorem z1B {T : TypeId} {p : Operand} {d : Value} {v : Value} (hg : o.guard = none) (hop : o.op = .load T p) (hp : a.eval p = d) (hrun : (Instr.loadAt T d).run P w = .ok v w)
    (hk:wpListIn F n P ops Q rest (a.put o.dst v) w):wpListIn F n P ops Q (o::rest) a w:=by
 refine wpListIn_plain hg fun K hK=>?_
 refine⟨fun f hf=>?_,?_⟩
 · simp[Oper.about,hop]at hf
 · have hr:(execOp a.eval o).run P w= .ok (.value v) w:=by unfold execOp;rw[hop];simp only[hp];simp[hrun]
   rw[Oper.semAt_eq _ _ _ (by simp[hop]),hr]
   exact hK _ _ hk
theorem z3B {T : TypeId} {p x : Operand} {d v : Value} (hg : o.guard = none) (hop : o.op = .store T p x) (hp : a.eval p = d) (hx : a.eval x = v) (hrun : (Instr.storeAt T d v).run P w = .ok () w')
    (hk:wpListIn F n P ops Q rest (a.put o.dst undef) w'):wpListIn F n P ops Q (o::rest) a w:=by
 refine wpListIn_plain hg fun K hK=>?_
 refine⟨fun f hf=>?_,?_⟩
 · simp[Oper.about,hop]at hf
 · have hr:(execOp a.eval o).run P w= .ok .skip w':=by unfold execOp;rw[hop];simp only[hp,hx];simp[hrun]
   rw[Oper.semAt_eq _ _ _ (by simp[hop]),hr]
   exact hK _ _ hk
end
theorem z6R {T : TypeId} {fs : Array Field} {w : World} {b off : Nat} {c : Array Value} {t : TypeId} {fz : Nat × Nat} {v : Array Value} (hu : P.underlying T = some (.struct fs)) (hb : w.heap[b]? = some (.cells c t fz))
    (hv:v.toList=(c.toList.drop off).take (P.cellsOf T)) (hs:v.size=P.cellsOf T):(Instr.loadAt T (.pointer (some ⟨b,off,none⟩))).run P w= .ok (.agg v) w:=by
 obtain⟨y,h1,h2,_⟩:=z3r (P:=P) (w:=w) (off:=off) hb hu rfl hv (by simpa using hs) (fun h=>by cases h)
 rw[show Value.agg v=y by rw[h2 rfl]]
 simpa[Instr.loadAt,Instr.sureAddr]using h1
theorem z5U {T : TypeId} {i : TypeInfo} {w : World} {c v : Array Value} {t : TypeId} (hi : P.info? T = some i) (hs : v.size = P.cellsOf T) (hc : c.size = v.size) (ho : ∀ x ∈ v.toList, x.oneCell' = true) :
    (Instr.storeAt T (.pointer (some ⟨w.heap.size,0,none⟩)) (.agg v)).run P (w.alloc (.cells c t))= .ok () (w.alloc (.cells v t)):=by
 have hst:=run_storeCells_at P w.heap.size 0 t v.toList 0 c (w.alloc (.cells c t)) (World.alloc_heap_new w _) (by simp;omega) ho
 simp only[Nat.add_zero,List.take_zero,List.nil_append,Nat.zero_add]at hst
 have e:(w.alloc (.cells c t)).setRow w.heap.size (v.toList++c.toList.drop v.toList.length).toArray=w.alloc (.cells v t):=by
  rw[List.drop_of_length_le (by simp;omega),List.append_nil]
  show World.mk _ _ _ _ _=World.mk _ _ _ _ _
  refine congrArg (fun h=>World.mk h w.tape w.drawn w.os w.output) ?_
  show(w.heap.push (Obj.cells c t)).modify w.heap.size _=w.heap.push (Obj.cells v t)
  refine Array.ext (by simp) fun k h1 h2=>?_
  rw[Array.getElem_modify,Array.getElem_push,Array.getElem_push]
  simp at h1
  split
  · rename_i e
    subst e
    simp
  · rw[dif_pos (by omega),dif_pos (by omega)]
 rw[e]at hst
 simp[Instr.storeAt,Instr.sureAddr,storeVar,Z4 hi,Value.cells,hs,hst]
attribute [local go_sem] Oper.semAt_some
set_option maxRecDepth 100000
set_option maxHeartbeats 1000000
theorem zfk (F : Fence) (n : Nat) (h : F.fn 60) (hro : F.round = none) (a : Array Value) (w : World) :
    CallsIn F n Tryd.prog 60 #[.agg a] w fun e w'=>e= .returned (.func (.func 71) #[] #[.pointer (some ⟨w.heap.size,0,none⟩)])∧w'=w.alloc (.cells a 30):=by
 refine callsIn_of_wp Tryd.func60 rfl h ?_ hro
 simp only[Tryd.ntmps60,List.size_toArray,List.length_cons,List.length_nil,Nat.reduceAdd,Nat.reduceSub,Array.replicate_succ,Array.replicate_zero,List.push_toArray,List.append_toArray,List.nil_append,List.cons_append]
 gi_wp2
 go_ret
 exact⟨rfl,rfl⟩
theorem J5{w:World}{b k:Nat}{c:Array Value}{T:TypeId}{fz:Nat×Nat}{v:Value}(h:w.heap[b]?=some (.cells c T fz))(hv:c[k]?=some v):w.cell? ⟨b,k,none⟩=some v:=by
 rw[cell_of_row w b k c T fz h]
 simpa using hv
theorem z6G (x0 x1 x2 x3 x4 x5 x6 x7 x8 x9 y0 y1 y2 y3 y4 y5 y6 y7 y8 y9 z0 z1 z2 z3 z4 z5 z6 z7 z8 z9 : Value) (w : World) :
    (Instr.index 51 (.agg #[x0,x1,x2,x3,x4,x5,x6,x7,x8,x9,y0,y1,y2,y3,y4,y5,y6,y7,y8,y9,z0,z1,z2,z3,z4,z5,z6,z7,z8,z9]) (.int .i64 0)).run Tryd.prog w= .ok (.agg #[x0,x1,x2,x3,x4,x5,x6,x7,x8,x9]) w∧
    (Instr.index 51 (.agg #[x0,x1,x2,x3,x4,x5,x6,x7,x8,x9,y0,y1,y2,y3,y4,y5,y6,y7,y8,y9,z0,z1,z2,z3,z4,z5,z6,z7,z8,z9]) (.int .i64 1)).run Tryd.prog w= .ok (.agg #[y0,y1,y2,y3,y4,y5,y6,y7,y8,y9]) w∧
    (Instr.index 51 (.agg #[x0,x1,x2,x3,x4,x5,x6,x7,x8,x9,y0,y1,y2,y3,y4,y5,y6,y7,y8,y9,z0,z1,z2,z3,z4,z5,z6,z7,z8,z9]) (.int .i64 2)).run Tryd.prog w= .ok (.agg #[z0,z1,z2,z3,z4,z5,z6,z7,z8,z9]) w:=by
 refine⟨?_,?_,?_⟩<;>simp[Instr.index,asIntOf,run_underlying Tryd.underlying51,Tryd.sizeOf28,part,isAgg,run_underlying Tryd.underlying28]
theorem z84 {α : Type} (enc : α → Array Value) (u0 u1 u2 : α) (F : Fence) (n : Nat) (h : F.fn 71) (hro : F.round = none) (hn : 1 ≤ n) (Bn n₀ : Nat) (x0 : Bool) (x1 : ByteArray) (x2 : Bool) (x3 : ByteArray) (x4 : Bool) (x5 : ByteArray) (x6 : Bool) (x7 : ByteArray) (x8 : Bool) (x9 : ByteArray) (y0 : Bool) (y1 : ByteArray) (y2 : Bool) (y3 : ByteArray) (y4 : Bool) (y5 : ByteArray) (y6 : Bool) (y7 : ByteArray) (y8 : Bool) (y9 : ByteArray) (z0 : Bool) (z1 : ByteArray) (z2 : Bool) (z3 : ByteArray) (z4 : Bool) (z5 : ByteArray) (z6 : Bool) (z7 : ByteArray) (z8 : Bool) (z9 : ByteArray) (w : World) (hBn : Bn < w.heap.size)
    (hc:w.heap[Bn]?=some (.cells #[.bool x0,.string x1,.bool x2,.string x3,.bool x4,.string x5,.bool x6,.string x7,.bool x8,.string x9,.bool y0,.string y1,.bool y2,.string y3,.bool y4,.string y5,.bool y6,.string y7,.bool y8,.string y9,.bool z0,.string z1,.bool z2,.string z3,.bool z4,.string z5,.bool z6,.string z7,.bool z8,.string z9] 30 (0,0)))
    (e0:enc u0= #[.int .i64 0,.agg #[.bool x0,.string x1,.bool x2,.string x3,.bool x4,.string x5,.bool x6,.string x7,.bool x8,.string x9]]) (e1:enc u1= #[.int .i64 1,.agg #[.bool y0,.string y1,.bool y2,.string y3,.bool y4,.string y5,.bool y6,.string y7,.bool y8,.string y9]]) (e2:enc u2= #[.int .i64 2,.agg #[.bool z0,.string z1,.bool z2,.string z3,.bool z4,.string z5,.bool z6,.string z7,.bool z8,.string z9]]):
    SeqStopsK F n Tryd.prog 71 #[.pointer (some ⟨Bn,0,none⟩)] enc (Below n₀) (fun ys=>ys=[u0,u1,u2]) (fun pre=>pre<+:[u0,u1,u2]) 3 w:=fun l J Jx W hW hJ hJx hY h0=>by
 refine callsIn_of_wp Tryd.func71 rfl h ?_ hro
 simp only[Tryd.ntmps71,List.size_toArray,List.length_cons,List.length_nil,Nat.reduceAdd,Nat.reduceSub,Array.replicate_succ,Array.replicate_zero,List.push_toArray,List.append_toArray,List.nil_append,List.cons_append]
 have hb:=(hW.block Bn hBn).trans hc
 have c0:=J5 (k:=0) hb rfl
 have c1:=J5 (k:=1) hb rfl
 have c2:=J5 (k:=2) hb rfl
 have c3:=J5 (k:=3) hb rfl
 have c4:=J5 (k:=4) hb rfl
 have c5:=J5 (k:=5) hb rfl
 have c6:=J5 (k:=6) hb rfl
 have c7:=J5 (k:=7) hb rfl
 have c8:=J5 (k:=8) hb rfl
 have c9:=J5 (k:=9) hb rfl
 have c10:=J5 (k:=10) hb rfl
 have c11:=J5 (k:=11) hb rfl
 have c12:=J5 (k:=12) hb rfl
 have c13:=J5 (k:=13) hb rfl
 have c14:=J5 (k:=14) hb rfl
 have c15:=J5 (k:=15) hb rfl
 have c16:=J5 (k:=16) hb rfl
 have c17:=J5 (k:=17) hb rfl
 have c18:=J5 (k:=18) hb rfl
 have c19:=J5 (k:=19) hb rfl
 have c20:=J5 (k:=20) hb rfl
 have c21:=J5 (k:=21) hb rfl
 have c22:=J5 (k:=22) hb rfl
 have c23:=J5 (k:=23) hb rfl
 have c24:=J5 (k:=24) hb rfl
 have c25:=J5 (k:=25) hb rfl
 have c26:=J5 (k:=26) hb rfl
 have c27:=J5 (k:=27) hb rfl
 have c28:=J5 (k:=28) hb rfl
 have c29:=J5 (k:=29) hb rfl
 gi_wp2
 gi_loopw [12] (fun p wr=>(p= .int .i64 0∧J [] wr)∨(p= .int .i64 1∧J [u0] wr)∨(p= .int .i64 2∧J [u0,u1] wr)∨(p= .int .i64 3∧J [u0,u1,u2] wr)) (fun p wr=>3-(intOf p).toNat)
 case atStart=>
  exact .inl ⟨rfl,h0⟩
 case round=>
  rcases hrel with⟨rfl,hJs⟩|⟨rfl,hJs⟩|⟨rfl,hJs⟩|⟨rfl,hJs⟩
  · obtain⟨fn,tmps,assign,body,hy,hR⟩:=hY [] u0 (wr.alloc (.cells #[.bool x0,.string x1,.bool x2,.string x3,.bool x4,.string x5,.bool x6,.string x7,.bool x8,.string x9] 28)) (hJ _ wr _ none hJs (World.grownBy_alloc wr _ none) (fun r e=>by cases e)) (by simp)
    rw[e0]at hy
    obtain⟨i0,i1,i2⟩:=z6G (.bool x0) (.string x1) (.bool x2) (.string x3) (.bool x4) (.string x5) (.bool x6) (.string x7) (.bool x8) (.string x9) (.bool y0) (.string y1) (.bool y2) (.string y3) (.bool y4) (.string y5) (.bool y6) (.string y7) (.bool y8) (.string y9) (.bool z0) (.string z1) (.bool z2) (.string z3) (.bool z4) (.string z5) (.bool z6) (.string z7) (.bool z8) (.string z9) wr
    gi_wp2_with (rw[i0])
    refine hR.mono ?_
    rintro e W3 (⟨rfl,hJ3,hk3⟩|⟨rfl,hJx3⟩)
    · gi_wp2
      go_roundw
      case rel=>exact .inr (.inl ⟨rfl,hJ3⟩)
      case measure=>simp[intOf]
    · gi_wp2
      refine bodyPost_ret (results_none rfl _ _ _) rfl ?_
      exact⟨⟨_,rfl⟩,.inr ⟨_,by simp,hJx3⟩⟩
  · obtain⟨fn,tmps,assign,body,hy,hR⟩:=hY [u0] u1 (wr.alloc (.cells #[.bool y0,.string y1,.bool y2,.string y3,.bool y4,.string y5,.bool y6,.string y7,.bool y8,.string y9] 28)) (hJ _ wr _ none hJs (World.grownBy_alloc wr _ none) (fun r e=>by cases e)) (by simp)
    rw[e1]at hy
    obtain⟨i0,i1,i2⟩:=z6G (.bool x0) (.string x1) (.bool x2) (.string x3) (.bool x4) (.string x5) (.bool x6) (.string x7) (.bool x8) (.string x9) (.bool y0) (.string y1) (.bool y2) (.string y3) (.bool y4) (.string y5) (.bool y6) (.string y7) (.bool y8) (.string y9) (.bool z0) (.string z1) (.bool z2) (.string z3) (.bool z4) (.string z5) (.bool z6) (.string z7) (.bool z8) (.string z9) wr
    gi_wp2_with (rw[i1])
    refine hR.mono ?_
    rintro e W3 (⟨rfl,hJ3,hk3⟩|⟨rfl,hJx3⟩)
    · gi_wp2
      go_roundw
      case rel=>exact .inr (.inr (.inl ⟨rfl,hJ3⟩))
      case measure=>simp[intOf]
    · gi_wp2
      refine bodyPost_ret (results_none rfl _ _ _) rfl ?_
      exact⟨⟨_,rfl⟩,.inr ⟨_,by simp,hJx3⟩⟩
  · obtain⟨fn,tmps,assign,body,hy,hR⟩:=hY [u0,u1] u2 (wr.alloc (.cells #[.bool z0,.string z1,.bool z2,.string z3,.bool z4,.string z5,.bool z6,.string z7,.bool z8,.string z9] 28)) (hJ _ wr _ none hJs (World.grownBy_alloc wr _ none) (fun r e=>by cases e)) (by simp)
    rw[e2]at hy
    obtain⟨i0,i1,i2⟩:=z6G (.bool x0) (.string x1) (.bool x2) (.string x3) (.bool x4) (.string x5) (.bool x6) (.string x7) (.bool x8) (.string x9) (.bool y0) (.string y1) (.bool y2) (.string y3) (.bool y4) (.string y5) (.bool y6) (.string y7) (.bool y8) (.string y9) (.bool z0) (.string z1) (.bool z2) (.string z3) (.bool z4) (.string z5) (.bool z6) (.string z7) (.bool z8) (.string z9) wr
    gi_wp2_with (rw[i2])
    refine hR.mono ?_
    rintro e W3 (⟨rfl,hJ3,hk3⟩|⟨rfl,hJx3⟩)
    · gi_wp2
      go_roundw
      case rel=>exact .inr (.inr (.inr ⟨rfl,hJ3⟩))
      case measure=>simp[intOf]
    · gi_wp2
      refine bodyPost_ret (results_none rfl _ _ _) rfl ?_
      exact⟨⟨_,rfl⟩,.inr ⟨_,by simp,hJx3⟩⟩
  · gi_wp2
    go_end0
    exact⟨⟨_,rfl⟩,.inl ⟨_,rfl,hJs⟩⟩
end Go.Fw
