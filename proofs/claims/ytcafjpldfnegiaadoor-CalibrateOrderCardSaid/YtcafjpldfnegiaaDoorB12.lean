/- A part of the proof that the law returns true for every input: an executor for the model's code, and what functions of the program compute. -/
import Derived.Test.YtcafjpldfnegiaaDoorB11
import Derived.Test.YtcafjpldfnegiaaDoorCards
import Derived.Test.YtcafjpldfnegiaaDoorTie
import Derived.WalkKit
import Derived.ProofKit
import Derived.OpenShut
import Derived.Carry
import Derived.Deep.DeepHandedRow
import Derived.Lib.LaidTab
open Go IntKind
open Go Go.Proofs Go.Proofs.YtcafjpldfnegiaaDoor
namespace Go.Fw
open Go.ChangeShapes Go.WideShapes Go.ChangeAt Go.RowKit
set_option maxRecDepth 100000
theorem zho:ownKnob Tryd.prog.godebug=none:=by kernel_rfl
theorem z9L:laidOutB Tryd.prog=true:=by kernel_rfl
noncomputable def firstCells:Array Value:=(Go.Pinned.utf8FirstZ.map fun z:Nat=>Value.int .u8 (z:Int)).toArray
def za9:Array Value:=([128,191,160,191,128,159,144,191,128,143,0,0,0,0,0,0,0,0,0,0,0,0,0,0,0,0,0,0,0,0,0,0].map fun z=>Value.int .u8 z).toArray
def z7c(cs:Array Value):Obj→Obj
 | .cells _ t frozen=> .cells cs t frozen
 |o=>o
noncomputable def z0m(os:Os):World:=
 {World.holding Tryd.prog os ⟨#[], #[],[]⟩with heap:=((World.holding Tryd.prog os ⟨#[], #[],[]⟩).heap.modify 1 (z7c firstCells)).modify 2 (z7c za9)}
def z7e:List (String×DataW Unit):=[("unicode/utf8.acceptRanges",Rows.laid_unicode_utf8_acceptRanges),("unicode/utf8.first",Rows.laid_unicode_utf8_first)]
theorem za0(os:Os)(args:Array Value):laidMet Tryd.prog z7e ((z0m os).forCall (fun _ _=>0) ⟨#[],args,[]⟩).memory:=
 laidMet_of_run' 8 (by kernel_rfl) (by kernel_rfl)
section
variable{H:Type}{enc:TypeId×Value→H}
theorem z1D{Q:Program}{w:World}{b:Nat}{sp:Nat→Bool}{hd:Bool}: ∀(ts:List TypeId) (vs:List Value) (ds:List (DataW H)) (ps:List MemPlace),DataW.TrodAll enc Q w b sp hd ts vs ds ps→ds.length=ts.length
 | [],[],[],_,_=>rfl
 |t::ts,v::vs,d::ds,_,⟨p,q,_,h,_⟩=>by simp[z1D ts vs ds q h]
theorem z26 {W W' : World} (hb : Below W.heap.size W W') : ∀ (ts : List TypeId) (vs : List Value) (ds : List (DataW H)) (ps : List MemPlace), (∀ t ∈ ts, Tryd.prog.readableRec t = true ∧ t < Tryd.prog.types.size) →
    (∀x∈ps,x.block<W.heap.size)→DataW.TrodAll enc Tryd.prog W 0 (fun _=>true) true ts vs ds ps→DataW.TrodAll enc Tryd.prog W' 0 (fun b=>decide (b<W.heap.size)) true ts vs ds ps
 | [],[],[],_,_,_,h=>h
 |t::ts,v::vs,d::ds,_,hr,hlt,⟨p,q,h1,h2,e⟩=>by
  subst e
  obtain⟨hr1,hr2⟩:=hr t (by simp)
  exact⟨p,q,Below.trod z9L hr1 hr2 h1 hb (fun x hx=>hlt x (by simp[hx])),z26 hb ts vs ds q (fun t' ht'=>hr t' (by simp[ht'])) (fun x hx=>hlt x (by simp[hx])) h2,rfl⟩
theorem z5Q {f : FuncId} {fn : Func} {s : ChangeSpec} {W : World} {args : Array Value} {ds gs : List (DataW H)} {before : List MemPlace}
    (hv:s.vars=[]) (hres:fn.resultTypes= #[4])
    (hs: ∀ds:List (DataW H),ds.length=fn.params.size→s.fn H ds={results:=[.lit (.bool true)],args:=ds})
    (hr: ∀t∈fn.params.toList,Tryd.prog.readableRec t=true∧t<Tryd.prog.types.size)
    (hW:DataW.Whole enc Tryd.prog fn.params.toList s.vars false W args.toList ds gs before)
    (hc:Calls Tryd.prog f args W fun e W'=>e= .returned (.bool true)∧Below W.heap.size W W'):
    Calls Tryd.prog f args W fun e W'=> ∃v,e= .returned v∧s.post enc Tryd.prog fn false true false false W args v W':=by
 refine hc.mono fun e W' ⟨he,hb⟩=>⟨_,he,?_⟩
 have hW':=hW
 obtain⟨p,q,hA0,hV,rfl,hfz,hnd⟩:=hW
 rw[hv]at hV
 obtain⟨rfl,rfl⟩:=trodVars_none hV
 have hl:=z1D _ _ _ _ hA0
 have e1:=hs ds (by simpa using hl)
 refine⟨ds,[],_,[],p,[],hW',?_,?_,?_,hb.frame _,fun h=>by cases h⟩
 · rw[List.append_nil,e1,hres]
   exact trodAll_mk1 (shut_bool Tryd.underlying4 true)
 · rw[List.append_nil,e1]
   exact z26 hb _ _ _ _ hr (fun x hx=>by simpa using hW'.lt x (by simp[hx])) hA0
 · rw[List.append_nil,e1,hv];rfl
end
end Go.Fw
