/- A part of the proof that the law returns true for every input: an executor for the model's code, and what functions of the program compute. -/
import Derived.Test.YtcafjpldfnegiaaDoorB01
import Derived.Test.YtcafjpldfnegiaaDoorB12
open Go IntKind
open Go Go.Proofs Go.Proofs.YtcafjpldfnegiaaDoor
namespace Go.Fw
open Go.ChangeShapes Go.WideShapes Go.ChangeAt Go.RowKit
set_option maxRecDepth 100000
def z66(P:Program)(fn:Func)(s:ChangeSpec)(c:OpenClaim):Bool:=
 c.wf (OpenSpec.ofChange s)&&true&&true&&
 fn.params.all (P.readableRec ·)&&namedTie P c.named s.vars&&
 (c.stops==[])&&true&&(c.knobs==[])&&true&&
 true&&true&&true&&true&&
 (c.maps==(fn.params.toList++s.plain.varTypes P).any (P.mapsRec ·))&&(c.ifaces==(fn.params.toList++s.plain.varTypes P).any (P.ifacesRec ·))&&(c.mapsOut==P.mapsAmong fn.resultTypes.toList)&&
 (c.loops==(fn.params.toList++s.plain.varTypes P).any (P.loopsFrom ·))&&(c.wideKeys==(fn.params.toList++s.plain.varTypes P++fn.resultTypes.toList).any (P.wideKeysFrom ·))&&
 s.vars.all (P.varReadable ·)&&fn.resultTypes.all (fun t=>P.readableRec t&&decide (t<P.types.size))&&(c.ifacesOut==fn.resultTypes.toList.any (P.ifacesRec ·))&&(c.loopsOut==fn.resultTypes.toList.any (P.loopsFrom ·))&&(c.plainKeys==Rows.calibrateOrderRow.plainKeys)&&c.shortTexts.isNone&&true&&true&&(c.lifted==Rows.calibrateOrderRow.lifted)&&(some Rows.calibrateOrderRow.make==some c.make)&&(c.kinds==(if c.domain.isEmpty then []else fn.params.toList.map fun t=>match P.underlying t with|some (.int k)=>some k|_=>none))&&(c.pinned==c.pinnedBy)&&
 (c.veiled==(fn.params.toList++s.plain.varTypes P++fn.resultTypes.toList).any (P.veiledRec ·))&&c.veiledFits P fn.params.toList (fn.params.toList++s.plain.varTypes P++fn.resultTypes.toList)
theorem z8Z {f : FuncId} {fn : Func} {s : ChangeSpec} {c : OpenClaim} (h6 : (c.inPlace == Tryd.prog.inPlace f) = true) (h7 : (c.unfollowed == Tryd.prog.unfollowed f) = true) (h8 : (c.recurses == Tryd.prog.recurses f) = true) (h9 : (c.named == Tryd.prog.varsNamed f) = true)
    (hrest:z66 Tryd.prog fn s c=true):joinedFacts Tryd.prog f fn s c=true:=by
 unfold joinedFacts
 rw[z9L,zdK,zay,zaf,←zad,ze5,←zdI,zas,zaR,h6,h7,h8,h9]
 exact hrest
theorem zbw {f : FuncId} {fn : Func} {s : ChangeSpec} {c : OpenClaim} (args : Array Value) (ds0 : ∀ H : Type, List (DataW H))
    (hn:c.program=Tryd.pinned.name) (hs:c.sum=Tryd.pinned.sum) (hsp:c.spec=s.name)
    (hstart:c.start= .entering) (hout:c.outside=[]) (hin:c.inits=[]) (hun:c.under=none) (hi4:c.initsInPlace=[]∧c.initsUnfollowed=false∧c.initsRecurse=false∧c.initsNamed=[]∧c.initsPassed=[]) (hnb:c.noBlocks=false) (hlv:c.leaving=false) (hfo:c.followed=none) (hnar:c.narrowed=false) (hstill:c.still=false)
    (hfn:Tryd.prog.funcNamed c.func=some f) (hf:Tryd.prog.funcs[f]?=some fn) (hj:joinedFacts Tryd.prog f fn s c=true)
    (hinst:fn.isInstance Tryd.prog c.origin c.targs) (hwrap:fn.isWrapper Tryd.prog c.wrapper c.mainSum)
    (hni:Tryd.prog.inits.idxOf? f=none) (has:c.assume={}) (hdom:c.domain=[]) (hap:c.apart=false∧c.fresh=true∧c.handsOn=false∧c.again=false) (hlaid:c.laid=z7e)
    (hreads: ∀(os:Os) (H:Type) (enc:TypeId×Value→H),∃places,DataW.whole enc Tryd.prog ((z0m os).forCall (fun _ _=>0) ⟨#[],args,[]⟩).memory fn.params.toList s.vars false args.toList 8=some (ds0 H,[],places))
    (hw1: ∀os,((z0m os).forCall (fun _ _=>0) ⟨#[],args,[]⟩).variablesB Tryd.prog=true)
    (hw2: ∀os,(((z0m os).forCall (fun _ _=>0) ⟨#[],args,[]⟩).heap.toList.drop Tryd.prog.globals.size).take ((begin Tryd.prog (fun _ _=>0) default).world.heap.size-Tryd.prog.globals.size)=(begin Tryd.prog (fun _ _=>0) default).world.heap.toList.drop Tryd.prog.globals.size)
    (hw3: ∀os,Input.okWideB Tryd.prog ((z0m os).forCall (fun _ _=>0) ⟨#[],args,[]⟩) f ⟨#[],args,[]⟩=true)
    (hsz: ∀(os:Os) (H:Type) (enc:TypeId×Value→H),(OpenSpec.ofChange s).bare.sizedB enc Tryd.prog fn false ((z0m os).forCall (fun _ _=>0) ⟨#[],args,[]⟩).memory args 8=true)
    (hcontract: ∀(H:Type) (enc:TypeId×Value→H) (W:World) (base:Nat) (args:Array Value) (ds gs:List (DataW H)) (before:List MemPlace),
     (∀(j:Nat) t v,fn.params[j]?=some t→args[j]?=some v→Value.okWide Tryd.prog W .any base t v)→DataW.Whole enc Tryd.prog fn.params.toList s.vars false W args.toList ds gs before→
     Calls Tryd.prog f args W fun e W'=> ∃v,e= .returned v∧s.post enc Tryd.prog fn false true false false W args v W'):
    c.holds Tryd.pinned (OpenSpec.ofChange s):=by
 refine OpenClaim.holds_of_cond f fn hn hs hsp hstart hout hin hun hi4 hnb hlv hfo hnar hstill hfn hf hj hinst hwrap (fun os started H enc _ F=>?_)
 rw[OpenClaim.pre_eq_preRow,has,hap.1,hap.2.1,hap.2.2.1,hap.2.2.2,hlaid,hdom]
 obtain⟨places,hx⟩:=hreads os H enc
 refine returnsInHanded_of_row (C:=Tryd.checked) (s:=OpenSpec.ofChange s) zho started hni hf
  (witness_row_at (enc:=enc) (C:=Tryd.checked) false (z0m os) args rfl (hw1 os) (hw2 os) (hw3 os)
   (OpenSpec.preRow_of_cond 8 hx rfl (fun k hk=>by cases hk) (hsz os H enc) (za0 os _))) ?_
 intro W base args ds gs before hval hW _ _ _ hL _ _
 exact hcontract H enc W base args ds gs before hval hW
end Go.Fw
