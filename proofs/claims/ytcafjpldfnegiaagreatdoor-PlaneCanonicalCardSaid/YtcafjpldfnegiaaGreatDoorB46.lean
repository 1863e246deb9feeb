/- The law PlaneCanonical of culetlaw: for every input it returns true and leaves its arguments as they read. Conditions: the two listed tables of unicode/utf8 hold what the program's text lays. -/
import Derived.Test.YtcafjpldfnegiaaGreatDoorB13
import Derived.Test.YtcafjpldfnegiaaGreatDoorB14
import Derived.Test.YtcafjpldfnegiaaGreatDoorB45
open Go Go.Proofs Go.Proofs.YtcafjpldfnegiaaGreatDoor
namespace Go.Fw
open Go.ChangeShapes Go.WideShapes Go.ChangeAt Go.RowKit
set_option maxRecDepth 100000
theorem j18_rest:restFacts Tryz.prog Tryz.f18 Rows.planeCanonicalSpec Rows.planeCanonicalRow=true:=by kernel_rfl
theorem said18:Rows.PlaneCanonicalSaid:=
 law_said (f:=18) (fn:=Tryz.f18) #[.agg #[.bool false,.string ⟨#[]⟩,.bool false,.string ⟨#[]⟩,.bool false,.string ⟨#[]⟩,.bool false,.string ⟨#[]⟩,.bool false,.string ⟨#[]⟩,.bool false,.string ⟨#[]⟩,.bool false,.string ⟨#[]⟩,.bool false,.string ⟨#[]⟩,.bool false,.string ⟨#[]⟩,.bool false,.string ⟨#[]⟩,.bool false,.string ⟨#[]⟩,.bool false,.string ⟨#[]⟩,.bool false,.string ⟨#[]⟩,.bool false,.string ⟨#[]⟩,.bool false,.string ⟨#[]⟩,.bool false,.string ⟨#[]⟩,.bool false,.string ⟨#[]⟩,.bool false,.string ⟨#[]⟩,.bool false,.string ⟨#[]⟩,.bool false,.string ⟨#[]⟩],.agg #[.bool false,.string ⟨#[]⟩,.bool false,.string ⟨#[]⟩,.bool false,.string ⟨#[]⟩,.bool false,.string ⟨#[]⟩,.bool false,.string ⟨#[]⟩],.agg #[.bool false,.string ⟨#[]⟩,.bool false,.string ⟨#[]⟩,.bool false,.string ⟨#[]⟩,.bool false,.string ⟨#[]⟩,.bool false,.string ⟨#[]⟩,.bool false,.string ⟨#[]⟩,.bool false,.string ⟨#[]⟩,.bool false,.string ⟨#[]⟩,.bool false,.string ⟨#[]⟩,.bool false,.string ⟨#[]⟩,.bool false,.string ⟨#[]⟩,.bool false,.string ⟨#[]⟩,.bool false,.string ⟨#[]⟩,.bool false,.string ⟨#[]⟩,.bool false,.string ⟨#[]⟩]] (fun H=>[.agg [.agg [.agg [.agg [.agg [.lit (.bool false),.lit (.string [])],.agg [.lit (.bool false),.lit (.string [])],.agg [.lit (.bool false),.lit (.string [])],.agg [.lit (.bool false),.lit (.string [])]],.agg [.lit (.bool false),.lit (.string [])]],.agg [.agg [.agg [.lit (.bool false),.lit (.string [])],.agg [.lit (.bool false),.lit (.string [])],.agg [.lit (.bool false),.lit (.string [])],.agg [.lit (.bool false),.lit (.string [])]],.agg [.lit (.bool false),.lit (.string [])]],.agg [.agg [.agg [.lit (.bool false),.lit (.string [])],.agg [.lit (.bool false),.lit (.string [])],.agg [.lit (.bool false),.lit (.string [])],.agg [.lit (.bool false),.lit (.string [])]],.agg [.lit (.bool false),.lit (.string [])]]],.agg [.agg [.agg [.lit (.bool false),.lit (.string [])],.agg [.lit (.bool false),.lit (.string [])],.agg [.lit (.bool false),.lit (.string [])],.agg [.lit (.bool false),.lit (.string [])]],.agg [.lit (.bool false),.lit (.string [])]]],.agg [.agg [.agg [.lit (.bool false),.lit (.string [])],.agg [.lit (.bool false),.lit (.string [])],.agg [.lit (.bool false),.lit (.string [])],.agg [.lit (.bool false),.lit (.string [])]],.agg [.lit (.bool false),.lit (.string [])]],.agg [.agg [.agg [.agg [.lit (.bool false),.lit (.string [])],.agg [.lit (.bool false),.lit (.string [])],.agg [.lit (.bool false),.lit (.string [])],.agg [.lit (.bool false),.lit (.string [])]],.agg [.lit (.bool false),.lit (.string [])]],.agg [.agg [.agg [.lit (.bool false),.lit (.string [])],.agg [.lit (.bool false),.lit (.string [])],.agg [.lit (.bool false),.lit (.string [])],.agg [.lit (.bool false),.lit (.string [])]],.agg [.lit (.bool false),.lit (.string [])]],.agg [.agg [.agg [.lit (.bool false),.lit (.string [])],.agg [.lit (.bool false),.lit (.string [])],.agg [.lit (.bool false),.lit (.string [])],.agg [.lit (.bool false),.lit (.string [])]],.agg [.lit (.bool false),.lit (.string [])]]]]) rfl rfl rfl rfl rfl rfl rfl ⟨rfl,rfl,rfl,rfl,rfl⟩ rfl rfl rfl rfl rfl j18_fn Tryz.func18 (joined_of j18_in j18_un j18_re j18_va j18_rest)
  (of_decide_eq_true (by kernel_rfl)) (by unfold Func.isWrapper;first|(rw[if_pos (by decide+kernel)];kernel_rfl)|(rw[if_neg (by decide+kernel)];exact⟨rfl,rfl⟩))
  (by kernel_rfl) (by kernel_rfl) rfl ⟨rfl,rfl,rfl,rfl⟩ rfl (fun os H enc=>⟨[],by kernel_rfl⟩) (fun os=>by kernel_rfl) (fun os=>by kernel_rfl) (fun os=>by kernel_rfl) (fun os H enc=>by kernel_rfl)
  (fun H enc W base args ds gs before hval hW=>by
   refine law_contract rfl (by kernel_rfl) (fun ds hl=>?_) (by rw[Tryz.params18];exact of_decide_eq_true (by kernel_rfl)) hW (lawCall18 W base args ds gs before hval hW)
   rw[show Tryz.f18.params.size=3 from by rw[Tryz.params18];rfl]at hl
   rcases ds with _|⟨a,_|⟨b,_|⟨c,_|⟨d,l⟩⟩⟩⟩<;>first|rfl|(simp at hl))
theorem plain18 (f : FuncId) (fn : Func) (hf : Tryz.pinned.checked.prog.funcNamed "culet/culetlaw05.PlaneCanonical" = some f) (hfn : Tryz.pinned.checked.prog.funcs[f]? = some fn) :
    false=Tryz.pinned.checked.prog.looks []∧ ∀(j:Nat) t,fn.params[j]?=some t→Tryz.pinned.checked.prog.wantsStandIn t=false:=by
 obtain rfl:f=18:=Option.some.inj (j18_fn.symm.trans hf) |>.symm
 obtain rfl:fn=Tryz.f18:=(Option.some.inj (Tryz.func18.symm.trans hfn)).symm
 refine⟨fa_looks,fun j t ht=>?_⟩
 rw[Tryz.params18]at ht
 have:=Array.mem_of_getElem? ht
 simp at this
 rcases this with rfl|rfl|rfl
 · exact(show Tryz.prog.wantsStandIn 99=false by kernel_rfl)
 · exact(show Tryz.prog.wantsStandIn 39=false by kernel_rfl)
 · exact(show Tryz.prog.wantsStandIn 51=false by kernel_rfl)
theorem card18:Rows.PlaneCanonicalCardSaid:=
 Claim7.holds_tied_plain_at .later [] _ _ _ _ said18 (fun _ h=>by cases h) j18_wf (fun _ h=>by cases h) planeCanonical_row_tie rfl ⟨rfl,rfl⟩ fa_main rfl plain18 j18_go
end Go.Fw
namespace Go.Proofs.YtcafjpldfnegiaaGreatDoor
theorem planeCanonical_holds : Rows.PlaneCanonicalCardSaid := Go.Fw.card18
end Go.Proofs.YtcafjpldfnegiaaGreatDoor
