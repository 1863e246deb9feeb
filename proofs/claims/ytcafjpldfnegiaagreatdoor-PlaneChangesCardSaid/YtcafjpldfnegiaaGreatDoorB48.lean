/- The law PlaneChanges of culetlaw: for every input it returns true and leaves its arguments as they read. Conditions: the two listed tables of unicode/utf8 hold what the program's text lays. -/
import Derived.Test.YtcafjpldfnegiaaGreatDoorB13
import Derived.Test.YtcafjpldfnegiaaGreatDoorB14
import Derived.Test.YtcafjpldfnegiaaGreatDoorB47
open Go Go.Proofs Go.Proofs.YtcafjpldfnegiaaGreatDoor
namespace Go.Fw
open Go.ChangeShapes Go.WideShapes Go.ChangeAt Go.RowKit
set_option maxRecDepth 100000
theorem zfq:z8S Tryz.prog Tryz.f23 Rows.planeChangesSpec Rows.planeChangesRow=true:=by kernel_rfl
theorem zp7:Rows.PlaneChangesSaid:=
 zgg (f:=23) (fn:=Tryz.f23) #[.agg #[.bool false,.string ⟨#[]⟩,.bool false,.string ⟨#[]⟩,.bool false,.string ⟨#[]⟩,.bool false,.string ⟨#[]⟩,.bool false,.string ⟨#[]⟩,.bool false,.string ⟨#[]⟩,.bool false,.string ⟨#[]⟩,.bool false,.string ⟨#[]⟩,.bool false,.string ⟨#[]⟩,.bool false,.string ⟨#[]⟩,.bool false,.string ⟨#[]⟩,.bool false,.string ⟨#[]⟩,.bool false,.string ⟨#[]⟩,.bool false,.string ⟨#[]⟩,.bool false,.string ⟨#[]⟩,.bool false,.string ⟨#[]⟩,.bool false,.string ⟨#[]⟩,.bool false,.string ⟨#[]⟩,.bool false,.string ⟨#[]⟩,.bool false,.string ⟨#[]⟩],.agg #[.bool false,.string ⟨#[]⟩,.bool false,.string ⟨#[]⟩,.bool false,.string ⟨#[]⟩,.bool false,.string ⟨#[]⟩,.bool false,.string ⟨#[]⟩,.bool false,.string ⟨#[]⟩,.bool false,.string ⟨#[]⟩,.bool false,.string ⟨#[]⟩,.bool false,.string ⟨#[]⟩,.bool false,.string ⟨#[]⟩,.bool false,.string ⟨#[]⟩,.bool false,.string ⟨#[]⟩,.bool false,.string ⟨#[]⟩,.bool false,.string ⟨#[]⟩,.bool false,.string ⟨#[]⟩],.agg #[.int .i64 0,.bool false]] (fun H=>[.agg [.agg [.agg [.agg [.agg [.lit (.bool false),.lit (.string [])],.agg [.lit (.bool false),.lit (.string [])],.agg [.lit (.bool false),.lit (.string [])],.agg [.lit (.bool false),.lit (.string [])]],.agg [.lit (.bool false),.lit (.string [])]],.agg [.agg [.agg [.lit (.bool false),.lit (.string [])],.agg [.lit (.bool false),.lit (.string [])],.agg [.lit (.bool false),.lit (.string [])],.agg [.lit (.bool false),.lit (.string [])]],.agg [.lit (.bool false),.lit (.string [])]],.agg [.agg [.agg [.lit (.bool false),.lit (.string [])],.agg [.lit (.bool false),.lit (.string [])],.agg [.lit (.bool false),.lit (.string [])],.agg [.lit (.bool false),.lit (.string [])]],.agg [.lit (.bool false),.lit (.string [])]]],.agg [.agg [.agg [.lit (.bool false),.lit (.string [])],.agg [.lit (.bool false),.lit (.string [])],.agg [.lit (.bool false),.lit (.string [])],.agg [.lit (.bool false),.lit (.string [])]],.agg [.lit (.bool false),.lit (.string [])]]],.agg [.agg [.agg [.agg [.lit (.bool false),.lit (.string [])],.agg [.lit (.bool false),.lit (.string [])],.agg [.lit (.bool false),.lit (.string [])],.agg [.lit (.bool false),.lit (.string [])]],.agg [.lit (.bool false),.lit (.string [])]],.agg [.agg [.agg [.lit (.bool false),.lit (.string [])],.agg [.lit (.bool false),.lit (.string [])],.agg [.lit (.bool false),.lit (.string [])],.agg [.lit (.bool false),.lit (.string [])]],.agg [.lit (.bool false),.lit (.string [])]],.agg [.agg [.agg [.lit (.bool false),.lit (.string [])],.agg [.lit (.bool false),.lit (.string [])],.agg [.lit (.bool false),.lit (.string [])],.agg [.lit (.bool false),.lit (.string [])]],.agg [.lit (.bool false),.lit (.string [])]]],.agg [.lit (.int .i64 0),.lit (.bool false)]]) rfl rfl rfl rfl rfl rfl rfl ⟨rfl,rfl,rfl,rfl,rfl⟩ rfl rfl rfl rfl rfl j23_fn Tryz.func23 (zdI zoh zmU zpL zmZ zfq)
  (of_decide_eq_true (by kernel_rfl)) (by unfold Func.isWrapper;first|(rw[if_pos (by decide+kernel)];kernel_rfl)|(rw[if_neg (by decide+kernel)];exact⟨rfl,rfl⟩))
  (by kernel_rfl) (by kernel_rfl) rfl ⟨rfl,rfl,rfl,rfl⟩ rfl (fun os H enc=>⟨[],by kernel_rfl⟩) (fun os=>by kernel_rfl) (fun os=>by kernel_rfl) (fun os=>by kernel_rfl) (fun os H enc=>by kernel_rfl)
  (fun H enc W base args ds gs before hval hW=>by
   refine z85 rfl (by kernel_rfl) (fun ds hl=>?_) (by rw[Tryz.params23];exact of_decide_eq_true (by kernel_rfl)) hW (zcm W base args ds gs before hval hW)
   rw[show Tryz.f23.params.size=3 from by rw[Tryz.params23];rfl]at hl
   rcases ds with _|⟨a,_|⟨b,_|⟨c,_|⟨d,l⟩⟩⟩⟩<;>first|rfl|(simp at hl))
theorem zhP (f : FuncId) (fn : Func) (hf : Tryz.pinned.checked.prog.funcNamed "culet/culetlaw05.PlaneChanges" = some f) (hfn : Tryz.pinned.checked.prog.funcs[f]? = some fn) :
    false=Tryz.pinned.checked.prog.looks []∧ ∀(j:Nat) t,fn.params[j]?=some t→Tryz.pinned.checked.prog.wantsStandIn t=false:=by
 obtain rfl:f=23:=Option.some.inj (j23_fn.symm.trans hf) |>.symm
 obtain rfl:fn=Tryz.f23:=(Option.some.inj (Tryz.func23.symm.trans hfn)).symm
 refine⟨zfw,fun j t ht=>?_⟩
 rw[Tryz.params23]at ht
 have:=Array.mem_of_getElem? ht
 simp at this
 rcases this with rfl|rfl|rfl
 · exact(show Tryz.prog.wantsStandIn 99=false by kernel_rfl)
 · exact(show Tryz.prog.wantsStandIn 51=false by kernel_rfl)
 · exact(show Tryz.prog.wantsStandIn 31=false by kernel_rfl)
theorem card23:Rows.PlaneChangesCardSaid:=
 Claim7.holds_tied_plain_at .later [] _ _ _ _ zp7 (fun _ h=>by cases h) zq6 (fun _ h=>by cases h) planeChanges_row_tie rfl ⟨rfl,rfl⟩ zjt rfl zhP zmw
end Go.Fw
namespace Go.Proofs.YtcafjpldfnegiaaGreatDoor
theorem planeChanges_holds : Rows.PlaneChangesCardSaid := Go.Fw.card23
end Go.Proofs.YtcafjpldfnegiaaGreatDoor
