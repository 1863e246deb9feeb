/- The law CalibrateModel of culetlaw: for every input it returns true and leaves its arguments as they read. Conditions: the two listed tables of unicode/utf8 hold what the program's text lays. -/
import Derived.Test.YtcafjpldfnegiaaGreatDoorB13
import Derived.Test.YtcafjpldfnegiaaGreatDoorB14
import Derived.Test.YtcafjpldfnegiaaGreatDoorB50
open Go IntKind
open Go Go.Proofs Go.Proofs.YtcafjpldfnegiaaGreatDoor
namespace Go.Fw
open Go.ChangeShapes Go.WideShapes Go.ChangeAt Go.RowKit
set_option maxRecDepth 100000
theorem zhu:z8V Tryz.prog Tryz.f24 Rows.calibrateModelSpec Rows.calibrateModelRow=true:=by kernel_rfl
theorem znO:Rows.CalibrateModelSaid:=
 zgS (f:=24) (fn:=Tryz.f24) #[.slice none 0 0,.agg #[.bool false,.string ⟨#[]⟩,.bool false,.string ⟨#[]⟩,.bool false,.string ⟨#[]⟩,.bool false,.string ⟨#[]⟩,.bool false,.string ⟨#[]⟩,.bool false,.string ⟨#[]⟩,.bool false,.string ⟨#[]⟩,.bool false,.string ⟨#[]⟩,.bool false,.string ⟨#[]⟩,.bool false,.string ⟨#[]⟩,.bool false,.string ⟨#[]⟩,.bool false,.string ⟨#[]⟩,.bool false,.string ⟨#[]⟩,.bool false,.string ⟨#[]⟩,.bool false,.string ⟨#[]⟩],.int .i64 0] (fun H=>[.nil,.agg [.agg [.agg [.agg [.lit (.bool false),.lit (.string [])],.agg [.lit (.bool false),.lit (.string [])],.agg [.lit (.bool false),.lit (.string [])],.agg [.lit (.bool false),.lit (.string [])]],.agg [.lit (.bool false),.lit (.string [])]],.agg [.agg [.agg [.lit (.bool false),.lit (.string [])],.agg [.lit (.bool false),.lit (.string [])],.agg [.lit (.bool false),.lit (.string [])],.agg [.lit (.bool false),.lit (.string [])]],.agg [.lit (.bool false),.lit (.string [])]],.agg [.agg [.agg [.lit (.bool false),.lit (.string [])],.agg [.lit (.bool false),.lit (.string [])],.agg [.lit (.bool false),.lit (.string [])],.agg [.lit (.bool false),.lit (.string [])]],.agg [.lit (.bool false),.lit (.string [])]]],.lit (.int .i64 0)]) rfl rfl rfl rfl rfl rfl rfl ⟨rfl,rfl,rfl,rfl,rfl⟩ rfl rfl rfl rfl rfl j24_fn Tryz.func24 (zeO zsc zrF znL zpO zhu)
  (of_decide_eq_true (by kernel_rfl)) (by unfold Func.isWrapper;first|(rw[if_pos (by decide+kernel)];kernel_rfl)|(rw[if_neg (by decide+kernel)];exact⟨rfl,rfl⟩))
  (by kernel_rfl) (by kernel_rfl) rfl ⟨rfl,rfl,rfl,rfl⟩ rfl (fun os H enc=>⟨[],by kernel_rfl⟩) (fun os=>by kernel_rfl) (fun os=>by kernel_rfl) (fun os=>by kernel_rfl) (fun os H enc=>by kernel_rfl)
  (fun H enc W base args ds gs before hval hW=>by
   refine z8G rfl (by kernel_rfl) (fun ds hl=>?_) (by rw[Tryz.params24];exact of_decide_eq_true (by kernel_rfl)) hW (zeF W base args ds gs before hval hW)
   rw[show Tryz.f24.params.size=3 from by rw[Tryz.params24];rfl]at hl
   rcases ds with _|⟨a,_|⟨b,_|⟨c,_|⟨d,l⟩⟩⟩⟩<;>first|rfl|(simp at hl))
theorem zk8 (f : FuncId) (fn : Func) (hf : Tryz.pinned.checked.prog.funcNamed "culet/culetlaw52.CalibrateModel" = some f) (hfn : Tryz.pinned.checked.prog.funcs[f]? = some fn) :
    false=Tryz.pinned.checked.prog.looks []∧ ∀(j:Nat) t,fn.params[j]?=some t→Tryz.pinned.checked.prog.wantsStandIn t=false:=by
 obtain rfl:f=24:=Option.some.inj (j24_fn.symm.trans hf) |>.symm
 obtain rfl:fn=Tryz.f24:=(Option.some.inj (Tryz.func24.symm.trans hfn)).symm
 refine⟨zhL,fun j t ht=>?_⟩
 rw[Tryz.params24]at ht
 have:=Array.mem_of_getElem? ht
 simp at this
 rcases this with rfl|rfl|rfl
 · exact(show Tryz.prog.wantsStandIn 68=false by kernel_rfl)
 · exact(show Tryz.prog.wantsStandIn 51=false by kernel_rfl)
 · exact(show Tryz.prog.wantsStandIn 3=false by kernel_rfl)
theorem card24:Rows.CalibrateModelCardSaid:=
 Claim7.holds_tied_plain_at .later [] _ _ _ _ znO (fun _ h=>by cases h) zqn (fun _ h=>by cases h) calibrateModel_row_tie rfl ⟨rfl,rfl⟩ zmy rfl zk8 zse
end Go.Fw
namespace Go.Proofs.YtcafjpldfnegiaaGreatDoor
theorem calibrateModel_holds : Rows.CalibrateModelCardSaid := Go.Fw.card24
end Go.Proofs.YtcafjpldfnegiaaGreatDoor
