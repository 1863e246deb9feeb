/- The law PlaneSettings of culetlaw: for every input it returns true and leaves its arguments as they read. Conditions: the two listed tables of unicode/utf8 hold what the program's text lays. -/
import Derived.Test.YtcafjpldfnegiaaGreatDoorB13
import Derived.Test.YtcafjpldfnegiaaGreatDoorB14
import Derived.Test.YtcafjpldfnegiaaGreatDoorB46
open Go Go.Proofs Go.Proofs.YtcafjpldfnegiaaGreatDoor
namespace Go.Fw
open Go.ChangeShapes Go.WideShapes Go.ChangeAt Go.RowKit
set_option maxRecDepth 100000
theorem zeV:z8G Tryz.prog Tryz.f17 Rows.planeSettingsSpec Rows.planeSettingsRow=true:=by kernel_rfl
theorem zod:Rows.PlaneSettingsSaid:=
 zgA (f:=17) (fn:=Tryz.f17) #[.agg #[.int .i64 0,.int .i64 0,.int .i64 0],.agg #[.bool false,.string ⟨#[]⟩,.bool false,.string ⟨#[]⟩,.bool false,.string ⟨#[]⟩,.bool false,.string ⟨#[]⟩,.bool false,.string ⟨#[]⟩],.agg #[.bool false,.string ⟨#[]⟩,.bool false,.string ⟨#[]⟩,.bool false,.string ⟨#[]⟩,.bool false,.string ⟨#[]⟩,.bool false,.string ⟨#[]⟩]] (fun H=>[.agg [.lit (.int .i64 0),.lit (.int .i64 0),.lit (.int .i64 0)],.agg [.agg [.agg [.lit (.bool false),.lit (.string [])],.agg [.lit (.bool false),.lit (.string [])],.agg [.lit (.bool false),.lit (.string [])],.agg [.lit (.bool false),.lit (.string [])]],.agg [.lit (.bool false),.lit (.string [])]],.agg [.agg [.agg [.lit (.bool false),.lit (.string [])],.agg [.lit (.bool false),.lit (.string [])],.agg [.lit (.bool false),.lit (.string [])],.agg [.lit (.bool false),.lit (.string [])]],.agg [.lit (.bool false),.lit (.string [])]]]) rfl rfl rfl rfl rfl rfl rfl ⟨rfl,rfl,rfl,rfl,rfl⟩ rfl rfl rfl rfl rfl j17_fn Tryz.func17 (zcb zo6 znw zn9 zpC zeV)
  (of_decide_eq_true (by kernel_rfl)) (by unfold Func.isWrapper;first|(rw[if_pos (by decide+kernel)];kernel_rfl)|(rw[if_neg (by decide+kernel)];exact⟨rfl,rfl⟩))
  (by kernel_rfl) (by kernel_rfl) rfl ⟨rfl,rfl,rfl,rfl⟩ rfl (fun os H enc=>⟨[],by kernel_rfl⟩) (fun os=>by kernel_rfl) (fun os=>by kernel_rfl) (fun os=>by kernel_rfl) (fun os H enc=>by kernel_rfl)
  (fun H enc W base args ds gs before hval hW=>by
   refine z8B rfl (by kernel_rfl) (fun ds hl=>?_) (by rw[Tryz.params17];exact of_decide_eq_true (by kernel_rfl)) hW (zdD W base args ds gs before hval hW)
   rw[show Tryz.f17.params.size=3 from by rw[Tryz.params17];rfl]at hl
   rcases ds with _|⟨a,_|⟨b,_|⟨c,_|⟨d,l⟩⟩⟩⟩<;>first|rfl|(simp at hl))
theorem zjr (f : FuncId) (fn : Func) (hf : Tryz.pinned.checked.prog.funcNamed "culet/culetlaw05.PlaneSettings" = some f) (hfn : Tryz.pinned.checked.prog.funcs[f]? = some fn) :
    false=Tryz.pinned.checked.prog.looks []∧ ∀(j:Nat) t,fn.params[j]?=some t→Tryz.pinned.checked.prog.wantsStandIn t=false:=by
 obtain rfl:f=17:=Option.some.inj (j17_fn.symm.trans hf) |>.symm
 obtain rfl:fn=Tryz.f17:=(Option.some.inj (Tryz.func17.symm.trans hfn)).symm
 refine⟨zfe,fun j t ht=>?_⟩
 rw[Tryz.params17]at ht
 have:=Array.mem_of_getElem? ht
 simp at this
 rcases this with rfl|rfl
 · exact(show Tryz.prog.wantsStandIn 97=false by kernel_rfl)
 · exact(show Tryz.prog.wantsStandIn 39=false by kernel_rfl)
theorem card17:Rows.PlaneSettingsCardSaid:=
 Claim7.holds_tied_plain_at .later [] _ _ _ _ zod (fun _ h=>by cases h) zmf (fun _ h=>by cases h) planeSettings_row_tie rfl ⟨rfl,rfl⟩ zlb rfl zjr znr
end Go.Fw
namespace Go.Proofs.YtcafjpldfnegiaaGreatDoor
theorem planeSettings_holds : Rows.PlaneSettingsCardSaid := Go.Fw.card17
end Go.Proofs.YtcafjpldfnegiaaGreatDoor
