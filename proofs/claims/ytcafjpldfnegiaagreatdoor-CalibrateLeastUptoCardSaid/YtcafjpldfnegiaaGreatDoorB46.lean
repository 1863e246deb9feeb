/- The law CalibrateLeastUpto of culetlaw: for every input it returns true and leaves its arguments as they read. Conditions: the two listed tables of unicode/utf8 hold what the program's text lays. -/
import Derived.Test.YtcafjpldfnegiaaGreatDoorB13
import Derived.Test.YtcafjpldfnegiaaGreatDoorB14
import Derived.Test.YtcafjpldfnegiaaGreatDoorB45
open Go Go.Proofs Go.Proofs.YtcafjpldfnegiaaGreatDoor
namespace Go.Fw
open Go.ChangeShapes Go.WideShapes Go.ChangeAt Go.RowKit
set_option maxRecDepth 100000
theorem zeu:z7M Tryz.prog Tryz.f13 Rows.calibrateLeastSpec Rows.calibrateLeastUptoRow=true:=by kernel_rfl
theorem znt:Rows.CalibrateLeastUptoSaid:=
 zcS (f:=13) (fn:=Tryz.f13) #[.slice none 0 0,.agg #[.bool false,.string ⟨#[]⟩,.bool false,.string ⟨#[]⟩,.bool false,.string ⟨#[]⟩,.bool false,.string ⟨#[]⟩,.bool false,.string ⟨#[]⟩,.bool false,.string ⟨#[]⟩,.bool false,.string ⟨#[]⟩,.bool false,.string ⟨#[]⟩,.bool false,.string ⟨#[]⟩,.bool false,.string ⟨#[]⟩,.bool false,.string ⟨#[]⟩,.bool false,.string ⟨#[]⟩,.bool false,.string ⟨#[]⟩,.bool false,.string ⟨#[]⟩,.bool false,.string ⟨#[]⟩]] (fun H=>[.nil,.agg [.agg [.agg [.agg [.lit (.bool false),.lit (.string [])],.agg [.lit (.bool false),.lit (.string [])],.agg [.lit (.bool false),.lit (.string [])],.agg [.lit (.bool false),.lit (.string [])]],.agg [.lit (.bool false),.lit (.string [])]],.agg [.agg [.agg [.lit (.bool false),.lit (.string [])],.agg [.lit (.bool false),.lit (.string [])],.agg [.lit (.bool false),.lit (.string [])],.agg [.lit (.bool false),.lit (.string [])]],.agg [.lit (.bool false),.lit (.string [])]],.agg [.agg [.agg [.lit (.bool false),.lit (.string [])],.agg [.lit (.bool false),.lit (.string [])],.agg [.lit (.bool false),.lit (.string [])],.agg [.lit (.bool false),.lit (.string [])]],.agg [.lit (.bool false),.lit (.string [])]]]]) rfl rfl rfl rfl rfl rfl rfl ⟨rfl,rfl,rfl,rfl,rfl⟩ rfl rfl rfl rfl rfl j13_fn Tryz.func13 (zcy zmx zny zle zl2 zeu)
  (of_decide_eq_true (by kernel_rfl)) (by unfold Func.isWrapper;first|(rw[if_pos (by decide+kernel)];kernel_rfl)|(rw[if_neg (by decide+kernel)];exact⟨rfl,rfl⟩))
  (by kernel_rfl) (by kernel_rfl) rfl ⟨rfl,rfl,rfl,rfl⟩ rfl (fun os H enc=>⟨[],by kernel_rfl⟩) (fun os=>by kernel_rfl) (fun os=>by kernel_rfl) (fun os=>by kernel_rfl) (fun os H enc=>by kernel_rfl) (fun H=>by kernel_rfl)
  (fun H enc W base args ds gs before hval hW hk=>by
   refine z8h rfl (by kernel_rfl) (fun ds hl=>?_) (by rw[Tryz.params13];exact of_decide_eq_true (by kernel_rfl)) hW (zci W base args ds gs before hval hW hk)
   rw[show Tryz.f13.params.size=2 from by rw[Tryz.params13];rfl]at hl
   rcases ds with _|⟨a,_|⟨b,_|⟨c,l⟩⟩⟩<;>first|rfl|(simp at hl))
theorem zhX (f : FuncId) (fn : Func) (hf : Tryz.pinned.checked.prog.funcNamed "culet/culetlaw52.CalibrateLeast" = some f) (hfn : Tryz.pinned.checked.prog.funcs[f]? = some fn) :
    false=Tryz.pinned.checked.prog.looks []∧ ∀(j:Nat) t,fn.params[j]?=some t→Tryz.pinned.checked.prog.wantsStandIn t=false:=by
 obtain rfl:f=13:=Option.some.inj (j13_fn.symm.trans hf) |>.symm
 obtain rfl:fn=Tryz.f13:=(Option.some.inj (Tryz.func13.symm.trans hfn)).symm
 refine⟨zfi,fun j t ht=>?_⟩
 rw[Tryz.params13]at ht
 have:=Array.mem_of_getElem? ht
 simp at this
 rcases this with rfl|rfl
 · exact(show Tryz.prog.wantsStandIn 68=false by kernel_rfl)
 · exact(show Tryz.prog.wantsStandIn 51=false by kernel_rfl)
theorem card13:Rows.CalibrateLeastUptoCardSaid:=
 Claim7.holds_tied_plain_at .later [] _ _ _ _ znt (fun _ h=>by cases h) zoH (fun _ h=>by cases h) calibrateLeastUpto_row_tie rfl ⟨rfl,rfl⟩ zif rfl zhX zlI
end Go.Fw
namespace Go.Proofs.YtcafjpldfnegiaaGreatDoor
theorem calibrateLeastUpto_holds : Rows.CalibrateLeastUptoCardSaid := Go.Fw.card13
end Go.Proofs.YtcafjpldfnegiaaGreatDoor
