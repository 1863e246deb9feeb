/- The law CalibrateNormal of culetlaw: for every input it returns true and leaves its arguments as they read. Conditions: the two listed tables of unicode/utf8 hold what the program's text lays. -/
import Derived.Test.YtcafjpldfnegiaaGreatDoorB13
import Derived.Test.YtcafjpldfnegiaaGreatDoorB14
import Derived.Test.YtcafjpldfnegiaaGreatDoorB45
open Go Go.Proofs Go.Proofs.YtcafjpldfnegiaaGreatDoor
namespace Go.Fw
open Go.ChangeShapes Go.WideShapes Go.ChangeAt Go.RowKit
set_option maxRecDepth 100000
theorem ze7:z88 Tryz.prog Tryz.f11 Rows.calibrateNormalSpec Rows.calibrateNormalRow=true:=by kernel_rfl
theorem zld:Rows.CalibrateNormalSaid:=
 zf5 (f:=11) (fn:=Tryz.f11) #[.slice none 0 0] (fun H=>[.nil]) rfl rfl rfl rfl rfl rfl rfl ⟨rfl,rfl,rfl,rfl,rfl⟩ rfl rfl rfl rfl rfl j11_fn Tryz.func11 (zdB zlv zkX zlW zma ze7)
  (of_decide_eq_true (by kernel_rfl)) (by unfold Func.isWrapper;first|(rw[if_pos (by decide+kernel)];kernel_rfl)|(rw[if_neg (by decide+kernel)];exact⟨rfl,rfl⟩))
  (by kernel_rfl) (by kernel_rfl) rfl ⟨rfl,rfl,rfl,rfl⟩ rfl (fun os H enc=>⟨[],by kernel_rfl⟩) (fun os=>by kernel_rfl) (fun os=>by kernel_rfl) (fun os=>by kernel_rfl) (fun os H enc=>by kernel_rfl)
  (fun H enc W base args ds gs before hval hW=>by
   refine z7I rfl (by kernel_rfl) (fun ds hl=>?_) (by rw[Tryz.params11];exact of_decide_eq_true (by kernel_rfl)) hW (zbV W base args ds gs before hval hW)
   rw[show Tryz.f11.params.size=1 from by rw[Tryz.params11];rfl]at hl
   rcases ds with _|⟨a,_|⟨b,l⟩⟩<;>first|rfl|(simp at hl))
theorem zgB (f : FuncId) (fn : Func) (hf : Tryz.pinned.checked.prog.funcNamed "culet/culetlaw52.CalibrateNormal" = some f) (hfn : Tryz.pinned.checked.prog.funcs[f]? = some fn) :
    false=Tryz.pinned.checked.prog.looks []∧ ∀(j:Nat) t,fn.params[j]?=some t→Tryz.pinned.checked.prog.wantsStandIn t=false:=by
 obtain rfl:f=11:=Option.some.inj (j11_fn.symm.trans hf) |>.symm
 obtain rfl:fn=Tryz.f11:=(Option.some.inj (Tryz.func11.symm.trans hfn)).symm
 refine⟨zeN,fun j t ht=>?_⟩
 rw[Tryz.params11]at ht
 have:=Array.mem_of_getElem? ht
 simp at this
 subst this
 · exact(show Tryz.prog.wantsStandIn 68=false by kernel_rfl)
theorem card11:Rows.CalibrateNormalCardSaid:=
 Claim7.holds_tied_plain_at .later [] _ _ _ _ zld (fun _ h=>by cases h) zmJ (fun _ h=>by cases h) calibrateNormal_row_tie rfl ⟨rfl,rfl⟩ zhB rfl zgB zmM
end Go.Fw
namespace Go.Proofs.YtcafjpldfnegiaaGreatDoor
theorem calibrateNormal_holds : Rows.CalibrateNormalCardSaid := Go.Fw.card11
end Go.Proofs.YtcafjpldfnegiaaGreatDoor
