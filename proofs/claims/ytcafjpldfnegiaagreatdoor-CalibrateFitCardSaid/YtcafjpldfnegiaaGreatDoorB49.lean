/- The law CalibrateFit of culetlaw: for every input it returns true and leaves its arguments as they read. Conditions: the two listed tables of unicode/utf8 hold what the program's text lays. -/
import Derived.Test.YtcafjpldfnegiaaGreatDoorB13
import Derived.Test.YtcafjpldfnegiaaGreatDoorB14
import Derived.Test.YtcafjpldfnegiaaGreatDoorB48
open Go Go.Proofs Go.Proofs.YtcafjpldfnegiaaGreatDoor
namespace Go.Fw
open Go.ChangeShapes Go.WideShapes Go.ChangeAt Go.RowKit
set_option maxRecDepth 100000
theorem zgg:z8F Tryz.prog Tryz.f16 Rows.calibrateFitSpec Rows.calibrateFitRow=true:=by kernel_rfl
theorem zpi:Rows.CalibrateFitSaid:=
 zfJ (f:=16) (fn:=Tryz.f16) #[.slice none 0 0,.int .i64 0] (fun H=>[.nil,.lit (.int .i64 0)]) rfl rfl rfl rfl rfl rfl rfl ⟨rfl,rfl,rfl,rfl,rfl⟩ rfl rfl rfl rfl rfl j16_fn Tryz.func16 (zeo zoh zmS zqE zpZ zgg)
  (of_decide_eq_true (by kernel_rfl)) (by unfold Func.isWrapper;first|(rw[if_pos (by decide+kernel)];kernel_rfl)|(rw[if_neg (by decide+kernel)];exact⟨rfl,rfl⟩))
  (by kernel_rfl) (by kernel_rfl) rfl ⟨rfl,rfl,rfl,rfl⟩ rfl (fun os H enc=>⟨[],by kernel_rfl⟩) (fun os=>by kernel_rfl) (fun os=>by kernel_rfl) (fun os=>by kernel_rfl) (fun os H enc=>by kernel_rfl)
  (fun H enc W base args ds gs before hval hW=>by
   refine z89 rfl (by kernel_rfl) (fun ds hl=>?_) (by rw[Tryz.params16];exact of_decide_eq_true (by kernel_rfl)) hW (zdt W base args ds gs before hval hW)
   rw[show Tryz.f16.params.size=2 from by rw[Tryz.params16];rfl]at hl
   rcases ds with _|⟨a,_|⟨b,_|⟨c,l⟩⟩⟩<;>first|rfl|(simp at hl))
theorem zjt (f : FuncId) (fn : Func) (hf : Tryz.pinned.checked.prog.funcNamed "culet/culetlaw52.CalibrateFit" = some f) (hfn : Tryz.pinned.checked.prog.funcs[f]? = some fn) :
    false=Tryz.pinned.checked.prog.looks []∧ ∀(j:Nat) t,fn.params[j]?=some t→Tryz.pinned.checked.prog.wantsStandIn t=false:=by
 obtain rfl:f=16:=Option.some.inj (j16_fn.symm.trans hf) |>.symm
 obtain rfl:fn=Tryz.f16:=(Option.some.inj (Tryz.func16.symm.trans hfn)).symm
 refine⟨zgA,fun j t ht=>?_⟩
 rw[Tryz.params16]at ht
 have:=Array.mem_of_getElem? ht
 simp at this
 rcases this with rfl|rfl
 · exact(show Tryz.prog.wantsStandIn 68=false by kernel_rfl)
 · exact(show Tryz.prog.wantsStandIn 3=false by kernel_rfl)
theorem card16:Rows.CalibrateFitCardSaid:=
 Claim7.holds_tied_plain_at .later [] _ _ _ _ zpi (fun _ h=>by cases h) zoO (fun _ h=>by cases h) calibrateFit_row_tie rfl ⟨rfl,rfl⟩ ziV rfl zjt zo8
end Go.Fw
namespace Go.Proofs.YtcafjpldfnegiaaGreatDoor
theorem calibrateFit_holds : Rows.CalibrateFitCardSaid := Go.Fw.card16
end Go.Proofs.YtcafjpldfnegiaaGreatDoor
