/- The law CalibrateExact of culetlaw: for every input it returns true and leaves its arguments as they read. Conditions: the two listed tables of unicode/utf8 hold what the program's text lays. -/
import Derived.Test.YtcafjpldfnegiaaGreatDoorB13
import Derived.Test.YtcafjpldfnegiaaGreatDoorB14
import Derived.Test.YtcafjpldfnegiaaGreatDoorB43
open Go IntKind
open Go Go.Proofs Go.Proofs.YtcafjpldfnegiaaGreatDoor
namespace Go.Fw
open Go.ChangeShapes Go.WideShapes Go.ChangeAt Go.RowKit
set_option maxRecDepth 100000
theorem ze2:z7S Tryz.prog Tryz.f14 Rows.calibrateExactSpec Rows.calibrateExactRow=true:=by kernel_rfl
theorem zl1:Rows.CalibrateExactSaid:=
 zdC (f:=14) (fn:=Tryz.f14) #[.agg #[.int .i16 0,.int .i16 0,.int .i16 0],.slice none 0 0] (fun H=>[.agg [.lit (.int .i16 0),.lit (.int .i16 0),.lit (.int .i16 0)],.nil]) rfl rfl rfl rfl rfl rfl rfl ⟨rfl,rfl,rfl,rfl,rfl⟩ rfl rfl rfl rfl rfl j14_fn Tryz.func14 (zbV zn0 zlH zmg zjS ze2)
  (of_decide_eq_true (by kernel_rfl)) (by unfold Func.isWrapper;first|(rw[if_pos (by decide+kernel)];kernel_rfl)|(rw[if_neg (by decide+kernel)];exact⟨rfl,rfl⟩))
  (by kernel_rfl) (by kernel_rfl) rfl ⟨rfl,rfl,rfl,rfl⟩ rfl (fun os H enc=>⟨[],by kernel_rfl⟩) (fun os=>by kernel_rfl) (fun os=>by kernel_rfl) (fun os=>by kernel_rfl) (fun os H enc=>by kernel_rfl)
  (fun H enc W base args ds gs before hval hW=>by
   refine z7z rfl (by kernel_rfl) (fun ds hl=>?_) (by rw[Tryz.params14];exact of_decide_eq_true (by kernel_rfl)) hW (zcW W base args ds gs before hval hW)
   rw[show Tryz.f14.params.size=2 from by rw[Tryz.params14];rfl]at hl
   rcases ds with _|⟨a,_|⟨b,_|⟨c,l⟩⟩⟩<;>first|rfl|(simp at hl))
theorem zjn (f : FuncId) (fn : Func) (hf : Tryz.pinned.checked.prog.funcNamed "culet/culetlaw52.CalibrateExact" = some f) (hfn : Tryz.pinned.checked.prog.funcs[f]? = some fn) :
    false=Tryz.pinned.checked.prog.looks []∧ ∀(j:Nat) t,fn.params[j]?=some t→Tryz.pinned.checked.prog.wantsStandIn t=false:=by
 obtain rfl:f=14:=Option.some.inj (j14_fn.symm.trans hf) |>.symm
 obtain rfl:fn=Tryz.f14:=(Option.some.inj (Tryz.func14.symm.trans hfn)).symm
 refine⟨zfa,fun j t ht=>?_⟩
 rw[Tryz.params14]at ht
 have:=Array.mem_of_getElem? ht
 simp at this
 rcases this with rfl|rfl
 · exact(show Tryz.prog.wantsStandIn 92=false by kernel_rfl)
 · exact(show Tryz.prog.wantsStandIn 93=false by kernel_rfl)
theorem card14:Rows.CalibrateExactCardSaid:=
 Claim7.holds_tied_plain_at .later [] _ _ _ _ zl1 (fun _ h=>by cases h) zmn (fun _ h=>by cases h) calibrateExact_row_tie rfl ⟨rfl,rfl⟩ zhW rfl zjn zlK
end Go.Fw
namespace Go.Proofs.YtcafjpldfnegiaaGreatDoor
theorem calibrateExact_holds : Rows.CalibrateExactCardSaid := Go.Fw.card14
end Go.Proofs.YtcafjpldfnegiaaGreatDoor
