/- The law CalibrateTurned of culetlaw: for every input it returns true and leaves its arguments as they read. Conditions: the two listed tables of unicode/utf8 hold what the program's text lays. -/
import Derived.Test.YtcafjpldfnegiaaGreatDoorB13
import Derived.Test.YtcafjpldfnegiaaGreatDoorB14
import Derived.Test.YtcafjpldfnegiaaGreatDoorB46
open Go Go.Proofs Go.Proofs.YtcafjpldfnegiaaGreatDoor
namespace Go.Fw
open Go.ChangeShapes Go.WideShapes Go.ChangeAt Go.RowKit
set_option maxRecDepth 100000
theorem zeb:z7Y Tryz.prog Tryz.f12 Rows.calibrateTurnedSpec Rows.calibrateTurnedRow=true:=by kernel_rfl
theorem zl3:Rows.CalibrateTurnedSaid:=
 zg5 (f:=12) (fn:=Tryz.f12) #[.slice none 0 0,.int .i16 0,.int .i8 0] (fun H=>[.nil,.lit (.int .i16 0),.lit (.int .i8 0)]) rfl rfl rfl rfl rfl rfl rfl ⟨rfl,rfl,rfl,rfl,rfl⟩ rfl rfl rfl rfl rfl j12_fn Tryz.func12 (zde zo9 zoh zlv zkH zeb)
  (of_decide_eq_true (by kernel_rfl)) (by unfold Func.isWrapper;first|(rw[if_pos (by decide+kernel)];kernel_rfl)|(rw[if_neg (by decide+kernel)];exact⟨rfl,rfl⟩))
  (by kernel_rfl) (by kernel_rfl) rfl ⟨rfl,rfl,rfl,rfl⟩ rfl (fun os H enc=>⟨[],by kernel_rfl⟩) (fun os=>by kernel_rfl) (fun os=>by kernel_rfl) (fun os=>by kernel_rfl) (fun os H enc=>by kernel_rfl)
  (fun H enc W base args ds gs before hval hW=>by
   refine z87 rfl (by kernel_rfl) (fun ds hl=>?_) (by rw[Tryz.params12];exact of_decide_eq_true (by kernel_rfl)) hW (zcW W base args ds gs before hval hW)
   rw[show Tryz.f12.params.size=3 from by rw[Tryz.params12];rfl]at hl
   rcases ds with _|⟨a,_|⟨b,_|⟨c,_|⟨d,l⟩⟩⟩⟩<;>first|rfl|(simp at hl))
theorem zif (f : FuncId) (fn : Func) (hf : Tryz.pinned.checked.prog.funcNamed "culet/culetlaw52.CalibrateTurned" = some f) (hfn : Tryz.pinned.checked.prog.funcs[f]? = some fn) :
    false=Tryz.pinned.checked.prog.looks []∧ ∀(j:Nat) t,fn.params[j]?=some t→Tryz.pinned.checked.prog.wantsStandIn t=false:=by
 obtain rfl:f=12:=Option.some.inj (j12_fn.symm.trans hf) |>.symm
 obtain rfl:fn=Tryz.f12:=(Option.some.inj (Tryz.func12.symm.trans hfn)).symm
 refine⟨zeH,fun j t ht=>?_⟩
 rw[Tryz.params12]at ht
 have:=Array.mem_of_getElem? ht
 simp at this
 rcases this with rfl|rfl|rfl
 · exact(show Tryz.prog.wantsStandIn 68=false by kernel_rfl)
 · exact(show Tryz.prog.wantsStandIn 82=false by kernel_rfl)
 · exact(show Tryz.prog.wantsStandIn 42=false by kernel_rfl)
theorem card12:Rows.CalibrateTurnedCardSaid:=
 Claim7.holds_tied_plain_at .later [] _ _ _ _ zl3 (fun _ h=>by cases h) zms (fun _ h=>by cases h) calibrateTurned_row_tie rfl ⟨rfl,rfl⟩ zgN rfl zif zo1
end Go.Fw
namespace Go.Proofs.YtcafjpldfnegiaaGreatDoor
theorem calibrateTurned_holds : Rows.CalibrateTurnedCardSaid := Go.Fw.card12
end Go.Proofs.YtcafjpldfnegiaaGreatDoor
