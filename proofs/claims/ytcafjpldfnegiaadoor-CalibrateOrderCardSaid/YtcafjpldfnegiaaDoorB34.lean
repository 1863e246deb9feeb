/- The law CalibrateOrder of culetlaw: for every input it returns true and leaves its arguments as they read. Conditions: the two listed tables of unicode/utf8 hold what the program's text lays. -/
import Derived.Test.YtcafjpldfnegiaaDoorB13
import Derived.Test.YtcafjpldfnegiaaDoorB14
import Derived.Test.YtcafjpldfnegiaaDoorB33
open Go IntKind
open Go Go.Proofs Go.Proofs.YtcafjpldfnegiaaDoor
namespace Go.Fw
open Go.ChangeShapes Go.WideShapes Go.ChangeAt Go.RowKit
set_option maxRecDepth 100000
theorem zco:z66 Tryd.prog Tryd.f3 Rows.calibrateOrderSpec Rows.calibrateOrderRow=true:=by kernel_rfl
theorem zgU:Rows.CalibrateOrderSaid:=
 zbw (f:=3) (fn:=Tryd.f3) #[.slice none 0 0,.int .u8 0] (fun H=>[.nil,.lit (.int .u8 0)]) rfl rfl rfl rfl rfl rfl rfl ⟨rfl,rfl,rfl,rfl,rfl⟩ rfl rfl rfl rfl rfl j3_fn Tryd.func3 (z8Z zh6 zh8 zgF zgK zco)
  (of_decide_eq_true (by kernel_rfl)) (by unfold Func.isWrapper;first|(rw[if_pos (by decide+kernel)];kernel_rfl)|(rw[if_neg (by decide+kernel)];exact⟨rfl,rfl⟩))
  (by kernel_rfl) (by kernel_rfl) rfl ⟨rfl,rfl,rfl,rfl⟩ rfl (fun os H enc=>⟨[],by kernel_rfl⟩) (fun os=>by kernel_rfl) (fun os=>by kernel_rfl) (fun os=>by kernel_rfl) (fun os H enc=>by kernel_rfl)
  (fun H enc W base args ds gs before hval hW=>by
   refine z5Q rfl (by kernel_rfl) (fun ds hl=>?_) (by rw[Tryd.params3];exact of_decide_eq_true (by kernel_rfl)) hW (zb4 W base args ds gs before hval hW)
   rw[show Tryd.f3.params.size=2 from by rw[Tryd.params3];rfl]at hl
   rcases ds with _|⟨a,_|⟨b,_|⟨c,l⟩⟩⟩<;>first|rfl|(simp at hl))
theorem zek (f : FuncId) (fn : Func) (hf : Tryd.pinned.checked.prog.funcNamed "culet/culetlaw52.CalibrateOrder" = some f) (hfn : Tryd.pinned.checked.prog.funcs[f]? = some fn) :
    false=Tryd.pinned.checked.prog.looks []∧ ∀(j:Nat) t,fn.params[j]?=some t→Tryd.pinned.checked.prog.wantsStandIn t=false:=by
 obtain rfl:f=3:=Option.some.inj (j3_fn.symm.trans hf) |>.symm
 obtain rfl:fn=Tryd.f3:=(Option.some.inj (Tryd.func3.symm.trans hfn)).symm
 refine⟨zax,fun j t ht=>?_⟩
 rw[Tryd.params3]at ht
 have:=Array.mem_of_getElem? ht
 simp at this
 rcases this with rfl|rfl
 · exact(show Tryd.prog.wantsStandIn 22=false by kernel_rfl)
 · exact(show Tryd.prog.wantsStandIn 5=false by kernel_rfl)
theorem card3:Rows.CalibrateOrderCardSaid:=
 Claim7.holds_tied_plain_at .later [] _ _ _ _ zgU (fun _ h=>by cases h) zgS (fun _ h=>by cases h) calibrateOrder_row_tie rfl ⟨rfl,rfl⟩ zcX rfl zek zgX
end Go.Fw
namespace Go.Proofs.YtcafjpldfnegiaaDoor
theorem calibrateOrder_holds : Rows.CalibrateOrderCardSaid := Go.Fw.card3
end Go.Proofs.YtcafjpldfnegiaaDoor
