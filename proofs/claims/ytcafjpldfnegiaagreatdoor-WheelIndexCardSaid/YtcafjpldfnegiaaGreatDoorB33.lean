/- A part of the proof that the law returns true for every input: an executor for the model's code, and what functions of the program compute. -/
import Derived.Test.YtcafjpldfnegiaaGreatDoorB09
import Derived.Test.YtcafjpldfnegiaaGreatDoorB14
import Derived.Test.YtcafjpldfnegiaaGreatDoorB32
import Derived.KernelRfl
open Go
namespace Go.Fw
set_option maxRecDepth 100000

theorem WSin_p1 (i : Int) : PCall P (35 : FuncId) [ci64 i] (numC (cosK (IntKind.i64.wrap (i % (24 : Int) - (6 : Int))))) :=
  pcallR (ors := [(2, Or.r (CV.lit (Value.int IntKind.i64 (i % (24 : Int))))), (4, Or.r (numC (cosK (IntKind.i64.wrap (i % (24 : Int) - (6 : Int))))))]) (by kernel_rfl) (.cons (Go.Fw.WMod_spec (i)) (.cons (Go.Fw.WCos_spec (IntKind.i64.wrap (i % (24 : Int) - (6 : Int)))) (.cons (show 10 ≤ 10 from (by decide)) .nil)))
theorem WIndex_p1 (t : Int) (b : Bool) (i : Int) (h1 : (validM t) = true) : PCall P (42 : FuncId) [CV.agg [ci64 t, CV.lit (Value.bool b)], ci64 i] (CV.lit (Value.int IntKind.i64 (IntKind.i64.wrap (turned i b + t) % (24 : Int)))) :=
  pcallR (ors := [(3, Or.r (CV.lit (Value.bool true))), (9, Or.r (CV.lit (Value.int IntKind.i64 (turned i b)))), (13, Or.r (CV.lit (Value.int IntKind.i64 (IntKind.i64.wrap (turned i b + t) % (24 : Int)))))]) (by kernel_rfl) (.cons ((Go.Fw.WValid_spec (t) (b)).eqB h1) (.cons (Go.Fw.Wturned_spec (i) (b)) (.cons (Go.Fw.WMod_spec (IntKind.i64.wrap (turned i b + t))) .nil)))
theorem WIndex_p2 (t : Int) (b : Bool) (i : Int) (h1 : (validM t) = false) : PCall P (42 : FuncId) [CV.agg [ci64 t, CV.lit (Value.bool b)], ci64 i] (CV.lit (Value.int IntKind.i64 (0 : Int))) :=
  pcallR (ors := [(3, Or.r (CV.lit (Value.bool false)))]) (by kernel_rfl) (.cons ((Go.Fw.WValid_spec (t) (b)).eqB h1) .nil)
theorem RIndex_p1 (t : Int) (b : Bool) (i : Int) (h1 : (validM t) = true) (h2 : (b) = true) : PCall P (43 : FuncId) [CV.agg [ci64 t, CV.lit (Value.bool b)], ci64 i] (CV.lit (Value.int IntKind.i64 (IntKind.i64.wrap (t - i % (24 : Int)) % (24 : Int)))) :=
  pcallR (ors := [(3, Or.r (CV.lit (Value.bool true))), (10, Or.b true), (14, Or.r (CV.lit (Value.int IntKind.i64 (i % (24 : Int))))), (16, Or.r (CV.lit (Value.int IntKind.i64 (IntKind.i64.wrap (t - i % (24 : Int)) % (24 : Int)))))]) (by kernel_rfl) (.cons ((Go.Fw.RValidM_spec (t) (b)).eqB h1) (.cons h2 (.cons (Go.Fw.RMod_spec (i)) (.cons (Go.Fw.RMod_spec (IntKind.i64.wrap (t - i % (24 : Int)))) .nil))))
theorem RIndex_p2 (t : Int) (b : Bool) (i : Int) (h1 : (validM t) = true) (h2 : (b) = false) : PCall P (43 : FuncId) [CV.agg [ci64 t, CV.lit (Value.bool b)], ci64 i] (CV.lit (Value.int IntKind.i64 (IntKind.i64.wrap (t + i % (24 : Int)) % (24 : Int)))) :=
  pcallR (ors := [(3, Or.r (CV.lit (Value.bool true))), (10, Or.b false), (14, Or.r (CV.lit (Value.int IntKind.i64 (i % (24 : Int))))), (16, Or.r (CV.lit (Value.int IntKind.i64 (IntKind.i64.wrap (t + i % (24 : Int)) % (24 : Int)))))]) (by kernel_rfl) (.cons ((Go.Fw.RValidM_spec (t) (b)).eqB h1) (.cons h2 (.cons (Go.Fw.RMod_spec (i)) (.cons (Go.Fw.RMod_spec (IntKind.i64.wrap (t + i % (24 : Int)))) .nil))))
theorem RIndex_p3 (t : Int) (b : Bool) (i : Int) (h1 : (validM t) = false) : PCall P (43 : FuncId) [CV.agg [ci64 t, CV.lit (Value.bool b)], ci64 i] (CV.lit (Value.int IntKind.i64 (0 : Int))) :=
  pcallR (ors := [(3, Or.r (CV.lit (Value.bool false)))]) (by kernel_rfl) (.cons ((Go.Fw.RValidM_spec (t) (b)).eqB h1) .nil)
theorem WInv_p1 (t : Int) (b : Bool) (h1 : (validM t) = true) (h2 : (b) = true) : PCall P (46 : FuncId) [CV.agg [ci64 t, CV.lit (Value.bool b)]] (CV.agg [CV.lit (Value.int IntKind.i64 t), CV.lit (Value.bool b)]) :=
  pcallR (ors := [(3, Or.r (CV.lit (Value.bool true))), (10, Or.b true)]) (by kernel_rfl) (.cons ((Go.Fw.WValid_spec (t) (b)).eqB h1) (.cons h2 (.cons (show 2 ≤ 2 from (by decide)) .nil)))
theorem WInv_p2 (t : Int) (b : Bool) (h1 : (validM t) = true) (h2 : (b) = false) : PCall P (46 : FuncId) [CV.agg [ci64 t, CV.lit (Value.bool b)]] (CV.agg [CV.lit (Value.int IntKind.i64 (IntKind.i64.wrap ((0 : Int) - t) % (24 : Int))), CV.lit (Value.bool false)]) :=
  pcallR (ors := [(3, Or.r (CV.lit (Value.bool true))), (10, Or.b false), (14, Or.r (CV.lit (Value.int IntKind.i64 (IntKind.i64.wrap ((0 : Int) - t) % (24 : Int)))))]) (by kernel_rfl) (.cons ((Go.Fw.WValid_spec (t) (b)).eqB h1) (.cons h2 (.cons (Go.Fw.WMod_spec (IntKind.i64.wrap ((0 : Int) - t))) (.cons (show 2 ≤ 2 from (by decide)) .nil))))
theorem WInv_p3 (t : Int) (b : Bool) (h1 : (validM t) = false) : PCall P (46 : FuncId) [CV.agg [ci64 t, CV.lit (Value.bool b)]] (CV.agg [CV.lit (Value.int IntKind.i64 (0 : Int)), CV.lit (Value.bool false)]) :=
  pcallR (ors := [(3, Or.r (CV.lit (Value.bool false)))]) (by kernel_rfl) (.cons ((Go.Fw.WValid_spec (t) (b)).eqB h1) (.cons (show 2 ≤ 2 from (by decide)) .nil))
theorem RInv_p1 (t : Int) (b : Bool) (h1 : (validM t) = true) (h2 : (b) = true) : PCall P (47 : FuncId) [CV.agg [ci64 t, CV.lit (Value.bool b)]] (CV.agg [CV.lit (Value.int IntKind.i64 t), CV.lit (Value.bool b)]) :=
  pcallR (ors := [(3, Or.r (CV.lit (Value.bool true))), (10, Or.b true)]) (by kernel_rfl) (.cons ((Go.Fw.RValidM_spec (t) (b)).eqB h1) (.cons h2 (.cons (show 2 ≤ 2 from (by decide)) .nil)))
theorem RInv_p2 (t : Int) (b : Bool) (h1 : (validM t) = true) (h2 : (b) = false) : PCall P (47 : FuncId) [CV.agg [ci64 t, CV.lit (Value.bool b)]] (CV.agg [CV.lit (Value.int IntKind.i64 (IntKind.i64.wrap ((0 : Int) - t) % (24 : Int))), CV.lit (Value.bool false)]) :=
  pcallR (ors := [(3, Or.r (CV.lit (Value.bool true))), (10, Or.b false), (14, Or.r (CV.lit (Value.int IntKind.i64 (IntKind.i64.wrap ((0 : Int) - t) % (24 : Int)))))]) (by kernel_rfl) (.cons ((Go.Fw.RValidM_spec (t) (b)).eqB h1) (.cons h2 (.cons (Go.Fw.RMod_spec (IntKind.i64.wrap ((0 : Int) - t))) (.cons (show 2 ≤ 2 from (by decide)) .nil))))
theorem RInv_p3 (t : Int) (b : Bool) (h1 : (validM t) = false) : PCall P (47 : FuncId) [CV.agg [ci64 t, CV.lit (Value.bool b)]] (CV.agg [CV.lit (Value.int IntKind.i64 (0 : Int)), CV.lit (Value.bool false)]) :=
  pcallR (ors := [(3, Or.r (CV.lit (Value.bool false)))]) (by kernel_rfl) (.cons ((Go.Fw.RValidM_spec (t) (b)).eqB h1) (.cons (show 2 ≤ 2 from (by decide)) .nil))
theorem WComp_p1 (t : Int) (b : Bool) (t' : Int) (b' : Bool) (h1 : (validM t) = true) (h2 : (validM t') = true) : PCall P (44 : FuncId) [CV.agg [ci64 t, CV.lit (Value.bool b)], CV.agg [ci64 t', CV.lit (Value.bool b')]] (CV.agg [CV.lit (Value.int IntKind.i64 (IntKind.i64.wrap (turned t b' + t') % (24 : Int))), CV.lit (Value.bool !b == b')]) :=
  pcallR (ors := [(4, Or.r (CV.lit (Value.bool true))), (8, Or.r (CV.lit (Value.bool true))), (16, Or.r (CV.lit (Value.int IntKind.i64 (turned t b')))), (20, Or.r (CV.lit (Value.int IntKind.i64 (IntKind.i64.wrap (turned t b' + t') % (24 : Int)))))]) (by kernel_rfl) (.cons ((Go.Fw.WValid_spec (t) (b)).eqB h1) (.cons ((Go.Fw.WValid_spec (t') (b')).eqB h2) (.cons (Go.Fw.Wturned_spec (t) (b')) (.cons (Go.Fw.WMod_spec (IntKind.i64.wrap (turned t b' + t'))) (.cons (show 2 ≤ 2 from (by decide)) .nil)))))
theorem WComp_p2 (t : Int) (b : Bool) (t' : Int) (b' : Bool) (h1 : (validM t) = true) (h2 : (validM t') = false) : PCall P (44 : FuncId) [CV.agg [ci64 t, CV.lit (Value.bool b)], CV.agg [ci64 t', CV.lit (Value.bool b')]] (CV.agg [CV.lit (Value.int IntKind.i64 (0 : Int)), CV.lit (Value.bool false)]) :=
  pcallR (ors := [(4, Or.r (CV.lit (Value.bool true))), (8, Or.r (CV.lit (Value.bool false)))]) (by kernel_rfl) (.cons ((Go.Fw.WValid_spec (t) (b)).eqB h1) (.cons ((Go.Fw.WValid_spec (t') (b')).eqB h2) (.cons (show 2 ≤ 2 from (by decide)) .nil)))
theorem WComp_p3 (t : Int) (b : Bool) (t' : Int) (b' : Bool) (h1 : (validM t) = false) : PCall P (44 : FuncId) [CV.agg [ci64 t, CV.lit (Value.bool b)], CV.agg [ci64 t', CV.lit (Value.bool b')]] (CV.agg [CV.lit (Value.int IntKind.i64 (0 : Int)), CV.lit (Value.bool false)]) :=
  pcallR (ors := [(4, Or.r (CV.lit (Value.bool false)))]) (by kernel_rfl) (.cons ((Go.Fw.WValid_spec (t) (b)).eqB h1) (.cons (show 2 ≤ 2 from (by decide)) .nil))
end Go.Fw
open Go
namespace Go.Fw
theorem WSin_spec (i : Int) : PCall P 35 [ci64 i] (numC (sinK i)) := (WSin_p1 i).eq (by rw [w64 (by omega)]; rfl)
theorem validM_iff {t : Int} : validM t = true ↔ 0 ≤ t ∧ t < 24 := by unfold validM; exact decide_eq_true_iff
def idxM (t : Int) (b : Bool) (i : Int) : Int := if validM t then (turned i b + t) % 24 else 0
theorem turned_bd (i : Int) (b : Bool) : -24 < turned i b ∧ turned i b < 24 := by unfold turned; split <;> omega
theorem WIndex_spec (t : Int) (b : Bool) (i : Int) : PCall P 42 [.agg [ci64 t, .lit (.bool b)], ci64 i] (ci64 (idxM t b i)) := by
  cases h : validM t with
  | true =>
    have := validM_iff.1 h
    have := turned_bd i b
    exact (WIndex_p1 t b i h).eq (by rw [w64 (by omega)]; simp only [idxM, h, if_true])
  | false => exact (WIndex_p2 t b i h).eq (by simp [idxM, h])
theorem RIndex_spec (t : Int) (b : Bool) (i : Int) : PCall P 43 [.agg [ci64 t, .lit (.bool b)], ci64 i] (ci64 (idxM t b i)) := by
  cases h : validM t with
  | true =>
    have := validM_iff.1 h
    cases b with
    | true => exact (RIndex_p1 t true i h rfl).eq (by rw [w64 (by omega)]; simp only [idxM, h, if_true, turned]; congr 3; omega)
    | false => exact (RIndex_p2 t false i h rfl).eq (by rw [w64 (by omega)]; simp only [idxM, h, if_true, turned]; congr 3; simp; omega)
  | false => exact (RIndex_p3 t b i h).eq (by simp [idxM, h])
def invM (t : Int) (b : Bool) : Int × Bool := if validM t then (if b then (t, true) else ((-t) % 24, false)) else (0, false)
theorem WInv_spec (t : Int) (b : Bool) : PCall P 46 [.agg [ci64 t, .lit (.bool b)]] (.agg [ci64 (invM t b).1, .lit (.bool (invM t b).2)]) := by
  cases h : validM t with
  | true =>
    have := validM_iff.1 h
    cases b with
    | true => exact (WInv_p1 t true h rfl).eq (by simp [invM, h])
    | false => exact (WInv_p2 t false h rfl).eq (by rw [w64 (by omega)]; simp [invM, h])
  | false => exact (WInv_p3 t b h).eq (by simp [invM, h])
theorem RInv_spec (t : Int) (b : Bool) : PCall P 47 [.agg [ci64 t, .lit (.bool b)]] (.agg [ci64 (invM t b).1, .lit (.bool (invM t b).2)]) := by
  cases h : validM t with
  | true =>
    have := validM_iff.1 h
    cases b with
    | true => exact (RInv_p1 t true h rfl).eq (by simp [invM, h])
    | false => exact (RInv_p2 t false h rfl).eq (by rw [w64 (by omega)]; simp [invM, h])
  | false => exact (RInv_p3 t b h).eq (by simp [invM, h])
def compM (t : Int) (b : Bool) (t' : Int) (b' : Bool) : Int × Bool := if validM t && validM t' then ((turned t b' + t') % 24, b != b') else (0, false)
theorem WComp_spec (t : Int) (b : Bool) (t' : Int) (b' : Bool) : PCall P 44 [.agg [ci64 t, .lit (.bool b)], .agg [ci64 t', .lit (.bool b')]] (.agg [ci64 (compM t b t' b').1, .lit (.bool (compM t b t' b').2)]) := by
  cases h : validM t with
  | true =>
    cases h' : validM t' with
    | true =>
      have := validM_iff.1 h'
      have := turned_bd t b'
      exact (WComp_p1 t b t' b' h h').eq (by rw [w64 (by omega)]; simp only [compM, h, h', Bool.and_self, if_true]; cases b <;> cases b' <;> rfl)
    | false => exact (WComp_p2 t b t' b' h h').eq (by simp [compM, h, h'])
  | false => exact (WComp_p3 t b t' b' h).eq (by simp [compM, h])
end Go.Fw
open Go
namespace Go.Fw
set_option maxRecDepth 100000

theorem RComp_p1 (t : Int) (b : Bool) (t' : Int) (b' : Bool) (h1 : (validM t) = true) (h2 : (validM t') = true) : PCall P (45 : FuncId) [CV.agg [ci64 t, CV.lit (Value.bool b)], CV.agg [ci64 t', CV.lit (Value.bool b')]] (CV.agg [CV.lit (Value.int IntKind.i64 (idxM t' b' (idxM t b (0 : Int)))), CV.lit (Value.bool !b == b')]) :=
  pcallR (ors := [(4, Or.r (CV.lit (Value.bool true))), (8, Or.r (CV.lit (Value.bool true))), (14, Or.r (CV.lit (Value.int IntKind.i64 (idxM t b (0 : Int))))), (15, Or.r (CV.lit (Value.int IntKind.i64 (idxM t' b' (idxM t b (0 : Int))))))]) (by kernel_rfl) (.cons ((Go.Fw.RValidM_spec (t) (b)).eqB h1) (.cons ((Go.Fw.RValidM_spec (t') (b')).eqB h2) (.cons (Go.Fw.RIndex_spec (t) (b) ((0 : Int))) (.cons (Go.Fw.RIndex_spec (t') (b') (idxM t b (0 : Int))) (.cons (show 2 ≤ 2 from (by decide)) .nil)))))
theorem RComp_p2 (t : Int) (b : Bool) (t' : Int) (b' : Bool) (h1 : (validM t) = true) (h2 : (validM t') = false) : PCall P (45 : FuncId) [CV.agg [ci64 t, CV.lit (Value.bool b)], CV.agg [ci64 t', CV.lit (Value.bool b')]] (CV.agg [CV.lit (Value.int IntKind.i64 (0 : Int)), CV.lit (Value.bool false)]) :=
  pcallR (ors := [(4, Or.r (CV.lit (Value.bool true))), (8, Or.r (CV.lit (Value.bool false)))]) (by kernel_rfl) (.cons ((Go.Fw.RValidM_spec (t) (b)).eqB h1) (.cons ((Go.Fw.RValidM_spec (t') (b')).eqB h2) (.cons (show 2 ≤ 2 from (by decide)) .nil)))
theorem RComp_p3 (t : Int) (b : Bool) (t' : Int) (b' : Bool) (h1 : (validM t) = false) : PCall P (45 : FuncId) [CV.agg [ci64 t, CV.lit (Value.bool b)], CV.agg [ci64 t', CV.lit (Value.bool b')]] (CV.agg [CV.lit (Value.int IntKind.i64 (0 : Int)), CV.lit (Value.bool false)]) :=
  pcallR (ors := [(4, Or.r (CV.lit (Value.bool false)))]) (by kernel_rfl) (.cons ((Go.Fw.RValidM_spec (t) (b)).eqB h1) (.cons (show 2 ≤ 2 from (by decide)) .nil))
end Go.Fw
open Go
namespace Go.Fw
set_option maxRecDepth 100000

theorem WMot_p1 (o : Int) (b : Bool) (h1 : (decide (o < (1 : Int))) = true) : PCall P (26 : FuncId) [ci64 o, CV.lit (Value.bool b)] (CV.tup [CV.lit (Value.slice none 0 0), CV.lit (Value.int IntKind.i64 (2 : Int))]) :=
  pcallR (ors := [(4, Or.b true)]) (by kernel_rfl) (.cons h1 .nil)
theorem WMot_p2 (o : Int) (b : Bool) (h1 : (decide (o < (1 : Int))) = false) (h2 : (decide (o > (24 : Int))) = true) : PCall P (26 : FuncId) [ci64 o, CV.lit (Value.bool b)] (CV.tup [CV.lit (Value.slice none 0 0), CV.lit (Value.int IntKind.i64 (2 : Int))]) :=
  pcallR (ors := [(4, Or.b false), (8, Or.b true)]) (by kernel_rfl) (.cons h1 (.cons h2 .nil))
theorem WMot_p3 (o : Int) (b : Bool) (h1 : (decide (o < (1 : Int))) = false) (h2 : (decide (o > (24 : Int))) = false) (h3 : (Int.tmod (24 : Int) o != (0 : Int)) = true) (o2 : o ≠ (0 : Int)) : PCall P (26 : FuncId) [ci64 o, CV.lit (Value.bool b)] (CV.tup [CV.lit (Value.slice none 0 0), CV.lit (Value.int IntKind.i64 (2 : Int))]) :=
  pcallR (ors := [(4, Or.b false), (8, Or.b false), (13, Or.b true)]) (by kernel_rfl) (.cons h1 (.cons h2 (.cons o2 (.cons h3 .nil))))
theorem WMot_p4 (o : Int) (b : Bool) (h1 : (decide (o < (1 : Int))) = false) (h2 : (decide (o > (24 : Int))) = false) (h3 : (Int.tmod (24 : Int) o != (0 : Int)) = false) (h4 : (!b) = true) (o2 : o ≠ (0 : Int)) {R : CV → Prop} (hR : Ok P (26 : FuncId) (loopHead P (26 : FuncId) 0) ⟨mkTm 49 [(0, MV.cv (CV.lit (Value.int IntKind.i64 o))), (7, MV.cv (CV.lit (Value.slice none 0 0))), (27, MV.sl 0 0 1 1), (28, MV.cv (CV.lit (Value.int IntKind.i64 (1 : Int)))), (29, MV.cv (CV.lit (Value.int IntKind.i64 (0 : Int))))], [some [MV.cv (CV.lit (Value.bool false)), MV.cv (CV.lit (Value.bool true))]]⟩ (.of R)) : PCallQ P (26 : FuncId) [ci64 o, CV.lit (Value.bool b)] R :=
  pcallS (keep := [0, 7, 27, 28, 29]) (σ := [0]) (ors := [(4, Or.b false), (8, Or.b false), (13, Or.b false), (18, Or.b true), (26, Or.stop)]) (by kernel_rfl) rfl (.cons h1 (.cons h2 (.cons o2 (.cons h3 (.cons h4 (.cons (show (0 : Int) ≤ (0 : Int) ∧ (0 : Int) ≤ (1 : Int) ∧ (1 : Int) ≤ (2 : Int) ∧ ((0 : Int) = (0 : Int) ∨ (0 : Int) < (1 : Int)) from (by decide)) (.cons (show CvL [MV.cv (CV.lit (Value.bool false)), MV.cv (CV.lit (Value.bool true))] from (by simp [CvL])) .nil))))))) hR
theorem WMot_p5 (o : Int) (b : Bool) (h1 : (decide (o < (1 : Int))) = false) (h2 : (decide (o > (24 : Int))) = false) (h3 : (Int.tmod (24 : Int) o != (0 : Int)) = false) (h4 : (!b) = false) (o2 : o ≠ (0 : Int)) {R : CV → Prop} (hR : Ok P (26 : FuncId) (loopHead P (26 : FuncId) 0) ⟨mkTm 49 [(0, MV.cv (CV.lit (Value.int IntKind.i64 o))), (7, MV.cv (CV.lit (Value.slice none 0 0))), (27, MV.sl 0 0 2 1), (28, MV.cv (CV.lit (Value.int IntKind.i64 (2 : Int)))), (29, MV.cv (CV.lit (Value.int IntKind.i64 (0 : Int))))], [some [MV.cv (CV.lit (Value.bool false)), MV.cv (CV.lit (Value.bool true))]]⟩ (.of R)) : PCallQ P (26 : FuncId) [ci64 o, CV.lit (Value.bool b)] R :=
  pcallS (keep := [0, 7, 27, 28, 29]) (σ := [0]) (ors := [(4, Or.b false), (8, Or.b false), (13, Or.b false), (18, Or.b false), (23, Or.stop)]) (by kernel_rfl) rfl (.cons h1 (.cons h2 (.cons o2 (.cons h3 (.cons h4 (.cons (show CvL [MV.cv (CV.lit (Value.bool false)), MV.cv (CV.lit (Value.bool true))] from (by simp [CvL])) .nil)))))) hR
end Go.Fw
open Go
namespace Go.Fw
set_option maxRecDepth 100000

theorem WMA_p1 (o : Int) (n : Int) (m : Nat) (h1 : (decide ((0 : Int) < n)) = true) (o1 : (0 : Int) ≤ (0 : Int) ∧ (0 : Int) < (↑m : Int)) {R : Goal} (hn : lentOk R.n [0] = true) (hR : Ok P (26 : FuncId) (loopHead P (26 : FuncId) 1) ⟨mkTm 49 [(0, MV.cv (CV.lit (Value.int IntKind.i64 o))), (7, MV.cv (CV.lit (Value.slice none 0 0))), (9, MV.cv (CV.lit (Value.bool false))), (27, MV.sl 0 0 m 1), (28, MV.cv (CV.lit (Value.int IntKind.i64 n))), (29, MV.cv (CV.lit (Value.int IntKind.i64 (0 : Int)))), (33, MV.cv (CV.lit (Value.int IntKind.i64 o))), (34, MV.cv (CV.lit (Value.int IntKind.i64 (0 : Int))))], [some [MV.cv (CV.lit (Value.bool false)), MV.cv (CV.lit (Value.bool true))]]⟩ R) : Ok P (26 : FuncId) (loopHead P (26 : FuncId) 0) ({ tm := mkTm 49 [(0, MV.cv (ci64 o)), (7, MV.cv (CV.lit (Value.slice none 0 0))), (27, MV.sl 0 0 m 1), (28, MV.cv (ci64 n)), (29, MV.cv (ci64 (0 : Int)))], hp := [some [MV.cv (CV.lit (Value.bool false)), MV.cv (CV.lit (Value.bool true))]] }) R :=
  okS (keep := [0, 7, 9, 27, 28, 29, 33, 34]) (σ := [0]) (ors := [(2, Or.b true), (8, Or.stop)]) (by kernel_rfl) rfl (.cons h1 (.cons o1 (.cons (show CvL [MV.cv (CV.lit (Value.bool false)), MV.cv (CV.lit (Value.bool true))] from (by simp [CvL])) .nil))) hn hR
theorem WMA_p2 (o : Int) (n : Int) (m : Nat) (h1 : (decide ((0 : Int) < n)) = false) {R : Goal} (hR : R.c (CV.tup [CV.lit (Value.slice none 0 0), CV.lit (Value.int IntKind.i64 (0 : Int))])) : Ok P (26 : FuncId) (loopHead P (26 : FuncId) 0) ({ tm := mkTm 49 [(0, MV.cv (ci64 o)), (7, MV.cv (CV.lit (Value.slice none 0 0))), (27, MV.sl 0 0 m 1), (28, MV.cv (ci64 n)), (29, MV.cv (ci64 (0 : Int)))], hp := [some [MV.cv (CV.lit (Value.bool false)), MV.cv (CV.lit (Value.bool true))]] }) R :=
  okR (ors := [(2, Or.b false)]) (by kernel_rfl) (.cons h1 .nil) hR
theorem WMB_p1 (o : Int) (n : Int) (j : Int) (m : Nat) (f : Bool) (h1 : (decide ((0 : Int) < o)) = true) (o1 : o ≠ (0 : Int)) {R : Goal} (hn : lentOk R.n [2, 0] = true) (hR : Ok P (26 : FuncId) (loopHead P (26 : FuncId) 1) ⟨mkTm 49 [(0, MV.cv (CV.lit (Value.int IntKind.i64 o))), (7, MV.sl 0 0 1 2), (9, MV.cv (CV.lit (Value.bool f))), (27, MV.sl (0 + 1) 0 m 1), (28, MV.cv (CV.lit (Value.int IntKind.i64 n))), (29, MV.cv (CV.lit (Value.int IntKind.i64 j))), (33, MV.cv (CV.lit (Value.int IntKind.i64 o))), (34, MV.cv (CV.lit (Value.int IntKind.i64 (1 : Int))))], [some [MV.cv (CV.lit (Value.int IntKind.i64 (IntKind.i64.wrap (Int.tdiv (0 : Int) o)))), MV.cv (CV.lit (Value.bool f))], some [MV.cv (CV.lit (Value.bool false)), MV.cv (CV.lit (Value.bool true))]]⟩ R) : Ok P (26 : FuncId) (loopHead P (26 : FuncId) 1) ({ tm := mkTm 49 [(0, MV.cv (ci64 o)), (7, MV.cv (CV.lit (Value.slice none 0 0))), (9, MV.cv (CV.lit (Value.bool f))), (27, MV.sl 0 0 m 1), (28, MV.cv (ci64 n)), (29, MV.cv (ci64 j)), (33, MV.cv (ci64 o)), (34, MV.cv (ci64 (0 : Int)))], hp := [some [MV.cv (CV.lit (Value.bool false)), MV.cv (CV.lit (Value.bool true))]] }) R :=
  okS (keep := [0, 7, 9, 27, 28, 29, 33, 34]) (σ := [2, 0]) (ors := [(2, Or.b true), (17, Or.stop)]) (by kernel_rfl) rfl (.cons h1 (.cons o1 (.cons (show 16 ≤ 1099511627776 from (by decide)) (.cons (show 1 ≤ 1099511627776 from (by decide)) (.cons (show 0 < 1 from (by decide)) (.cons (show 2 = 2 from (by decide)) (.cons (show CvL [MV.cv (CV.lit (Value.int IntKind.i64 (IntKind.i64.wrap (Int.tdiv (0 : Int) o)))), MV.cv (CV.lit (Value.bool f))] from (by simp [CvL])) (.cons (show CvL [MV.cv (CV.lit (Value.bool false)), MV.cv (CV.lit (Value.bool true))] from (by simp [CvL])) .nil)))))))) hn hR
theorem WMB_p2 (o : Int) (n : Int) (j : Int) (m : Nat) (f : Bool) (h1 : (decide ((0 : Int) < o)) = false) {R : Goal} (hn : lentOk R.n [0] = true) (hR : Ok P (26 : FuncId) (loopHead P (26 : FuncId) 0) ⟨mkTm 49 [(0, MV.cv (CV.lit (Value.int IntKind.i64 o))), (7, MV.cv (CV.lit (Value.slice none 0 0))), (27, MV.sl 0 0 m 1), (28, MV.cv (CV.lit (Value.int IntKind.i64 n))), (29, MV.cv (CV.lit (Value.int IntKind.i64 (IntKind.i64.wrap (j + (1 : Int))))))], [some [MV.cv (CV.lit (Value.bool false)), MV.cv (CV.lit (Value.bool true))]]⟩ R) : Ok P (26 : FuncId) (loopHead P (26 : FuncId) 1) ({ tm := mkTm 49 [(0, MV.cv (ci64 o)), (7, MV.cv (CV.lit (Value.slice none 0 0))), (9, MV.cv (CV.lit (Value.bool f))), (27, MV.sl 0 0 m 1), (28, MV.cv (ci64 n)), (29, MV.cv (ci64 j)), (33, MV.cv (ci64 o)), (34, MV.cv (ci64 (0 : Int)))], hp := [some [MV.cv (CV.lit (Value.bool false)), MV.cv (CV.lit (Value.bool true))]] }) R :=
  okS (keep := [0, 7, 27, 28, 29]) (σ := [0]) (ors := [(2, Or.b false), (5, Or.stop)]) (by kernel_rfl) rfl (.cons h1 (.cons (show CvL [MV.cv (CV.lit (Value.bool false)), MV.cv (CV.lit (Value.bool true))] from (by simp [CvL])) .nil)) hn hR
theorem WMC_p1 (o : Int) (n : Int) (j : Int) (k : Int) (m : Nat) (c : Nat) (f : Bool) (cells : List CV) (h1 : (decide (k < o)) = true) (o1 : o ≠ (0 : Int)) (o2 : (c + 1) * 16 ≤ 1099511627776) (o3 : c + 1 ≤ 1099511627776) (o4 : (own cells).length = c * 2) (o5 : OneL [MV.cv (CV.lit (Value.int IntKind.i64 (IntKind.i64.wrap ((IntKind.i64.wrap (k * (24 : Int))).tdiv o)))), MV.cv (CV.lit (Value.bool f))]) (o7 : CvL (own cells ++ [MV.cv (CV.lit (Value.int IntKind.i64 (IntKind.i64.wrap ((IntKind.i64.wrap (k * (24 : Int))).tdiv o)))), MV.cv (CV.lit (Value.bool f))])) {R : Goal} (hn : lentOk R.n [3, 1] = true) (hR : Ok P (26 : FuncId) (loopHead P (26 : FuncId) 1) ⟨mkTm 49 [(0, MV.cv (CV.lit (Value.int IntKind.i64 o))), (7, MV.sl 0 0 (c + 1) 2), (9, MV.cv (CV.lit (Value.bool f))), (27, MV.sl (0 + 1) 0 m 1), (28, MV.cv (CV.lit (Value.int IntKind.i64 n))), (29, MV.cv (CV.lit (Value.int IntKind.i64 j))), (33, MV.cv (CV.lit (Value.int IntKind.i64 o))), (34, MV.cv (CV.lit (Value.int IntKind.i64 (IntKind.i64.wrap (k + (1 : Int))))))], [some (own cells ++ [MV.cv (CV.lit (Value.int IntKind.i64 (IntKind.i64.wrap ((IntKind.i64.wrap (k * (24 : Int))).tdiv o)))), MV.cv (CV.lit (Value.bool f))]), some [MV.cv (CV.lit (Value.bool false)), MV.cv (CV.lit (Value.bool true))]]⟩ R) : Ok P (26 : FuncId) (loopHead P (26 : FuncId) 1) ({ tm := mkTm 49 [(0, MV.cv (ci64 o)), (7, MV.sl 0 0 c 2), (9, MV.cv (CV.lit (Value.bool f))), (27, MV.sl 1 0 m 1), (28, MV.cv (ci64 n)), (29, MV.cv (ci64 j)), (33, MV.cv (ci64 o)), (34, MV.cv (ci64 k))], hp := [some (own cells), some [MV.cv (CV.lit (Value.bool false)), MV.cv (CV.lit (Value.bool true))]] }) R :=
  okS (keep := [0, 7, 9, 27, 28, 29, 33, 34]) (σ := [3, 1]) (ors := [(2, Or.b true), (17, Or.stop)]) (by kernel_rfl) rfl (.cons h1 (.cons o1 (.cons o2 (.cons o3 (.cons o4 (.cons o5 (.cons (show 2 = 2 from (by decide)) (.cons o7 (.cons (show CvL [MV.cv (CV.lit (Value.bool false)), MV.cv (CV.lit (Value.bool true))] from (by simp [CvL])) .nil))))))))) hn hR
theorem WMC_p2 (o : Int) (n : Int) (j : Int) (k : Int) (m : Nat) (c : Nat) (f : Bool) (cells : List CV) (h1 : (decide (k < o)) = false) (o1 : CvL (own cells)) {R : Goal} (hn : lentOk R.n [0, 1] = true) (hR : Ok P (26 : FuncId) (loopHead P (26 : FuncId) 0) ⟨mkTm 49 [(0, MV.cv (CV.lit (Value.int IntKind.i64 o))), (7, MV.sl 0 0 c 2), (27, MV.sl (0 + 1) 0 m 1), (28, MV.cv (CV.lit (Value.int IntKind.i64 n))), (29, MV.cv (CV.lit (Value.int IntKind.i64 (IntKind.i64.wrap (j + (1 : Int))))))], [some (own cells), some [MV.cv (CV.lit (Value.bool false)), MV.cv (CV.lit (Value.bool true))]]⟩ R) : Ok P (26 : FuncId) (loopHead P (26 : FuncId) 1) ({ tm := mkTm 49 [(0, MV.cv (ci64 o)), (7, MV.sl 0 0 c 2), (9, MV.cv (CV.lit (Value.bool f))), (27, MV.sl 1 0 m 1), (28, MV.cv (ci64 n)), (29, MV.cv (ci64 j)), (33, MV.cv (ci64 o)), (34, MV.cv (ci64 k))], hp := [some (own cells), some [MV.cv (CV.lit (Value.bool false)), MV.cv (CV.lit (Value.bool true))]] }) R :=
  okS (keep := [0, 7, 27, 28, 29]) (σ := [0, 1]) (ors := [(2, Or.b false), (5, Or.stop)]) (by kernel_rfl) rfl (.cons h1 (.cons o1 (.cons (show CvL [MV.cv (CV.lit (Value.bool false)), MV.cv (CV.lit (Value.bool true))] from (by simp [CvL])) .nil))) hn hR
theorem WMD_p1 (o : Int) (n : Int) (m : Nat) (c : Nat) (cells : List CV) (h1 : (decide ((1 : Int) < n)) = true) (o1 : (0 : Int) ≤ (1 : Int) ∧ (1 : Int) < (↑m : Int)) (o2 : CvL (own cells)) {R : Goal} (hn : lentOk R.n [0, 1] = true) (hR : Ok P (26 : FuncId) (loopHead P (26 : FuncId) 1) ⟨mkTm 49 [(0, MV.cv (CV.lit (Value.int IntKind.i64 o))), (7, MV.sl 0 0 c 2), (9, MV.cv (CV.lit (Value.bool true))), (27, MV.sl (0 + 1) 0 m 1), (28, MV.cv (CV.lit (Value.int IntKind.i64 n))), (29, MV.cv (CV.lit (Value.int IntKind.i64 (1 : Int)))), (33, MV.cv (CV.lit (Value.int IntKind.i64 o))), (34, MV.cv (CV.lit (Value.int IntKind.i64 (0 : Int))))], [some (own cells), some [MV.cv (CV.lit (Value.bool false)), MV.cv (CV.lit (Value.bool true))]]⟩ R) : Ok P (26 : FuncId) (loopHead P (26 : FuncId) 0) ({ tm := mkTm 49 [(0, MV.cv (ci64 o)), (7, MV.sl 0 0 c 2), (27, MV.sl 1 0 m 1), (28, MV.cv (ci64 n)), (29, MV.cv (ci64 (1 : Int)))], hp := [some (own cells), some [MV.cv (CV.lit (Value.bool false)), MV.cv (CV.lit (Value.bool true))]] }) R :=
  okS (keep := [0, 7, 9, 27, 28, 29, 33, 34]) (σ := [0, 1]) (ors := [(2, Or.b true), (8, Or.stop)]) (by kernel_rfl) rfl (.cons h1 (.cons o1 (.cons o2 (.cons (show CvL [MV.cv (CV.lit (Value.bool false)), MV.cv (CV.lit (Value.bool true))] from (by simp [CvL])) .nil)))) hn hR
theorem WMD_p2 (o : Int) (n : Int) (m : Nat) (c : Nat) (cells : List CV) (h1 : (decide ((1 : Int) < n)) = false) (o1 : List.take (c * 2) (List.drop 0 (own cells)) = List.map MV.cv cells) {R : Goal} (hR : R.c (CV.tup [CV.lst c cells, CV.lit (Value.int IntKind.i64 (0 : Int))])) : Ok P (26 : FuncId) (loopHead P (26 : FuncId) 0) ({ tm := mkTm 49 [(0, MV.cv (ci64 o)), (7, MV.sl 0 0 c 2), (27, MV.sl 1 0 m 1), (28, MV.cv (ci64 n)), (29, MV.cv (ci64 (1 : Int)))], hp := [some (own cells), some [MV.cv (CV.lit (Value.bool false)), MV.cv (CV.lit (Value.bool true))]] }) R :=
  okR (ors := [(2, Or.b false), (6, Or.r (CV.lit undef) [cells])]) (by kernel_rfl) (.cons h1 (.cons o1 .nil)) hR
theorem WME_p1 (o : Int) (n : Int) (j : Int) (h : decide (j < n) = false) (m : Nat) (c : Nat) (cells : List CV) (o1 : List.take (c * 2) (List.drop 0 (own cells)) = List.map MV.cv cells) {R : Goal} (hR : R.c (CV.tup [CV.lst c cells, CV.lit (Value.int IntKind.i64 (0 : Int))])) : Ok P (26 : FuncId) (loopHead P (26 : FuncId) 0) ({ tm := mkTm 49 [(0, MV.cv (ci64 o)), (7, MV.sl 0 0 c 2), (27, MV.sl 1 0 m 1), (28, MV.cv (ci64 n)), (29, MV.cv (ci64 j))], hp := [some (own cells), some [MV.cv (CV.lit (Value.bool false)), MV.cv (CV.lit (Value.bool true))]] }) R :=
  okR (ors := [(2, Or.b false), (6, Or.r (CV.lit undef) [cells])]) (by kernel_rfl) (.cons h (.cons o1 .nil)) hR
end Go.Fw
open Go
namespace Go.Fw
theorem RComp_spec (t : Int) (b : Bool) (t' : Int) (b' : Bool) : PCall P 45 [.agg [ci64 t, .lit (.bool b)], .agg [ci64 t', .lit (.bool b')]] (.agg [ci64 (compM t b t' b').1, .lit (.bool (compM t b t' b').2)]) := by
  cases h : validM t with
  | true =>
    cases h' : validM t' with
    | true =>
      have q := validM_iff.1 h
      have q' := validM_iff.1 h'
      refine (RComp_p1 t b t' b' h h').eq ?_
      have e : idxM t b 0 = t := by simp only [idxM, h, if_true, turned]; cases b <;> simp <;> omega
      rw [e]
      simp only [compM, h, h', Bool.and_self, if_true, idxM]
      cases b <;> cases b' <;> rfl
    | false => exact (RComp_p2 t b t' b' h h').eq (by simp [compM, h, h'])
  | false => exact (RComp_p3 t b t' b' h).eq (by simp [compM, h])

/-- The cells of the first k motions of order o, with or without reflection. -/
def motL (o : Int) (f : Bool) : Nat → List CV
  | 0 => []
  | k + 1 => motL o f k ++ [ci64 (k * (24 / o)), .lit (.bool f)]
theorem motL_length (o : Int) (f : Bool) : ∀ k, (motL o f k).length = k * 2
  | 0 => rfl
  | k + 1 => by simp [motL, motL_length o f k]; omega
def okO (o : Int) : Prop := 1 ≤ o ∧ o ≤ 24 ∧ 24 % o = 0
theorem okO_cases {o : Int} (h : okO o) : o = 1 ∨ o = 2 ∨ o = 3 ∨ o = 4 ∨ o = 6 ∨ o = 8 ∨ o = 12 ∨ o = 24 := by
  obtain ⟨h1, h2, h3⟩ := h
  have : o = 1 ∨ o = 2 ∨ o = 3 ∨ o = 4 ∨ o = 5 ∨ o = 6 ∨ o = 7 ∨ o = 8 ∨ o = 9 ∨ o = 10 ∨ o = 11 ∨ o = 12 ∨ o = 13 ∨ o = 14 ∨ o = 15 ∨ o = 16 ∨ o = 17 ∨ o = 18 ∨ o = 19 ∨ o = 20 ∨ o = 21 ∨ o = 22 ∨ o = 23 ∨ o = 24 := by omega
  rcases this with rfl | rfl | rfl | rfl | rfl | rfl | rfl | rfl | rfl | rfl | rfl | rfl | rfl | rfl | rfl | rfl | rfl | rfl | rfl | rfl | rfl | rfl | rfl | rfl <;> revert h3 <;> decide
theorem step24 {o : Int} (h : okO o) (k : Nat) (hk : (k : Int) < o) : IntKind.i64.wrap ((IntKind.i64.wrap (k * 24)).tdiv o) = k * (24 / o) ∧ IntKind.i64.wrap (k * IntKind.i64.wrap (Int.tdiv 24 o)) = k * (24 / o) := by
  have b : 0 ≤ 24 / o ∧ 24 / o ≤ 24 := by rcases okO_cases h with rfl | rfl | rfl | rfl | rfl | rfl | rfl | rfl <;> decide
  rw [w64 (n := k * 24) (by have := h.2.1; omega), Int.tdiv_eq_ediv_of_nonneg (by omega), Int.tdiv_eq_ediv_of_nonneg (by omega), w64 (n := 24 / o) (by omega)]
  rcases okO_cases h with rfl | rfl | rfl | rfl | rfl | rfl | rfl | rfl
  all_goals
    simp only [Int.reduceDiv]
    refine ⟨?_, ?_⟩
    · rw [w64 (by omega)]; omega
    · rw [w64 (by omega)]

def cellsM (o : Int) (b : Bool) : List CV := motL o false o.toNat ++ (if b then motL o true o.toNat else [])
def cntM (o : Int) (b : Bool) : Nat := if b then o.toNat + o.toNat else o.toNat
theorem CvL.own (l : List CV) : CvL (own l) := CvL.map_cv l
theorem own_app (a b : List CV) : own (a ++ b) = own a ++ own b := by simp [own]
theorem WM_inner {R : Goal} {o n j : Int} {m : Nat} {f : Bool} (ho : okO o) (pre : List CV) (c0 : Nat) (hc : c0 ≤ 24) (hp : pre.length = c0 * 2) (hn : R.n = 0) (hj : -1000 < j ∧ j < 1000)
    (hR : Ok P 26 (loopHead P 26 0) ⟨mkTm 49 [(0, .cv (ci64 o)), (7, .sl 0 0 (c0 + o.toNat) 2), (27, .sl 1 0 m 1), (28, .cv (ci64 n)), (29, .cv (ci64 (j + 1)))], [some (own (pre ++ motL o f o.toNat)), some [.cv (.lit (.bool false)), .cv (.lit (.bool true))]]⟩ R) :
    ∀ (d k : Nat), k + d = o.toNat → Ok P 26 (loopHead P 26 1) ⟨mkTm 49 [(0, .cv (ci64 o)), (7, .sl 0 0 (c0 + k) 2), (9, .cv (.lit (.bool f))), (27, .sl 1 0 m 1), (28, .cv (ci64 n)), (29, .cv (ci64 j)), (33, .cv (ci64 o)), (34, .cv (ci64 k))], [some (own (pre ++ motL o f k)), some [.cv (.lit (.bool false)), .cv (.lit (.bool true))]]⟩ R
  | 0, k, hk => by
    have h1 := ho.1
    have e : k = o.toNat := by omega
    subst e
    refine WMC_p2 o n j _ m _ f _ (decide_eq_false (by omega)) (CvL.own _) (by rw [hn]; rfl) ?_
    rw [w64 (by omega)]
    exact hR
  | d + 1, k, hk => by
    have h1 := ho.1
    have h2 := ho.2.1
    have e := (step24 ho k (by omega)).1
    refine WMC_p1 o n j _ m _ f _ (decide_eq_true (by omega)) (by omega) (by omega) (by omega) (by simp [own, motL_length, hp]; omega) (by intro m hm; simp only [List.mem_cons, List.not_mem_nil, or_false] at hm; rcases hm with rfl | rfl <;> rfl) ?_ (by rw [hn]; rfl) ?_
    · show CvL (own (pre ++ motL o f k) ++ own [ci64 _, .lit (.bool f)])
      rw [← own_app]; exact CvL.own _
    · rw [e, w64 (by omega)]
      have := WM_inner ho pre c0 hc hp hn hj hR d (k + 1) (by omega)
      rw [show pre ++ motL o f (k + 1) = pre ++ motL o f k ++ [ci64 (k * (24 / o)), .lit (.bool f)] by simp [motL], own_app] at this
      exact this

/-- The motions of an order, in a list. -/
def motsV (o : Int) (b : Bool) : CV := .lst (cntM o b) (cellsM o b)
theorem WM_mid {R : Goal} {o n j : Int} {m : Nat} (ho : okO o) (hn : R.n = 0) (f : Bool) (hf : f = false) (hj : j = 0)
    (hR : Ok P 26 (loopHead P 26 0) ⟨mkTm 49 [(0, .cv (ci64 o)), (7, .sl 0 0 o.toNat 2), (27, .sl 1 0 m 1), (28, .cv (ci64 n)), (29, .cv (ci64 1))], [some (own (motL o false o.toNat)), some [.cv (.lit (.bool false)), .cv (.lit (.bool true))]]⟩ R) :
    Ok P 26 (loopHead P 26 1) ⟨mkTm 49 [(0, .cv (ci64 o)), (7, .cv (.lit (.slice none 0 0))), (9, .cv (.lit (.bool f))), (27, .sl 0 0 m 1), (28, .cv (ci64 n)), (29, .cv (ci64 j)), (33, .cv (ci64 o)), (34, .cv (ci64 0))], [some [.cv (.lit (.bool false)), .cv (.lit (.bool true))]]⟩ R := by
  subst hf hj
  have h1 := ho.1
  have h2 := ho.2.1
  refine WMB_p1 o n 0 m false (decide_eq_true (by omega)) (by omega) (by rw [hn]; rfl) ?_
  have := WM_inner (R := R) (n := n) (j := 0) (m := m) (f := false) ho [] 0 (by omega) rfl hn (by omega) (by simpa using hR) (o.toNat - 1) 1 (by omega)
  have e : IntKind.i64.wrap (Int.tdiv 0 o) = ((0 : Nat) : Int) * (24 / o) := by rw [Int.zero_tdiv]; simp; rfl
  rw [e]
  exact this
theorem WMot_ok (o : Int) (b : Bool) (ho : okO o) : PCall P 26 [ci64 o, .lit (.bool b)] (.tup [motsV o b, ci64 0]) := by
  have h1 := ho.1
  have h2 := ho.2.1
  have h3 : (Int.tmod 24 o != 0) = false := by rcases okO_cases ho with rfl | rfl | rfl | rfl | rfl | rfl | rfl | rfl <;> decide
  cases b with
  | false =>
    refine WMot_p4 o false (decide_eq_false (by omega)) (decide_eq_false (by omega)) h3 rfl (by omega) (R := (· = _)) ?_
    refine WMA_p1 o 1 1 (by decide) (by decide) rfl ?_
    refine WM_mid ho rfl false rfl rfl ?_
    exact WMD_p2 o 1 1 _ _ (by decide) (by simp [own, motL_length, List.take_of_length_le]) (show CV.tup _ = CV.tup _ by simp [motsV, cntM, cellsM])
  | true =>
    refine WMot_p5 o true (decide_eq_false (by omega)) (decide_eq_false (by omega)) h3 rfl (by omega) (R := (· = _)) ?_
    refine WMA_p1 o 2 2 (by decide) (by decide) rfl ?_
    refine WM_mid ho rfl false rfl rfl ?_
    refine WMD_p1 o 2 2 _ _ (by decide) (by decide) (CvL.own _) rfl ?_
    have := WM_inner (R := (· = CV.tup [motsV o true, ci64 0])) (n := 2) (j := 1) (m := 2) (f := true) ho (motL o false o.toNat) o.toNat (by omega) (motL_length _ _ _) rfl (by omega) ?_ o.toNat 0 (by omega)
    · simpa [motL] using this
    · exact WME_p1 o 2 2 (by decide) 2 _ _ (by rw [List.drop_zero]; exact List.take_of_length_le (by simp [own, motL_length]; omega)) (show CV.tup _ = CV.tup _ by simp [motsV, cntM, cellsM])
theorem WMot_bad (o : Int) (b : Bool) (ho : ¬ okO o) : PCall P 26 [ci64 o, .lit (.bool b)] (.tup [.lit (.slice none 0 0), ci64 2]) := by
  cases h1 : decide (o < 1) with
  | true => exact WMot_p1 o b h1
  | false =>
    have h1' := of_decide_eq_false h1
    cases h2 : decide (o > 24) with
    | true => exact WMot_p2 o b h1 h2
    | false =>
      have h2' := of_decide_eq_false h2
      refine WMot_p3 o b h1 h2 ?_ (by omega)
      rw [Int.tmod_eq_emod_of_nonneg (by omega)]
      have : ¬ 24 % o = 0 := fun h => ho ⟨by omega, by omega, h⟩
      simpa using this
end Go.Fw
open Go
namespace Go.Fw
set_option maxRecDepth 100000

theorem WOrbB_p1 (i : Int) (o : Int) (b : Bool) (s4_0 : ¬okO o) : PCall P (28 : FuncId) [ci64 i, ci64 o, CV.lit (Value.bool b)] (CV.tup [CV.lit (Value.slice none 0 0), CV.lit (Value.int IntKind.i64 (2 : Int))]) :=
  pcallR (ors := [(4, Or.r (CV.tup [CV.lit (Value.slice none 0 0), CV.lit (Value.int IntKind.i64 (2 : Int))]))]) (by kernel_rfl) (.cons (Go.Fw.WMot_bad (o) (b) s4_0) .nil)
theorem WOrb_p1 (i : Int) (o : Int) (b : Bool) (s4_0 : okO o) {R : CV → Prop} (hR : Ok P (28 : FuncId) (loopHead P (28 : FuncId) 0) ⟨mkTm 48 [(0, MV.cv (CV.lit (Value.int IntKind.i64 i))), (10, MV.ptr 0 0), (25, MV.cv (CV.lst (cntM o b) (cellsM o b))), (26, MV.cv (CV.lit (Value.int IntKind.i64 (↑(cntM o b) : Int)))), (27, MV.cv (CV.lit (Value.int IntKind.i64 (0 : Int))))], [some [MV.cv (CV.lit (Value.bool false)), MV.cv (CV.lit (Value.bool false)), MV.cv (CV.lit (Value.bool false)), MV.cv (CV.lit (Value.bool false)), MV.cv (CV.lit (Value.bool false)), MV.cv (CV.lit (Value.bool false)), MV.cv (CV.lit (Value.bool false)), MV.cv (CV.lit (Value.bool false)), MV.cv (CV.lit (Value.bool false)), MV.cv (CV.lit (Value.bool false)), MV.cv (CV.lit (Value.bool false)), MV.cv (CV.lit (Value.bool false)), MV.cv (CV.lit (Value.bool false)), MV.cv (CV.lit (Value.bool false)), MV.cv (CV.lit (Value.bool false)), MV.cv (CV.lit (Value.bool false)), MV.cv (CV.lit (Value.bool false)), MV.cv (CV.lit (Value.bool false)), MV.cv (CV.lit (Value.bool false)), MV.cv (CV.lit (Value.bool false)), MV.cv (CV.lit (Value.bool false)), MV.cv (CV.lit (Value.bool false)), MV.cv (CV.lit (Value.bool false)), MV.cv (CV.lit (Value.bool false))]]⟩ (.of R)) : PCallQ P (28 : FuncId) [ci64 i, ci64 o, CV.lit (Value.bool b)] R :=
  pcallS (keep := [0, 10, 25, 26, 27]) (σ := [1]) (ors := [(4, Or.r (CV.tup [CV.lst (cntM o b) (cellsM o b), CV.lit (Value.int IntKind.i64 (0 : Int))])), (17, Or.stop)]) (by kernel_rfl) rfl (.cons (Go.Fw.WMot_ok (o) (b) s4_0) (.cons (show CvL [MV.cv (CV.lit (Value.bool false)), MV.cv (CV.lit (Value.bool false)), MV.cv (CV.lit (Value.bool false)), MV.cv (CV.lit (Value.bool false)), MV.cv (CV.lit (Value.bool false)), MV.cv (CV.lit (Value.bool false)), MV.cv (CV.lit (Value.bool false)), MV.cv (CV.lit (Value.bool false)), MV.cv (CV.lit (Value.bool false)), MV.cv (CV.lit (Value.bool false)), MV.cv (CV.lit (Value.bool false)), MV.cv (CV.lit (Value.bool false)), MV.cv (CV.lit (Value.bool false)), MV.cv (CV.lit (Value.bool false)), MV.cv (CV.lit (Value.bool false)), MV.cv (CV.lit (Value.bool false)), MV.cv (CV.lit (Value.bool false)), MV.cv (CV.lit (Value.bool false)), MV.cv (CV.lit (Value.bool false)), MV.cv (CV.lit (Value.bool false)), MV.cv (CV.lit (Value.bool false)), MV.cv (CV.lit (Value.bool false)), MV.cv (CV.lit (Value.bool false)), MV.cv (CV.lit (Value.bool false))] from (by simp [CvL])) .nil)) hR
end Go.Fw
open Go
namespace Go.Fw
/-- A motion's cells. -/
def IsMot (cs : List CV) : Prop := ∃ (t : Int) (b : Bool), cs = [ci64 t, .lit (.bool b)]
def idxL (cs : List CV) (i : Int) : Int := match cs with
  | [.lit (.int _ t), .lit (.bool b)] => idxM t b i
  | _ => 0
theorem WIndexL (cs : List CV) (i : Int) (h : IsMot cs) : PCall P 42 [.agg cs, ci64 i] (ci64 (idxL cs i)) := by
  obtain ⟨t, b, rfl⟩ := h
  exact WIndex_spec t b i
theorem RIndexL (cs : List CV) (i : Int) (h : IsMot cs) : PCall P 43 [.agg cs, ci64 i] (ci64 (idxL cs i)) := by
  obtain ⟨t, b, rfl⟩ := h
  exact RIndex_spec t b i
/-- Twenty-four marks. -/
def th (t : Nat → Bool) (p : Nat) : MV := .cv (.lit (.bool (t p)))
def thsM (t : Nat → Bool) : List MV := [th t 0, th t 1, th t 2, th t 3, th t 4, th t 5, th t 6, th t 7, th t 8, th t 9, th t 10, th t 11, th t 12, th t 13, th t 14, th t 15, th t 16, th t 17, th t 18, th t 19, th t 20, th t 21, th t 22, th t 23]
end Go.Fw
open Go
namespace Go.Fw
set_option maxRecDepth 100000

theorem WOL_p1 (i : Int) (n : Nat) (k : Int) (mt : Int) (mf : Bool) (es : List CV) (ths : List CV) (h1 : (decide (k < (↑n : Int))) = true) (o1 : (0 : Int) ≤ k ∧ k < (↑n : Int)) (o2 : List.take 2 (List.drop (k.toNat * 2) es) = [CV.lit (Value.int IntKind.i64 mt), CV.lit (Value.bool mf)]) (o6 : (0 : Int) ≤ idxM mt mf i ∧ idxM mt mf i < (24 : Int)) (o7 : 0 + (idxM mt mf i).toNat * 1 + 1 ≤ (own ths).length) (o8 : CvL (setCells (own ths) (0 + (idxM mt mf i).toNat * 1) [MV.cv (CV.lit (Value.bool true))])) {R : Goal} (hn : lentOk R.n [0] = true) (hR : Ok P (28 : FuncId) (loopHead P (28 : FuncId) 0) ⟨mkTm 48 [(0, MV.cv (CV.lit (Value.int IntKind.i64 i))), (10, MV.ptr 0 0), (25, MV.cv (CV.lst n es)), (26, MV.cv (CV.lit (Value.int IntKind.i64 (↑n : Int)))), (27, MV.cv (CV.lit (Value.int IntKind.i64 (IntKind.i64.wrap (k + (1 : Int))))))], [some (setCells (own ths) (0 + (idxM mt mf i).toNat * 1) [MV.cv (CV.lit (Value.bool true))])]⟩ R) : Ok P (28 : FuncId) (loopHead P (28 : FuncId) 0) ({ tm := mkTm 48 [(0, MV.cv (ci64 i)), (10, MV.ptr 0 0), (25, MV.cv (CV.lst n es)), (26, MV.cv (ci64 (↑n : Int))), (27, MV.cv (ci64 k))], hp := [some (own ths)] }) R :=
  okS (keep := [0, 10, 25, 26, 27]) (σ := [0]) (ors := [(2, Or.b true), (4, Or.r (CV.agg [CV.lit (Value.int IntKind.i64 mt), CV.lit (Value.bool mf)])), (9, Or.r (CV.lit (Value.int IntKind.i64 (idxM mt mf i)))), (14, Or.stop)]) (by kernel_rfl) rfl (.cons h1 (.cons o1 (.cons o2 (.cons (show 2 = 2 from (by decide)) (.cons (show 2 ≤ 2 from (by decide)) (.cons (Go.Fw.WIndex_spec (mt) (mf) (i)) (.cons o6 (.cons o7 (.cons o8 .nil))))))))) hn hR
theorem WOX_p1 (i : Int) (n : Nat) (k : Int) (h : decide (k < (↑n : Int)) = false) (es : List CV) (t : Nat → Bool) {R : Goal} (hn : lentOk R.n [] = true) (hR : Ok P (28 : FuncId) (loopHead P (28 : FuncId) 1) ⟨mkTm 48 [(13, MV.cv (CV.lit (Value.slice none 0 0))), (36, MV.agg [MV.cv (CV.lit (Value.bool (t 0))), MV.cv (CV.lit (Value.bool (t 1))), MV.cv (CV.lit (Value.bool (t 2))), MV.cv (CV.lit (Value.bool (t 3))), MV.cv (CV.lit (Value.bool (t 4))), MV.cv (CV.lit (Value.bool (t 5))), MV.cv (CV.lit (Value.bool (t 6))), MV.cv (CV.lit (Value.bool (t 7))), MV.cv (CV.lit (Value.bool (t 8))), MV.cv (CV.lit (Value.bool (t 9))), MV.cv (CV.lit (Value.bool (t 10))), MV.cv (CV.lit (Value.bool (t 11))), MV.cv (CV.lit (Value.bool (t 12))), MV.cv (CV.lit (Value.bool (t 13))), MV.cv (CV.lit (Value.bool (t 14))), MV.cv (CV.lit (Value.bool (t 15))), MV.cv (CV.lit (Value.bool (t 16))), MV.cv (CV.lit (Value.bool (t 17))), MV.cv (CV.lit (Value.bool (t 18))), MV.cv (CV.lit (Value.bool (t 19))), MV.cv (CV.lit (Value.bool (t 20))), MV.cv (CV.lit (Value.bool (t 21))), MV.cv (CV.lit (Value.bool (t 22))), MV.cv (CV.lit (Value.bool (t 23)))]), (37, MV.cv (CV.lit (Value.int IntKind.i64 (0 : Int))))], []⟩ R) : Ok P (28 : FuncId) (loopHead P (28 : FuncId) 0) ({ tm := mkTm 48 [(0, MV.cv (ci64 i)), (10, MV.ptr 0 0), (25, MV.cv (CV.lst n es)), (26, MV.cv (ci64 (↑n : Int))), (27, MV.cv (ci64 k))], hp := [some (thsM t)] }) R :=
  okS (keep := [13, 36, 37]) (σ := []) (ors := [(2, Or.b false), (6, Or.stop)]) (by kernel_rfl) rfl (.cons h .nil) hn hR
theorem WOE_p1 (t : Nat → Bool) {R : Goal} (hR : R.c (CV.tup [CV.lit (Value.slice none 0 0), CV.lit (Value.int IntKind.i64 (0 : Int))])) : Ok P (28 : FuncId) (loopHead P (28 : FuncId) 1) ({ tm := mkTm 48 [(13, MV.cv (CV.lit (Value.slice none 0 0))), (36, MV.agg (thsM t)), (37, MV.cv (ci64 (24 : Int)))], hp := [] }) R :=
  okR (ors := []) (by kernel_rfl) .nil hR
theorem WOF_p1 (t : Nat → Bool) (c : Nat) (out : List CV) (o0 : List.take (c * 1) (List.drop 0 (own out)) = List.map MV.cv out) {R : Goal} (hR : R.c (CV.tup [CV.lst c out, CV.lit (Value.int IntKind.i64 (0 : Int))])) : Ok P (28 : FuncId) (loopHead P (28 : FuncId) 1) ({ tm := mkTm 48 [(13, MV.sl 0 0 c 1), (36, MV.agg (thsM t)), (37, MV.cv (ci64 (24 : Int)))], hp := [some (own out)] }) R :=
  okR (ors := [(6, Or.r (CV.lit undef) [out])]) (by kernel_rfl) (.cons o0 .nil) hR
end Go.Fw
