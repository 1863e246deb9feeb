/- A part of the proof that the law returns true for every input: an executor for the model's code, and what functions of the program compute. -/
import Derived.Test.YtcafjpldfnegiaaGreatDoorB09
import Derived.Test.YtcafjpldfnegiaaGreatDoorB10
import Derived.Test.YtcafjpldfnegiaaGreatDoorB14
import Derived.Test.YtcafjpldfnegiaaGreatDoorB33
import Derived.Test.YtcafjpldfnegiaaGreatDoorB34
import Derived.KernelRfl
open Go
namespace Go.Fw
set_option maxRecDepth 100000

theorem Sm_p1 (n : Nat) (m : Nat) (xs : List Nat) (ys : List Nat) (h1 : ((↑n : Int) != (↑m : Int)) = false) {R : CV → Prop} (hR : Ok P (30 : FuncId) (loopHead P (30 : FuncId) 0) ⟨mkTm 26 [(0, MV.cv (CV.lst n (i64s xs))), (1, MV.cv (CV.lst m (i64s ys))), (5, MV.cv (CV.lit (Value.int IntKind.i64 (0 : Int))))], []⟩ (.of R)) : PCallQ P (30 : FuncId) [CV.lst n (i64s xs), CV.lst m (i64s ys)] R :=
  pcallS (keep := [0, 1, 5]) (σ := []) (ors := [(6, Or.b false), (8, Or.stop)]) (by kernel_rfl) rfl (.cons h1 .nil) hR
theorem SmL_p1 (n : Nat) (m : Nat) (i : Nat) (xs : List Nat) (ys : List Nat) (h1 : (decide ((↑i : Int) < (↑n : Int))) = true) (h2 : ((↑(xs.getD ((↑i : Int).toNat * 1) 0) : Int) != (↑(ys.getD ((↑i : Int).toNat * 1) 0) : Int)) = true) (o1 : (0 : Int) ≤ (↑i : Int) ∧ (↑i : Int) < (↑n : Int)) (o2 : (i64s xs)[(↑i : Int).toNat * 1]? = some (CV.lit (Value.int IntKind.i64 (↑(xs.getD ((↑i : Int).toNat * 1) 0) : Int)))) (o4 : (0 : Int) ≤ (↑i : Int) ∧ (↑i : Int) < (↑m : Int)) (o5 : (i64s ys)[(↑i : Int).toNat * 1]? = some (CV.lit (Value.int IntKind.i64 (↑(ys.getD ((↑i : Int).toNat * 1) 0) : Int)))) {R : Goal} (hR : R.c (CV.lit (Value.bool false))) : Ok P (30 : FuncId) (loopHead P (30 : FuncId) 0) ({ tm := mkTm 26 [(0, MV.cv (CV.lst n (i64s xs))), (1, MV.cv (CV.lst m (i64s ys))), (5, MV.cv (ci64 (↑i : Int)))], hp := [] }) R :=
  okR (ors := [(5, Or.b true), (9, Or.r (CV.lit (Value.int IntKind.i64 (↑(xs.getD ((↑i : Int).toNat * 1) 0) : Int)))), (13, Or.r (CV.lit (Value.int IntKind.i64 (↑(ys.getD ((↑i : Int).toNat * 1) 0) : Int)))), (15, Or.b true)]) (by kernel_rfl) (.cons h1 (.cons o1 (.cons o2 (.cons (show 1 = 1 from (by decide)) (.cons o4 (.cons o5 (.cons (show 1 = 1 from (by decide)) (.cons h2 .nil)))))))) hR
theorem SmL_p2 (n : Nat) (m : Nat) (i : Nat) (xs : List Nat) (ys : List Nat) (h1 : (decide ((↑i : Int) < (↑n : Int))) = true) (h2 : ((↑(xs.getD ((↑i : Int).toNat * 1) 0) : Int) != (↑(ys.getD ((↑i : Int).toNat * 1) 0) : Int)) = false) (o1 : (0 : Int) ≤ (↑i : Int) ∧ (↑i : Int) < (↑n : Int)) (o2 : (i64s xs)[(↑i : Int).toNat * 1]? = some (CV.lit (Value.int IntKind.i64 (↑(xs.getD ((↑i : Int).toNat * 1) 0) : Int)))) (o4 : (0 : Int) ≤ (↑i : Int) ∧ (↑i : Int) < (↑m : Int)) (o5 : (i64s ys)[(↑i : Int).toNat * 1]? = some (CV.lit (Value.int IntKind.i64 (↑(ys.getD ((↑i : Int).toNat * 1) 0) : Int)))) {R : Goal} (hn : lentOk R.n [] = true) (hR : Ok P (30 : FuncId) (loopHead P (30 : FuncId) 0) ⟨mkTm 26 [(0, MV.cv (CV.lst n (i64s xs))), (1, MV.cv (CV.lst m (i64s ys))), (5, MV.cv (CV.lit (Value.int IntKind.i64 (IntKind.i64.wrap ((↑i : Int) + (1 : Int))))))], []⟩ R) : Ok P (30 : FuncId) (loopHead P (30 : FuncId) 0) ({ tm := mkTm 26 [(0, MV.cv (CV.lst n (i64s xs))), (1, MV.cv (CV.lst m (i64s ys))), (5, MV.cv (ci64 (↑i : Int)))], hp := [] }) R :=
  okS (keep := [0, 1, 5]) (σ := []) (ors := [(5, Or.b true), (9, Or.r (CV.lit (Value.int IntKind.i64 (↑(xs.getD ((↑i : Int).toNat * 1) 0) : Int)))), (13, Or.r (CV.lit (Value.int IntKind.i64 (↑(ys.getD ((↑i : Int).toNat * 1) 0) : Int)))), (15, Or.b false), (19, Or.stop)]) (by kernel_rfl) rfl (.cons h1 (.cons o1 (.cons o2 (.cons (show 1 = 1 from (by decide)) (.cons o4 (.cons o5 (.cons (show 1 = 1 from (by decide)) (.cons h2 .nil)))))))) hn hR
theorem SmL_p3 (n : Nat) (m : Nat) (i : Nat) (xs : List Nat) (ys : List Nat) (h1 : (decide ((↑i : Int) < (↑n : Int))) = false) {R : Goal} (hR : R.c (CV.lit (Value.bool true))) : Ok P (30 : FuncId) (loopHead P (30 : FuncId) 0) ({ tm := mkTm 26 [(0, MV.cv (CV.lst n (i64s xs))), (1, MV.cv (CV.lst m (i64s ys))), (5, MV.cv (ci64 (↑i : Int)))], hp := [] }) R :=
  okR (ors := [(5, Or.b false)]) (by kernel_rfl) (.cons h1 .nil) hR
theorem SmN_p1 : PCall P (30 : FuncId) [CV.lit (Value.slice none 0 0), CV.lit (Value.slice none 0 0)] (CV.lit (Value.bool true)) :=
  pcallR (ors := []) (by kernel_rfl) .nil
end Go.Fw
open Go
namespace Go.Fw
set_option maxRecDepth 100000
def outN (t : Nat → Bool) : Nat → Nat → List Nat
  | _, 0 => []
  | p, d + 1 => (if t p then [p] else []) ++ outN t (p + 1) d
theorem outFrom_i64s (t : Nat → Bool) : ∀ (d p : Nat), outFrom t p d = i64s (outN t p d)
  | 0, _ => rfl
  | d + 1, p => by
    unfold outFrom outN
    rw [outFrom_i64s t d (p + 1)]
    split <;> simp [i64s]
theorem outN_length (t : Nat → Bool) : ∀ (d p : Nat), (outN t p d).length ≤ d
  | 0, _ => Nat.le_refl _
  | d + 1, p => by
    unfold outN
    have := outN_length t d (p + 1)
    split <;> simp <;> omega
theorem Same_loop {R : Goal} (hn : R.n = 0) (xs : List Nat) (hl : xs.length < 2 ^ 60) (hR : R.c (.lit (.bool true))) : ∀ (d i : Nat), i + d = xs.length →
    Ok P 30 (loopHead P 30 0) ⟨mkTm 26 [(0, .cv (.lst xs.length (i64s xs))), (1, .cv (.lst xs.length (i64s xs))), (5, .cv (ci64 (i : Int)))], []⟩ R
  | 0, i, hi => by
    refine SmL_p3 _ _ i xs xs (decide_eq_false (by omega)) hR
  | d + 1, i, hi => by
    have hg := i64s_get (xs := xs) (i := ((i : Nat) : Int).toNat * 1) (by omega)
    refine SmL_p2 _ _ i xs xs (decide_eq_true (by omega)) (by simp) (by omega) hg (by omega) hg (by rw [hn]; rfl) ?_
    rw [w64 (by omega)]
    exact Same_loop hn xs hl hR d (i + 1) (by omega)
theorem Same_spec (xs : List Nat) (hl : xs.length < 2 ^ 60) : PCall P 30 [.lst xs.length (i64s xs), .lst xs.length (i64s xs)] (.lit (.bool true)) :=
  pcallQ_eq (Sm_p1 _ _ xs xs (by simp) (Same_loop rfl xs hl rfl xs.length 0 (by omega)))
theorem Same_out (t : Nat → Bool) (d p : Nat) (hd : d < 2 ^ 60) : PCall P 30 [outV (outFrom t p d), outV (outFrom t p d)] (.lit (.bool true)) := by
  rw [outFrom_i64s]
  have hl := outN_length t d p
  generalize outN t p d = xs at *
  cases xs with
  | nil => exact SmN_p1
  | cons x xs =>
    have := Same_spec (x :: xs) (by omega)
    have e : outV (i64s (x :: xs)) = .lst (x :: xs).length (i64s (x :: xs)) := by simp [i64s, outV]
    rw [e]; exact this
end Go.Fw
open Go
namespace Go.Fw
set_option maxRecDepth 100000

theorem aw_p1 : PCall P (25 : FuncId) [] (CV.lit (Value.bool true)) :=
  pcallR (ors := [(1, Or.r (CV.tup [CV.lst 16 [CV.lit (Value.int IntKind.i64 (1 : Int)), CV.lit (Value.int IntKind.i64 (2 : Int)), CV.lit (Value.int IntKind.i64 (4 : Int)), CV.lit (Value.int IntKind.i64 (5 : Int)), CV.lit (Value.int IntKind.i64 (7 : Int)), CV.lit (Value.int IntKind.i64 (8 : Int)), CV.lit (Value.int IntKind.i64 (10 : Int)), CV.lit (Value.int IntKind.i64 (11 : Int)), CV.lit (Value.int IntKind.i64 (13 : Int)), CV.lit (Value.int IntKind.i64 (14 : Int)), CV.lit (Value.int IntKind.i64 (16 : Int)), CV.lit (Value.int IntKind.i64 (17 : Int)), CV.lit (Value.int IntKind.i64 (19 : Int)), CV.lit (Value.int IntKind.i64 (20 : Int)), CV.lit (Value.int IntKind.i64 (22 : Int)), CV.lit (Value.int IntKind.i64 (23 : Int))], CV.lit (Value.int IntKind.i64 (0 : Int))])), (27, Or.r (CV.agg [CV.lit (Value.bool false), CV.lit (Value.string (bytesOf 0)), CV.lit (Value.bool false), CV.lit (Value.string (bytesOf 1)), CV.lit (Value.bool false), CV.lit (Value.string (bytesOf 0)), CV.lit (Value.bool false), CV.lit (Value.string (bytesOf 1)), CV.lit (Value.bool false), CV.lit (Value.string (bytesOf 4))])), (28, Or.r (CV.lit (Value.string { data := #[(49 : UInt8), (47 : UInt8), (52 : UInt8), (114 : UInt8), (50 : UInt8), (43 : UInt8), (49 : UInt8), (47 : UInt8), (52 : UInt8), (114 : UInt8), (54 : UInt8)] }))), (33, Or.r (CV.lit (Value.bool true)))]) (by kernel_rfl) (.cons (Go.Fw.aOrb) (.cons (show (0 : Int) ≤ (0 : Int) ∧ (0 : Int) < (16 : Int) from (by decide)) (.cons (show (0 : Int) ≤ (15 : Int) ∧ (15 : Int) < (16 : Int) from (by decide)) (.cons (Go.Fw.aCos) (.cons (Go.Fw.aPrint) (.cons (Go.Fw.aVal) .nil))))))
end Go.Fw
open Go
namespace Go.Fw
set_option maxRecDepth 100000

theorem L3b_p1 (i : Int) (o : Int) (b : Bool) (h : ¬okO o) : PCall P (3 : FuncId) [ci64 i, ci64 o, CV.lit (Value.bool b)] (CV.lit (Value.bool true)) :=
  pcallR (ors := [(1, Or.r (CV.lit (Value.bool true))), (6, Or.r (CV.tup [CV.lit (Value.slice none 0 0), CV.lit (Value.int IntKind.i64 (2 : Int))])), (14, Or.r (CV.tup [CV.lit (Value.slice none 0 0), CV.lit (Value.int IntKind.i64 (2 : Int))])), (23, Or.r (CV.tup [CV.lit (Value.slice none 0 0), CV.lit (Value.int IntKind.i64 (2 : Int))])), (32, Or.r (CV.tup [CV.lit (Value.slice none 0 0), CV.lit (Value.int IntKind.i64 (2 : Int))])), (62, Or.r (CV.lit (Value.bool true)))]) (by kernel_rfl) (.cons (Go.Fw.aw_p1) (.cons (Go.Fw.WMot_bad (o) (b) h) (.cons (Go.Fw.RMot_bad (o) (b) h) (.cons (Go.Fw.WOrbB_p1 (i) (o) (b) h) (.cons (Go.Fw.ROrbB_p1 (i) (o) (b) h) (.cons (Go.Fw.SmN_p1) .nil))))))
theorem L3_p1 (i : Int) (o : Int) (b : Bool) (h : okO o) (h1 : ((↑(cntM o b) : Int) != (↑(cntM o b) : Int)) = false) {R : CV → Prop} (hR : Ok P (3 : FuncId) (loopHead P (3 : FuncId) 0) ⟨mkTm 77 [(7, MV.cv (CV.lst (cntM o b) (cellsM o b))), (9, MV.cv (CV.lst (cntM o b) (cellsM o b))), (11, MV.cv (outV (outFrom (orbT o b i) 0 24))), (13, MV.cv (outV (outFrom (orbT o b i) 0 24))), (60, MV.cv (CV.lit (Value.int IntKind.i64 (↑(cntM o b) : Int)))), (61, MV.cv (CV.lit (Value.int IntKind.i64 (0 : Int))))], []⟩ (.of R)) : PCallQ P (3 : FuncId) [ci64 i, ci64 o, CV.lit (Value.bool b)] R :=
  pcallS (keep := [7, 9, 11, 13, 60, 61]) (σ := []) (ors := [(1, Or.r (CV.lit (Value.bool true))), (6, Or.r (CV.tup [CV.lst (cntM o b) (cellsM o b), CV.lit (Value.int IntKind.i64 (0 : Int))])), (14, Or.r (CV.tup [CV.lst (cntM o b) (cellsM o b), CV.lit (Value.int IntKind.i64 (0 : Int))])), (23, Or.r (CV.tup [outV (outFrom (orbT o b i) 0 24), CV.lit (Value.int IntKind.i64 (0 : Int))])), (32, Or.r (CV.tup [outV (outFrom (orbT o b i) 0 24), CV.lit (Value.int IntKind.i64 (0 : Int))])), (43, Or.b false), (57, Or.stop)]) (by kernel_rfl) rfl (.cons (Go.Fw.aw_p1) (.cons (Go.Fw.WMot_ok (o) (b) h) (.cons (Go.Fw.RMot_ok (o) (b) h) (.cons (Go.Fw.WOrb_ok (i) (o) (b) h) (.cons (Go.Fw.ROrb_ok (i) (o) (b) h) (.cons h1 .nil)))))) hR
theorem L3L_p1 (cn : Nat) (k : Nat) (cs : List CV) (t : Nat → Bool) (mt : Int) (mf : Bool) (h1 : (decide ((↑k : Int) < (↑cn : Int))) = true) (h2 : (!(mt == mt && (mf == mf && true))) = true) (o1 : (0 : Int) ≤ (↑k : Int) ∧ (↑k : Int) < (↑cn : Int)) (o2 : List.take 2 (List.drop ((↑k : Int).toNat * 2) cs) = [CV.lit (Value.int IntKind.i64 mt), CV.lit (Value.bool mf)]) (o4 : (0 : Int) ≤ (↑k : Int) ∧ (↑k : Int) < (↑cn : Int)) (o5 : List.take 2 (List.drop ((↑k : Int).toNat * 2) cs) = [CV.lit (Value.int IntKind.i64 mt), CV.lit (Value.bool mf)]) {R : Goal} (hR : R.c (CV.lit (Value.bool false))) : Ok P (3 : FuncId) (loopHead P (3 : FuncId) 0) ({ tm := mkTm 77 [(7, MV.cv (CV.lst cn cs)), (9, MV.cv (CV.lst cn cs)), (11, MV.cv (outV (outFrom t 0 24))), (13, MV.cv (outV (outFrom t 0 24))), (60, MV.cv (ci64 (↑cn : Int))), (61, MV.cv (ci64 (↑k : Int)))], hp := [] }) R :=
  okR (ors := [(2, Or.b true), (8, Or.r (CV.agg [CV.lit (Value.int IntKind.i64 mt), CV.lit (Value.bool mf)])), (12, Or.r (CV.agg [CV.lit (Value.int IntKind.i64 mt), CV.lit (Value.bool mf)])), (14, Or.b true)]) (by kernel_rfl) (.cons h1 (.cons o1 (.cons o2 (.cons (show 2 = 2 from (by decide)) (.cons o4 (.cons o5 (.cons (show 2 = 2 from (by decide)) (.cons h2 .nil)))))))) hR
theorem L3L_p2 (cn : Nat) (k : Nat) (cs : List CV) (t : Nat → Bool) (mt : Int) (mf : Bool) (h1 : (decide ((↑k : Int) < (↑cn : Int))) = true) (h2 : (!(mt == mt && (mf == mf && true))) = false) (o1 : (0 : Int) ≤ (↑k : Int) ∧ (↑k : Int) < (↑cn : Int)) (o2 : List.take 2 (List.drop ((↑k : Int).toNat * 2) cs) = [CV.lit (Value.int IntKind.i64 mt), CV.lit (Value.bool mf)]) (o4 : (0 : Int) ≤ (↑k : Int) ∧ (↑k : Int) < (↑cn : Int)) (o5 : List.take 2 (List.drop ((↑k : Int).toNat * 2) cs) = [CV.lit (Value.int IntKind.i64 mt), CV.lit (Value.bool mf)]) {R : Goal} (hn : lentOk R.n [] = true) (hR : Ok P (3 : FuncId) (loopHead P (3 : FuncId) 0) ⟨mkTm 77 [(7, MV.cv (CV.lst cn cs)), (9, MV.cv (CV.lst cn cs)), (11, MV.cv (outV (outFrom t 0 24))), (13, MV.cv (outV (outFrom t 0 24))), (60, MV.cv (CV.lit (Value.int IntKind.i64 (↑cn : Int)))), (61, MV.cv (CV.lit (Value.int IntKind.i64 (IntKind.i64.wrap ((↑k : Int) + (1 : Int))))))], []⟩ R) : Ok P (3 : FuncId) (loopHead P (3 : FuncId) 0) ({ tm := mkTm 77 [(7, MV.cv (CV.lst cn cs)), (9, MV.cv (CV.lst cn cs)), (11, MV.cv (outV (outFrom t 0 24))), (13, MV.cv (outV (outFrom t 0 24))), (60, MV.cv (ci64 (↑cn : Int))), (61, MV.cv (ci64 (↑k : Int)))], hp := [] }) R :=
  okS (keep := [7, 9, 11, 13, 60, 61]) (σ := []) (ors := [(2, Or.b true), (8, Or.r (CV.agg [CV.lit (Value.int IntKind.i64 mt), CV.lit (Value.bool mf)])), (12, Or.r (CV.agg [CV.lit (Value.int IntKind.i64 mt), CV.lit (Value.bool mf)])), (14, Or.b false), (17, Or.stop)]) (by kernel_rfl) rfl (.cons h1 (.cons o1 (.cons o2 (.cons (show 2 = 2 from (by decide)) (.cons o4 (.cons o5 (.cons (show 2 = 2 from (by decide)) (.cons h2 .nil)))))))) hn hR
theorem L3L_p3 (cn : Nat) (k : Nat) (cs : List CV) (t : Nat → Bool) (_mt : Int) (_mf : Bool) (h1 : (decide ((↑k : Int) < (↑cn : Int))) = false) (s5_0 : 24 < 2 ^ 60) {R : Goal} (hR : R.c (CV.lit (Value.bool true))) : Ok P (3 : FuncId) (loopHead P (3 : FuncId) 0) ({ tm := mkTm 77 [(7, MV.cv (CV.lst cn cs)), (9, MV.cv (CV.lst cn cs)), (11, MV.cv (outV (outFrom t 0 24))), (13, MV.cv (outV (outFrom t 0 24))), (60, MV.cv (ci64 (↑cn : Int))), (61, MV.cv (ci64 (↑k : Int)))], hp := [] }) R :=
  okR (ors := [(2, Or.b false), (5, Or.r (CV.lit (Value.bool true)))]) (by kernel_rfl) (.cons h1 (.cons (Go.Fw.Same_out (t) (24) (0) s5_0) .nil)) hR
end Go.Fw
open Go
namespace Go.Fw
set_option maxRecDepth 100000
theorem flatM_at (l : List (Int × Bool)) (k : Nat) (hk : k < l.length) : ∃ (t : Int) (b : Bool), List.take 2 (List.drop ((k : Int).toNat * 2) (flatM l)) = [ci64 t, .lit (.bool b)] := by
  induction l generalizing k with
  | nil => simp at hk
  | cons m l ih =>
    cases k with
    | zero => exact ⟨m.1, m.2, rfl⟩
    | succ k =>
      obtain ⟨t, b, h⟩ := ih k (by simpa using hk)
      refine ⟨t, b, ?_⟩
      rw [Int.toNat_natCast] at h ⊢
      rw [show (k + 1) * 2 = k * 2 + 1 + 1 by omega]
      exact h
theorem L3_loop {R : Goal} (hn : R.n = 0) (l : List (Int × Bool)) (t : Nat → Bool) (hl : l.length < 2 ^ 60) (hR : R.c (.lit (.bool true))) : ∀ (d k : Nat), k + d = l.length →
    Ok P 3 (loopHead P 3 0) ⟨mkTm 77 [(7, .cv (.lst l.length (flatM l))), (9, .cv (.lst l.length (flatM l))), (11, .cv (outV (outFrom t 0 24))), (13, .cv (outV (outFrom t 0 24))), (60, .cv (ci64 (l.length : Int))), (61, .cv (ci64 (k : Int)))], []⟩ R
  | 0, k, hk => L3L_p3 _ k _ t 0 false (decide_eq_false (by omega)) (by decide) hR
  | d + 1, k, hk => by
    obtain ⟨x, f, hx⟩ := flatM_at l k (by omega)
    refine L3L_p2 _ k _ t x f (decide_eq_true (by omega)) (by simp) (by omega) hx (by omega) hx (by rw [hn]; rfl) ?_
    rw [w64 (by omega)]
    exact L3_loop hn l t hl hR d (k + 1) (by omega)
theorem orders_true (i o : Int) (b : Bool) : PCall P 3 [ci64 i, ci64 o, .lit (.bool b)] (.lit (.bool true)) := by
  by_cases h : okO o
  · refine pcallQ_eq (L3_p1 i o b h (by simp) ?_)
    rw [cellsM_flat, cntM_length]
    refine L3_loop rfl _ _ ?_ rfl (motP o b).length 0 (by omega)
    rw [← cntM_length]
    obtain ⟨h1, h2, _⟩ := h
    unfold cntM; split <;> omega
  · exact L3b_p1 i o b h
end Go.Fw
open Go Go.Proofs Go.Proofs.YtcafjpldfnegiaaGreatDoor
namespace Go.Fw
open Go.ChangeShapes Go.WideShapes Go.ChangeAt Go.RowKit
set_option maxRecDepth 100000
theorem lawCall3 {H : Type} {enc : TypeId × Value → H} (W : World) (base : Nat) (args : Array Value) (ds gs : List (DataW H)) (before : List MemPlace)
    (hval : ∀ (j : Nat) t v, Tryz.f3.params[j]? = some t → args[j]? = some v → Value.okWide Tryz.prog W .any base t v)
    (hW : DataW.Whole enc Tryz.prog Tryz.f3.params.toList Rows.wheelOrdersSpec.vars false W args.toList ds gs before) :
    Calls Tryz.prog 3 args W fun e W' => e = .returned (.bool true) ∧ Below W.heap.size W W' := by
  obtain ⟨p, q, hA, hV, _, _, _⟩ := hW
  rw [Tryz.params3] at hA hval
  obtain ⟨v0, vs0, d0, ds0, p0, q0, hargs, hds, _, h0, r0⟩ := trodAll_cons hA
  obtain ⟨v1, vs1, d1, ds1, p1, q1, hvs, hds0, _, h1, r1⟩ := trodAll_cons r0
  obtain ⟨v2, vs2, d2, ds2, p2, q2, hvs1, hds1, _, h2, r2⟩ := trodAll_cons r1
  obtain ⟨hvs2, hds2, _⟩ := trodAll_nil r2
  subst hvs2 hvs1 hvs
  obtain rfl : args = #[v0, v1, v2] := by cases args; simp_all
  obtain ⟨n0, rfl, _, _, _⟩ := open_int Tryz.underlying3 (hval 0 3 v0 rfl rfl) h0
  obtain ⟨n1, rfl, _, _, _⟩ := open_int Tryz.underlying3 (hval 1 3 v1 rfl rfl) h1
  obtain ⟨b, rfl, _, _⟩ := open_bool Tryz.underlying4 (hval 2 4 v2 rfl rfl) h2
  exact law_call (orders_true n0 n1 b) ⟨_, _, rfl, rfl, _, _, rfl, rfl, _, _, rfl, rfl, rfl⟩
end Go.Fw
