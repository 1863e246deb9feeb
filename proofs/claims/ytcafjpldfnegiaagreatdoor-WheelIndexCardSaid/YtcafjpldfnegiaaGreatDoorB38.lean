/- A part of the proof that the law returns true for every input: an executor for the model's code, and what functions of the program compute. -/
import Derived.Test.YtcafjpldfnegiaaGreatDoorB09
import Derived.Test.YtcafjpldfnegiaaGreatDoorB10
import Derived.Test.YtcafjpldfnegiaaGreatDoorB14
import Derived.Test.YtcafjpldfnegiaaGreatDoorB28
import Derived.KernelRfl
open Go Go.Proofs Go.Proofs.YtcafjpldfnegiaaGreatDoor
namespace Go.Fw
open Go.ChangeShapes Go.WideShapes Go.ChangeAt Go.RowKit
set_option maxRecDepth 100000
/-- The kinds of a flat value's cells. -/
inductive CT where
  | b
  | i (k : IntKind)
  | s
def CT.ok : CT → Value → Prop
  | .b, v => ∃ b, v = .bool b
  | .i k, v => ∃ n, v = .int k n ∧ (Lit.int k n).wf = true
  | .s, v => ∃ s, v = .string s
def CTs : List CT → List Value → Prop
  | [], l => l = []
  | c :: cs, l => ∃ v vs, l = v :: vs ∧ c.ok v ∧ CTs cs vs
theorem CTs.length : ∀ {ts : List CT} {l : List Value}, CTs ts l → l.length = ts.length
  | [], l, h => by simp only [CTs] at h; subst h; rfl
  | c :: cs, l, h => by
    simp only [CTs] at h
    obtain ⟨v, vs, rfl, _, h2⟩ := h
    simp [CTs.length h2]
theorem CTs.app : ∀ {ts us : List CT} {l m : List Value}, CTs ts l → CTs us m → CTs (ts ++ us) (l ++ m)
  | [], us, l, m, h, k => by simp only [CTs] at h; subst h; simpa using k
  | c :: cs, us, l, m, h, k => by
    simp only [CTs] at h
    obtain ⟨v, vs, rfl, h1, h2⟩ := h
    simp only [List.cons_append, CTs]
    exact ⟨v, vs ++ m, rfl, h1, CTs.app h2 k⟩
def flatF (P : Program) (f : TypeId → Option (List CT)) : Nat → List Field → Option (List CT)
  | _, [] => some []
  | off, fd :: fs =>
    if fd.offset = off then
      match f fd.type with
      | some ts =>
        if ts.length = P.cellsOf fd.type then
          match flatF P f (off + ts.length) fs with
          | some r => some (ts ++ r)
          | none => none
        else none
      | none => none
    else none
def repT (ts : List CT) : Nat → List CT
  | 0 => []
  | n + 1 => ts ++ repT ts n
/-- The cells of a type without memory. -/
def flatTy (P : Program) : Nat → TypeId → Option (List CT)
  | 0, _ => none
  | m + 1, t =>
    match P.underlying t with
    | some .bool => some [.b]
    | some (.int k) => some [.i k]
    | some .string => some [.s]
    | some (.struct fs) => match flatF P (flatTy P m) 0 fs.toList with
      | some ts => if ts.length = P.cellsOf t then some ts else none
      | none => none
    | some (.array n e) => match flatTy P m e with
      | some ts => if ts.length = P.cellsOf e ∧ n * ts.length = P.cellsOf t then some (repT ts n) else none
      | none => none
    | _ => none
section
variable {H : Type} {enc : TypeId × Value → H} {P : Program} {w : World} {base : Nat} {sp : Nat → Bool} {hd : Bool}
theorem mapM_cons_some {α β : Type} {f : α → Option β} {a : α} {l : List α} {r : List β} (h : (a :: l).mapM f = some r) : ∃ x xs, f a = some x ∧ l.mapM f = some xs ∧ r = x :: xs := by
  rw [List.mapM_cons] at h
  cases hf : f a with
  | none => simp [hf] at h
  | some x =>
    cases hl : l.mapM f with
    | none => simp [hf, hl] at h
    | some xs => simp [hf, hl] at h; exact ⟨x, xs, rfl, rfl, h.symm⟩
theorem flatF_ok {f : TypeId → Option (List CT)} {g : TypeId → List Value → Option (DataW H × List MemPlace)} (hfg : ∀ t l x ts, g t l = some x → f t = some ts → CTs ts l) (cs : List Value) :
    ∀ (fs : List Field) (off : Nat) (ts : List CT) (xs : List (DataW H × List MemPlace)), flatF P f off fs = some ts → (fs.mapM fun fd => g fd.type ((cs.drop fd.offset).take (P.cellsOf fd.type))) = some xs → off + ts.length = cs.length → CTs ts (cs.drop off)
  | [], off, ts, xs, h, _, hl => by
    simp only [flatF] at h; cases h
    simp at hl
    simp only [CTs]
    rw [List.drop_eq_nil_iff]; omega
  | fd :: fs, off, ts, xs, h, hm, hl => by
    simp only [flatF] at h
    split at h
    · rename_i ho
      split at h
      · rename_i ts1 h1
        split at h
        · rename_i hlen
          split at h
          · rename_i r hr
            cases h
            obtain ⟨x, xs', e1, e2, _⟩ := mapM_cons_some hm
            have k1 := hfg _ _ _ _ e1 h1
            simp only [List.length_append] at hl
            have k2 := flatF_ok hfg cs fs (off + ts1.length) r xs' hr e2 (by omega)
            have := CTs.app k1 k2
            rw [ho, ← hlen] at this
            rw [← List.drop_drop, List.take_append_drop] at this
            exact this
          · cases h
        · cases h
      · cases h
    · cases h
theorem repT_length (ts : List CT) : ∀ n, (repT ts n).length = n * ts.length
  | 0 => by simp [repT]
  | n + 1 => by simp [repT, repT_length ts n, Nat.add_mul]; omega
theorem repT_ok {e : TypeId} {ts : List CT} {g : List Value → Option (DataW H × List MemPlace)} (hg : ∀ l x, g l = some x → CTs ts l) (hlen : ts.length = P.cellsOf e) (cs : List Value) :
    ∀ (n k : Nat) (xs : List (DataW H × List MemPlace)), ((List.range' k n).mapM fun i => g ((cs.drop (i * P.cellsOf e)).take (P.cellsOf e))) = some xs → (k + n) * ts.length = cs.length → CTs (repT ts n) (cs.drop (k * ts.length))
  | 0, k, xs, _, hl => by
    simp only [repT, CTs]
    rw [List.drop_eq_nil_iff]; simp at hl; omega
  | n + 1, k, xs, h, hl => by
    rw [List.range'_succ] at h
    obtain ⟨x, xs', e1, e2, _⟩ := mapM_cons_some h
    have k1 := hg _ _ e1
    have k2 := repT_ok hg hlen cs n (k + 1) xs' e2 (by rw [← hl]; congr 1; omega)
    have := CTs.app k1 k2
    rw [← hlen, Nat.add_mul, Nat.one_mul, ← List.drop_drop, List.take_append_drop] at this
    exact this
theorem trod_flat : ∀ (m fuel : Nat) (t : TypeId) (cs : List Value) (x : DataW H × List MemPlace) (ts : List CT), DataW.trod enc P w base sp hd fuel t cs = some x → flatTy P m t = some ts → CTs ts cs
  | 0, _, _, _, _, _, _, h => by simp [flatTy] at h
  | m + 1, 0, _, _, _, _, h, _ => by simp [DataW.trod] at h
  | m + 1, fuel + 1, t, cs, x, ts, h, hf => by
    simp only [flatTy] at hf
    split at hf
    · rename_i hu
      cases hf
      simp only [DataW.trod, hu] at h
      split at h <;> first | (rename_i he; cases he; done) | skip
      all_goals first | (simp only [CTs, CT.ok]; exact ⟨_, _, rfl, ⟨_, rfl⟩, rfl⟩) | simp_all
    · rename_i k hu
      cases hf
      simp only [DataW.trod, hu] at h
      split at h
      all_goals first | (simp_all; done) | skip
      all_goals (rename_i he; cases he; split at h; rename_i hk; obtain ⟨rfl, hw⟩ := hk; simp only [CTs, CT.ok]; exact ⟨_, _, rfl, ⟨_, rfl, hw⟩, rfl⟩; cases h)
    · rename_i hu
      cases hf
      simp only [DataW.trod, hu] at h
      split at h <;> first | (rename_i he; cases he; done) | skip
      all_goals first | (simp only [CTs, CT.ok]; exact ⟨_, _, rfl, ⟨_, rfl⟩, rfl⟩) | simp_all
    · rename_i fs hu
      split at hf
      · rename_i ts' hts
        split at hf
        · rename_i hl
          cases hf
          have h' : (if cs.length = P.cellsOf t then (fs.toList.mapM fun f => DataW.trod enc P w base sp hd fuel f.type ((cs.drop f.offset).take (P.cellsOf f.type))).map fun xs => (DataW.agg (xs.map (·.1)), xs.flatMap (·.2)) else none) = some x := by
            rw [← h]; simp only [DataW.trod, hu]
          split at h'
          · rename_i hc
            cases hm : (fs.toList.mapM fun f => DataW.trod enc P w base sp hd fuel f.type ((cs.drop f.offset).take (P.cellsOf f.type))) with
            | none => rw [hm] at h'; cases h'
            | some xs =>
              have := flatF_ok (P := P) (fun t l x ts a b => trod_flat m fuel t l x ts a b) cs _ 0 _ xs hts hm (by omega)
              simpa using this
          · cases h'
        · cases hf
      · cases hf
    · rename_i n e hu
      split at hf
      · rename_i ts' hts
        split at hf
        · rename_i hl
          cases hf
          have h' : (if cs.length = P.cellsOf t then ((List.range n).mapM fun i => DataW.trod enc P w base sp hd fuel e ((cs.drop (i * P.cellsOf e)).take (P.cellsOf e))).map fun xs => (DataW.agg (xs.map (·.1)), xs.flatMap (·.2)) else none) = some x := by
            rw [← h]; simp only [DataW.trod, hu]
          split at h'
          · rename_i hc
            cases hm : ((List.range n).mapM fun i => DataW.trod enc P w base sp hd fuel e ((cs.drop (i * P.cellsOf e)).take (P.cellsOf e))) with
            | none => rw [hm] at h'; cases h'
            | some xs =>
              rw [List.range_eq_range'] at hm
              have := repT_ok (P := P) (e := e) (fun l x a => trod_flat m fuel e l x ts' a hts) hl.1 cs n 0 xs hm (by rw [hc, ← hl.2]; simp)
              simpa using this
          · cases h'
        · cases hf
      · cases hf
    · cases hf
/-- An argument of a flat struct's or array's type. -/
theorem open_flat {t : TypeId} {v : Value} {d : DataW H} {ps : List MemPlace} {r : Reach} {b0 : Nat} (m : Nat) {ts : List CT} (hf : flatTy P m t = some ts) (ha : (match P.underlying t with | some dd => isAggD dd | none => false) = true)
    (hval : Value.okWide P w r b0 t v) (h : DataW.Trod enc P w base sp hd t v d ps) : ∃ cs : List Value, v = .agg cs.toArray ∧ CTs ts cs := by
  obtain ⟨fuel, hx⟩ := h
  have := trod_flat m fuel t _ _ ts hx hf
  unfold Value.okWide at hval
  cases hu : P.underlying t with
  | none => rw [hu] at ha; cases ha
  | some dd =>
    rw [hu] at ha hval
    cases dd <;> first | (simp [isAggD] at ha; done) | skip
    all_goals
      obtain ⟨cs, rfl, _, _⟩ := hval
      exact ⟨cs.toList, rfl, this⟩
theorem repL_litsI (I : Imm) : ∀ l : List Value, CV.repL I (l.map .lit) l
  | [] => rfl
  | v :: l => ⟨v, l, rfl, rfl, repL_litsI I l⟩
theorem rep_agg (I : Imm) (l : List Value) : CV.rep I (.agg (l.map .lit)) (.agg l.toArray) := ⟨l.toArray, rfl, repL_litsI I l⟩
end
end Go.Fw
open Go
namespace Go.Fw
def GcdC (a b : Int) : Prop := PCall P 184 [intC a, intC b] (intC (Nat.gcd a.natAbs b.natAbs : Nat))
def OverC (a b : Int) : Prop := PCall P 185 [intC a, intC b] (intC (a / b))
theorem RGcd_w (a b : Int) (h : GcdC a b) : PCall P 184 [intC a, intC b] (intC (Nat.gcd a.natAbs b.natAbs : Nat)) := h
theorem ROver_w (a b : Int) (h : OverC a b) : PCall P 185 [intC a, intC b] (intC (a / b)) := h
end Go.Fw
open Go
namespace Go.Fw
set_option maxRecDepth 100000

theorem Rdc_p1 (a : Int) (b : Int) (c : Int) (d : Int) (e : Int) (h1 : (decide (e.sign < (0 : Int))) = true) (h2 : (!(decide (-(↑(↑((↑((↑((↑(e.natAbs.gcd a.natAbs) : Int).natAbs.gcd b.natAbs) : Int).natAbs.gcd c.natAbs) : Int).natAbs.gcd d.natAbs) : Int).natAbs : Int) < (0 : Int)) == false && (bytesOf (-(↑(↑((↑((↑((↑(e.natAbs.gcd a.natAbs) : Int).natAbs.gcd b.natAbs) : Int).natAbs.gcd c.natAbs) : Int).natAbs.gcd d.natAbs) : Int).natAbs : Int)).natAbs == bytesOf 1 && true))) = true) (s15_0 : GcdC e a) (s28_0 : GcdC (↑(e.natAbs.gcd a.natAbs) : Int) b) (s41_0 : GcdC (↑((↑(e.natAbs.gcd a.natAbs) : Int).natAbs.gcd b.natAbs) : Int) c) (s54_0 : GcdC (↑((↑((↑(e.natAbs.gcd a.natAbs) : Int).natAbs.gcd b.natAbs) : Int).natAbs.gcd c.natAbs) : Int) d) (s79_0 : (-9223372036854775808 : Int) ≤ (1 : Int) ∧ (1 : Int) ≤ (9223372036854775807 : Int)) (s92_0 : OverC a (-(↑(↑((↑((↑((↑(e.natAbs.gcd a.natAbs) : Int).natAbs.gcd b.natAbs) : Int).natAbs.gcd c.natAbs) : Int).natAbs.gcd d.natAbs) : Int).natAbs : Int))) (s108_0 : OverC b (-(↑(↑((↑((↑((↑(e.natAbs.gcd a.natAbs) : Int).natAbs.gcd b.natAbs) : Int).natAbs.gcd c.natAbs) : Int).natAbs.gcd d.natAbs) : Int).natAbs : Int))) (s124_0 : OverC c (-(↑(↑((↑((↑((↑(e.natAbs.gcd a.natAbs) : Int).natAbs.gcd b.natAbs) : Int).natAbs.gcd c.natAbs) : Int).natAbs.gcd d.natAbs) : Int).natAbs : Int))) (s140_0 : OverC d (-(↑(↑((↑((↑((↑(e.natAbs.gcd a.natAbs) : Int).natAbs.gcd b.natAbs) : Int).natAbs.gcd c.natAbs) : Int).natAbs.gcd d.natAbs) : Int).natAbs : Int))) (s153_0 : OverC e (-(↑(↑((↑((↑((↑(e.natAbs.gcd a.natAbs) : Int).natAbs.gcd b.natAbs) : Int).natAbs.gcd c.natAbs) : Int).natAbs.gcd d.natAbs) : Int).natAbs : Int))) : PCall P (129 : FuncId) [c4C a b c d, intC e] (CV.agg [CV.lit (Value.bool (decide (a / -(↑(↑((↑((↑((↑(e.natAbs.gcd a.natAbs) : Int).natAbs.gcd b.natAbs) : Int).natAbs.gcd c.natAbs) : Int).natAbs.gcd d.natAbs) : Int).natAbs : Int) < (0 : Int)))), CV.lit (Value.string (bytesOf (a / -(↑(↑((↑((↑((↑(e.natAbs.gcd a.natAbs) : Int).natAbs.gcd b.natAbs) : Int).natAbs.gcd c.natAbs) : Int).natAbs.gcd d.natAbs) : Int).natAbs : Int)).natAbs)), CV.lit (Value.bool (decide (b / -(↑(↑((↑((↑((↑(e.natAbs.gcd a.natAbs) : Int).natAbs.gcd b.natAbs) : Int).natAbs.gcd c.natAbs) : Int).natAbs.gcd d.natAbs) : Int).natAbs : Int) < (0 : Int)))), CV.lit (Value.string (bytesOf (b / -(↑(↑((↑((↑((↑(e.natAbs.gcd a.natAbs) : Int).natAbs.gcd b.natAbs) : Int).natAbs.gcd c.natAbs) : Int).natAbs.gcd d.natAbs) : Int).natAbs : Int)).natAbs)), CV.lit (Value.bool (decide (c / -(↑(↑((↑((↑((↑(e.natAbs.gcd a.natAbs) : Int).natAbs.gcd b.natAbs) : Int).natAbs.gcd c.natAbs) : Int).natAbs.gcd d.natAbs) : Int).natAbs : Int) < (0 : Int)))), CV.lit (Value.string (bytesOf (c / -(↑(↑((↑((↑((↑(e.natAbs.gcd a.natAbs) : Int).natAbs.gcd b.natAbs) : Int).natAbs.gcd c.natAbs) : Int).natAbs.gcd d.natAbs) : Int).natAbs : Int)).natAbs)), CV.lit (Value.bool (decide (d / -(↑(↑((↑((↑((↑(e.natAbs.gcd a.natAbs) : Int).natAbs.gcd b.natAbs) : Int).natAbs.gcd c.natAbs) : Int).natAbs.gcd d.natAbs) : Int).natAbs : Int) < (0 : Int)))), CV.lit (Value.string (bytesOf (d / -(↑(↑((↑((↑((↑(e.natAbs.gcd a.natAbs) : Int).natAbs.gcd b.natAbs) : Int).natAbs.gcd c.natAbs) : Int).natAbs.gcd d.natAbs) : Int).natAbs : Int)).natAbs)), CV.lit (Value.bool (decide (e / -(↑(↑((↑((↑((↑(e.natAbs.gcd a.natAbs) : Int).natAbs.gcd b.natAbs) : Int).natAbs.gcd c.natAbs) : Int).natAbs.gcd d.natAbs) : Int).natAbs : Int) < (0 : Int)))), CV.lit (Value.string (bytesOf (e / -(↑(↑((↑((↑((↑(e.natAbs.gcd a.natAbs) : Int).natAbs.gcd b.natAbs) : Int).natAbs.gcd c.natAbs) : Int).natAbs.gcd d.natAbs) : Int).natAbs : Int)).natAbs))]) :=
  pcallR (ors := [(15, Or.r (CV.agg [CV.lit (Value.bool (decide ((↑(e.natAbs.gcd a.natAbs) : Int) < (0 : Int)))), CV.lit (Value.string (bytesOf (↑(e.natAbs.gcd a.natAbs) : Int).natAbs))])), (28, Or.r (CV.agg [CV.lit (Value.bool (decide ((↑((↑(e.natAbs.gcd a.natAbs) : Int).natAbs.gcd b.natAbs) : Int) < (0 : Int)))), CV.lit (Value.string (bytesOf (↑((↑(e.natAbs.gcd a.natAbs) : Int).natAbs.gcd b.natAbs) : Int).natAbs))])), (41, Or.r (CV.agg [CV.lit (Value.bool (decide ((↑((↑((↑(e.natAbs.gcd a.natAbs) : Int).natAbs.gcd b.natAbs) : Int).natAbs.gcd c.natAbs) : Int) < (0 : Int)))), CV.lit (Value.string (bytesOf (↑((↑((↑(e.natAbs.gcd a.natAbs) : Int).natAbs.gcd b.natAbs) : Int).natAbs.gcd c.natAbs) : Int).natAbs))])), (54, Or.r (CV.agg [CV.lit (Value.bool (decide ((↑((↑((↑((↑(e.natAbs.gcd a.natAbs) : Int).natAbs.gcd b.natAbs) : Int).natAbs.gcd c.natAbs) : Int).natAbs.gcd d.natAbs) : Int) < (0 : Int)))), CV.lit (Value.string (bytesOf (↑((↑((↑((↑(e.natAbs.gcd a.natAbs) : Int).natAbs.gcd b.natAbs) : Int).natAbs.gcd c.natAbs) : Int).natAbs.gcd d.natAbs) : Int).natAbs))])), (64, Or.r (CV.agg [CV.lit (Value.bool (decide ((↑(↑((↑((↑((↑(e.natAbs.gcd a.natAbs) : Int).natAbs.gcd b.natAbs) : Int).natAbs.gcd c.natAbs) : Int).natAbs.gcd d.natAbs) : Int).natAbs : Int) < (0 : Int)))), CV.lit (Value.string (bytesOf (↑(↑((↑((↑((↑(e.natAbs.gcd a.natAbs) : Int).natAbs.gcd b.natAbs) : Int).natAbs.gcd c.natAbs) : Int).natAbs.gcd d.natAbs) : Int).natAbs : Int).natAbs))])), (67, Or.r (CV.lit (Value.int IntKind.i64 e.sign))), (69, Or.b true), (71, Or.r (CV.agg [CV.lit (Value.bool (decide (-(↑(↑((↑((↑((↑(e.natAbs.gcd a.natAbs) : Int).natAbs.gcd b.natAbs) : Int).natAbs.gcd c.natAbs) : Int).natAbs.gcd d.natAbs) : Int).natAbs : Int) < (0 : Int)))), CV.lit (Value.string (bytesOf (-(↑(↑((↑((↑((↑(e.natAbs.gcd a.natAbs) : Int).natAbs.gcd b.natAbs) : Int).natAbs.gcd c.natAbs) : Int).natAbs.gcd d.natAbs) : Int).natAbs : Int)).natAbs))])), (79, Or.r (CV.agg [CV.lit (Value.bool false), CV.lit (Value.string (bytesOf 1))])), (81, Or.b true), (92, Or.r (CV.agg [CV.lit (Value.bool (decide (a / -(↑(↑((↑((↑((↑(e.natAbs.gcd a.natAbs) : Int).natAbs.gcd b.natAbs) : Int).natAbs.gcd c.natAbs) : Int).natAbs.gcd d.natAbs) : Int).natAbs : Int) < (0 : Int)))), CV.lit (Value.string (bytesOf (a / -(↑(↑((↑((↑((↑(e.natAbs.gcd a.natAbs) : Int).natAbs.gcd b.natAbs) : Int).natAbs.gcd c.natAbs) : Int).natAbs.gcd d.natAbs) : Int).natAbs : Int)).natAbs))])), (108, Or.r (CV.agg [CV.lit (Value.bool (decide (b / -(↑(↑((↑((↑((↑(e.natAbs.gcd a.natAbs) : Int).natAbs.gcd b.natAbs) : Int).natAbs.gcd c.natAbs) : Int).natAbs.gcd d.natAbs) : Int).natAbs : Int) < (0 : Int)))), CV.lit (Value.string (bytesOf (b / -(↑(↑((↑((↑((↑(e.natAbs.gcd a.natAbs) : Int).natAbs.gcd b.natAbs) : Int).natAbs.gcd c.natAbs) : Int).natAbs.gcd d.natAbs) : Int).natAbs : Int)).natAbs))])), (124, Or.r (CV.agg [CV.lit (Value.bool (decide (c / -(↑(↑((↑((↑((↑(e.natAbs.gcd a.natAbs) : Int).natAbs.gcd b.natAbs) : Int).natAbs.gcd c.natAbs) : Int).natAbs.gcd d.natAbs) : Int).natAbs : Int) < (0 : Int)))), CV.lit (Value.string (bytesOf (c / -(↑(↑((↑((↑((↑(e.natAbs.gcd a.natAbs) : Int).natAbs.gcd b.natAbs) : Int).natAbs.gcd c.natAbs) : Int).natAbs.gcd d.natAbs) : Int).natAbs : Int)).natAbs))])), (140, Or.r (CV.agg [CV.lit (Value.bool (decide (d / -(↑(↑((↑((↑((↑(e.natAbs.gcd a.natAbs) : Int).natAbs.gcd b.natAbs) : Int).natAbs.gcd c.natAbs) : Int).natAbs.gcd d.natAbs) : Int).natAbs : Int) < (0 : Int)))), CV.lit (Value.string (bytesOf (d / -(↑(↑((↑((↑((↑(e.natAbs.gcd a.natAbs) : Int).natAbs.gcd b.natAbs) : Int).natAbs.gcd c.natAbs) : Int).natAbs.gcd d.natAbs) : Int).natAbs : Int)).natAbs))])), (153, Or.r (CV.agg [CV.lit (Value.bool (decide (e / -(↑(↑((↑((↑((↑(e.natAbs.gcd a.natAbs) : Int).natAbs.gcd b.natAbs) : Int).natAbs.gcd c.natAbs) : Int).natAbs.gcd d.natAbs) : Int).natAbs : Int) < (0 : Int)))), CV.lit (Value.string (bytesOf (e / -(↑(↑((↑((↑((↑(e.natAbs.gcd a.natAbs) : Int).natAbs.gcd b.natAbs) : Int).natAbs.gcd c.natAbs) : Int).natAbs.gcd d.natAbs) : Int).natAbs : Int)).natAbs))]))]) (by kernel_rfl) (.cons (show 2 ≤ 2 from (by decide)) (.cons (show (0 : Int) ≤ (0 : Int) ∧ (0 : Int) < (4 : Int) from (by decide)) (.cons (Go.Fw.RGcd_w (e) (a) s15_0) (.cons (show 2 ≤ 2 from (by decide)) (.cons (show (0 : Int) ≤ (1 : Int) ∧ (1 : Int) < (4 : Int) from (by decide)) (.cons (Go.Fw.RGcd_w ((↑(e.natAbs.gcd a.natAbs) : Int)) (b) s28_0) (.cons (show 2 ≤ 2 from (by decide)) (.cons (show (0 : Int) ≤ (2 : Int) ∧ (2 : Int) < (4 : Int) from (by decide)) (.cons (Go.Fw.RGcd_w ((↑((↑(e.natAbs.gcd a.natAbs) : Int).natAbs.gcd b.natAbs) : Int)) (c) s41_0) (.cons (show 2 ≤ 2 from (by decide)) (.cons (show (0 : Int) ≤ (3 : Int) ∧ (3 : Int) < (4 : Int) from (by decide)) (.cons (Go.Fw.RGcd_w ((↑((↑((↑(e.natAbs.gcd a.natAbs) : Int).natAbs.gcd b.natAbs) : Int).natAbs.gcd c.natAbs) : Int)) (d) s54_0) (.cons (show 2 ≤ 2 from (by decide)) (.cons (Go.Fw.RAbs_spec ((↑((↑((↑((↑(e.natAbs.gcd a.natAbs) : Int).natAbs.gcd b.natAbs) : Int).natAbs.gcd c.natAbs) : Int).natAbs.gcd d.natAbs) : Int))) (.cons (show 2 ≤ 2 from (by decide)) (.cons (Go.Fw.RSign_spec (e)) (.cons h1 (.cons (Go.Fw.RNeg_spec ((↑(↑((↑((↑((↑(e.natAbs.gcd a.natAbs) : Int).natAbs.gcd b.natAbs) : Int).natAbs.gcd c.natAbs) : Int).natAbs.gcd d.natAbs) : Int).natAbs : Int))) (.cons (show 2 ≤ 2 from (by decide)) (.cons (show 10 ≤ 10 from (by decide)) (.cons (Go.Fw.ROf_spec ((1 : Int)) s79_0) (.cons h2 (.cons (show (0 : Int) ≤ (0 : Int) ∧ (0 : Int) < (4 : Int) from (by decide)) (.cons (Go.Fw.ROver_w (a) (-(↑(↑((↑((↑((↑(e.natAbs.gcd a.natAbs) : Int).natAbs.gcd b.natAbs) : Int).natAbs.gcd c.natAbs) : Int).natAbs.gcd d.natAbs) : Int).natAbs : Int)) s92_0) (.cons (show (0 : Int) ≤ (0 : Int) ∧ (0 : Int) < (4 : Int) from (by decide)) (.cons (show 2 ≤ 10 from (by decide)) (.cons (show (0 : Int) ≤ (1 : Int) ∧ (1 : Int) < (4 : Int) from (by decide)) (.cons (Go.Fw.ROver_w (b) (-(↑(↑((↑((↑((↑(e.natAbs.gcd a.natAbs) : Int).natAbs.gcd b.natAbs) : Int).natAbs.gcd c.natAbs) : Int).natAbs.gcd d.natAbs) : Int).natAbs : Int)) s108_0) (.cons (show (0 : Int) ≤ (1 : Int) ∧ (1 : Int) < (4 : Int) from (by decide)) (.cons (show 4 ≤ 10 from (by decide)) (.cons (show (0 : Int) ≤ (2 : Int) ∧ (2 : Int) < (4 : Int) from (by decide)) (.cons (Go.Fw.ROver_w (c) (-(↑(↑((↑((↑((↑(e.natAbs.gcd a.natAbs) : Int).natAbs.gcd b.natAbs) : Int).natAbs.gcd c.natAbs) : Int).natAbs.gcd d.natAbs) : Int).natAbs : Int)) s124_0) (.cons (show (0 : Int) ≤ (2 : Int) ∧ (2 : Int) < (4 : Int) from (by decide)) (.cons (show 6 ≤ 10 from (by decide)) (.cons (show (0 : Int) ≤ (3 : Int) ∧ (3 : Int) < (4 : Int) from (by decide)) (.cons (Go.Fw.ROver_w (d) (-(↑(↑((↑((↑((↑(e.natAbs.gcd a.natAbs) : Int).natAbs.gcd b.natAbs) : Int).natAbs.gcd c.natAbs) : Int).natAbs.gcd d.natAbs) : Int).natAbs : Int)) s140_0) (.cons (show (0 : Int) ≤ (3 : Int) ∧ (3 : Int) < (4 : Int) from (by decide)) (.cons (show 8 ≤ 10 from (by decide)) (.cons (Go.Fw.ROver_w (e) (-(↑(↑((↑((↑((↑(e.natAbs.gcd a.natAbs) : Int).natAbs.gcd b.natAbs) : Int).natAbs.gcd c.natAbs) : Int).natAbs.gcd d.natAbs) : Int).natAbs : Int)) s153_0) (.cons (show 10 ≤ 10 from (by decide)) (.cons (show 10 ≤ 10 from (by decide)) .nil)))))))))))))))))))))))))))))))))))))))))
theorem Rdc_p2 (a : Int) (b : Int) (c : Int) (d : Int) (e : Int) (h1 : (decide (e.sign < (0 : Int))) = true) (h2 : (!(decide (-(↑(↑((↑((↑((↑(e.natAbs.gcd a.natAbs) : Int).natAbs.gcd b.natAbs) : Int).natAbs.gcd c.natAbs) : Int).natAbs.gcd d.natAbs) : Int).natAbs : Int) < (0 : Int)) == false && (bytesOf (-(↑(↑((↑((↑((↑(e.natAbs.gcd a.natAbs) : Int).natAbs.gcd b.natAbs) : Int).natAbs.gcd c.natAbs) : Int).natAbs.gcd d.natAbs) : Int).natAbs : Int)).natAbs == bytesOf 1 && true))) = false) (s15_0 : GcdC e a) (s28_0 : GcdC (↑(e.natAbs.gcd a.natAbs) : Int) b) (s41_0 : GcdC (↑((↑(e.natAbs.gcd a.natAbs) : Int).natAbs.gcd b.natAbs) : Int) c) (s54_0 : GcdC (↑((↑((↑(e.natAbs.gcd a.natAbs) : Int).natAbs.gcd b.natAbs) : Int).natAbs.gcd c.natAbs) : Int) d) (s79_0 : (-9223372036854775808 : Int) ≤ (1 : Int) ∧ (1 : Int) ≤ (9223372036854775807 : Int)) : PCall P (129 : FuncId) [c4C a b c d, intC e] (CV.agg [CV.lit (Value.bool (decide (a < (0 : Int)))), CV.lit (Value.string (bytesOf a.natAbs)), CV.lit (Value.bool (decide (b < (0 : Int)))), CV.lit (Value.string (bytesOf b.natAbs)), CV.lit (Value.bool (decide (c < (0 : Int)))), CV.lit (Value.string (bytesOf c.natAbs)), CV.lit (Value.bool (decide (d < (0 : Int)))), CV.lit (Value.string (bytesOf d.natAbs)), CV.lit (Value.bool (decide (e < (0 : Int)))), CV.lit (Value.string (bytesOf e.natAbs))]) :=
  pcallR (ors := [(15, Or.r (CV.agg [CV.lit (Value.bool (decide ((↑(e.natAbs.gcd a.natAbs) : Int) < (0 : Int)))), CV.lit (Value.string (bytesOf (↑(e.natAbs.gcd a.natAbs) : Int).natAbs))])), (28, Or.r (CV.agg [CV.lit (Value.bool (decide ((↑((↑(e.natAbs.gcd a.natAbs) : Int).natAbs.gcd b.natAbs) : Int) < (0 : Int)))), CV.lit (Value.string (bytesOf (↑((↑(e.natAbs.gcd a.natAbs) : Int).natAbs.gcd b.natAbs) : Int).natAbs))])), (41, Or.r (CV.agg [CV.lit (Value.bool (decide ((↑((↑((↑(e.natAbs.gcd a.natAbs) : Int).natAbs.gcd b.natAbs) : Int).natAbs.gcd c.natAbs) : Int) < (0 : Int)))), CV.lit (Value.string (bytesOf (↑((↑((↑(e.natAbs.gcd a.natAbs) : Int).natAbs.gcd b.natAbs) : Int).natAbs.gcd c.natAbs) : Int).natAbs))])), (54, Or.r (CV.agg [CV.lit (Value.bool (decide ((↑((↑((↑((↑(e.natAbs.gcd a.natAbs) : Int).natAbs.gcd b.natAbs) : Int).natAbs.gcd c.natAbs) : Int).natAbs.gcd d.natAbs) : Int) < (0 : Int)))), CV.lit (Value.string (bytesOf (↑((↑((↑((↑(e.natAbs.gcd a.natAbs) : Int).natAbs.gcd b.natAbs) : Int).natAbs.gcd c.natAbs) : Int).natAbs.gcd d.natAbs) : Int).natAbs))])), (64, Or.r (CV.agg [CV.lit (Value.bool (decide ((↑(↑((↑((↑((↑(e.natAbs.gcd a.natAbs) : Int).natAbs.gcd b.natAbs) : Int).natAbs.gcd c.natAbs) : Int).natAbs.gcd d.natAbs) : Int).natAbs : Int) < (0 : Int)))), CV.lit (Value.string (bytesOf (↑(↑((↑((↑((↑(e.natAbs.gcd a.natAbs) : Int).natAbs.gcd b.natAbs) : Int).natAbs.gcd c.natAbs) : Int).natAbs.gcd d.natAbs) : Int).natAbs : Int).natAbs))])), (67, Or.r (CV.lit (Value.int IntKind.i64 e.sign))), (69, Or.b true), (71, Or.r (CV.agg [CV.lit (Value.bool (decide (-(↑(↑((↑((↑((↑(e.natAbs.gcd a.natAbs) : Int).natAbs.gcd b.natAbs) : Int).natAbs.gcd c.natAbs) : Int).natAbs.gcd d.natAbs) : Int).natAbs : Int) < (0 : Int)))), CV.lit (Value.string (bytesOf (-(↑(↑((↑((↑((↑(e.natAbs.gcd a.natAbs) : Int).natAbs.gcd b.natAbs) : Int).natAbs.gcd c.natAbs) : Int).natAbs.gcd d.natAbs) : Int).natAbs : Int)).natAbs))])), (79, Or.r (CV.agg [CV.lit (Value.bool false), CV.lit (Value.string (bytesOf 1))])), (81, Or.b false)]) (by kernel_rfl) (.cons (show 2 ≤ 2 from (by decide)) (.cons (show (0 : Int) ≤ (0 : Int) ∧ (0 : Int) < (4 : Int) from (by decide)) (.cons (Go.Fw.RGcd_w (e) (a) s15_0) (.cons (show 2 ≤ 2 from (by decide)) (.cons (show (0 : Int) ≤ (1 : Int) ∧ (1 : Int) < (4 : Int) from (by decide)) (.cons (Go.Fw.RGcd_w ((↑(e.natAbs.gcd a.natAbs) : Int)) (b) s28_0) (.cons (show 2 ≤ 2 from (by decide)) (.cons (show (0 : Int) ≤ (2 : Int) ∧ (2 : Int) < (4 : Int) from (by decide)) (.cons (Go.Fw.RGcd_w ((↑((↑(e.natAbs.gcd a.natAbs) : Int).natAbs.gcd b.natAbs) : Int)) (c) s41_0) (.cons (show 2 ≤ 2 from (by decide)) (.cons (show (0 : Int) ≤ (3 : Int) ∧ (3 : Int) < (4 : Int) from (by decide)) (.cons (Go.Fw.RGcd_w ((↑((↑((↑(e.natAbs.gcd a.natAbs) : Int).natAbs.gcd b.natAbs) : Int).natAbs.gcd c.natAbs) : Int)) (d) s54_0) (.cons (show 2 ≤ 2 from (by decide)) (.cons (Go.Fw.RAbs_spec ((↑((↑((↑((↑(e.natAbs.gcd a.natAbs) : Int).natAbs.gcd b.natAbs) : Int).natAbs.gcd c.natAbs) : Int).natAbs.gcd d.natAbs) : Int))) (.cons (show 2 ≤ 2 from (by decide)) (.cons (Go.Fw.RSign_spec (e)) (.cons h1 (.cons (Go.Fw.RNeg_spec ((↑(↑((↑((↑((↑(e.natAbs.gcd a.natAbs) : Int).natAbs.gcd b.natAbs) : Int).natAbs.gcd c.natAbs) : Int).natAbs.gcd d.natAbs) : Int).natAbs : Int))) (.cons (show 2 ≤ 2 from (by decide)) (.cons (show 10 ≤ 10 from (by decide)) (.cons (Go.Fw.ROf_spec ((1 : Int)) s79_0) (.cons h2 (.cons (show 10 ≤ 10 from (by decide)) .nil)))))))))))))))))))))))
theorem Rdc_p3 (a : Int) (b : Int) (c : Int) (d : Int) (e : Int) (h1 : (decide (e.sign < (0 : Int))) = false) (h2 : (!(decide ((↑(↑((↑((↑((↑(e.natAbs.gcd a.natAbs) : Int).natAbs.gcd b.natAbs) : Int).natAbs.gcd c.natAbs) : Int).natAbs.gcd d.natAbs) : Int).natAbs : Int) < (0 : Int)) == false && (bytesOf (↑(↑((↑((↑((↑(e.natAbs.gcd a.natAbs) : Int).natAbs.gcd b.natAbs) : Int).natAbs.gcd c.natAbs) : Int).natAbs.gcd d.natAbs) : Int).natAbs : Int).natAbs == bytesOf 1 && true))) = true) (s15_0 : GcdC e a) (s28_0 : GcdC (↑(e.natAbs.gcd a.natAbs) : Int) b) (s41_0 : GcdC (↑((↑(e.natAbs.gcd a.natAbs) : Int).natAbs.gcd b.natAbs) : Int) c) (s54_0 : GcdC (↑((↑((↑(e.natAbs.gcd a.natAbs) : Int).natAbs.gcd b.natAbs) : Int).natAbs.gcd c.natAbs) : Int) d) (s76_0 : (-9223372036854775808 : Int) ≤ (1 : Int) ∧ (1 : Int) ≤ (9223372036854775807 : Int)) (s89_0 : OverC a (↑(↑((↑((↑((↑(e.natAbs.gcd a.natAbs) : Int).natAbs.gcd b.natAbs) : Int).natAbs.gcd c.natAbs) : Int).natAbs.gcd d.natAbs) : Int).natAbs : Int)) (s105_0 : OverC b (↑(↑((↑((↑((↑(e.natAbs.gcd a.natAbs) : Int).natAbs.gcd b.natAbs) : Int).natAbs.gcd c.natAbs) : Int).natAbs.gcd d.natAbs) : Int).natAbs : Int)) (s121_0 : OverC c (↑(↑((↑((↑((↑(e.natAbs.gcd a.natAbs) : Int).natAbs.gcd b.natAbs) : Int).natAbs.gcd c.natAbs) : Int).natAbs.gcd d.natAbs) : Int).natAbs : Int)) (s137_0 : OverC d (↑(↑((↑((↑((↑(e.natAbs.gcd a.natAbs) : Int).natAbs.gcd b.natAbs) : Int).natAbs.gcd c.natAbs) : Int).natAbs.gcd d.natAbs) : Int).natAbs : Int)) (s150_0 : OverC e (↑(↑((↑((↑((↑(e.natAbs.gcd a.natAbs) : Int).natAbs.gcd b.natAbs) : Int).natAbs.gcd c.natAbs) : Int).natAbs.gcd d.natAbs) : Int).natAbs : Int)) : PCall P (129 : FuncId) [c4C a b c d, intC e] (CV.agg [CV.lit (Value.bool (decide (a / (↑(↑((↑((↑((↑(e.natAbs.gcd a.natAbs) : Int).natAbs.gcd b.natAbs) : Int).natAbs.gcd c.natAbs) : Int).natAbs.gcd d.natAbs) : Int).natAbs : Int) < (0 : Int)))), CV.lit (Value.string (bytesOf (a / (↑(↑((↑((↑((↑(e.natAbs.gcd a.natAbs) : Int).natAbs.gcd b.natAbs) : Int).natAbs.gcd c.natAbs) : Int).natAbs.gcd d.natAbs) : Int).natAbs : Int)).natAbs)), CV.lit (Value.bool (decide (b / (↑(↑((↑((↑((↑(e.natAbs.gcd a.natAbs) : Int).natAbs.gcd b.natAbs) : Int).natAbs.gcd c.natAbs) : Int).natAbs.gcd d.natAbs) : Int).natAbs : Int) < (0 : Int)))), CV.lit (Value.string (bytesOf (b / (↑(↑((↑((↑((↑(e.natAbs.gcd a.natAbs) : Int).natAbs.gcd b.natAbs) : Int).natAbs.gcd c.natAbs) : Int).natAbs.gcd d.natAbs) : Int).natAbs : Int)).natAbs)), CV.lit (Value.bool (decide (c / (↑(↑((↑((↑((↑(e.natAbs.gcd a.natAbs) : Int).natAbs.gcd b.natAbs) : Int).natAbs.gcd c.natAbs) : Int).natAbs.gcd d.natAbs) : Int).natAbs : Int) < (0 : Int)))), CV.lit (Value.string (bytesOf (c / (↑(↑((↑((↑((↑(e.natAbs.gcd a.natAbs) : Int).natAbs.gcd b.natAbs) : Int).natAbs.gcd c.natAbs) : Int).natAbs.gcd d.natAbs) : Int).natAbs : Int)).natAbs)), CV.lit (Value.bool (decide (d / (↑(↑((↑((↑((↑(e.natAbs.gcd a.natAbs) : Int).natAbs.gcd b.natAbs) : Int).natAbs.gcd c.natAbs) : Int).natAbs.gcd d.natAbs) : Int).natAbs : Int) < (0 : Int)))), CV.lit (Value.string (bytesOf (d / (↑(↑((↑((↑((↑(e.natAbs.gcd a.natAbs) : Int).natAbs.gcd b.natAbs) : Int).natAbs.gcd c.natAbs) : Int).natAbs.gcd d.natAbs) : Int).natAbs : Int)).natAbs)), CV.lit (Value.bool (decide (e / (↑(↑((↑((↑((↑(e.natAbs.gcd a.natAbs) : Int).natAbs.gcd b.natAbs) : Int).natAbs.gcd c.natAbs) : Int).natAbs.gcd d.natAbs) : Int).natAbs : Int) < (0 : Int)))), CV.lit (Value.string (bytesOf (e / (↑(↑((↑((↑((↑(e.natAbs.gcd a.natAbs) : Int).natAbs.gcd b.natAbs) : Int).natAbs.gcd c.natAbs) : Int).natAbs.gcd d.natAbs) : Int).natAbs : Int)).natAbs))]) :=
  pcallR (ors := [(15, Or.r (CV.agg [CV.lit (Value.bool (decide ((↑(e.natAbs.gcd a.natAbs) : Int) < (0 : Int)))), CV.lit (Value.string (bytesOf (↑(e.natAbs.gcd a.natAbs) : Int).natAbs))])), (28, Or.r (CV.agg [CV.lit (Value.bool (decide ((↑((↑(e.natAbs.gcd a.natAbs) : Int).natAbs.gcd b.natAbs) : Int) < (0 : Int)))), CV.lit (Value.string (bytesOf (↑((↑(e.natAbs.gcd a.natAbs) : Int).natAbs.gcd b.natAbs) : Int).natAbs))])), (41, Or.r (CV.agg [CV.lit (Value.bool (decide ((↑((↑((↑(e.natAbs.gcd a.natAbs) : Int).natAbs.gcd b.natAbs) : Int).natAbs.gcd c.natAbs) : Int) < (0 : Int)))), CV.lit (Value.string (bytesOf (↑((↑((↑(e.natAbs.gcd a.natAbs) : Int).natAbs.gcd b.natAbs) : Int).natAbs.gcd c.natAbs) : Int).natAbs))])), (54, Or.r (CV.agg [CV.lit (Value.bool (decide ((↑((↑((↑((↑(e.natAbs.gcd a.natAbs) : Int).natAbs.gcd b.natAbs) : Int).natAbs.gcd c.natAbs) : Int).natAbs.gcd d.natAbs) : Int) < (0 : Int)))), CV.lit (Value.string (bytesOf (↑((↑((↑((↑(e.natAbs.gcd a.natAbs) : Int).natAbs.gcd b.natAbs) : Int).natAbs.gcd c.natAbs) : Int).natAbs.gcd d.natAbs) : Int).natAbs))])), (64, Or.r (CV.agg [CV.lit (Value.bool (decide ((↑(↑((↑((↑((↑(e.natAbs.gcd a.natAbs) : Int).natAbs.gcd b.natAbs) : Int).natAbs.gcd c.natAbs) : Int).natAbs.gcd d.natAbs) : Int).natAbs : Int) < (0 : Int)))), CV.lit (Value.string (bytesOf (↑(↑((↑((↑((↑(e.natAbs.gcd a.natAbs) : Int).natAbs.gcd b.natAbs) : Int).natAbs.gcd c.natAbs) : Int).natAbs.gcd d.natAbs) : Int).natAbs : Int).natAbs))])), (67, Or.r (CV.lit (Value.int IntKind.i64 e.sign))), (69, Or.b false), (76, Or.r (CV.agg [CV.lit (Value.bool false), CV.lit (Value.string (bytesOf 1))])), (78, Or.b true), (89, Or.r (CV.agg [CV.lit (Value.bool (decide (a / (↑(↑((↑((↑((↑(e.natAbs.gcd a.natAbs) : Int).natAbs.gcd b.natAbs) : Int).natAbs.gcd c.natAbs) : Int).natAbs.gcd d.natAbs) : Int).natAbs : Int) < (0 : Int)))), CV.lit (Value.string (bytesOf (a / (↑(↑((↑((↑((↑(e.natAbs.gcd a.natAbs) : Int).natAbs.gcd b.natAbs) : Int).natAbs.gcd c.natAbs) : Int).natAbs.gcd d.natAbs) : Int).natAbs : Int)).natAbs))])), (105, Or.r (CV.agg [CV.lit (Value.bool (decide (b / (↑(↑((↑((↑((↑(e.natAbs.gcd a.natAbs) : Int).natAbs.gcd b.natAbs) : Int).natAbs.gcd c.natAbs) : Int).natAbs.gcd d.natAbs) : Int).natAbs : Int) < (0 : Int)))), CV.lit (Value.string (bytesOf (b / (↑(↑((↑((↑((↑(e.natAbs.gcd a.natAbs) : Int).natAbs.gcd b.natAbs) : Int).natAbs.gcd c.natAbs) : Int).natAbs.gcd d.natAbs) : Int).natAbs : Int)).natAbs))])), (121, Or.r (CV.agg [CV.lit (Value.bool (decide (c / (↑(↑((↑((↑((↑(e.natAbs.gcd a.natAbs) : Int).natAbs.gcd b.natAbs) : Int).natAbs.gcd c.natAbs) : Int).natAbs.gcd d.natAbs) : Int).natAbs : Int) < (0 : Int)))), CV.lit (Value.string (bytesOf (c / (↑(↑((↑((↑((↑(e.natAbs.gcd a.natAbs) : Int).natAbs.gcd b.natAbs) : Int).natAbs.gcd c.natAbs) : Int).natAbs.gcd d.natAbs) : Int).natAbs : Int)).natAbs))])), (137, Or.r (CV.agg [CV.lit (Value.bool (decide (d / (↑(↑((↑((↑((↑(e.natAbs.gcd a.natAbs) : Int).natAbs.gcd b.natAbs) : Int).natAbs.gcd c.natAbs) : Int).natAbs.gcd d.natAbs) : Int).natAbs : Int) < (0 : Int)))), CV.lit (Value.string (bytesOf (d / (↑(↑((↑((↑((↑(e.natAbs.gcd a.natAbs) : Int).natAbs.gcd b.natAbs) : Int).natAbs.gcd c.natAbs) : Int).natAbs.gcd d.natAbs) : Int).natAbs : Int)).natAbs))])), (150, Or.r (CV.agg [CV.lit (Value.bool (decide (e / (↑(↑((↑((↑((↑(e.natAbs.gcd a.natAbs) : Int).natAbs.gcd b.natAbs) : Int).natAbs.gcd c.natAbs) : Int).natAbs.gcd d.natAbs) : Int).natAbs : Int) < (0 : Int)))), CV.lit (Value.string (bytesOf (e / (↑(↑((↑((↑((↑(e.natAbs.gcd a.natAbs) : Int).natAbs.gcd b.natAbs) : Int).natAbs.gcd c.natAbs) : Int).natAbs.gcd d.natAbs) : Int).natAbs : Int)).natAbs))]))]) (by kernel_rfl) (.cons (show 2 ≤ 2 from (by decide)) (.cons (show (0 : Int) ≤ (0 : Int) ∧ (0 : Int) < (4 : Int) from (by decide)) (.cons (Go.Fw.RGcd_w (e) (a) s15_0) (.cons (show 2 ≤ 2 from (by decide)) (.cons (show (0 : Int) ≤ (1 : Int) ∧ (1 : Int) < (4 : Int) from (by decide)) (.cons (Go.Fw.RGcd_w ((↑(e.natAbs.gcd a.natAbs) : Int)) (b) s28_0) (.cons (show 2 ≤ 2 from (by decide)) (.cons (show (0 : Int) ≤ (2 : Int) ∧ (2 : Int) < (4 : Int) from (by decide)) (.cons (Go.Fw.RGcd_w ((↑((↑(e.natAbs.gcd a.natAbs) : Int).natAbs.gcd b.natAbs) : Int)) (c) s41_0) (.cons (show 2 ≤ 2 from (by decide)) (.cons (show (0 : Int) ≤ (3 : Int) ∧ (3 : Int) < (4 : Int) from (by decide)) (.cons (Go.Fw.RGcd_w ((↑((↑((↑(e.natAbs.gcd a.natAbs) : Int).natAbs.gcd b.natAbs) : Int).natAbs.gcd c.natAbs) : Int)) (d) s54_0) (.cons (show 2 ≤ 2 from (by decide)) (.cons (Go.Fw.RAbs_spec ((↑((↑((↑((↑(e.natAbs.gcd a.natAbs) : Int).natAbs.gcd b.natAbs) : Int).natAbs.gcd c.natAbs) : Int).natAbs.gcd d.natAbs) : Int))) (.cons (show 2 ≤ 2 from (by decide)) (.cons (Go.Fw.RSign_spec (e)) (.cons h1 (.cons (show 10 ≤ 10 from (by decide)) (.cons (Go.Fw.ROf_spec ((1 : Int)) s76_0) (.cons h2 (.cons (show (0 : Int) ≤ (0 : Int) ∧ (0 : Int) < (4 : Int) from (by decide)) (.cons (Go.Fw.ROver_w (a) ((↑(↑((↑((↑((↑(e.natAbs.gcd a.natAbs) : Int).natAbs.gcd b.natAbs) : Int).natAbs.gcd c.natAbs) : Int).natAbs.gcd d.natAbs) : Int).natAbs : Int)) s89_0) (.cons (show (0 : Int) ≤ (0 : Int) ∧ (0 : Int) < (4 : Int) from (by decide)) (.cons (show 2 ≤ 10 from (by decide)) (.cons (show (0 : Int) ≤ (1 : Int) ∧ (1 : Int) < (4 : Int) from (by decide)) (.cons (Go.Fw.ROver_w (b) ((↑(↑((↑((↑((↑(e.natAbs.gcd a.natAbs) : Int).natAbs.gcd b.natAbs) : Int).natAbs.gcd c.natAbs) : Int).natAbs.gcd d.natAbs) : Int).natAbs : Int)) s105_0) (.cons (show (0 : Int) ≤ (1 : Int) ∧ (1 : Int) < (4 : Int) from (by decide)) (.cons (show 4 ≤ 10 from (by decide)) (.cons (show (0 : Int) ≤ (2 : Int) ∧ (2 : Int) < (4 : Int) from (by decide)) (.cons (Go.Fw.ROver_w (c) ((↑(↑((↑((↑((↑(e.natAbs.gcd a.natAbs) : Int).natAbs.gcd b.natAbs) : Int).natAbs.gcd c.natAbs) : Int).natAbs.gcd d.natAbs) : Int).natAbs : Int)) s121_0) (.cons (show (0 : Int) ≤ (2 : Int) ∧ (2 : Int) < (4 : Int) from (by decide)) (.cons (show 6 ≤ 10 from (by decide)) (.cons (show (0 : Int) ≤ (3 : Int) ∧ (3 : Int) < (4 : Int) from (by decide)) (.cons (Go.Fw.ROver_w (d) ((↑(↑((↑((↑((↑(e.natAbs.gcd a.natAbs) : Int).natAbs.gcd b.natAbs) : Int).natAbs.gcd c.natAbs) : Int).natAbs.gcd d.natAbs) : Int).natAbs : Int)) s137_0) (.cons (show (0 : Int) ≤ (3 : Int) ∧ (3 : Int) < (4 : Int) from (by decide)) (.cons (show 8 ≤ 10 from (by decide)) (.cons (Go.Fw.ROver_w (e) ((↑(↑((↑((↑((↑(e.natAbs.gcd a.natAbs) : Int).natAbs.gcd b.natAbs) : Int).natAbs.gcd c.natAbs) : Int).natAbs.gcd d.natAbs) : Int).natAbs : Int)) s150_0) (.cons (show 10 ≤ 10 from (by decide)) (.cons (show 10 ≤ 10 from (by decide)) .nil)))))))))))))))))))))))))))))))))))))))
theorem Rdc_p4 (a : Int) (b : Int) (c : Int) (d : Int) (e : Int) (h1 : (decide (e.sign < (0 : Int))) = false) (h2 : (!(decide ((↑(↑((↑((↑((↑(e.natAbs.gcd a.natAbs) : Int).natAbs.gcd b.natAbs) : Int).natAbs.gcd c.natAbs) : Int).natAbs.gcd d.natAbs) : Int).natAbs : Int) < (0 : Int)) == false && (bytesOf (↑(↑((↑((↑((↑(e.natAbs.gcd a.natAbs) : Int).natAbs.gcd b.natAbs) : Int).natAbs.gcd c.natAbs) : Int).natAbs.gcd d.natAbs) : Int).natAbs : Int).natAbs == bytesOf 1 && true))) = false) (s15_0 : GcdC e a) (s28_0 : GcdC (↑(e.natAbs.gcd a.natAbs) : Int) b) (s41_0 : GcdC (↑((↑(e.natAbs.gcd a.natAbs) : Int).natAbs.gcd b.natAbs) : Int) c) (s54_0 : GcdC (↑((↑((↑(e.natAbs.gcd a.natAbs) : Int).natAbs.gcd b.natAbs) : Int).natAbs.gcd c.natAbs) : Int) d) (s76_0 : (-9223372036854775808 : Int) ≤ (1 : Int) ∧ (1 : Int) ≤ (9223372036854775807 : Int)) : PCall P (129 : FuncId) [c4C a b c d, intC e] (CV.agg [CV.lit (Value.bool (decide (a < (0 : Int)))), CV.lit (Value.string (bytesOf a.natAbs)), CV.lit (Value.bool (decide (b < (0 : Int)))), CV.lit (Value.string (bytesOf b.natAbs)), CV.lit (Value.bool (decide (c < (0 : Int)))), CV.lit (Value.string (bytesOf c.natAbs)), CV.lit (Value.bool (decide (d < (0 : Int)))), CV.lit (Value.string (bytesOf d.natAbs)), CV.lit (Value.bool (decide (e < (0 : Int)))), CV.lit (Value.string (bytesOf e.natAbs))]) :=
  pcallR (ors := [(15, Or.r (CV.agg [CV.lit (Value.bool (decide ((↑(e.natAbs.gcd a.natAbs) : Int) < (0 : Int)))), CV.lit (Value.string (bytesOf (↑(e.natAbs.gcd a.natAbs) : Int).natAbs))])), (28, Or.r (CV.agg [CV.lit (Value.bool (decide ((↑((↑(e.natAbs.gcd a.natAbs) : Int).natAbs.gcd b.natAbs) : Int) < (0 : Int)))), CV.lit (Value.string (bytesOf (↑((↑(e.natAbs.gcd a.natAbs) : Int).natAbs.gcd b.natAbs) : Int).natAbs))])), (41, Or.r (CV.agg [CV.lit (Value.bool (decide ((↑((↑((↑(e.natAbs.gcd a.natAbs) : Int).natAbs.gcd b.natAbs) : Int).natAbs.gcd c.natAbs) : Int) < (0 : Int)))), CV.lit (Value.string (bytesOf (↑((↑((↑(e.natAbs.gcd a.natAbs) : Int).natAbs.gcd b.natAbs) : Int).natAbs.gcd c.natAbs) : Int).natAbs))])), (54, Or.r (CV.agg [CV.lit (Value.bool (decide ((↑((↑((↑((↑(e.natAbs.gcd a.natAbs) : Int).natAbs.gcd b.natAbs) : Int).natAbs.gcd c.natAbs) : Int).natAbs.gcd d.natAbs) : Int) < (0 : Int)))), CV.lit (Value.string (bytesOf (↑((↑((↑((↑(e.natAbs.gcd a.natAbs) : Int).natAbs.gcd b.natAbs) : Int).natAbs.gcd c.natAbs) : Int).natAbs.gcd d.natAbs) : Int).natAbs))])), (64, Or.r (CV.agg [CV.lit (Value.bool (decide ((↑(↑((↑((↑((↑(e.natAbs.gcd a.natAbs) : Int).natAbs.gcd b.natAbs) : Int).natAbs.gcd c.natAbs) : Int).natAbs.gcd d.natAbs) : Int).natAbs : Int) < (0 : Int)))), CV.lit (Value.string (bytesOf (↑(↑((↑((↑((↑(e.natAbs.gcd a.natAbs) : Int).natAbs.gcd b.natAbs) : Int).natAbs.gcd c.natAbs) : Int).natAbs.gcd d.natAbs) : Int).natAbs : Int).natAbs))])), (67, Or.r (CV.lit (Value.int IntKind.i64 e.sign))), (69, Or.b false), (76, Or.r (CV.agg [CV.lit (Value.bool false), CV.lit (Value.string (bytesOf 1))])), (78, Or.b false)]) (by kernel_rfl) (.cons (show 2 ≤ 2 from (by decide)) (.cons (show (0 : Int) ≤ (0 : Int) ∧ (0 : Int) < (4 : Int) from (by decide)) (.cons (Go.Fw.RGcd_w (e) (a) s15_0) (.cons (show 2 ≤ 2 from (by decide)) (.cons (show (0 : Int) ≤ (1 : Int) ∧ (1 : Int) < (4 : Int) from (by decide)) (.cons (Go.Fw.RGcd_w ((↑(e.natAbs.gcd a.natAbs) : Int)) (b) s28_0) (.cons (show 2 ≤ 2 from (by decide)) (.cons (show (0 : Int) ≤ (2 : Int) ∧ (2 : Int) < (4 : Int) from (by decide)) (.cons (Go.Fw.RGcd_w ((↑((↑(e.natAbs.gcd a.natAbs) : Int).natAbs.gcd b.natAbs) : Int)) (c) s41_0) (.cons (show 2 ≤ 2 from (by decide)) (.cons (show (0 : Int) ≤ (3 : Int) ∧ (3 : Int) < (4 : Int) from (by decide)) (.cons (Go.Fw.RGcd_w ((↑((↑((↑(e.natAbs.gcd a.natAbs) : Int).natAbs.gcd b.natAbs) : Int).natAbs.gcd c.natAbs) : Int)) (d) s54_0) (.cons (show 2 ≤ 2 from (by decide)) (.cons (Go.Fw.RAbs_spec ((↑((↑((↑((↑(e.natAbs.gcd a.natAbs) : Int).natAbs.gcd b.natAbs) : Int).natAbs.gcd c.natAbs) : Int).natAbs.gcd d.natAbs) : Int))) (.cons (show 2 ≤ 2 from (by decide)) (.cons (Go.Fw.RSign_spec (e)) (.cons h1 (.cons (show 10 ≤ 10 from (by decide)) (.cons (Go.Fw.ROf_spec ((1 : Int)) s76_0) (.cons h2 (.cons (show 10 ≤ 10 from (by decide)) .nil)))))))))))))))))))))
theorem Mke_p1 (a : Int) (b : Int) (c : Int) (d : Int) (e : Int) (h1 : (e.sign == (0 : Int)) = true) : PCall P (191 : FuncId) [c4C a b c d, intC e] (CV.tup [CV.agg [CV.lit (Value.bool false), CV.lit (Value.string { data := #[] }), CV.lit (Value.bool false), CV.lit (Value.string { data := #[] }), CV.lit (Value.bool false), CV.lit (Value.string { data := #[] }), CV.lit (Value.bool false), CV.lit (Value.string { data := #[] }), CV.lit (Value.bool false), CV.lit (Value.string { data := #[] })], CV.lit (Value.int IntKind.i64 (10 : Int))]) :=
  pcallR (ors := [(12, Or.r (CV.lit (Value.bool true))), (25, Or.r (CV.lit (Value.bool true))), (38, Or.r (CV.lit (Value.bool true))), (51, Or.r (CV.lit (Value.bool true))), (62, Or.r (CV.lit (Value.bool true))), (67, Or.r (CV.lit (Value.int IntKind.i64 e.sign))), (70, Or.b true)]) (by kernel_rfl) (.cons (show (0 : Int) ≤ (0 : Int) ∧ (0 : Int) < (4 : Int) from (by decide)) (.cons (Go.Fw.rValid_int (a)) (.cons (show (0 : Int) ≤ (1 : Int) ∧ (1 : Int) < (4 : Int) from (by decide)) (.cons (Go.Fw.rValid_int (b)) (.cons (show (0 : Int) ≤ (2 : Int) ∧ (2 : Int) < (4 : Int) from (by decide)) (.cons (Go.Fw.rValid_int (c)) (.cons (show (0 : Int) ≤ (3 : Int) ∧ (3 : Int) < (4 : Int) from (by decide)) (.cons (Go.Fw.rValid_int (d)) (.cons (Go.Fw.rValid_int (e)) (.cons (Go.Fw.RSign_spec (e)) (.cons h1 (.cons (show 10 ≤ 10 from (by decide)) .nil))))))))))))
end Go.Fw
