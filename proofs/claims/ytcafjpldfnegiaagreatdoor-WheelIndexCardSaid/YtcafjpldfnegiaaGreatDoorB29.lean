/- A part of the proof that the law returns true for every input: an executor for the model's code, and what functions of the program compute. -/
import Derived.Test.YtcafjpldfnegiaaGreatDoorB09
import Derived.Test.YtcafjpldfnegiaaGreatDoorB14
import Derived.Test.YtcafjpldfnegiaaGreatDoorB27
import Derived.Maps.RangeRun
import Derived.KernelRfl
open Go
namespace Go.Fw
/-! A function with a loop over a map of its own: the map and the iterator are named by an invariant of the world, beside the state. -/
section
variable {P : Program}

/-- The parts of a code that the executor walks piece by piece. -/
def subC : List Bool → Code → Code
  | [], c => c
  | false :: l, .seq x _ => subC l x
  | true :: l, .seq _ y => subC l y
  | _ :: l, .loop x => subC l x
  | _ :: l, .block _ x => subC l x
  | _, c => c

/-- One region, executed. -/
def regM (P : Program) (c : Code) (s : St) (ors : Ors) : Option (St × List Prop) :=
  match c with
  | .region _ ra draw =>
    match mOps P ra.toList s.hp.length false (List.range ra.size) 0 ors { s with hp := s.hp ++ List.replicate (slotOf ra.toList ra.size) none } [] [] with
    | .ok _ _ s' ob es => if draw && !(drawOk s.hp.length ra.toList es && edgesBack 0 ra.toList && P.follows .mixedOrders) then none else some (s', ob)
    | .bad .. => none
  | _ => none

theorem regM_sound {w0 : Start} {c : Code} {s s' : St} {ors : Ors} {ob : List Prop} {a : Act} {w : World} {I : Imm} {p : Pl} (h : regM P c s ors = some (s', ob)) (hob : ∀ q ∈ ob, q) (R : SRel w0 s I p a w) (hB : Beyond s p) :
    c.wp P (RegPost w0 s' I p) a w := by
  unfold regM at h
  split at h
  · split at h
    · rename_i hm
      split at h
      · cases h
      · rename_i hd
        cases h
        exact region_sound (ask := false) hm (fun hdr => by subst hdr; simpa using hd) hob R hB
    · cases h
  · cases h

theorem Ok.regM {f : FuncId} {c : Code} {k : List Item} {s s' : St} {R : Goal} {ors : Ors} {ob : List Prop} (h : regM P c s ors = some (s', ob)) (hob : AllP ob) (hk : Ok P f k s' R) : Ok P f (.code c :: k) s R := by
  intro w0 I p a w b cs h1 h2 h3 h31 h32 h4 h5
  obtain ⟨a', w1, ⟨I', p', q1, q2, q3, q4⟩, hst⟩ := steps_wp (P := P) (b := b) (k := k) (cs := cs) (show c.wp P (fun e a' w' => e = .normal ∧ ∃ I' p', I.le I' ∧ SRel w0 s' I' p' a' w' ∧ Beyond s' p' ∧ p.le p') a w from regM_sound (w0 := w0) h hob.mem h4 h5)
  obtain ⟨e, w', fr, k1, k2, k3⟩ := hk w0 I' p' a' w1 b cs h1 h2 (Imm.le_trans h3 q1) (Pl.le_trans h31 q4) h32 q2 q3
  exact ⟨e, w', fr, k1, .of_steps hst k2, k3⟩

/-- 'Ok', and the world's own blocks are as X says. -/
def OkX (P : Program) (f : FuncId) (todo : List Item) (s : St) (R : Goal) (X : Start → Pl → World → Prop) : Prop :=
  ∀ (w0 : Start) (I : Imm) (p : Pl) (a : Act) (w : World) (b : Frame) (cs : List Frame), b.fn = f → b.kind = .normal → w0.im.le I → w0.pl.le p → (∀ k, R.n ≤ k → w0.pl k = none) → SRel w0 s I p a w → Beyond s p → X w0 p w →
    ∃ e w' fr, Fin w0 R e w' ∧ Comes P (lone (b.at a todo) cs w) (lone fr cs w') e ∧ fr.fn = f ∧ fr.leaving P w' e

theorem OkX.of {f : FuncId} {todo : List Item} {s : St} {R : Goal} {X : Start → Pl → World → Prop} (h : Ok P f todo s R) : OkX P f todo s R X :=
  fun w0 I p a w b cs h1 h2 h3 h31 h32 h4 h5 _ => h w0 I p a w b cs h1 h2 h3 h31 h32 h4 h5
theorem OkX.step {f : FuncId} {todo todo' : List Item} {s : St} {R : Goal} {X : Start → Pl → World → Prop} (h : OkX P f todo' s R X)
    (hs : ∀ (b : Frame) (a : Act) (cs : List Frame) (w : World), step P (lone (b.at a todo) cs w) = .next (lone (b.at a todo') cs w)) : OkX P f todo s R X := by
  intro w0 I p a w b cs h1 h2 h3 h31 h32 h4 h5 h6
  obtain ⟨e, w', fr, k1, k2, k3⟩ := h w0 I p a w b cs h1 h2 h3 h31 h32 h4 h5 h6
  exact ⟨e, w', fr, k1, .of_steps (.one (hs b a cs w)) k2, k3⟩
theorem OkX.cond {f : FuncId} {c : Operand} {x y : Code} {k : List Item} {s : St} {R : Goal} {X : Start → Pl → World → Prop} {t d : Bool} (hc : evalM s.tm c = .cv (.lit (.bool t))) (htd : t = d)
    (h : OkX P f (.code (if d then x else y) :: k) s R X) : OkX P f (.code (.cond c x y) :: k) s R X := by
  intro w0 I p a w b cs h1 h2 h3 h31 h32 h4 h5 h6
  obtain ⟨e, w', fr, k1, k2, k3⟩ := h w0 I p a w b cs h1 h2 h3 h31 h32 h4 h5 h6
  refine ⟨e, w', fr, k1, .of_steps (.one (step_cond ?_)) k2, k3⟩
  have := evalM_rep h4.tm c
  rw [hc] at this
  rw [lit_rep this, htd]

/-- A map and its iterator: two blocks that the function made; the state names neither. -/
structure XI (r : Nat) (es : Array MapEntry) (clock : Nat) (seen : Array Nat) (w0 : Start) (p : Pl) (w : World) : Prop where
  m : ∃ bm, w.heap[bm]? = some (.map es clock) ∧ w.heap[r]? = some (.mapIter (some bm) clock seen clock) ∧ ∀ i κ, p i ≠ some (bm, κ)
  pr : ∀ i κ, p i ≠ some (r, κ)
  own : w0.own r
  ps : ∀ i b κ, p i = some (b, κ) → w0.own b

def allLive : List Blk → Bool
  | [] => true
  | some _ :: l => allLive l
  | none :: _ => false
theorem allLive_get : ∀ (l : List Blk) (i : Nat), allLive l = true → i < l.length → ∃ c, l[i]? = some (some c)
  | some c :: l, 0, _, _ => ⟨c, rfl⟩
  | some c :: l, i + 1, h, hi => by simpa using allLive_get l i h (by simpa using hi)
  | none :: l, i, h, _ => by simp [allLive] at h
  | [], i, _, hi => by simp at hi

theorem start_rel {w0 : Start} {s : St} {I : Imm} {p : Pl} {a : Act} {w : World} (h : SRel w0 s I p a w) : SRel ⟨w, I, p⟩ s I p a w := by
  refine ⟨h.tm, h.defers, ⟨rfl, rfl, rfl, Nat.le_refl _, fun _ _ => rfl⟩, h.hp.im, fun b hb => .inl hb, fun i cells hi => ?_, h.hp.inj⟩
  obtain ⟨b, κ, c, T, g1, g2, g3, g4, _, g6⟩ := h.hp.live i cells hi
  exact ⟨b, κ, c, T, g1, g2, g3, g4, .inr ⟨i, κ, g1⟩, g6⟩

theorem own_trans {w0 : Start} {I : Imm} {p : Pl} {w : World} (hB : Blw w0 w) (hps : ∀ i b κ, p i = some (b, κ) → w0.own b) {b : Nat} (h : (⟨w, I, p⟩ : Start).own b) : w0.own b := by
  rcases h with h | ⟨i, κ, h⟩
  · exact .inl (Nat.le_trans hB.size h)
  · exact hps i b κ h

theorem back_rel {w0 : Start} {s s' : St} {I I' : Imm} {p p' : Pl} {a a' : Act} {w w' : World} (h : SRel w0 s I p a w) (hps : ∀ i b κ, p i = some (b, κ) → w0.own b) (h' : SRel ⟨w, I, p⟩ s' I' p' a' w') : SRel w0 s' I' p' a' w' := by
  have ho := @own_trans w0 I p w h.hp.below hps
  refine ⟨h'.tm, h'.defers, ⟨h'.hp.below.os.trans h.hp.below.os, h'.hp.below.tape.trans h.hp.below.tape, h'.hp.below.output.trans h.hp.below.output, Nat.le_trans h.hp.below.size h'.hp.below.size, fun k hk => ?_⟩, h'.hp.im, fun b hb => ?_, fun i cells hi => ?_, h'.hp.inj⟩
  · rw [h'.hp.below.block k (fun hk' => hk (ho hk')), h.hp.below.block k hk]
  · rcases h'.hp.imf b hb with g | g
    · exact h.hp.imf b g
    · exact .inr (ho g)
  · obtain ⟨b, κ, c, T, g1, g2, g3, g4, g5, g6⟩ := h'.hp.live i cells hi
    exact ⟨b, κ, c, T, g1, g2, g3, g4, ho g5, g6⟩

/-- A region; behind it the state is cut to the blocks that were there. -/
theorem OkX.region {f : FuncId} {c : Code} {k : List Item} {s s' s'' : St} {R : Goal} {ors : Ors} {ob : List Prop} {r : Nat} {es : Array MapEntry} {clock : Nat} {seen : Array Nat} (keep σ : List Nat)
    (h : regM P c s ors = some (s', ob)) (hob : AllP ob) (hl : allLive s.hp = true) (hσ : nodupB σ = true) (hσl : σ.all (· < s.hp.length) = true) (hR : R.n = 0) (hs : s'' = s'.sel keep σ) (hb : AllP (CellsC s''.hp))
    (hk : OkX P f k s'' R (XI r es clock seen)) : OkX P f (.code c :: k) s R (XI r es clock seen) := by
  intro w0 I p a w b cs h1 h2 h3 h31 h32 h4 h5 h6
  have hlive : ∀ i x, p i = some x → ∃ cells, s.hp[i]? = some (some cells) := fun i x hx => allLive_get _ i hl (by
    rcases Nat.lt_or_ge i s.hp.length with hi | hi
    · exact hi
    · rw [h5 i hi] at hx; cases hx)
  have hdom : ∀ i, i < s.hp.length → ∃ x, p i = some x := fun i hi => by
    obtain ⟨c, hc⟩ := allLive_get _ i hl hi
    obtain ⟨b, κ, _, _, g1, _⟩ := h4.hp.live i c hc
    exact ⟨_, g1⟩
  obtain ⟨a', w1, ⟨I', p', q1, q2, q3, q4⟩, hst⟩ := steps_wp (P := P) (b := b) (k := k) (cs := cs) (show c.wp P (fun e a' w' => e = .normal ∧ ∃ I' p', I.le I' ∧ SRel ⟨w, I, p⟩ s' I' p' a' w' ∧ Beyond s' p' ∧ p.le p') a w from regM_sound h hob.mem (start_rel h4) h5)
  have hat : ∀ i x, (p'.at σ) i = some x → ∃ j, σ[i]? = some j ∧ p j = some x := fun i x hx => by
    simp only [Pl.at] at hx
    split at hx
    · rename_i j hj
      have hjl : j < s.hp.length := by simpa using List.all_eq_true.1 hσl j (List.mem_of_getElem? hj)
      obtain ⟨y, hy⟩ := hdom j hjl
      have := q4 j y hy
      rw [this] at hx
      cases hx
      exact ⟨j, hj, hy⟩
    · cases hx
  have q5 := back_rel h4 h6.ps q2
  subst hs
  obtain ⟨bm, m1, m2, m4⟩ := h6.m
  have hnb : ∀ x, x < w.heap.size → (∀ i κ, p i ≠ some (x, κ)) → w1.heap[x]? = w.heap[x]? := fun x hx hp => q2.hp.below.block x (fun ho => by
    rcases ho with ho | ⟨i, κ, ho⟩
    · exact absurd ho (Nat.not_le.2 hx)
    · exact hp i κ ho)
  have hlt : ∀ x (o : Obj), w.heap[x]? = some o → x < w.heap.size := fun x o hx => by
    rcases Nat.lt_or_ge x w.heap.size with g | g
    · exact g
    · rw [Array.getElem?_eq_none g] at hx; cases hx
  obtain ⟨e, w', fr, k1, k2, k3⟩ := hk w0 I' (p'.at σ) a' w1 b cs h1 h2 (Imm.le_trans h3 q1) (fun i x hx => by rw [h32 i (by omega)] at hx; cases hx) h32 ⟨selTm_rep _ _ _ q5.tm, q5.defers, q5.hp.sel hσ hb.mem⟩ (fun i hi => by
      simp only [St.sel, List.length_map] at hi
      simp [Pl.at, List.getElem?_eq_none_iff.2 hi])
    ⟨⟨bm, (hnb bm (hlt _ _ m1) m4).trans m1, (hnb r (hlt _ _ m2) h6.pr).trans m2, fun i κ hi => by obtain ⟨j, _, hj⟩ := hat i _ hi; exact m4 j κ hj⟩,
      fun i κ hi => by obtain ⟨j, _, hj⟩ := hat i _ hi; exact h6.pr j κ hj, h6.own, fun i b κ hi => by obtain ⟨j, _, hj⟩ := hat i _ hi; exact h6.ps j b κ hj⟩
  exact ⟨e, w', fr, k1, .of_steps hst k2, k3⟩

def pickR (keep σ : List Nat) : Option (St × List Prop) → Option (St × List Prop)
  | some (s, ob) => some (s.sel keep σ, ob ++ CellsC (σ.map fun i => s.hp.getD i none))
  | none => none
theorem pickR_some {keep σ : List Nat} {o : Option (St × List Prop)} {s : St} {ob : List Prop} (h : pickR keep σ o = some (s, ob)) :
    ∃ s0 ob0, o = some (s0, ob0) ∧ s = s0.sel keep σ ∧ ob = ob0 ++ CellsC (σ.map fun i => s0.hp.getD i none) := by
  unfold pickR at h
  split at h
  · rename_i s0 ob0
    simp only [Option.some.injEq, Prod.mk.injEq] at h
    obtain ⟨rfl, rfl⟩ := h
    exact ⟨_, _, rfl, rfl, rfl⟩
  · cases h
theorem Ok.regS {f : FuncId} {c : Code} {k : List Item} {s s' : St} {R : Goal} {ors : Ors} {ob : List Prop} (keep σ : List Nat) (h : pickR keep σ (Fw.regM P c s ors) = some (s', ob)) (hσ : nodupB σ = true) (hob : Ps ob) (hn : lentOk R.n σ = true) (hk : Ok P f k s' R) : Ok P f (.code c :: k) s R := by
  obtain ⟨s0, ob0, h0, rfl, rfl⟩ := pickR_some h
  exact Ok.regM h0 hob.all.left (Ok.sel keep σ hσ hn hob.all.right hk)
theorem OkX.regS {f : FuncId} {c : Code} {k : List Item} {s s' : St} {R : Goal} {ors : Ors} {ob : List Prop} {r : Nat} {es : Array MapEntry} {clock : Nat} {seen : Array Nat} (keep σ : List Nat)
    (h : pickR keep σ (Fw.regM P c s ors) = some (s', ob)) (hσ : nodupB σ = true) (hob : Ps ob) (hl : allLive s.hp = true) (hσl : σ.all (· < s.hp.length) = true) (hR : R.n = 0) (hk : OkX P f k s' R (XI r es clock seen)) : OkX P f (.code c :: k) s R (XI r es clock seen) := by
  obtain ⟨s0, ob0, h0, rfl, rfl⟩ := pickR_some h
  exact OkX.region keep σ h0 hob.all.left hl hσ hσl hR rfl hob.all.right hk
end
end Go.Fw
open Go
namespace Go.Fw
set_option maxRecDepth 100000

theorem overF_p1 (a : Int) (b : Int) (s5_0 : SmlZ a) (s5_1 : SmlZ b) (s5_2 : b ≠ (0 : Int)) (s5_3 : b ∣ a) : PCall P (244 : FuncId) [intC a, intC b] (CV.agg [CV.lit (Value.bool (decide (a / b < (0 : Int)))), CV.lit (Value.string (bytesOf (a / b).natAbs))]) :=
  pcallR (ors := [(5, Or.r (CV.tup [CV.agg [CV.lit (Value.bool (decide (a / b < (0 : Int)))), CV.lit (Value.string (bytesOf (a / b).natAbs))], CV.agg [CV.lit (Value.bool false), CV.lit (Value.string (bytesOf 0))], CV.lit (Value.int IntKind.i64 (0 : Int))]))]) (by kernel_rfl) (.cons (Go.Fw.DM_exact (a) (b) s5_0 s5_1 s5_2 s5_3) (.cons (show 2 ≤ 2 from (by decide)) (.cons (show 2 ≤ 2 from (by decide)) (.cons (show 2 ≤ 2 from (by decide)) .nil))))
end Go.Fw
open Go
namespace Go.Fw
theorem over_spec (a b : Int) (ha : SmlZ a) (hb : SmlZ b) (hb0 : b ≠ 0) (hd : b ∣ a) : PCall P 244 [intC a, intC b] (intC (a / b)) := overF_p1 a b ha hb hb0 hd
end Go.Fw
open Go
namespace Go.Fw
set_option maxRecDepth 100000

theorem low_p1 (a : Int) (b : Int) (c : Int) (d : Int) (e : Int) (h1 : (decide (e.sign < (0 : Int))) = true) (h2 : (decide (-(↑(gcd5 a b c d e) : Int) < (0 : Int)) == false && (bytesOf (-(↑(gcd5 a b c d e) : Int)).natAbs == bytesOf 1 && true)) = true) (s5_0 : SmlZ a) (s5_1 : SmlZ b) (s5_2 : SmlZ c) (s5_3 : SmlZ d) (s5_4 : SmlZ e) (s16_0 : (-9223372036854775808 : Int) ≤ (1 : Int) ∧ (1 : Int) ≤ (9223372036854775807 : Int)) : PCall P (204 : FuncId) [c4C a b c d, intC e] (CV.agg [CV.lit (Value.bool (decide (a < (0 : Int)))), CV.lit (Value.string (bytesOf a.natAbs)), CV.lit (Value.bool (decide (b < (0 : Int)))), CV.lit (Value.string (bytesOf b.natAbs)), CV.lit (Value.bool (decide (c < (0 : Int)))), CV.lit (Value.string (bytesOf c.natAbs)), CV.lit (Value.bool (decide (d < (0 : Int)))), CV.lit (Value.string (bytesOf d.natAbs)), CV.lit (Value.bool (decide (e < (0 : Int)))), CV.lit (Value.string (bytesOf e.natAbs))]) :=
  pcallR (ors := [(5, Or.r (CV.agg [CV.lit (Value.bool (decide ((↑(gcd5 a b c d e) : Int) < (0 : Int)))), CV.lit (Value.string (bytesOf (↑(gcd5 a b c d e) : Int).natAbs))])), (9, Or.r (CV.lit (Value.int IntKind.i64 e.sign))), (11, Or.b true), (13, Or.r (CV.agg [CV.lit (Value.bool (decide (-(↑(gcd5 a b c d e) : Int) < (0 : Int)))), CV.lit (Value.string (bytesOf (-(↑(gcd5 a b c d e) : Int)).natAbs))])), (16, Or.r (CV.agg [CV.lit (Value.bool false), CV.lit (Value.string (bytesOf 1))])), (18, Or.b true)]) (by kernel_rfl) (.cons (Go.Fw.common_spec (a) (b) (c) (d) (e) s5_0 s5_1 s5_2 s5_3 s5_4) (.cons (show 2 ≤ 2 from (by decide)) (.cons (Go.Fw.Sign_spec (e)) (.cons h1 (.cons (Go.Fw.Neg_spec ((↑(gcd5 a b c d e) : Int))) (.cons (show 2 ≤ 2 from (by decide)) (.cons (Go.Fw.Of_spec ((1 : Int)) s16_0) (.cons h2 (.cons (show 10 ≤ 10 from (by decide)) .nil)))))))))
theorem low_p2 (a : Int) (b : Int) (c : Int) (d : Int) (e : Int) (h1 : (decide (e.sign < (0 : Int))) = true) (h2 : (decide (-(↑(gcd5 a b c d e) : Int) < (0 : Int)) == false && (bytesOf (-(↑(gcd5 a b c d e) : Int)).natAbs == bytesOf 1 && true)) = false) (s5_0 : SmlZ a) (s5_1 : SmlZ b) (s5_2 : SmlZ c) (s5_3 : SmlZ d) (s5_4 : SmlZ e) (s16_0 : (-9223372036854775808 : Int) ≤ (1 : Int) ∧ (1 : Int) ≤ (9223372036854775807 : Int)) (s30_0 : SmlZ a) (s30_1 : SmlZ (-(↑(gcd5 a b c d e) : Int))) (s30_2 : -(↑(gcd5 a b c d e) : Int) ≠ (0 : Int)) (s30_3 : -(↑(gcd5 a b c d e) : Int) ∣ a) (s45_0 : SmlZ b) (s45_1 : SmlZ (-(↑(gcd5 a b c d e) : Int))) (s45_2 : -(↑(gcd5 a b c d e) : Int) ≠ (0 : Int)) (s45_3 : -(↑(gcd5 a b c d e) : Int) ∣ b) (s60_0 : SmlZ c) (s60_1 : SmlZ (-(↑(gcd5 a b c d e) : Int))) (s60_2 : -(↑(gcd5 a b c d e) : Int) ≠ (0 : Int)) (s60_3 : -(↑(gcd5 a b c d e) : Int) ∣ c) (s75_0 : SmlZ d) (s75_1 : SmlZ (-(↑(gcd5 a b c d e) : Int))) (s75_2 : -(↑(gcd5 a b c d e) : Int) ≠ (0 : Int)) (s75_3 : -(↑(gcd5 a b c d e) : Int) ∣ d) (s86_0 : SmlZ e) (s86_1 : SmlZ (-(↑(gcd5 a b c d e) : Int))) (s86_2 : -(↑(gcd5 a b c d e) : Int) ≠ (0 : Int)) (s86_3 : -(↑(gcd5 a b c d e) : Int) ∣ e) : PCall P (204 : FuncId) [c4C a b c d, intC e] (CV.agg [CV.lit (Value.bool (decide (a / -(↑(gcd5 a b c d e) : Int) < (0 : Int)))), CV.lit (Value.string (bytesOf (a / -(↑(gcd5 a b c d e) : Int)).natAbs)), CV.lit (Value.bool (decide (b / -(↑(gcd5 a b c d e) : Int) < (0 : Int)))), CV.lit (Value.string (bytesOf (b / -(↑(gcd5 a b c d e) : Int)).natAbs)), CV.lit (Value.bool (decide (c / -(↑(gcd5 a b c d e) : Int) < (0 : Int)))), CV.lit (Value.string (bytesOf (c / -(↑(gcd5 a b c d e) : Int)).natAbs)), CV.lit (Value.bool (decide (d / -(↑(gcd5 a b c d e) : Int) < (0 : Int)))), CV.lit (Value.string (bytesOf (d / -(↑(gcd5 a b c d e) : Int)).natAbs)), CV.lit (Value.bool (decide (e / -(↑(gcd5 a b c d e) : Int) < (0 : Int)))), CV.lit (Value.string (bytesOf (e / -(↑(gcd5 a b c d e) : Int)).natAbs))]) :=
  pcallR (ors := [(5, Or.r (CV.agg [CV.lit (Value.bool (decide ((↑(gcd5 a b c d e) : Int) < (0 : Int)))), CV.lit (Value.string (bytesOf (↑(gcd5 a b c d e) : Int).natAbs))])), (9, Or.r (CV.lit (Value.int IntKind.i64 e.sign))), (11, Or.b true), (13, Or.r (CV.agg [CV.lit (Value.bool (decide (-(↑(gcd5 a b c d e) : Int) < (0 : Int)))), CV.lit (Value.string (bytesOf (-(↑(gcd5 a b c d e) : Int)).natAbs))])), (16, Or.r (CV.agg [CV.lit (Value.bool false), CV.lit (Value.string (bytesOf 1))])), (18, Or.b false), (30, Or.r (CV.agg [CV.lit (Value.bool (decide (a / -(↑(gcd5 a b c d e) : Int) < (0 : Int)))), CV.lit (Value.string (bytesOf (a / -(↑(gcd5 a b c d e) : Int)).natAbs))])), (45, Or.r (CV.agg [CV.lit (Value.bool (decide (b / -(↑(gcd5 a b c d e) : Int) < (0 : Int)))), CV.lit (Value.string (bytesOf (b / -(↑(gcd5 a b c d e) : Int)).natAbs))])), (60, Or.r (CV.agg [CV.lit (Value.bool (decide (c / -(↑(gcd5 a b c d e) : Int) < (0 : Int)))), CV.lit (Value.string (bytesOf (c / -(↑(gcd5 a b c d e) : Int)).natAbs))])), (75, Or.r (CV.agg [CV.lit (Value.bool (decide (d / -(↑(gcd5 a b c d e) : Int) < (0 : Int)))), CV.lit (Value.string (bytesOf (d / -(↑(gcd5 a b c d e) : Int)).natAbs))])), (86, Or.r (CV.agg [CV.lit (Value.bool (decide (e / -(↑(gcd5 a b c d e) : Int) < (0 : Int)))), CV.lit (Value.string (bytesOf (e / -(↑(gcd5 a b c d e) : Int)).natAbs))]))]) (by kernel_rfl) (.cons (Go.Fw.common_spec (a) (b) (c) (d) (e) s5_0 s5_1 s5_2 s5_3 s5_4) (.cons (show 2 ≤ 2 from (by decide)) (.cons (Go.Fw.Sign_spec (e)) (.cons h1 (.cons (Go.Fw.Neg_spec ((↑(gcd5 a b c d e) : Int))) (.cons (show 2 ≤ 2 from (by decide)) (.cons (Go.Fw.Of_spec ((1 : Int)) s16_0) (.cons h2 (.cons (show (0 : Int) ≤ (0 : Int) ∧ (0 : Int) < (4 : Int) from (by decide)) (.cons (Go.Fw.over_spec (a) (-(↑(gcd5 a b c d e) : Int)) s30_0 s30_1 s30_2 s30_3) (.cons (show (0 : Int) ≤ (0 : Int) ∧ (0 : Int) < (4 : Int) from (by decide)) (.cons (show 2 ≤ 8 from (by decide)) (.cons (show (0 : Int) ≤ (1 : Int) ∧ (1 : Int) < (4 : Int) from (by decide)) (.cons (Go.Fw.over_spec (b) (-(↑(gcd5 a b c d e) : Int)) s45_0 s45_1 s45_2 s45_3) (.cons (show (0 : Int) ≤ (1 : Int) ∧ (1 : Int) < (4 : Int) from (by decide)) (.cons (show 4 ≤ 8 from (by decide)) (.cons (show (0 : Int) ≤ (2 : Int) ∧ (2 : Int) < (4 : Int) from (by decide)) (.cons (Go.Fw.over_spec (c) (-(↑(gcd5 a b c d e) : Int)) s60_0 s60_1 s60_2 s60_3) (.cons (show (0 : Int) ≤ (2 : Int) ∧ (2 : Int) < (4 : Int) from (by decide)) (.cons (show 6 ≤ 8 from (by decide)) (.cons (show (0 : Int) ≤ (3 : Int) ∧ (3 : Int) < (4 : Int) from (by decide)) (.cons (Go.Fw.over_spec (d) (-(↑(gcd5 a b c d e) : Int)) s75_0 s75_1 s75_2 s75_3) (.cons (show (0 : Int) ≤ (3 : Int) ∧ (3 : Int) < (4 : Int) from (by decide)) (.cons (show 8 ≤ 8 from (by decide)) (.cons (Go.Fw.over_spec (e) (-(↑(gcd5 a b c d e) : Int)) s86_0 s86_1 s86_2 s86_3) (.cons (show 10 ≤ 10 from (by decide)) .nil))))))))))))))))))))))))))
theorem low_p3 (a : Int) (b : Int) (c : Int) (d : Int) (e : Int) (h1 : (decide (e.sign < (0 : Int))) = false) (h2 : (decide ((↑(gcd5 a b c d e) : Int) < (0 : Int)) == false && (bytesOf (↑(gcd5 a b c d e) : Int).natAbs == bytesOf 1 && true)) = true) (s5_0 : SmlZ a) (s5_1 : SmlZ b) (s5_2 : SmlZ c) (s5_3 : SmlZ d) (s5_4 : SmlZ e) (s13_0 : (-9223372036854775808 : Int) ≤ (1 : Int) ∧ (1 : Int) ≤ (9223372036854775807 : Int)) : PCall P (204 : FuncId) [c4C a b c d, intC e] (CV.agg [CV.lit (Value.bool (decide (a < (0 : Int)))), CV.lit (Value.string (bytesOf a.natAbs)), CV.lit (Value.bool (decide (b < (0 : Int)))), CV.lit (Value.string (bytesOf b.natAbs)), CV.lit (Value.bool (decide (c < (0 : Int)))), CV.lit (Value.string (bytesOf c.natAbs)), CV.lit (Value.bool (decide (d < (0 : Int)))), CV.lit (Value.string (bytesOf d.natAbs)), CV.lit (Value.bool (decide (e < (0 : Int)))), CV.lit (Value.string (bytesOf e.natAbs))]) :=
  pcallR (ors := [(5, Or.r (CV.agg [CV.lit (Value.bool (decide ((↑(gcd5 a b c d e) : Int) < (0 : Int)))), CV.lit (Value.string (bytesOf (↑(gcd5 a b c d e) : Int).natAbs))])), (9, Or.r (CV.lit (Value.int IntKind.i64 e.sign))), (11, Or.b false), (13, Or.r (CV.agg [CV.lit (Value.bool false), CV.lit (Value.string (bytesOf 1))])), (15, Or.b true)]) (by kernel_rfl) (.cons (Go.Fw.common_spec (a) (b) (c) (d) (e) s5_0 s5_1 s5_2 s5_3 s5_4) (.cons (show 2 ≤ 2 from (by decide)) (.cons (Go.Fw.Sign_spec (e)) (.cons h1 (.cons (Go.Fw.Of_spec ((1 : Int)) s13_0) (.cons h2 (.cons (show 10 ≤ 10 from (by decide)) .nil)))))))
theorem low_p4 (a : Int) (b : Int) (c : Int) (d : Int) (e : Int) (h1 : (decide (e.sign < (0 : Int))) = false) (h2 : (decide ((↑(gcd5 a b c d e) : Int) < (0 : Int)) == false && (bytesOf (↑(gcd5 a b c d e) : Int).natAbs == bytesOf 1 && true)) = false) (s5_0 : SmlZ a) (s5_1 : SmlZ b) (s5_2 : SmlZ c) (s5_3 : SmlZ d) (s5_4 : SmlZ e) (s13_0 : (-9223372036854775808 : Int) ≤ (1 : Int) ∧ (1 : Int) ≤ (9223372036854775807 : Int)) (s27_0 : SmlZ a) (s27_1 : SmlZ (↑(gcd5 a b c d e) : Int)) (s27_2 : (↑(gcd5 a b c d e) : Int) ≠ (0 : Int)) (s27_3 : (↑(gcd5 a b c d e) : Int) ∣ a) (s42_0 : SmlZ b) (s42_1 : SmlZ (↑(gcd5 a b c d e) : Int)) (s42_2 : (↑(gcd5 a b c d e) : Int) ≠ (0 : Int)) (s42_3 : (↑(gcd5 a b c d e) : Int) ∣ b) (s57_0 : SmlZ c) (s57_1 : SmlZ (↑(gcd5 a b c d e) : Int)) (s57_2 : (↑(gcd5 a b c d e) : Int) ≠ (0 : Int)) (s57_3 : (↑(gcd5 a b c d e) : Int) ∣ c) (s72_0 : SmlZ d) (s72_1 : SmlZ (↑(gcd5 a b c d e) : Int)) (s72_2 : (↑(gcd5 a b c d e) : Int) ≠ (0 : Int)) (s72_3 : (↑(gcd5 a b c d e) : Int) ∣ d) (s83_0 : SmlZ e) (s83_1 : SmlZ (↑(gcd5 a b c d e) : Int)) (s83_2 : (↑(gcd5 a b c d e) : Int) ≠ (0 : Int)) (s83_3 : (↑(gcd5 a b c d e) : Int) ∣ e) : PCall P (204 : FuncId) [c4C a b c d, intC e] (CV.agg [CV.lit (Value.bool (decide (a / (↑(gcd5 a b c d e) : Int) < (0 : Int)))), CV.lit (Value.string (bytesOf (a / (↑(gcd5 a b c d e) : Int)).natAbs)), CV.lit (Value.bool (decide (b / (↑(gcd5 a b c d e) : Int) < (0 : Int)))), CV.lit (Value.string (bytesOf (b / (↑(gcd5 a b c d e) : Int)).natAbs)), CV.lit (Value.bool (decide (c / (↑(gcd5 a b c d e) : Int) < (0 : Int)))), CV.lit (Value.string (bytesOf (c / (↑(gcd5 a b c d e) : Int)).natAbs)), CV.lit (Value.bool (decide (d / (↑(gcd5 a b c d e) : Int) < (0 : Int)))), CV.lit (Value.string (bytesOf (d / (↑(gcd5 a b c d e) : Int)).natAbs)), CV.lit (Value.bool (decide (e / (↑(gcd5 a b c d e) : Int) < (0 : Int)))), CV.lit (Value.string (bytesOf (e / (↑(gcd5 a b c d e) : Int)).natAbs))]) :=
  pcallR (ors := [(5, Or.r (CV.agg [CV.lit (Value.bool (decide ((↑(gcd5 a b c d e) : Int) < (0 : Int)))), CV.lit (Value.string (bytesOf (↑(gcd5 a b c d e) : Int).natAbs))])), (9, Or.r (CV.lit (Value.int IntKind.i64 e.sign))), (11, Or.b false), (13, Or.r (CV.agg [CV.lit (Value.bool false), CV.lit (Value.string (bytesOf 1))])), (15, Or.b false), (27, Or.r (CV.agg [CV.lit (Value.bool (decide (a / (↑(gcd5 a b c d e) : Int) < (0 : Int)))), CV.lit (Value.string (bytesOf (a / (↑(gcd5 a b c d e) : Int)).natAbs))])), (42, Or.r (CV.agg [CV.lit (Value.bool (decide (b / (↑(gcd5 a b c d e) : Int) < (0 : Int)))), CV.lit (Value.string (bytesOf (b / (↑(gcd5 a b c d e) : Int)).natAbs))])), (57, Or.r (CV.agg [CV.lit (Value.bool (decide (c / (↑(gcd5 a b c d e) : Int) < (0 : Int)))), CV.lit (Value.string (bytesOf (c / (↑(gcd5 a b c d e) : Int)).natAbs))])), (72, Or.r (CV.agg [CV.lit (Value.bool (decide (d / (↑(gcd5 a b c d e) : Int) < (0 : Int)))), CV.lit (Value.string (bytesOf (d / (↑(gcd5 a b c d e) : Int)).natAbs))])), (83, Or.r (CV.agg [CV.lit (Value.bool (decide (e / (↑(gcd5 a b c d e) : Int) < (0 : Int)))), CV.lit (Value.string (bytesOf (e / (↑(gcd5 a b c d e) : Int)).natAbs))]))]) (by kernel_rfl) (.cons (Go.Fw.common_spec (a) (b) (c) (d) (e) s5_0 s5_1 s5_2 s5_3 s5_4) (.cons (show 2 ≤ 2 from (by decide)) (.cons (Go.Fw.Sign_spec (e)) (.cons h1 (.cons (Go.Fw.Of_spec ((1 : Int)) s13_0) (.cons h2 (.cons (show (0 : Int) ≤ (0 : Int) ∧ (0 : Int) < (4 : Int) from (by decide)) (.cons (Go.Fw.over_spec (a) ((↑(gcd5 a b c d e) : Int)) s27_0 s27_1 s27_2 s27_3) (.cons (show (0 : Int) ≤ (0 : Int) ∧ (0 : Int) < (4 : Int) from (by decide)) (.cons (show 2 ≤ 8 from (by decide)) (.cons (show (0 : Int) ≤ (1 : Int) ∧ (1 : Int) < (4 : Int) from (by decide)) (.cons (Go.Fw.over_spec (b) ((↑(gcd5 a b c d e) : Int)) s42_0 s42_1 s42_2 s42_3) (.cons (show (0 : Int) ≤ (1 : Int) ∧ (1 : Int) < (4 : Int) from (by decide)) (.cons (show 4 ≤ 8 from (by decide)) (.cons (show (0 : Int) ≤ (2 : Int) ∧ (2 : Int) < (4 : Int) from (by decide)) (.cons (Go.Fw.over_spec (c) ((↑(gcd5 a b c d e) : Int)) s57_0 s57_1 s57_2 s57_3) (.cons (show (0 : Int) ≤ (2 : Int) ∧ (2 : Int) < (4 : Int) from (by decide)) (.cons (show 6 ≤ 8 from (by decide)) (.cons (show (0 : Int) ≤ (3 : Int) ∧ (3 : Int) < (4 : Int) from (by decide)) (.cons (Go.Fw.over_spec (d) ((↑(gcd5 a b c d e) : Int)) s72_0 s72_1 s72_2 s72_3) (.cons (show (0 : Int) ≤ (3 : Int) ∧ (3 : Int) < (4 : Int) from (by decide)) (.cons (show 8 ≤ 8 from (by decide)) (.cons (Go.Fw.over_spec (e) ((↑(gcd5 a b c d e) : Int)) s83_0 s83_1 s83_2 s83_3) (.cons (show 10 ≤ 10 from (by decide)) .nil))))))))))))))))))))))))
end Go.Fw
open Go
namespace Go.Fw
set_option maxRecDepth 100000
theorem ba_beq (x y : ByteArray) : (x == y) = decide (x = y) := by
  cases x with | mk a => cases y with | mk b =>
  have : ((⟨a⟩ : ByteArray) == ⟨b⟩) = (a == b) := rfl
  rw [this]
  by_cases h : a = b
  · subst h; simp
  · simp [h]
theorem bytes_beq (m n : Nat) : (bytesOf m == bytesOf n) = decide (m = n) := by
  rw [ba_beq]
  exact decide_eq_decide.2 ⟨bytesOf_inj, fun h => by rw [h]⟩
theorem SmlZ.neg {a : Int} (h : SmlZ a) : SmlZ (-a) := by simpa [SmlZ] using h
/-- lowest. -/
theorem low_spec (a b c d e : Int) (h0 : SmlZ a) (h1 : SmlZ b) (h2 : SmlZ c) (h3 : SmlZ d) (h4 : SmlZ e) (he : e ≠ 0) : PCall P 204 [c4C a b c d, intC e] (numC (K.of a b c d e)) := by
  have hg := gcd5_pos (a := a) (b := b) (c := c) (d := d) he
  have hgs : SmlZ (gcd5 a b c d e : Nat) := by
    have g1 : Sml (Nat.gcd e.natAbs a.natAbs) := Sml.gcd h4 h0
    have g2 := Sml.gcd (Sml.gcd (Sml.gcd g1 h1) h2) h3
    simpa [SmlZ, gcd5] using g2
  obtain ⟨d0, d1, d2, d3, d4⟩ := K.den_dvd a b c d e
  have hone : (-9223372036854775808 : Int) ≤ 1 ∧ (1 : Int) ≤ 9223372036854775807 := by decide
  by_cases hn : e < 0
  · have hden : K.den a b c d e = -(gcd5 a b c d e : Int) := by unfold K.den; rw [if_pos hn]
    rw [hden] at d0 d1 d2 d3 d4
    have hs : (decide (e.sign < 0)) = true := by rw [Int.sign_eq_neg_one_of_neg hn]; rfl
    have hne : -(gcd5 a b c d e : Int) ≠ 0 := by omega
    have ht : (decide (-(gcd5 a b c d e : Int) < 0) == false && (bytesOf (-(gcd5 a b c d e : Int)).natAbs == bytesOf 1 && true)) = false := by
      rw [decide_eq_true (by omega)]; rfl
    refine (low_p2 a b c d e hs ht h0 h1 h2 h3 h4 hone h0 hgs.neg hne d0 h1 hgs.neg hne d1 h2 hgs.neg hne d2 h3 hgs.neg hne d3 h4 hgs.neg hne d4).eq ?_
    unfold K.of
    simp only [dif_neg he, hden]
    rfl
  · have hden : K.den a b c d e = (gcd5 a b c d e : Int) := by unfold K.den; rw [if_neg hn]
    rw [hden] at d0 d1 d2 d3 d4
    have hs : (decide (e.sign < 0)) = false := by rw [Int.sign_eq_one_of_pos (by omega)]; rfl
    have hne : (gcd5 a b c d e : Int) ≠ 0 := by omega
    have ht : (decide ((gcd5 a b c d e : Int) < 0) == false && (bytesOf (gcd5 a b c d e : Int).natAbs == bytesOf 1 && true)) = decide (gcd5 a b c d e = 1) := by
      rw [decide_eq_false (by omega), Int.natAbs_natCast, bytes_beq]; simp
    by_cases h1' : gcd5 a b c d e = 1
    · refine (low_p3 a b c d e hs (by rw [ht]; simpa using h1') h0 h1 h2 h3 h4 hone).eq ?_
      unfold K.of
      simp only [dif_neg he, hden, h1']
      exact n5C_eq (by simp) (by simp) (by simp) (by simp) (by simp)
    · refine (low_p4 a b c d e hs (by rw [ht]; simpa using h1') h0 h1 h2 h3 h4 hone h0 hgs hne d0 h1 hgs hne d1 h2 hgs hne d2 h3 hgs hne d3 h4 hgs hne d4).eq ?_
      unfold K.of
      simp only [dif_neg he, hden]
      rfl
end Go.Fw
namespace Go.Fw
theorem Mul_nat (k : Nat) (a : Int) (hk : k < 18446744073709551616) (ha : SmlZ a) (hs : Sml (k * a.natAbs)) : PCall P 203 [.agg [.lit (.bool false), .lit (.string (bytesOf k))], intC a] (intC (k * a)) := by
  have := Mul_spec (k : Int) a (by simpa [SmlZ] using small_word hk) ha (by simpa using hs)
  have e : intC (k : Int) = .agg [.lit (.bool false), .lit (.string (bytesOf k))] := by
    unfold intC; rw [decide_eq_false (by omega), Int.natAbs_natCast]
  rw [← e]; exact this
end Go.Fw
open Go
namespace Go.Fw
set_option maxRecDepth 100000

theorem FValid_p1 (a : Int) (b : Int) (c : Int) (d : Int) (e : Int) (h1 : (decide (e.sign > (0 : Int))) = true) (s70_0 : SmlZ a) (s70_1 : SmlZ b) (s70_2 : SmlZ c) (s70_3 : SmlZ d) (s70_4 : SmlZ e) (s71_0 : (-9223372036854775808 : Int) ≤ (1 : Int) ∧ (1 : Int) ≤ (9223372036854775807 : Int)) : PCall P (154 : FuncId) [n5C a b c d e] (CV.lit (Value.bool (decide ((↑(gcd5 a b c d e) : Int) < (0 : Int)) == false && (bytesOf (↑(gcd5 a b c d e) : Int).natAbs == bytesOf 1 && true)))) :=
  pcallR (ors := [(12, Or.r (CV.lit (Value.bool true))), (24, Or.r (CV.lit (Value.bool true))), (36, Or.r (CV.lit (Value.bool true))), (48, Or.r (CV.lit (Value.bool true))), (58, Or.r (CV.lit (Value.bool true))), (62, Or.r (CV.lit (Value.int IntKind.i64 e.sign))), (65, Or.b true), (70, Or.r (CV.agg [CV.lit (Value.bool (decide ((↑(gcd5 a b c d e) : Int) < (0 : Int)))), CV.lit (Value.string (bytesOf (↑(gcd5 a b c d e) : Int).natAbs))])), (71, Or.r (CV.agg [CV.lit (Value.bool false), CV.lit (Value.string (bytesOf 1))]))]) (by kernel_rfl) (.cons (show (0 : Int) ≤ (0 : Int) ∧ (0 : Int) < (4 : Int) from (by decide)) (.cons (show 2 ≤ 2 from (by decide)) (.cons (Go.Fw.Valid_int (a)) (.cons (show (0 : Int) ≤ (1 : Int) ∧ (1 : Int) < (4 : Int) from (by decide)) (.cons (show 2 ≤ 2 from (by decide)) (.cons (Go.Fw.Valid_int (b)) (.cons (show (0 : Int) ≤ (2 : Int) ∧ (2 : Int) < (4 : Int) from (by decide)) (.cons (show 2 ≤ 2 from (by decide)) (.cons (Go.Fw.Valid_int (c)) (.cons (show (0 : Int) ≤ (3 : Int) ∧ (3 : Int) < (4 : Int) from (by decide)) (.cons (show 2 ≤ 2 from (by decide)) (.cons (Go.Fw.Valid_int (d)) (.cons (Go.Fw.Valid_int (e)) (.cons (Go.Fw.Sign_spec (e)) (.cons h1 (.cons (Go.Fw.common_spec (a) (b) (c) (d) (e) s70_0 s70_1 s70_2 s70_3 s70_4) (.cons (Go.Fw.Of_spec ((1 : Int)) s71_0) .nil)))))))))))))))))
theorem FValid_p2 (a : Int) (b : Int) (c : Int) (d : Int) (e : Int) (h1 : (decide (e.sign > (0 : Int))) = false) : PCall P (154 : FuncId) [n5C a b c d e] (CV.lit (Value.bool false)) :=
  pcallR (ors := [(12, Or.r (CV.lit (Value.bool true))), (24, Or.r (CV.lit (Value.bool true))), (36, Or.r (CV.lit (Value.bool true))), (48, Or.r (CV.lit (Value.bool true))), (58, Or.r (CV.lit (Value.bool true))), (62, Or.r (CV.lit (Value.int IntKind.i64 e.sign))), (65, Or.b false)]) (by kernel_rfl) (.cons (show (0 : Int) ≤ (0 : Int) ∧ (0 : Int) < (4 : Int) from (by decide)) (.cons (show 2 ≤ 2 from (by decide)) (.cons (Go.Fw.Valid_int (a)) (.cons (show (0 : Int) ≤ (1 : Int) ∧ (1 : Int) < (4 : Int) from (by decide)) (.cons (show 2 ≤ 2 from (by decide)) (.cons (Go.Fw.Valid_int (b)) (.cons (show (0 : Int) ≤ (2 : Int) ∧ (2 : Int) < (4 : Int) from (by decide)) (.cons (show 2 ≤ 2 from (by decide)) (.cons (Go.Fw.Valid_int (c)) (.cons (show (0 : Int) ≤ (3 : Int) ∧ (3 : Int) < (4 : Int) from (by decide)) (.cons (show 2 ≤ 2 from (by decide)) (.cons (Go.Fw.Valid_int (d)) (.cons (Go.Fw.Valid_int (e)) (.cons (Go.Fw.Sign_spec (e)) (.cons h1 .nil)))))))))))))))
theorem FRoot_p1 (k : Int) (h1 : (k == (2 : Int)) = true) (s1_0 : (-9223372036854775808 : Int) ≤ (0 : Int) ∧ (0 : Int) ≤ (9223372036854775807 : Int)) (s8_0 : (-9223372036854775808 : Int) ≤ (1 : Int) ∧ (1 : Int) ≤ (9223372036854775807 : Int)) : PCall P (235 : FuncId) [CV.lit (Value.int IntKind.i64 k)] (CV.agg [CV.lit (Value.bool false), CV.lit (Value.string (bytesOf 0)), CV.lit (Value.bool false), CV.lit (Value.string (bytesOf 1)), CV.lit (Value.bool false), CV.lit (Value.string (bytesOf 0)), CV.lit (Value.bool false), CV.lit (Value.string (bytesOf 0)), CV.lit (Value.bool false), CV.lit (Value.string (bytesOf 1))]) :=
  pcallR (ors := [(1, Or.r (CV.agg [CV.lit (Value.bool false), CV.lit (Value.string (bytesOf 0)), CV.lit (Value.bool false), CV.lit (Value.string (bytesOf 0)), CV.lit (Value.bool false), CV.lit (Value.string (bytesOf 0)), CV.lit (Value.bool false), CV.lit (Value.string (bytesOf 0)), CV.lit (Value.bool false), CV.lit (Value.string (bytesOf 1))])), (7, Or.b true), (8, Or.r (CV.agg [CV.lit (Value.bool false), CV.lit (Value.string (bytesOf 1))]))]) (by kernel_rfl) (.cons (Go.Fw.FOf_spec ((0 : Int)) s1_0) (.cons (show 10 ≤ 10 from (by decide)) (.cons h1 (.cons (Go.Fw.Of_spec ((1 : Int)) s8_0) (.cons (show (0 : Int) ≤ (1 : Int) ∧ (1 : Int) < (4 : Int) from (by decide)) (.cons (show 4 ≤ 10 from (by decide)) (.cons (show 10 ≤ 10 from (by decide)) .nil)))))))
theorem FRoot_p2 (k : Int) (h1 : (k == (2 : Int)) = false) (h2 : (k == (3 : Int)) = true) (s1_0 : (-9223372036854775808 : Int) ≤ (0 : Int) ∧ (0 : Int) ≤ (9223372036854775807 : Int)) (s11_0 : (-9223372036854775808 : Int) ≤ (1 : Int) ∧ (1 : Int) ≤ (9223372036854775807 : Int)) : PCall P (235 : FuncId) [CV.lit (Value.int IntKind.i64 k)] (CV.agg [CV.lit (Value.bool false), CV.lit (Value.string (bytesOf 0)), CV.lit (Value.bool false), CV.lit (Value.string (bytesOf 0)), CV.lit (Value.bool false), CV.lit (Value.string (bytesOf 1)), CV.lit (Value.bool false), CV.lit (Value.string (bytesOf 0)), CV.lit (Value.bool false), CV.lit (Value.string (bytesOf 1))]) :=
  pcallR (ors := [(1, Or.r (CV.agg [CV.lit (Value.bool false), CV.lit (Value.string (bytesOf 0)), CV.lit (Value.bool false), CV.lit (Value.string (bytesOf 0)), CV.lit (Value.bool false), CV.lit (Value.string (bytesOf 0)), CV.lit (Value.bool false), CV.lit (Value.string (bytesOf 0)), CV.lit (Value.bool false), CV.lit (Value.string (bytesOf 1))])), (7, Or.b false), (10, Or.b true), (11, Or.r (CV.agg [CV.lit (Value.bool false), CV.lit (Value.string (bytesOf 1))]))]) (by kernel_rfl) (.cons (Go.Fw.FOf_spec ((0 : Int)) s1_0) (.cons (show 10 ≤ 10 from (by decide)) (.cons h1 (.cons h2 (.cons (Go.Fw.Of_spec ((1 : Int)) s11_0) (.cons (show (0 : Int) ≤ (2 : Int) ∧ (2 : Int) < (4 : Int) from (by decide)) (.cons (show 6 ≤ 10 from (by decide)) (.cons (show 10 ≤ 10 from (by decide)) .nil))))))))
theorem FRoot_p3 (k : Int) (h1 : (k == (2 : Int)) = false) (h2 : (k == (3 : Int)) = false) (h3 : (k == (6 : Int)) = true) (s1_0 : (-9223372036854775808 : Int) ≤ (0 : Int) ∧ (0 : Int) ≤ (9223372036854775807 : Int)) (s14_0 : (-9223372036854775808 : Int) ≤ (1 : Int) ∧ (1 : Int) ≤ (9223372036854775807 : Int)) : PCall P (235 : FuncId) [CV.lit (Value.int IntKind.i64 k)] (CV.agg [CV.lit (Value.bool false), CV.lit (Value.string (bytesOf 0)), CV.lit (Value.bool false), CV.lit (Value.string (bytesOf 0)), CV.lit (Value.bool false), CV.lit (Value.string (bytesOf 0)), CV.lit (Value.bool false), CV.lit (Value.string (bytesOf 1)), CV.lit (Value.bool false), CV.lit (Value.string (bytesOf 1))]) :=
  pcallR (ors := [(1, Or.r (CV.agg [CV.lit (Value.bool false), CV.lit (Value.string (bytesOf 0)), CV.lit (Value.bool false), CV.lit (Value.string (bytesOf 0)), CV.lit (Value.bool false), CV.lit (Value.string (bytesOf 0)), CV.lit (Value.bool false), CV.lit (Value.string (bytesOf 0)), CV.lit (Value.bool false), CV.lit (Value.string (bytesOf 1))])), (7, Or.b false), (10, Or.b false), (13, Or.b true), (14, Or.r (CV.agg [CV.lit (Value.bool false), CV.lit (Value.string (bytesOf 1))]))]) (by kernel_rfl) (.cons (Go.Fw.FOf_spec ((0 : Int)) s1_0) (.cons (show 10 ≤ 10 from (by decide)) (.cons h1 (.cons h2 (.cons h3 (.cons (Go.Fw.Of_spec ((1 : Int)) s14_0) (.cons (show (0 : Int) ≤ (3 : Int) ∧ (3 : Int) < (4 : Int) from (by decide)) (.cons (show 8 ≤ 10 from (by decide)) (.cons (show 10 ≤ 10 from (by decide)) .nil)))))))))
theorem FRoot_p4 (k : Int) (h1 : (k == (2 : Int)) = false) (h2 : (k == (3 : Int)) = false) (h3 : (k == (6 : Int)) = false) (s1_0 : (-9223372036854775808 : Int) ≤ (0 : Int) ∧ (0 : Int) ≤ (9223372036854775807 : Int)) : PCall P (235 : FuncId) [CV.lit (Value.int IntKind.i64 k)] (CV.agg [CV.lit (Value.bool false), CV.lit (Value.string (bytesOf 0)), CV.lit (Value.bool false), CV.lit (Value.string (bytesOf 0)), CV.lit (Value.bool false), CV.lit (Value.string (bytesOf 0)), CV.lit (Value.bool false), CV.lit (Value.string (bytesOf 0)), CV.lit (Value.bool false), CV.lit (Value.string (bytesOf 1))]) :=
  pcallR (ors := [(1, Or.r (CV.agg [CV.lit (Value.bool false), CV.lit (Value.string (bytesOf 0)), CV.lit (Value.bool false), CV.lit (Value.string (bytesOf 0)), CV.lit (Value.bool false), CV.lit (Value.string (bytesOf 0)), CV.lit (Value.bool false), CV.lit (Value.string (bytesOf 0)), CV.lit (Value.bool false), CV.lit (Value.string (bytesOf 1))])), (7, Or.b false), (10, Or.b false), (13, Or.b false)]) (by kernel_rfl) (.cons (Go.Fw.FOf_spec ((0 : Int)) s1_0) (.cons (show 10 ≤ 10 from (by decide)) (.cons h1 (.cons h2 (.cons h3 (.cons (show 10 ≤ 10 from (by decide)) .nil))))))
theorem FConj1_p1 (a : Int) (b : Int) (c : Int) (d : Int) (e : Int) : PCall P (211 : FuncId) [n5C a b c d e, CV.lit (Value.int IntKind.i64 (1 : Int))] (CV.agg [CV.lit (Value.bool (decide (a < (0 : Int)))), CV.lit (Value.string (bytesOf a.natAbs)), CV.lit (Value.bool (decide (-b < (0 : Int)))), CV.lit (Value.string (bytesOf (-b).natAbs)), CV.lit (Value.bool (decide (c < (0 : Int)))), CV.lit (Value.string (bytesOf c.natAbs)), CV.lit (Value.bool (decide (-d < (0 : Int)))), CV.lit (Value.string (bytesOf (-d).natAbs)), CV.lit (Value.bool (decide (e < (0 : Int)))), CV.lit (Value.string (bytesOf e.natAbs))]) :=
  pcallR (ors := [(30, Or.r (CV.agg [CV.lit (Value.bool (decide (-b < (0 : Int)))), CV.lit (Value.string (bytesOf (-b).natAbs))])), (63, Or.r (CV.agg [CV.lit (Value.bool (decide (-d < (0 : Int)))), CV.lit (Value.string (bytesOf (-d).natAbs))]))]) (by kernel_rfl) (.cons (show (0 : Int) ≤ (1 : Int) ∧ (1 : Int) < (4 : Int) from (by decide)) (.cons (Go.Fw.Neg_spec (b)) (.cons (show (0 : Int) ≤ (1 : Int) ∧ (1 : Int) < (4 : Int) from (by decide)) (.cons (show 4 ≤ 10 from (by decide)) (.cons (show (0 : Int) ≤ (3 : Int) ∧ (3 : Int) < (4 : Int) from (by decide)) (.cons (Go.Fw.Neg_spec (d)) (.cons (show (0 : Int) ≤ (3 : Int) ∧ (3 : Int) < (4 : Int) from (by decide)) (.cons (show 8 ≤ 10 from (by decide)) (.cons (show 10 ≤ 10 from (by decide)) .nil)))))))))
theorem FConj2_p1 (a : Int) (b : Int) (c : Int) (d : Int) (e : Int) : PCall P (211 : FuncId) [n5C a b c d e, CV.lit (Value.int IntKind.i64 (2 : Int))] (CV.agg [CV.lit (Value.bool (decide (a < (0 : Int)))), CV.lit (Value.string (bytesOf a.natAbs)), CV.lit (Value.bool (decide (b < (0 : Int)))), CV.lit (Value.string (bytesOf b.natAbs)), CV.lit (Value.bool (decide (-c < (0 : Int)))), CV.lit (Value.string (bytesOf (-c).natAbs)), CV.lit (Value.bool (decide (-d < (0 : Int)))), CV.lit (Value.string (bytesOf (-d).natAbs)), CV.lit (Value.bool (decide (e < (0 : Int)))), CV.lit (Value.string (bytesOf e.natAbs))]) :=
  pcallR (ors := [(42, Or.r (CV.agg [CV.lit (Value.bool (decide (-c < (0 : Int)))), CV.lit (Value.string (bytesOf (-c).natAbs))])), (63, Or.r (CV.agg [CV.lit (Value.bool (decide (-d < (0 : Int)))), CV.lit (Value.string (bytesOf (-d).natAbs))]))]) (by kernel_rfl) (.cons (show (0 : Int) ≤ (2 : Int) ∧ (2 : Int) < (4 : Int) from (by decide)) (.cons (Go.Fw.Neg_spec (c)) (.cons (show (0 : Int) ≤ (2 : Int) ∧ (2 : Int) < (4 : Int) from (by decide)) (.cons (show 6 ≤ 10 from (by decide)) (.cons (show (0 : Int) ≤ (3 : Int) ∧ (3 : Int) < (4 : Int) from (by decide)) (.cons (Go.Fw.Neg_spec (d)) (.cons (show (0 : Int) ≤ (3 : Int) ∧ (3 : Int) < (4 : Int) from (by decide)) (.cons (show 8 ≤ 10 from (by decide)) (.cons (show 10 ≤ 10 from (by decide)) .nil)))))))))
end Go.Fw
