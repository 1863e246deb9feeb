/- A part of the proof that the law returns true for every input: an executor for the model's code, and what functions of the program compute. -/
import Derived.Test.YtcafjpldfnegiaaGreatDoorB09
import Derived.Test.YtcafjpldfnegiaaGreatDoorB14
import Derived.Test.YtcafjpldfnegiaaGreatDoorB28
import Derived.Test.YtcafjpldfnegiaaGreatDoorB31
import Derived.KernelRfl
open Go Go.ChangeMaps
namespace Go.Fw
set_option maxRecDepth 100000

theorem HRel.allocO {w0 : Start} {hp : List Blk} {I : Imm} {p : Pl} {w : World} (H : HRel w0 hp I p w) (o : Obj) : HRel w0 hp I p (w.alloc o) := by
  refine ⟨H.below.alloc o, H.im.alloc o, H.imf, fun i cells hi => ?_, H.inj⟩
  obtain ⟨b, κ, c', T, g1, g2, g3⟩ := H.live i cells hi
  have hlt : b < w.heap.size := by
    rcases Nat.lt_or_ge b w.heap.size with g | g
    · exact g
    · rw [Array.getElem?_eq_none g] at g2; cases g2
  exact ⟨b, κ, c', T, g1, (heap_alloc_old w o hlt).trans g2, g3⟩

theorem live_lt {w0 : Start} {s : St} {I : Imm} {p : Pl} {a : Act} {w : World} (h : SRel w0 s I p a w) (hB : Beyond s p) (hl : allLive s.hp = true) {i b κ : Nat} (hi : p i = some (b, κ)) : b < w.heap.size ∧ w0.own b := by
  have hil : i < s.hp.length := by
    rcases Nat.lt_or_ge i s.hp.length with g | g
    · exact g
    · rw [hB i g] at hi; cases hi
  obtain ⟨c, hc⟩ := allLive_get _ i hl hil
  obtain ⟨b', κ', c', T, g1, g2, _, _, g5, _⟩ := h.hp.live i c hc
  rw [g1] at hi; cases hi
  refine ⟨?_, g5⟩
  rcases Nat.lt_or_ge b w.heap.size with g | g
  · exact g
  · rw [Array.getElem?_eq_none g] at g2; cases g2

theorem reg2_ok {R : Goal} {k : List Item} {hp : List Blk} {a n2 n3 n6 d : Int} (hl : allLive hp = true)
    (h : ∀ r, OkX P 190 k ⟨tmN a n2 n3 n6 d .unk .unk (ptrL r) .unk, hp⟩ R (XI r (es190 n2 n3 n6) 3 #[])) : Ok P 190 (.code reg2 :: k) ⟨tmN a n2 n3 n6 d .unk .unk .unk .unk, hp⟩ R := by
  intro w0 I p act w b cs h1 h2 h3 h31 h32 h4 h5
  obtain ⟨hz, hg⟩ := tmps_get h4.tm (n := 42) rfl
  obtain ⟨a', w1, ⟨g1, ⟨x16, x17, x18, x19, x20, g2⟩, g3⟩, hst⟩ := steps_wp (P := P) (b := b) (k := k) (cs := cs) (reg2_wp act w n2 n3 n6 hz (hg 1 _ (by omega) rfl) (hg 2 _ (by omega) rfl) (hg 3 _ (by omega) rfl))
  subst g3
  have htm : MV.repL I p (tmN a n2 n3 n6 d .unk .unk (ptrL (w.heap.size + 1)) .unk) a'.tmps.toList := by
    rw [g2]
    simp only [Array.toList_setIfInBounds]
    exact MV.repL_set (MV.repL_set (MV.repL_set (MV.repL_set (MV.repL_set (MV.repL_set h4.tm 16 (unk_rep x16)) 17 (unk_rep x17)) 18 (unk_rep x18)) 19 (unk_rep x19)) 20 (unk_rep x20)) 21 (litV_rep _)
  have hlv := fun {i b κ : Nat} => live_lt h4 h5 hl (i := i) (b := b) (κ := κ)
  obtain ⟨e, w', fr, k1, k2, k3⟩ := h (w.heap.size + 1) w0 I p a' _ b cs h1 h2 h3 h31 h32 ⟨htm, by rw [g1]; exact h4.defers, (h4.hp.allocO _).allocO _⟩ h5
    ⟨⟨w.heap.size, (heap_alloc_old (w.alloc (.map (es190 n2 n3 n6) 3)) _ (by show w.heap.size < (w.heap.push _).size; rw [Array.size_push]; omega)).trans (heap_alloc_new w _), by
        have := heap_alloc_new (w.alloc (.map (es190 n2 n3 n6) 3)) (.mapIter (some w.heap.size) 3 #[] 3)
        rw [show (w.alloc (.map (es190 n2 n3 n6) 3)).heap.size = w.heap.size + 1 from Array.size_push _] at this
        exact this, fun i κ hi => absurd (hlv hi).1 (by omega)⟩,
      fun i κ hi => absurd (hlv hi).1 (by omega), .inl (Nat.le_succ_of_le h4.hp.below.size), fun i b κ hi => (hlv hi).2⟩
  exact ⟨e, w', fr, k1, .of_steps hst k2, k3⟩

theorem loop_none {k : List Item} {hp : List Blk} {a n2 n3 n6 d : Int} {r : Nat}
    (w0 : Start) (I : Imm) (p : Pl) (act : Act) (w : World) (h4 : SRel w0 ⟨tmN a n2 n3 n6 d .unk .unk (ptrL r) .unk, hp⟩ I p act w) 
    (hrun : ∀ ty, (Instr.next (.pointer (some ⟨r, 0, none⟩)) false ty).run P w = .ok (.tuple #[.bool false]) w) (b : Frame) (cs : List Frame) :
    ∃ a', SRel w0 ⟨tmN a n2 n3 n6 d .unk .unk (ptrL r) (.cv (.lit (.bool false))), hp⟩ I p a' w ∧ Steps P (lone (b.at act (.code reg3 :: k)) cs w) (lone (b.at a' k) cs w) := by
  obtain ⟨hz, hg⟩ := tmps_get h4.tm (n := 42) rfl
  obtain ⟨a', w1, ⟨g1, ⟨x22, g2⟩, g3⟩, hst⟩ := steps_wp (P := P) (b := b) (k := k) (cs := cs) (reg3_wp0 act w r hz (hg 21 _ (by omega) rfl) hrun)
  subst g3
  refine ⟨a', ⟨?_, by rw [g1]; exact h4.defers, h4.hp⟩, hst⟩
  rw [g2]
  simp only [Array.toList_setIfInBounds]
  exact MV.repL_set (MV.repL_set h4.tm 22 (unk_rep x22)) 23 (litV_rep _)

theorem loop_some {_R : Goal} {k : List Item} {hp : List Blk} {a n2 n3 n6 d : Int} {r : Nat} {seen : Array Nat} {es : Array MapEntry} {e : MapEntry}
    (w0 : Start) (I : Imm) (p : Pl) (act : Act) (w w1 : World) (h4 : SRel w0 ⟨tmN a n2 n3 n6 d .unk .unk (ptrL r) .unk, hp⟩ I p act w) (hX : XI r es 3 seen w0 p w) (hw : w1 = w ∨ w1 = w.drew)
    (hrun : ∀ ty bm, w.heap[bm]? = some (.map es 3) → w.heap[r]? = some (.mapIter (some bm) 3 seen 3) → (Instr.next (.pointer (some ⟨r, 0, none⟩)) false ty).run P w = .ok (.tuple #[.bool true, e.key, e.val]) (setBlock w1 r (.mapIter (some bm) 3 (seen.push e.born) 3))) (b : Frame) (cs : List Frame) :
    ∃ a' w', SRel w0 ⟨tmN a n2 n3 n6 d .unk .unk (ptrL r) (.cv (.lit (.bool true))), hp⟩ I p a' w' ∧ XI r es 3 (seen.push e.born) w0 p w' ∧ Steps P (lone (b.at act (.code reg3 :: k)) cs w) (lone (b.at a' k) cs w') := by
  obtain ⟨hz, hg⟩ := tmps_get h4.tm (n := 42) rfl
  obtain ⟨bm, m1, m2, m3⟩ := hX.m
  obtain ⟨a', w2, ⟨g1, ⟨x22, g2⟩, g3⟩, hst⟩ := steps_wp (P := P) (b := b) (k := k) (cs := cs) (reg3_wp1 act w _ r e.key e.val hz (hg 21 _ (by omega) rfl) (fun ty => hrun ty bm m1 m2))
  subst g3
  obtain ⟨e1, e2, _⟩ := setB hw r (.mapIter (some bm) 3 (seen.push e.born) 3) _ m2
  refine ⟨a', _, ⟨?_, by rw [g1]; exact h4.defers, h4.hp.iter m2 hw hX.own hX.pr _⟩, ⟨⟨bm, (e2 bm (fun h => by rw [h, m2] at m1; cases m1)).trans m1, e1, m3⟩, hX.pr, hX.own, hX.ps⟩, hst⟩
  rw [g2]
  simp only [Array.toList_setIfInBounds]
  exact MV.repL_set (MV.repL_set h4.tm 22 (unk_rep x22)) 23 (litV_rep _)

theorem reg4_ok {R : Goal} {k : List Item} {hp : List Blk} {a n2 n3 n6 d : Int} {r : Nat} {seen : Array Nat} {es : Array MapEntry} {e : MapEntry} (he : e ∈ es.toList) (hn : (es.toList.map (·.born)).Nodup)
    (h : OkX P 190 k ⟨tmN a n2 n3 n6 d (.cv (.lit e.key)) (.cv (.lit e.val)) (ptrL r) (.cv (.lit (.bool true))), hp⟩ R (XI r es 3 (seen.push e.born))) :
    OkX P 190 (.code reg4 :: k) ⟨tmN a n2 n3 n6 d .unk .unk (ptrL r) (.cv (.lit (.bool true))), hp⟩ R (XI r es 3 (seen.push e.born)) := by
  intro w0 I p act w b cs h1 h2 h3 h31 h32 h4 h5 h6
  obtain ⟨hz, hg⟩ := tmps_get h4.tm (n := 42) rfl
  obtain ⟨bm, m1, m2, m3⟩ := h6.m
  obtain ⟨a', w2, ⟨g1, ⟨x24, x25, x26, g2⟩, g3⟩, hst⟩ := steps_wp (P := P) (b := b) (k := k) (cs := cs) (reg4_wp act w r e.key e.val hz (hg 21 _ (by omega) rfl) (run_entry_at w r bm 3 seen es 3 e m2 m1 he hn))
  subst g3
  have htm : MV.repL I p (tmN a n2 n3 n6 d (.cv (.lit e.key)) (.cv (.lit e.val)) (ptrL r) (.cv (.lit (.bool true)))) a'.tmps.toList := by
    rw [g2]
    simp only [Array.toList_setIfInBounds]
    exact MV.repL_set (MV.repL_set (MV.repL_set (MV.repL_set (MV.repL_set h4.tm 24 (unk_rep x24)) 25 (unk_rep x25)) 26 (unk_rep x26)) 12 (litV_rep _)) 13 (litV_rep _)
  obtain ⟨e, w', fr, k1, k2, k3⟩ := h w0 I p a' _ b cs h1 h2 h3 h31 h32 ⟨htm, by rw [g1]; exact h4.defers, h4.hp⟩ h5 h6
  exact ⟨e, w', fr, k1, .of_steps hst k2, k3⟩
end Go.Fw
open Go Go.ChangeMaps
namespace Go.Fw
set_option maxRecDepth 100000

def keepN : List Nat := [0, 1, 2, 3, 4, 10, 11, 21]
/-- One round's work. -/
theorem reg5_ok {R : Goal} {k : List Item} {a n2 n3 n6 d key v : Int} {acc root : K} {r : Nat} {es : Array MapEntry} {seen : Array Nat} (hR : R.n = 0)
    (hv : v.natAbs < 256) (hroot : PCall P 235 [ci64 key] (numC root)) (hsr : root.sz ≤ 1) (hs : acc.sz < 10000)
    (h : OkX P 190 k ⟨tmN a n2 n3 n6 d .unk .unk (ptrL r) .unk, hpN (acc + K.ofInt v * root)⟩ R (XI r es 3 seen)) :
    OkX P 190 (.code reg5 :: k) ⟨tmN a n2 n3 n6 d (.cv (.lit (.int .i64 key))) (.cv (.lit (.int .i64 v))) (ptrL r) (.cv (.lit (.bool true))), hpN acc⟩ R (XI r es 3 seen) := by
  have hsv : (K.ofInt v).sz ≤ 1 := K.sz_int v (Nat.le_refl _) (by omega)
  have hsm := K.sz_mul (K.ofInt v) root
  have c1 : PCall P 144 [ci64 v] (numC (K.ofInt v)) := FOf_spec v (by omega)
  have c2 : PCall P 136 [numC (K.ofInt v), numC root] (numC (K.ofInt v * root)) := FMul_K _ _ (by omega)
  have c3 : PCall P 137 [numC acc, numC (K.ofInt v * root)] (numC (acc + K.ofInt v * root)) := FAdd_K _ _ (by omega)
  have z1 : CvL ZN := CvL.map_cv (List.replicate 5 [CV.lit (.bool false), CV.lit (.string ⟨#[]⟩)]).flatten
  have z2 : CvL (MV.cv (numC (acc + K.ofInt v * root))).cells := CvL.map_cv _
  exact OkX.regS (ors := [(2, .r (numC (K.ofInt v))), (4, .r (numC root)), (5, .r (numC (K.ofInt v * root))), (6, .r (numC (acc + K.ofInt v * root)))]) keepN [0, 1]
    (by kernel_rfl) rfl (.cons c1 (.cons hroot (.cons c2 (.cons c3 (.cons (show 10 ≤ 10 by decide) (.cons z1 (.cons z2 .nil))))))) rfl rfl hR h

/-- What the entries add that are still to come. -/
def rest190 (n2 n3 n6 : Int) (seen : Array Nat) : K :=
  (if seen.contains 0 then K.ofInt 0 else K.ofInt n2 * K.r2) + (if seen.contains 1 then K.ofInt 0 else K.ofInt n3 * K.r3) + (if seen.contains 2 then K.ofInt 0 else K.ofInt n6 * K.r6)
theorem rest_done {n2 n3 n6 : Int} {seen : Array Nat} (h : (leftOf (es190 n2 n3 n6) seen).size = 0) (acc : K) : acc + rest190 n2 n3 n6 seen = acc := by
  have := all_seen _ _ h
  have h0 : seen.contains 0 = true := this ⟨.int .i64 2, .int .i64 n2, 0⟩ (by simp [es190])
  have h1 : seen.contains 1 = true := this ⟨.int .i64 3, .int .i64 n3, 1⟩ (by simp [es190])
  have h2 : seen.contains 2 = true := this ⟨.int .i64 6, .int .i64 n6, 2⟩ (by simp [es190])
  unfold rest190
  rw [h0, h1, h2]
  exact (show ∀ ρ : Nat → K, ρ 0 + (CR.ofInt 0 + CR.ofInt 0 + CR.ofInt 0) = ρ 0 from fun ρ => CR.ring ρ rfl) (CR.vr [acc])
theorem rest_push {n2 n3 n6 : Int} {seen : Array Nat} {acc : K} : 
    (seen.contains 0 = false → acc + K.ofInt n2 * K.r2 + rest190 n2 n3 n6 (seen.push 0) = acc + rest190 n2 n3 n6 seen) ∧
    (seen.contains 1 = false → acc + K.ofInt n3 * K.r3 + rest190 n2 n3 n6 (seen.push 1) = acc + rest190 n2 n3 n6 seen) ∧
    (seen.contains 2 = false → acc + K.ofInt n6 * K.r6 + rest190 n2 n3 n6 (seen.push 2) = acc + rest190 n2 n3 n6 seen) := by
  unfold rest190
  simp only [contains_push]
  refine ⟨fun h => ?_, fun h => ?_, fun h => ?_⟩
  · rw [h, show (1 == 0 : Bool) = false from rfl, show (2 == 0 : Bool) = false from rfl, show (0 == 0 : Bool) = true from rfl, Bool.or_false, Bool.or_false, Bool.or_true]
    exact (show ∀ ρ : Nat → K, ρ 0 + ρ 1 + (CR.ofInt 0 + ρ 2 + ρ 3) = ρ 0 + (ρ 1 + ρ 2 + ρ 3) from fun ρ => CR.ring ρ rfl) (CR.vr [acc, _, _, _])
  · rw [h, show (0 == 1 : Bool) = false from rfl, show (2 == 1 : Bool) = false from rfl, show (1 == 1 : Bool) = true from rfl, Bool.or_false, Bool.or_false, Bool.or_true]
    exact (show ∀ ρ : Nat → K, ρ 0 + ρ 2 + (ρ 1 + CR.ofInt 0 + ρ 3) = ρ 0 + (ρ 1 + ρ 2 + ρ 3) from fun ρ => CR.ring ρ rfl) (CR.vr [acc, _, _, _])
  · rw [h, show (0 == 2 : Bool) = false from rfl, show (1 == 2 : Bool) = false from rfl, show (2 == 2 : Bool) = true from rfl, Bool.or_false, Bool.or_false, Bool.or_true]
    exact (show ∀ ρ : Nat → K, ρ 0 + ρ 3 + (ρ 1 + ρ 2 + CR.ofInt 0) = ρ 0 + (ρ 1 + ρ 2 + ρ 3) from fun ρ => CR.ring ρ rfl) (CR.vr [acc, _, _, _])

theorem loop190_ok {R : Goal} {k : List Item} {a n2 n3 n6 d : Int} {tot : K} (hR : R.n = 0) (h2 : n2.natAbs < 256) (h3 : n3.natAbs < 256) (h6 : n6.natAbs < 256)
    (hk : Ok P 190 k ⟨tmN a n2 n3 n6 d .unk .unk .unk .unk, hpN tot⟩ R) : ∀ (n : Nat) (seen : Array Nat) (acc : K) (r : Nat), (leftOf (es190 n2 n3 n6) seen).size = n → acc + rest190 n2 n3 n6 seen = tot → acc.sz + 10 * n < 1000 →
      OkX P 190 (.code loop190 :: .inLoop loop190 :: .inBlock 0 :: k) ⟨tmN a n2 n3 n6 d .unk .unk (ptrL r) .unk, hpN acc⟩ R (XI r (es190 n2 n3 n6) 3 seen) := by
  intro n
  induction n using Nat.strongRecOn with
  | ind n ih =>
  intro seen acc r hn ht hs
  show OkX P 190 (.code (.seq reg3 (.seq (.cond (.tmp 23) .skip (.exit 0)) (.block 1 (.seq reg4 reg5)))) :: _) _ _ _
  refine OkX.step ?_ (fun b a cs w => step_seq)
  intro w0 I p act w b cs q1 q2 q3 q31 q32 q4 q5 q6
  obtain ⟨bm, m1, m2, m3⟩ := q6.m
  have hst : ∀ x ∈ (es190 n2 n3 n6).toList, x.born < 3 := by simp [es190]
  have hnd : ((es190 n2 n3 n6).toList.map (·.born)).Nodup := by simp [es190]
  rcases run_next_at (P := P) w 0 r bm 3 3 seen (es190 n2 n3 n6) 3 m2 m1 hst (Nat.le_refl _) with ⟨h0, hrun⟩ | ⟨e, he, w1, hal, hrun⟩
  · obtain ⟨a', hrel, hst⟩ := loop_none (k := .code (.seq (.cond (.tmp 23) .skip (.exit 0)) (.block 1 (.seq reg4 reg5))) :: .inLoop loop190 :: .inBlock 0 :: k) w0 I p act w q4 (fun ty => hrun) b cs
    rw [← ht, rest_done h0] at hk
    have z1 : CvL ZN := CvL.map_cv (List.replicate 5 [CV.lit (.bool false), CV.lit (.string ⟨#[]⟩)]).flatten
    have z2 : CvL (MV.cv (numC acc)).cells := CvL.map_cv _
    have hfin : Ok P 190 (.code (.seq (.cond (.tmp 23) .skip (.exit 0)) (.block 1 (.seq reg4 reg5))) :: .inLoop loop190 :: .inBlock 0 :: k) ⟨tmN a n2 n3 n6 d .unk .unk (ptrL r) (.cv (.lit (.bool false))), hpN acc⟩ R := by
      refine Ok.step ?_ (fun b a cs w => step_seq)
      refine Ok.cond (t := false) (d := false) rfl rfl ?_
      refine Ok.step (todo' := k) ?_ (fun b a cs w => step_exit (by rfl))
      exact Ok.sel [0, 1, 2, 3, 4, 10, 11] [0, 1] rfl (by rw [hR]; rfl) (show AllP [CvL ZN, CvL (MV.cv (numC acc)).cells] from ⟨z1, z2⟩) hk
    obtain ⟨e, w', fr, k1, k2, k3⟩ := hfin w0 I p a' w b cs q1 q2 q3 q31 q32 hrel q5
    exact ⟨e, w', fr, k1, .of_steps hst k2, k3⟩
  · obtain ⟨a', w', hrel, hX, hst⟩ := loop_some (_R := R) (k := .code (.seq (.cond (.tmp 23) .skip (.exit 0)) (.block 1 (.seq reg4 reg5))) :: .inLoop loop190 :: .inBlock 0 :: k) w0 I p act w w1 q4 q6 hal (fun ty bm' g1 g2 => by
      rw [m2] at g2; cases g2; exact hrun) b cs
    have hem := (mem_left he).1
    have hsh := left_shrinks (es190 n2 n3 n6) seen e he
    have hns := (mem_left he).2
    have step5 : ∀ {key v : Int} {root : K}, e.key = .int .i64 key → e.val = .int .i64 v → v.natAbs < 256 → PCall P 235 [ci64 key] (numC root) → root.sz ≤ 1 → acc + K.ofInt v * root + rest190 n2 n3 n6 (seen.push e.born) = tot →
        OkX P 190 (.code (.seq (.cond (.tmp 23) .skip (.exit 0)) (.block 1 (.seq reg4 reg5))) :: .inLoop loop190 :: .inBlock 0 :: k) ⟨tmN a n2 n3 n6 d .unk .unk (ptrL r) (.cv (.lit (.bool true))), hpN acc⟩ R (XI r (es190 n2 n3 n6) 3 (seen.push e.born)) := by
      intro key v root hk1 hv1 hv2 hr1 hr2 hr3
      refine OkX.step ?_ (fun b a cs w => step_seq)
      refine OkX.cond (t := true) (d := true) rfl rfl ?_
      refine OkX.step ?_ (fun b a cs w => step_skip)
      refine OkX.step ?_ (fun b a cs w => step_block)
      refine OkX.step ?_ (fun b a cs w => step_seq)
      refine reg4_ok hem hnd ?_
      rw [hk1, hv1]
      refine reg5_ok hR hv2 hr1 hr2 (by omega) ?_
      refine OkX.step ?_ (fun b a cs w => step_inBlock)
      refine OkX.step ?_ (fun b a cs w => step_inLoop)
      have hsv : (K.ofInt v).sz ≤ 1 := K.sz_int v (Nat.le_refl _) (by omega)
      have hsm := K.sz_mul (K.ofInt v) root
      have hsa := K.sz_add acc (K.ofInt v * root)
      exact ih _ (hn ▸ hsh) (seen.push e.born) _ r rfl hr3 (by omega)
    have hall : OkX P 190 (.code (.seq (.cond (.tmp 23) .skip (.exit 0)) (.block 1 (.seq reg4 reg5))) :: .inLoop loop190 :: .inBlock 0 :: k) ⟨tmN a n2 n3 n6 d .unk .unk (ptrL r) (.cv (.lit (.bool true))), hpN acc⟩ R (XI r (es190 n2 n3 n6) 3 (seen.push e.born)) := by
      have hcase : e = ⟨.int .i64 2, .int .i64 n2, 0⟩ ∨ e = ⟨.int .i64 3, .int .i64 n3, 1⟩ ∨ e = ⟨.int .i64 6, .int .i64 n6, 2⟩ := by simpa [es190] using hem
      rcases hcase with rfl | rfl | rfl
      · exact step5 rfl rfl h2 FRoot_2 (by decide) ((rest_push.1 hns).trans ht)
      · exact step5 rfl rfl h3 FRoot_3 (by decide) ((rest_push.2.1 hns).trans ht)
      · exact step5 rfl rfl h6 FRoot_6 (by decide) ((rest_push.2.2 hns).trans ht)
    obtain ⟨e, w', fr, k1, k2, k3⟩ := hall w0 I p a' w' b cs q1 q2 q3 q31 q32 hrel q5 hX
    exact ⟨e, w', fr, k1, .of_steps hst k2, k3⟩
end Go.Fw
open Go Go.ChangeMaps
namespace Go.Fw
set_option maxRecDepth 100000

/-- a + b √2 + c √3 + d √6. -/
def q190 (a n2 n3 n6 : Int) : K := K.ofInt a + (K.ofInt n2 * K.r2 + K.ofInt n3 * K.r3 + K.ofInt n6 * K.r6)
theorem number_spec (a n2 n3 n6 d : Int) (ha : a.natAbs < 256) (h2 : n2.natAbs < 256) (h3 : n3.natAbs < 256) (h6 : n6.natAbs < 256) (hd : d.natAbs < 256) (hd0 : K.ofInt d ≠ 0) :
    PCall P 190 [ci64 a, ci64 n2, ci64 n3, ci64 n6, ci64 d] (numC (K.div (q190 a n2 n3 n6) (K.ofInt d))) := by
  have hsz : ∀ v : Int, v.natAbs < 256 → (K.ofInt v).sz ≤ 1 := fun v hv => K.sz_int v (Nat.le_refl _) (by omega)
  have z1 : CvL ZN := CvL.map_cv (List.replicate 5 [CV.lit (.bool false), CV.lit (.string ⟨#[]⟩)]).flatten
  have z2 : CvL (MV.cv (numC (K.ofInt a))).cells := CvL.map_cv _
  have c1 : PCall P 144 [ci64 a] (numC (K.ofInt a)) := FOf_spec a (by omega)
  have c2 : PCall P 144 [ci64 d] (numC (K.ofInt d)) := FOf_spec d (by omega)
  have sm := fun (v : Int) (w : K) (hv : v.natAbs < 256) (hw : w.sz ≤ 1) => Nat.le_trans (K.sz_mul (K.ofInt v) w) (Nat.add_le_add_right (Nat.add_le_add (hsz v hv) hw) 1)
  have t2 := sm n2 K.r2 h2 (show K.r2.sz ≤ 1 by decide)
  have t3 := sm n3 K.r3 h3 (show K.r3.sz ≤ 1 by decide)
  have t6 := sm n6 K.r6 h6 (show K.r6.sz ≤ 1 by decide)
  have u1 := K.sz_add (K.ofInt n2 * K.r2) (K.ofInt n3 * K.r3)
  have u2 := K.sz_add (K.ofInt n2 * K.r2 + K.ofInt n3 * K.r3) (K.ofInt n6 * K.r6)
  have u3 := K.sz_add (K.ofInt a) (K.ofInt n2 * K.r2 + K.ofInt n3 * K.r3 + K.ofInt n6 * K.r6)
  have ua := hsz a ha
  have ud := hsz d hd
  have hs : (q190 a n2 n3 n6).sz ≤ 100 := by unfold q190; omega
  have c3 : PCall P 147 [numC (q190 a n2 n3 n6), numC (K.ofInt d)] (.tup [numC (K.div (q190 a n2 n3 n6) (K.ofInt d)), ci64 0]) := FDiv_K _ _ hd0 (by omega)
  refine pcallQ_of_ok (todo := [.code body190]) (s := ⟨([ci64 a, ci64 n2, ci64 n3, ci64 n6, ci64 d].map .cv) ++ List.replicate 37 undefM, []⟩) (rs := _) rfl ?_
  rw [body190_eq]
  refine Ok.step ?_ (fun b a cs w => step_seq)
  refine Ok.regS (s' := ⟨(([ci64 a, ci64 n2, ci64 n3, ci64 n6, ci64 d].map MV.cv) ++ List.replicate 5 .unk ++ [.ptr 0 0] ++ List.replicate 31 .unk), [some ZN]⟩) (ors := []) [0, 1, 2, 3, 4, 10] [0] (by kernel_rfl) rfl (.cons z1 .nil) rfl ?_
  refine Ok.step ?_ (fun b a cs w => step_seq)
  refine Ok.regS (s' := ⟨tmN a n2 n3 n6 d .unk .unk .unk .unk, hpN (K.ofInt a)⟩) (ors := [(1, .r (numC (K.ofInt a)))]) [0, 1, 2, 3, 4, 10, 11] [0, 2] (by kernel_rfl) rfl (.cons c1 (.cons (show 10 ≤ 10 by decide) (.cons z1 (.cons z2 .nil)))) rfl ?_
  refine Ok.step ?_ (fun b a cs w => step_seq)
  refine Ok.step ?_ (fun b a cs w => step_seq)
  refine reg2_ok rfl (fun r => ?_)
  refine OkX.step ?_ (fun b a cs w => step_block)
  refine OkX.step ?_ (fun b a cs w => step_loop)
  refine loop190_ok (tot := q190 a n2 n3 n6) rfl h2 h3 h6 ?_ 3 #[] (K.ofInt a) r (by simp [leftOf, es190]) (by simp [rest190, q190]) (by omega)
  exact okR (ors := [(2, .r (numC (K.ofInt d))), (3, .r (.tup [numC (K.div (q190 a n2 n3 n6) (K.ofInt d)), ci64 0]))]) (by kernel_rfl) (.cons c2 (.cons c3 (.cons (show 10 ≤ 10 by decide) (.cons (show 10 ≤ 10 by decide) .nil)))) rfl
end Go.Fw
open Go
namespace Go.Fw
set_option maxRecDepth 100000
/-- The cosines of the positions from 0 to 6. -/
def cos6 (i : Nat) : K :=
  match i with
  | 0 => ⟨1, 0, 0, 0, 1, by decide, by decide⟩
  | 1 => ⟨0, 1, 0, 1, 4, by decide, by decide⟩
  | 2 => ⟨0, 0, 1, 0, 2, by decide, by decide⟩
  | 3 => ⟨0, 1, 0, 0, 2, by decide, by decide⟩
  | 4 => ⟨1, 0, 0, 0, 2, by decide, by decide⟩
  | 5 => ⟨0, -1, 0, 1, 4, by decide, by decide⟩
  | _ => ⟨0, 0, 0, 0, 1, by decide, by decide⟩
theorem kq (x y : K) (h0 : x.c0 = y.c0) (h1 : x.c1 = y.c1) (h2 : x.c2 = y.c2) (h3 : x.c3 = y.c3) (h4 : x.d = y.d) : numC x = numC y := n5C_eq h0 h1 h2 h3 h4
theorem quart {i a b c e d : Int} {v : CV} (h : PCall P 190 [ci64 a, ci64 b, ci64 c, ci64 e, ci64 d] v) (hi : 0 ≤ i ∧ i < 7)
    (hrun : runF P 122 [ci64 i] [(26, .r v)] false 100000 = .ret v [35 ≤ 35, 0 ≤ i ∧ i < 7, 5 ≤ 5, (0 : Int) ≤ 0 ∧ (0 : Int) < 5, (0 : Int) ≤ 1 ∧ (1 : Int) < 5, (0 : Int) ≤ 2 ∧ (2 : Int) < 5, (0 : Int) ≤ 3 ∧ (3 : Int) < 5, (0 : Int) ≤ 4 ∧ (4 : Int) < 5, PCall P 190 [ci64 a, ci64 b, ci64 c, ci64 e, ci64 d] v, 10 ≤ 10]) : PCall P 122 [ci64 i] v :=
  pcallR hrun (.cons (by decide) (.cons hi (.cons (by decide) (.cons (by decide) (.cons (by decide) (.cons (by decide) (.cons (by decide) (.cons (by decide) (.cons h (.cons (by decide) .nil))))))))))
theorem quarter_0 : PCall P 122 [ci64 0] (numC (cos6 0)) := quart ((number_spec (1) (0) (0) (0) (1) (by decide) (by decide) (by decide) (by decide) (by decide) (by decide)).eq (kq _ (cos6 0) (by decide) (by decide) (by decide) (by decide) (by decide))) (by decide) (by kernel_rfl)
theorem quarter_1 : PCall P 122 [ci64 1] (numC (cos6 1)) := quart ((number_spec (0) (1) (0) (1) (4) (by decide) (by decide) (by decide) (by decide) (by decide) (by decide)).eq (kq _ (cos6 1) (by decide) (by decide) (by decide) (by decide) (by decide))) (by decide) (by kernel_rfl)
theorem quarter_2 : PCall P 122 [ci64 2] (numC (cos6 2)) := quart ((number_spec (0) (0) (1) (0) (2) (by decide) (by decide) (by decide) (by decide) (by decide) (by decide)).eq (kq _ (cos6 2) (by decide) (by decide) (by decide) (by decide) (by decide))) (by decide) (by kernel_rfl)
theorem quarter_3 : PCall P 122 [ci64 3] (numC (cos6 3)) := quart ((number_spec (0) (1) (0) (0) (2) (by decide) (by decide) (by decide) (by decide) (by decide) (by decide)).eq (kq _ (cos6 3) (by decide) (by decide) (by decide) (by decide) (by decide))) (by decide) (by kernel_rfl)
theorem quarter_4 : PCall P 122 [ci64 4] (numC (cos6 4)) := quart ((number_spec (1) (0) (0) (0) (2) (by decide) (by decide) (by decide) (by decide) (by decide) (by decide)).eq (kq _ (cos6 4) (by decide) (by decide) (by decide) (by decide) (by decide))) (by decide) (by kernel_rfl)
theorem quarter_5 : PCall P 122 [ci64 5] (numC (cos6 5)) := quart ((number_spec (0) (-1) (0) (1) (4) (by decide) (by decide) (by decide) (by decide) (by decide) (by decide)).eq (kq _ (cos6 5) (by decide) (by decide) (by decide) (by decide) (by decide))) (by decide) (by kernel_rfl)
theorem quarter_6 : PCall P 122 [ci64 6] (numC (cos6 6)) := quart ((number_spec (0) (0) (0) (0) (1) (by decide) (by decide) (by decide) (by decide) (by decide) (by decide)).eq (kq _ (cos6 6) (by decide) (by decide) (by decide) (by decide) (by decide))) (by decide) (by kernel_rfl)
theorem quarter_spec (i : Int) (h : 0 ≤ i ∧ i < 7) : PCall P 122 [ci64 i] (numC (cos6 i.toNat)) := by
  have hc : i = 0 ∨ i = 1 ∨ i = 2 ∨ i = 3 ∨ i = 4 ∨ i = 5 ∨ i = 6 := by omega
  rcases hc with rfl | rfl | rfl | rfl | rfl | rfl | rfl
  · exact quarter_0
  · exact quarter_1
  · exact quarter_2
  · exact quarter_3
  · exact quarter_4
  · exact quarter_5
  · exact quarter_6
end Go.Fw
open Go
namespace Go.Fw
set_option maxRecDepth 100000

theorem WMod_p1 (i : Int) (h1 : (decide (i.tmod (24 : Int) < (0 : Int))) = true) : PCall P (31 : FuncId) [ci64 i] (CV.lit (Value.int IntKind.i64 (IntKind.i64.wrap (i.tmod (24 : Int) + (24 : Int))))) :=
  pcallR (ors := [(6, Or.b true)]) (by kernel_rfl) (.cons (show (24 : Int) ≠ (0 : Int) from (by decide)) (.cons h1 .nil))
theorem WMod_p2 (i : Int) (h1 : (decide (i.tmod (24 : Int) < (0 : Int))) = false) : PCall P (31 : FuncId) [ci64 i] (CV.lit (Value.int IntKind.i64 (i.tmod (24 : Int)))) :=
  pcallR (ors := [(6, Or.b false)]) (by kernel_rfl) (.cons (show (24 : Int) ≠ (0 : Int) from (by decide)) (.cons h1 .nil))
theorem RMod_p1 (i : Int) : PCall P (32 : FuncId) [ci64 i] (CV.lit (Value.int IntKind.i64 ((IntKind.i64.wrap (i.tmod (24 : Int) + (24 : Int))).tmod (24 : Int)))) :=
  pcallR (ors := []) (by kernel_rfl) (.cons (show (24 : Int) ≠ (0 : Int) from (by decide)) (.cons (show (24 : Int) ≠ (0 : Int) from (by decide)) .nil))
end Go.Fw
open Go
namespace Go.Fw
theorem mod24 (i : Int) : (decide (i.tmod 24 < 0) = true → IntKind.i64.wrap (i.tmod 24 + 24) = i % 24) ∧ (decide (i.tmod 24 < 0) = false → i.tmod 24 = i % 24) ∧ (IntKind.i64.wrap (i.tmod 24 + 24)).tmod 24 = i % 24 := by
  have e := Int.mul_tdiv_add_tmod i 24
  have b1 := Int.tmod_lt_of_pos i (show (0 : Int) < 24 by decide)
  have b2 := Int.lt_tmod_of_pos i (show (0 : Int) < 24 by decide)
  generalize i.tmod 24 = t at e b1 b2 ⊢
  generalize i.tdiv 24 = q at e
  rw [w64 (by omega), Int.tmod_eq_emod_of_nonneg (by omega)]
  simp only [decide_eq_true_eq, decide_eq_false_iff_not]
  omega
theorem WMod_spec (i : Int) : PCall P 31 [ci64 i] (ci64 (i % 24)) := by
  cases h : decide (i.tmod 24 < 0) with
  | true => exact (WMod_p1 i h).eq (congrArg (fun x => ci64 x) ((mod24 i).1 h))
  | false => exact (WMod_p2 i h).eq (congrArg (fun x => ci64 x) ((mod24 i).2.1 h))
theorem RMod_spec (i : Int) : PCall P 32 [ci64 i] (ci64 (i % 24)) := (RMod_p1 i).eq (congrArg (fun x => ci64 x) (mod24 i).2.2)
end Go.Fw
open Go
namespace Go.Fw
set_option maxRecDepth 100000

theorem WCos_p1 (i : Int) (h1 : (decide (i % (24 : Int) > (12 : Int))) = true) (h2 : (decide (IntKind.i64.wrap ((24 : Int) - i % (24 : Int)) > (6 : Int))) = true) (s15_0 : (0 : Int) ≤ IntKind.i64.wrap ((12 : Int) - IntKind.i64.wrap ((24 : Int) - i % (24 : Int))) ∧ IntKind.i64.wrap ((12 : Int) - IntKind.i64.wrap ((24 : Int) - i % (24 : Int))) < (7 : Int)) (s16_0 : Smk (cos6 (IntKind.i64.wrap ((12 : Int) - IntKind.i64.wrap ((24 : Int) - i % (24 : Int)))).toNat)) : PCall P (33 : FuncId) [ci64 i] (numC (-cos6 (IntKind.i64.wrap ((12 : Int) - IntKind.i64.wrap ((24 : Int) - i % (24 : Int)))).toNat)) :=
  pcallR (ors := [(2, Or.r (CV.lit (Value.int IntKind.i64 (i % (24 : Int))))), (6, Or.b true), (12, Or.b true), (15, Or.r (numC (cos6 (IntKind.i64.wrap ((12 : Int) - IntKind.i64.wrap ((24 : Int) - i % (24 : Int)))).toNat))), (16, Or.r (numC (-cos6 (IntKind.i64.wrap ((12 : Int) - IntKind.i64.wrap ((24 : Int) - i % (24 : Int)))).toNat)))]) (by kernel_rfl) (.cons (Go.Fw.WMod_spec (i)) (.cons h1 (.cons h2 (.cons (Go.Fw.quarter_spec (IntKind.i64.wrap ((12 : Int) - IntKind.i64.wrap ((24 : Int) - i % (24 : Int)))) s15_0) (.cons (Go.Fw.FNeg_K (cos6 (IntKind.i64.wrap ((12 : Int) - IntKind.i64.wrap ((24 : Int) - i % (24 : Int)))).toNat) s16_0) (.cons (show 10 ≤ 10 from (by decide)) .nil))))))
theorem WCos_p2 (i : Int) (h1 : (decide (i % (24 : Int) > (12 : Int))) = true) (h2 : (decide (IntKind.i64.wrap ((24 : Int) - i % (24 : Int)) > (6 : Int))) = false) (s14_0 : (0 : Int) ≤ IntKind.i64.wrap ((24 : Int) - i % (24 : Int)) ∧ IntKind.i64.wrap ((24 : Int) - i % (24 : Int)) < (7 : Int)) : PCall P (33 : FuncId) [ci64 i] (numC (cos6 (IntKind.i64.wrap ((24 : Int) - i % (24 : Int))).toNat)) :=
  pcallR (ors := [(2, Or.r (CV.lit (Value.int IntKind.i64 (i % (24 : Int))))), (6, Or.b true), (12, Or.b false), (14, Or.r (numC (cos6 (IntKind.i64.wrap ((24 : Int) - i % (24 : Int))).toNat)))]) (by kernel_rfl) (.cons (Go.Fw.WMod_spec (i)) (.cons h1 (.cons h2 (.cons (Go.Fw.quarter_spec (IntKind.i64.wrap ((24 : Int) - i % (24 : Int))) s14_0) (.cons (show 10 ≤ 10 from (by decide)) .nil)))))
theorem WCos_p3 (i : Int) (h1 : (decide (i % (24 : Int) > (12 : Int))) = false) (h2 : (decide (i % (24 : Int) > (6 : Int))) = true) (s12_0 : (0 : Int) ≤ IntKind.i64.wrap ((12 : Int) - i % (24 : Int)) ∧ IntKind.i64.wrap ((12 : Int) - i % (24 : Int)) < (7 : Int)) (s13_0 : Smk (cos6 (IntKind.i64.wrap ((12 : Int) - i % (24 : Int))).toNat)) : PCall P (33 : FuncId) [ci64 i] (numC (-cos6 (IntKind.i64.wrap ((12 : Int) - i % (24 : Int))).toNat)) :=
  pcallR (ors := [(2, Or.r (CV.lit (Value.int IntKind.i64 (i % (24 : Int))))), (6, Or.b false), (9, Or.b true), (12, Or.r (numC (cos6 (IntKind.i64.wrap ((12 : Int) - i % (24 : Int))).toNat))), (13, Or.r (numC (-cos6 (IntKind.i64.wrap ((12 : Int) - i % (24 : Int))).toNat)))]) (by kernel_rfl) (.cons (Go.Fw.WMod_spec (i)) (.cons h1 (.cons h2 (.cons (Go.Fw.quarter_spec (IntKind.i64.wrap ((12 : Int) - i % (24 : Int))) s12_0) (.cons (Go.Fw.FNeg_K (cos6 (IntKind.i64.wrap ((12 : Int) - i % (24 : Int))).toNat) s13_0) (.cons (show 10 ≤ 10 from (by decide)) .nil))))))
theorem WCos_p4 (i : Int) (h1 : (decide (i % (24 : Int) > (12 : Int))) = false) (h2 : (decide (i % (24 : Int) > (6 : Int))) = false) (s11_0 : (0 : Int) ≤ i % (24 : Int) ∧ i % (24 : Int) < (7 : Int)) : PCall P (33 : FuncId) [ci64 i] (numC (cos6 (i % (24 : Int)).toNat)) :=
  pcallR (ors := [(2, Or.r (CV.lit (Value.int IntKind.i64 (i % (24 : Int))))), (6, Or.b false), (9, Or.b false), (11, Or.r (numC (cos6 (i % (24 : Int)).toNat)))]) (by kernel_rfl) (.cons (Go.Fw.WMod_spec (i)) (.cons h1 (.cons h2 (.cons (Go.Fw.quarter_spec (i % (24 : Int)) s11_0) (.cons (show 10 ≤ 10 from (by decide)) .nil)))))
end Go.Fw
open Go
namespace Go.Fw
set_option maxRecDepth 100000

theorem WValid_p1 (t : Int) (b : Bool) (h1 : (decide (t ≥ (0 : Int))) = true) : PCall P (55 : FuncId) [CV.agg [ci64 t, CV.lit (Value.bool b)]] (CV.lit (Value.bool (decide (t < (24 : Int))))) :=
  pcallR (ors := [(5, Or.b true)]) (by kernel_rfl) (.cons h1 .nil)
theorem WValid_p2 (t : Int) (b : Bool) (h1 : (decide (t ≥ (0 : Int))) = false) : PCall P (55 : FuncId) [CV.agg [ci64 t, CV.lit (Value.bool b)]] (CV.lit (Value.bool false)) :=
  pcallR (ors := [(5, Or.b false)]) (by kernel_rfl) (.cons h1 .nil)
theorem RValid_p1 (t : Int) (b : Bool) (h1 : (decide (t ≥ (0 : Int))) = true) : PCall P (56 : FuncId) [CV.agg [ci64 t, CV.lit (Value.bool b)]] (CV.lit (Value.bool (decide (t < (24 : Int))))) :=
  pcallR (ors := [(5, Or.b true)]) (by kernel_rfl) (.cons h1 .nil)
theorem RValid_p2 (t : Int) (b : Bool) (h1 : (decide (t ≥ (0 : Int))) = false) : PCall P (56 : FuncId) [CV.agg [ci64 t, CV.lit (Value.bool b)]] (CV.lit (Value.bool false)) :=
  pcallR (ors := [(5, Or.b false)]) (by kernel_rfl) (.cons h1 .nil)
theorem Wturned_p1 (t : Int) (b : Bool) (h1 : (b) = true) : PCall P (133 : FuncId) [ci64 t, CV.lit (Value.bool b)] (CV.lit (Value.int IntKind.i64 (IntKind.i64.wrap ((0 : Int) - t % (24 : Int))))) :=
  pcallR (ors := [(2, Or.b true), (4, Or.r (CV.lit (Value.int IntKind.i64 (t % (24 : Int)))))]) (by kernel_rfl) (.cons h1 (.cons (Go.Fw.WMod_spec (t)) .nil))
theorem Wturned_p2 (t : Int) (b : Bool) (h1 : (b) = false) : PCall P (133 : FuncId) [ci64 t, CV.lit (Value.bool b)] (CV.lit (Value.int IntKind.i64 (t % (24 : Int)))) :=
  pcallR (ors := [(2, Or.b false), (4, Or.r (CV.lit (Value.int IntKind.i64 (t % (24 : Int)))))]) (by kernel_rfl) (.cons h1 (.cons (Go.Fw.WMod_spec (t)) .nil))
end Go.Fw
open Go
namespace Go.Fw
/-- The cosine of a position. -/
def cosK (i : Int) : K :=
  let j := i % 24
  let k := if j > 12 then 24 - j else j
  if k > 6 then -cos6 (12 - k).toNat else cos6 k.toNat
def sinK (i : Int) : K := cosK (i % 24 - 6)
theorem sz_cos6 (n : Nat) : Smk (cos6 n) := by
  match n with
  | 0 => decide
  | 1 => decide
  | 2 => decide
  | 3 => decide
  | 4 => decide
  | 5 => decide
  | _ + 6 => exact (by decide : Smk (cos6 6))
theorem WCos_spec (i : Int) : PCall P 33 [ci64 i] (numC (cosK i)) := by
  have e1 : IntKind.i64.wrap (24 - i % 24) = 24 - i % 24 := w64 (by omega)
  have e2 : IntKind.i64.wrap (12 - i % 24) = 12 - i % 24 := w64 (by omega)
  have e3 : IntKind.i64.wrap (12 - (24 - i % 24)) = 12 - (24 - i % 24) := w64 (by omega)
  cases h1 : decide (i % 24 > 12) with
  | true =>
    have h1' := of_decide_eq_true h1
    cases h2 : decide (24 - i % 24 > 6) with
    | true =>
      have h2' := of_decide_eq_true h2
      refine (WCos_p1 i h1 (by rw [e1]; exact h2) (by rw [e1, e3]; omega) (sz_cos6 _)).eq ?_
      rw [e1, e3]; simp only [cosK, if_pos h1', if_pos h2']
    | false =>
      have h2' := of_decide_eq_false h2
      refine (WCos_p2 i h1 (by rw [e1]; exact h2) (by rw [e1]; omega)).eq ?_
      rw [e1]; simp only [cosK, if_pos h1', if_neg h2']
  | false =>
    have h1' := of_decide_eq_false h1
    cases h2 : decide (i % 24 > 6) with
    | true =>
      have h2' := of_decide_eq_true h2
      refine (WCos_p3 i h1 h2 (by rw [e2]; omega) (sz_cos6 _)).eq ?_
      rw [e2]; simp only [cosK, if_neg h1', if_pos h2']
    | false =>
      have h2' := of_decide_eq_false h2
      refine (WCos_p4 i h1 h2 (by omega)).eq ?_
      simp only [cosK, if_neg h1', if_neg h2']

/-- A motion. -/
def motC (t : Int) (b : Bool) : CV := .agg [ci64 t, .lit (.bool b)]
def validM (t : Int) : Bool := decide (0 ≤ t ∧ t < 24)
theorem validM_eq (t : Int) : (decide (t ≥ 0) = true → decide (t < 24) = validM t) ∧ (decide (t ≥ 0) = false → false = validM t) := by
  unfold validM
  refine ⟨fun h => ?_, fun h => ?_⟩
  · have := of_decide_eq_true h
    exact decide_eq_decide.2 (by omega)
  · have := of_decide_eq_false h
    exact (decide_eq_false (by omega)).symm
theorem WValid_spec (t : Int) (b : Bool) : PCall P 55 [.agg [ci64 t, .lit (.bool b)]] (.lit (.bool (validM t))) := by
  cases h : decide (t ≥ 0) with
  | true => exact (WValid_p1 t b h).eqB ((validM_eq t).1 h)
  | false => exact (WValid_p2 t b h).eqB ((validM_eq t).2 h)
theorem RValidM_spec (t : Int) (b : Bool) : PCall P 56 [.agg [ci64 t, .lit (.bool b)]] (.lit (.bool (validM t))) := by
  cases h : decide (t ≥ 0) with
  | true => exact (RValid_p1 t b h).eqB ((validM_eq t).1 h)
  | false => exact (RValid_p2 t b h).eqB ((validM_eq t).2 h)
def turned (t : Int) (b : Bool) : Int := if b then -(t % 24) else t % 24
theorem Wturned_spec (t : Int) (b : Bool) : PCall P 133 [ci64 t, .lit (.bool b)] (ci64 (turned t b)) := by
  cases b with
  | true => exact (Wturned_p1 t true rfl).eq (by rw [w64 (by omega)]; simp [turned])
  | false => exact Wturned_p2 t false rfl
end Go.Fw
open Go
namespace Go.Fw
set_option maxRecDepth 100000
theorem pS0 : PCall P 183 [.agg [.lit (.bool false), cstr (bytesOf 0)]] (ci64 0) := RSign_spec 0
theorem pS1 : PCall P 183 [.agg [.lit (.bool false), cstr (bytesOf 1)]] (ci64 1) := RSign_spec 1
theorem pG : PCall P 184 [.agg [.lit (.bool false), cstr (bytesOf 1)], .agg [.lit (.bool false), cstr (bytesOf 4)]] (.agg [.lit (.bool false), cstr (bytesOf 1)]) := RGcd_s 1 4 (by decide) (by decide)
theorem pA : PCall P 186 [.agg [.lit (.bool false), cstr (bytesOf 1)]] (.agg [.lit (.bool false), cstr (bytesOf 1)]) := RAbs_spec 1
theorem pO1 : PCall P 185 [.agg [.lit (.bool false), cstr (bytesOf 1)], .agg [.lit (.bool false), cstr (bytesOf 1)]] (.agg [.lit (.bool false), cstr (bytesOf 1)]) := ROver_s 1 1 (by decide) (by decide) (by decide) (by decide)
theorem pO4 : PCall P 185 [.agg [.lit (.bool false), cstr (bytesOf 4)], .agg [.lit (.bool false), cstr (bytesOf 1)]] (.agg [.lit (.bool false), cstr (bytesOf 4)]) := ROver_s 4 1 (by decide) (by decide) (by decide) (by decide)
theorem pOne : PCall P 131 [ci64 1] (.agg [.lit (.bool false), cstr (bytesOf 1)]) := ROf_spec 1 (by decide)
theorem pP4 : PCall P 187 [.agg [.lit (.bool false), cstr (bytesOf 4)]] (cstr ⟨#[52]⟩) := RPr4_p1
theorem pP1 : PCall P 187 [.agg [.lit (.bool false), cstr (bytesOf 1)]] (cstr ⟨#[49]⟩) := RPr1_p1
theorem k1ok : Sm3 (cos6 1) := by
  intro i hi
  have : i = 0 ∨ i = 1 ∨ i = 2 ∨ i = 3 ∨ i = 4 := by omega
  rcases this with rfl | rfl | rfl | rfl | rfl <;> decide
theorem pV : PCall P 124 [n5C 0 1 0 1 4] (.lit (.bool true)) := RVal_k (cos6 1) k1ok
end Go.Fw
open Go
namespace Go.Fw
set_option maxRecDepth 100000

theorem pR1_p1 : PCall P (188 : FuncId) [ci64 (1 : Int)] (CV.lit (Value.string { data := #[(114 : UInt8), (50 : UInt8)] })) :=
  pcallR (ors := []) (by kernel_rfl) (.cons (show (0 : Int) ≤ (1 : Int) ∧ (1 : Int) < (4 : Int) from (by decide)) .nil)
theorem pR3_p1 : PCall P (188 : FuncId) [ci64 (3 : Int)] (CV.lit (Value.string { data := #[(114 : UInt8), (54 : UInt8)] })) :=
  pcallR (ors := []) (by kernel_rfl) (.cons (show (0 : Int) ≤ (3 : Int) ∧ (3 : Int) < (4 : Int) from (by decide)) .nil)
end Go.Fw
open Go
namespace Go.Fw
set_option maxRecDepth 100000

theorem pPr_p1 : PCall P (120 : FuncId) [n5C (0 : Int) (1 : Int) (0 : Int) (1 : Int) (4 : Int)] (CV.lit (Value.string ({ data := #[] } ++ { data := #[(49 : UInt8)] } ++ ({ data := #[(47 : UInt8)] } ++ { data := #[(52 : UInt8)] }) ++ { data := #[(114 : UInt8), (50 : UInt8)] } ++ { data := #[(43 : UInt8)] } ++ { data := #[(49 : UInt8)] } ++ ({ data := #[(47 : UInt8)] } ++ { data := #[(52 : UInt8)] }) ++ { data := #[(114 : UInt8), (54 : UInt8)] }))) :=
  pcallR (ors := [(3, Or.r (CV.lit (Value.bool true))), (19, Or.r (CV.lit (Value.int IntKind.i64 (0 : Int)))), (36, Or.r (CV.lit (Value.int IntKind.i64 (1 : Int)))), (42, Or.r (CV.agg [CV.lit (Value.bool false), CV.lit (Value.string (bytesOf 1))])), (46, Or.r (CV.agg [CV.lit (Value.bool false), CV.lit (Value.string (bytesOf 1))])), (48, Or.r (CV.agg [CV.lit (Value.bool false), CV.lit (Value.string (bytesOf 1))])), (52, Or.r (CV.agg [CV.lit (Value.bool false), CV.lit (Value.string (bytesOf 4))])), (58, Or.r (CV.lit (Value.int IntKind.i64 (1 : Int)))), (66, Or.r (CV.agg [CV.lit (Value.bool false), CV.lit (Value.string (bytesOf 1))])), (84, Or.r (CV.lit (Value.string { data := #[(49 : UInt8)] }))), (93, Or.r (CV.lit (Value.string { data := #[(52 : UInt8)] }))), (99, Or.r (CV.lit (Value.string { data := #[(114 : UInt8), (50 : UInt8)] }))), (116, Or.r (CV.lit (Value.int IntKind.i64 (0 : Int)))), (133, Or.r (CV.lit (Value.int IntKind.i64 (1 : Int)))), (139, Or.r (CV.agg [CV.lit (Value.bool false), CV.lit (Value.string (bytesOf 1))])), (143, Or.r (CV.agg [CV.lit (Value.bool false), CV.lit (Value.string (bytesOf 1))])), (145, Or.r (CV.agg [CV.lit (Value.bool false), CV.lit (Value.string (bytesOf 1))])), (149, Or.r (CV.agg [CV.lit (Value.bool false), CV.lit (Value.string (bytesOf 4))])), (155, Or.r (CV.lit (Value.int IntKind.i64 (1 : Int)))), (166, Or.r (CV.agg [CV.lit (Value.bool false), CV.lit (Value.string (bytesOf 1))])), (184, Or.r (CV.lit (Value.string { data := #[(49 : UInt8)] }))), (193, Or.r (CV.lit (Value.string { data := #[(52 : UInt8)] }))), (199, Or.r (CV.lit (Value.string { data := #[(114 : UInt8), (54 : UInt8)] })))]) (by kernel_rfl) (.cons (Go.Fw.pV) (.cons (show (0 : Int) ≤ (0 : Int) ∧ (0 : Int) < (4 : Int) from (by decide)) (.cons (show 2 ≤ 2 from (by decide)) (.cons (Go.Fw.pS0) (.cons (show (0 : Int) ≤ (1 : Int) ∧ (1 : Int) < (4 : Int) from (by decide)) (.cons (show 2 ≤ 2 from (by decide)) (.cons (Go.Fw.pS1) (.cons (Go.Fw.pG) (.cons (show 2 ≤ 2 from (by decide)) (.cons (Go.Fw.pA) (.cons (Go.Fw.pO1) (.cons (Go.Fw.pO4) (.cons (show 2 ≤ 2 from (by decide)) (.cons (show 2 ≤ 2 from (by decide)) (.cons (Go.Fw.pS1) (.cons (Go.Fw.pOne) (.cons (show 2 ≤ 2 from (by decide)) (.cons (Go.Fw.pP1) (.cons (show (1 : Int) ≤ (9223372036854775807 : Int) from (by decide)) (.cons (Go.Fw.pP4) (.cons (show (2 : Int) ≤ (9223372036854775807 : Int) from (by decide)) (.cons (show (3 : Int) ≤ (9223372036854775807 : Int) from (by decide)) (.cons (Go.Fw.pR1_p1) (.cons (show (5 : Int) ≤ (9223372036854775807 : Int) from (by decide)) (.cons (show (0 : Int) ≤ (2 : Int) ∧ (2 : Int) < (4 : Int) from (by decide)) (.cons (show 2 ≤ 2 from (by decide)) (.cons (Go.Fw.pS0) (.cons (show (0 : Int) ≤ (3 : Int) ∧ (3 : Int) < (4 : Int) from (by decide)) (.cons (show 2 ≤ 2 from (by decide)) (.cons (Go.Fw.pS1) (.cons (Go.Fw.pG) (.cons (show 2 ≤ 2 from (by decide)) (.cons (Go.Fw.pA) (.cons (Go.Fw.pO1) (.cons (Go.Fw.pO4) (.cons (show 2 ≤ 2 from (by decide)) (.cons (show 2 ≤ 2 from (by decide)) (.cons (Go.Fw.pS1) (.cons (show (6 : Int) ≤ (9223372036854775807 : Int) from (by decide)) (.cons (Go.Fw.pOne) (.cons (show 2 ≤ 2 from (by decide)) (.cons (Go.Fw.pP1) (.cons (show (7 : Int) ≤ (9223372036854775807 : Int) from (by decide)) (.cons (Go.Fw.pP4) (.cons (show (2 : Int) ≤ (9223372036854775807 : Int) from (by decide)) (.cons (show (9 : Int) ≤ (9223372036854775807 : Int) from (by decide)) (.cons (Go.Fw.pR3_p1) (.cons (show (11 : Int) ≤ (9223372036854775807 : Int) from (by decide)) .nil))))))))))))))))))))))))))))))))))))))))))))))))
end Go.Fw
