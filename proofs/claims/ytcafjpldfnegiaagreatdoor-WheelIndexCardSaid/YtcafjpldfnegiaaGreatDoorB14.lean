/- A part of the proof that the law returns true for every input: an executor for the model's code, and what functions of the program compute. -/
import Derived.Test.YtcafjpldfnegiaaGreatDoorB09
import Derived.IntWalk
import Derived.Laws.Strings
import Derived.KernelRfl
namespace Go.Fw
theorem imm_more {I : Imm} {b : Nat} {cs : List Value} (h : I b = none) : I.le (fun k => if k = b then some cs else I k) := by
  intro k x hk
  have : k ≠ b := by intro e; subst e; rw [h] at hk; cases hk
  simp only [this, if_false]; exact hk
/-- A new slice that is handed on as a closed one. -/
theorem FCall.pcall {P : Program} {f : FuncId} {args : List CV} {off len sz : Nat} {cells : List CV} (h : FCall P f args (.sl 0 off len sz) cells) (hl : off + len * sz ≤ cells.length) :
    PCall P f args (.lst len ((cells.drop off).take (len * sz))) := by
  intro Im w vs him hrep
  refine (h Im w vs him hrep).mono ?_
  rintro e w' ⟨y, v, cells, I', b, κ, c, T, rfl, ⟨rfl, rfl⟩, hv, h1, h2, h3, h4, h5, h6, h7, h8, h9⟩
  simp only [MV.rep, if_true, Option.some.injEq, Prod.mk.injEq] at hv
  obtain ⟨b', κ', cap, ⟨rfl, rfl⟩, rfl, hc1, hc2⟩ := hv
  have hle := imm_more (cs := c.toList) h6
  refine ⟨_, _, _, rfl, rfl, ?_, Imm.le_trans h1 hle, ?_, h3, ?_⟩
  · simp only [CV.rep]
    refine ⟨_, cap, rfl, hc1, .inr ⟨b, off, c.toList, rfl, by simp, ?_⟩⟩
    have h10 := CV.repL_take (len * sz) (CV.repL_drop off (CV.repL_mono hle _ _ h9))
    have e : ((cells.drop off).take (len * sz)).length = len * sz := by rw [List.length_take, List.length_drop]; omega
    rw [e]
    rw [List.drop_take, List.take_take] at h10
    rw [show min (len * sz) (cells.length - off) = len * sz by omega] at h10
    exact h10
  · intro k cs hk
    by_cases e : k = b
    · subst e
      simp only [if_true, Option.some.injEq] at hk
      exact ⟨c, T, (0, 0), h7, hk⟩
    · simp only [e, if_false] at hk
      exact h2 k cs hk
  · intro k hk
    by_cases e : k = b
    · subst e; exact .inr h5
    · simp only [e, if_false] at hk
      exact h4 k hk
end Go.Fw
namespace Go.Fw
theorem AllP.of_mem : ∀ {l : List Prop}, (∀ q ∈ l, q) → AllP l
  | [], _ => trivial
  | [p], h => h p (by simp)
  | p :: p' :: ps, h => ⟨h p (by simp), AllP.of_mem (l := p' :: ps) (fun q hq => h q (by simp only [List.mem_cons] at hq ⊢; exact .inr hq))⟩

/-- Proofs of a list of propositions. -/
inductive Ps : List Prop → Prop where
  | nil : Ps []
  | cons {p : Prop} {l : List Prop} (h : p) (t : Ps l) : Ps (p :: l)
theorem Ps.mem : ∀ {l : List Prop}, Ps l → ∀ q ∈ l, q
  | [], _, q, hq => by simp at hq
  | p :: ps, .cons h t, q, hq => by
    simp only [List.mem_cons] at hq
    rcases hq with rfl | hq
    · exact h
    · exact t.mem q hq
theorem Ps.all {l : List Prop} (h : Ps l) : AllP l := AllP.of_mem h.mem

/-- A loop's head, with what is kept there. -/
def Out.pick (keep σ : List Nat) : Out → Option (List Item × St × List Prop)
  | .stop todo s ob => some (todo, s.sel keep σ, ob ++ CellsC (σ.map fun i => s.hp.getD i none))
  | _ => none
theorem pick_some {keep σ : List Nat} {o : Out} {todo : List Item} {s : St} {ob : List Prop} (h : o.pick keep σ = some (todo, s, ob)) :
    ∃ s0 ob0, o = .stop todo s0 ob0 ∧ s = s0.sel keep σ ∧ ob = ob0 ++ CellsC (σ.map fun i => s0.hp.getD i none) := by
  unfold Out.pick at h
  split at h
  · rename_i t s0 ob0
    simp only [Option.some.injEq, Prod.mk.injEq] at h
    obtain ⟨rfl, rfl, rfl⟩ := h
    exact ⟨_, _, rfl, rfl, rfl⟩
  · cases h
theorem AllP.left {a b : List Prop} (h : AllP (a ++ b)) : AllP a := AllP.of_mem fun q hq => h.mem q (List.mem_append.2 (.inl hq))
theorem AllP.right {a b : List Prop} (h : AllP (a ++ b)) : AllP b := AllP.of_mem fun q hq => h.mem q (List.mem_append.2 (.inr hq))
section
variable {P : Program} {f : FuncId} {todo todo' : List Item} {s s' : St} {keep σ : List Nat} {ors : Ors} {ob : List Prop}
theorem okS {R : Goal} (h : (runA P f todo s ors false 100000).pick keep σ = some (todo', s', ob)) (hσ : nodupB σ = true) (hob : Ps ob) (hn : lentOk R.n σ = true) (hk : Ok P f todo' s' R) : Ok P f todo s R := by
  obtain ⟨s0, ob0, h0, rfl, rfl⟩ := pick_some h
  exact ok_stop 100000 h0 hob.all.left (Ok.sel keep σ hσ hn hob.all.right hk)
theorem okMS {m : Nat} {R : Goal} (h : (runAM P f m todo s ors false 100000).pick keep σ = some (todo', s', ob)) (hσ : nodupB σ = true) (hob : Ps ob) (hn : lentOk R.n σ = true) (hk : Ok P f todo' s' R) : Ok P f todo s R := by
  obtain ⟨s0, ob0, h0, rfl, rfl⟩ := pick_some h
  exact okM_stop 100000 h0 hob.all.left (Ok.sel keep σ hσ hn hob.all.right hk)
theorem pcallS {args : List CV} {R : CV → Prop} (h : (runF P f args ors false 100000).pick keep σ = some (todo', s', ob)) (hσ : nodupB σ = true) (hob : Ps ob) (hk : Ok P f todo' s' (.of R)) : PCallQ P f args R := by
  obtain ⟨s0, ob0, h0, rfl, rfl⟩ := pick_some h
  exact pcallQ_stop 100000 h0 hob.all.left (Ok.sel keep σ hσ rfl hob.all.right hk)
theorem fcallS {args : List CV} {Q : MV → List CV → Prop} (h : (runFN P f args ors false 100000).pick keep σ = some (todo', s', ob)) (hσ : nodupB σ = true) (hob : Ps ob) (hk : Ok P f todo' s' (.fresh (FreshQ Q))) : FCallQ P f args Q := by
  obtain ⟨s0, ob0, h0, rfl, rfl⟩ := pick_some h
  exact fcallQ_stop 100000 h0 hob.all.left (Ok.sel keep σ hσ rfl hob.all.right hk)
theorem mcallS {hp : List Blk} {args : List MV} {Q : MV → List Blk → Prop} (h : (runFM P f hp args ors false 100000).pick keep σ = some (todo', s', ob)) (hσ : nodupB σ = true) (hob : Ps ob) (hn : lentOk hp.length σ = true) (hk : Ok P f todo' s' (.lent hp.length Q)) : MCallQ P f hp args Q := by
  obtain ⟨s0, ob0, h0, rfl, rfl⟩ := pick_some h
  exact mcallQ_stop 100000 h0 hob.all.left (Ok.sel keep σ hσ hn hob.all.right hk)
theorem okR {v : CV} {R : Goal} (h : runA P f todo s ors false 100000 = .ret v ob) (hob : Ps ob) (hR : R.c v) : Ok P f todo s R := ok_run 100000 h hob.all hR
theorem okMR {m : Nat} {v : MV} {hp' : List Blk} {R : Goal} (h : runAM P f m todo s ors false 100000 = .retM v hp' m ob) (hob : Ps ob) (hn : R.Lent m) (hR : R.m v hp') : Ok P f todo s R := okM_run 100000 h hob.all hn hR
theorem okFR {v : MV} {hp' : List Blk} {R : Goal} (n0 : Nat) (h : runAM P f 1 todo s ors false 100000 = .retM v hp' n0 ob) (hob : Ps ob) (hn : R.Fresh) (hR : R.m v hp') : Ok P f todo s R := okF_run 100000 h hob.all hn hR
theorem pcallR {args : List CV} {v : CV} (h : runF P f args ors false 100000 = .ret v ob) (hob : Ps ob) : PCall P f args v := pcall_run 100000 h hob.all
theorem mcallR {hp : List Blk} {args : List MV} {v : MV} {hp' : List Blk} (h : runFM P f hp args ors false 100000 = .retM v hp' hp.length ob) (hob : Ps ob) : MCall P f hp args v hp' := mcallQ_run 100000 h hob.all ⟨rfl, rfl⟩
theorem fcallR {args : List CV} {v : MV} {cells : List CV} (n0 : Nat) (h : runFN P f args ors false 100000 = .retM v [some (own cells)] n0 ob) (hob : Ps ob) : FCall P f args v cells := fcallQ_run 100000 h hob.all ⟨rfl, rfl⟩
end
end Go.Fw
namespace Go.Fw

/-- The value of digits, the least one first. -/
def val (b : Nat) : List Nat → Nat
  | [] => 0
  | x :: xs => x + b * val b xs
def digF (b : Nat) : Nat → Nat → List Nat
  | 0, _ => []
  | f + 1, n => if n = 0 then [] else n % b :: digF b f (n / b)
/-- The digits of a number. -/
def dig (b n : Nat) : List Nat := digF b n n
/-- All are digits. -/
def Dig (b : Nat) (xs : List Nat) : Prop := ∀ x ∈ xs, x < b

theorem digF_fuel {b : Nat} (hb : 2 ≤ b) : ∀ (f g n : Nat), n ≤ f → n ≤ g → digF b f n = digF b g n
  | 0, 0, n, _, _ => rfl
  | 0, g + 1, n, h, _ => by have : n = 0 := by omega
                            subst this; simp [digF]
  | f + 1, 0, n, _, h => by have : n = 0 := by omega
                            subst this; simp [digF]
  | f + 1, g + 1, n, h1, h2 => by
    simp only [digF]
    split
    · rfl
    · rename_i hn
      have : n / b < n := Nat.div_lt_self (by omega) (by omega)
      rw [digF_fuel hb f g (n / b) (by omega) (by omega)]

theorem dig_zero (b : Nat) : dig b 0 = [] := rfl
theorem dig_pos {b n : Nat} (hb : 2 ≤ b) (hn : n ≠ 0) : dig b n = n % b :: dig b (n / b) := by
  unfold dig
  cases n with
  | zero => omega
  | succ m =>
    have : (m + 1) / b < m + 1 := Nat.div_lt_self (by omega) (by omega)
    rw [show digF b (m + 1) (m + 1) = (m + 1) % b :: digF b m ((m + 1) / b) by simp [digF], digF_fuel hb m _ _ (by omega) (Nat.le_refl _)]

theorem val_dig {b : Nat} (hb : 2 ≤ b) (n : Nat) : val b (dig b n) = n := by
  induction n using Nat.strongRecOn with
  | _ n ih =>
    by_cases hn : n = 0
    · subst hn; rfl
    · rw [dig_pos hb hn, val, ih _ (Nat.div_lt_self (by omega) (by omega))]
      exact Nat.mod_add_div n b

theorem dig_lt {b : Nat} (hb : 2 ≤ b) (n : Nat) : Dig b (dig b n) := by
  induction n using Nat.strongRecOn with
  | _ n ih =>
    by_cases hn : n = 0
    · subst hn; intro x hx; simp [dig_zero] at hx
    · rw [dig_pos hb hn]
      intro x hx
      simp only [List.mem_cons] at hx
      rcases hx with rfl | hx
      · exact Nat.mod_lt _ (by omega)
      · exact ih _ (Nat.div_lt_self (by omega) (by omega)) x hx

/-- Without zeros at the end. -/
def tz : List Nat → List Nat
  | [] => []
  | x :: xs => match tz xs with
    | [] => if x = 0 then [] else [x]
    | y :: ys => x :: y :: ys

theorem tz_cons (x : Nat) (xs : List Nat) : tz (x :: xs) = if tz xs = [] then (if x = 0 then [] else [x]) else x :: tz xs := by
  simp only [tz]
  split
  · rename_i h; simp [h]
  · rename_i y ys h; simp [h]

theorem val_tz (b : Nat) : ∀ xs, val b (tz xs) = val b xs
  | [] => rfl
  | x :: xs => by
    rw [tz_cons]
    have ih := val_tz b xs
    split
    · rename_i h
      rw [h] at ih
      split
      · rename_i hx; simp only [val] at ih ⊢; rw [← ih, hx, Nat.mul_zero]
      · simp only [val] at ih ⊢; rw [← ih]
    · simp only [val]; rw [ih]

theorem tz_dig {b : Nat} (hb : 2 ≤ b) (n : Nat) : tz (dig b n) = dig b n := by
  induction n using Nat.strongRecOn with
  | _ n ih =>
    by_cases hn : n = 0
    · subst hn; rfl
    · have h1 := ih _ (Nat.div_lt_self (by omega : 0 < n) (by omega : 1 < b))
      rw [dig_pos hb hn, tz_cons, h1]
      split
      · rename_i h
        have h2 := val_dig hb (n / b)
        rw [h] at h2
        simp only [val] at h2
        have h3 := Nat.mod_add_div n b
        rw [← h2] at h3
        rw [if_neg (by omega), h]
      · rfl

/-- The digits are the only ones. -/
theorem tz_eq_dig {b : Nat} (hb : 2 ≤ b) : ∀ xs, Dig b xs → tz xs = dig b (val b xs)
  | [], _ => rfl
  | x :: xs, h => by
    have hx : x < b := h x (by simp)
    have ih := tz_eq_dig hb xs (fun y hy => h y (by simp [hy]))
    rw [tz_cons, ih]
    simp only [val]
    by_cases hv : val b xs = 0
    · rw [hv, dig_zero, if_pos rfl, Nat.mul_zero, Nat.add_zero]
      split
      · rename_i h0; rw [h0]; rfl
      · rename_i h0
        rw [dig_pos hb h0, Nat.mod_eq_of_lt hx, Nat.div_eq_of_lt hx]; rfl
    · have h1 : dig b (val b xs) ≠ [] := by rw [dig_pos hb hv]; simp
      rw [if_neg h1]
      have h2 : x + b * val b xs ≠ 0 := by
        have : 0 < b * val b xs := Nat.mul_pos (by omega) (by omega)
        omega
      rw [dig_pos hb h2]
      have h3 : (x + b * val b xs) % b = x := by rw [Nat.add_mul_mod_self_left, Nat.mod_eq_of_lt hx]
      have h4 : (x + b * val b xs) / b = val b xs := by rw [Nat.add_mul_div_left _ _ (by omega), Nat.div_eq_of_lt hx, Nat.zero_add]
      rw [h3, h4]

theorem tz_concat_zero : ∀ xs, tz (xs ++ [0]) = tz xs
  | [] => rfl
  | x :: xs => by rw [List.cons_append, tz_cons, tz_cons, tz_concat_zero xs]
theorem tz_concat {x : Nat} (hx : x ≠ 0) : ∀ xs, tz (xs ++ [x]) = xs ++ [x]
  | [] => by simp [tz, hx]
  | y :: xs => by rw [List.cons_append, tz_cons, tz_concat hx xs]; simp

theorem val_append (b : Nat) : ∀ xs ys, val b (xs ++ ys) = val b xs + b ^ xs.length * val b ys
  | [], ys => by simp [val]
  | x :: xs, ys => by
    simp only [List.cons_append, val, val_append b xs ys, List.length_cons, Nat.pow_succ]
    rw [Nat.mul_add, ← Nat.add_assoc, ← Nat.mul_assoc, Nat.mul_comm b (b ^ xs.length)]

theorem val_lt {b : Nat} (hb : 0 < b) : ∀ xs, Dig b xs → val b xs < b ^ xs.length
  | [], _ => by simp [val]
  | x :: xs, h => by
    have hx : x < b := h x (by simp)
    have ih := val_lt hb xs (fun y hy => h y (by simp [hy]))
    simp only [val, List.length_cons, Nat.pow_succ]
    calc x + b * val b xs < b + b * val b xs := by omega
      _ = b * (val b xs + 1) := by rw [Nat.mul_add, Nat.mul_one, Nat.add_comm]
      _ ≤ b * b ^ xs.length := Nat.mul_le_mul_left _ ih
      _ = b ^ xs.length * b := Nat.mul_comm _ _

theorem val_replicate_zero (b n : Nat) : val b (List.replicate n 0) = 0 := by
  induction n with
  | zero => rfl
  | succ n ih => rw [List.replicate_succ, val, ih]; simp

/-- The number of digits. -/
theorem dig_length_le {b : Nat} (hb : 2 ≤ b) {n k : Nat} (h : n < b ^ k) : (dig b n).length ≤ k := by
  induction k generalizing n with
  | zero => have : n = 0 := by simpa using h
            subst this; simp [dig_zero]
  | succ k ih =>
    by_cases hn : n = 0
    · subst hn; simp [dig_zero]
    · rw [dig_pos hb hn, List.length_cons]
      have : n / b < b ^ k := by
        rw [Nat.div_lt_iff_lt_mul (by omega)]
        rw [Nat.pow_succ] at h; exact h
      have := ih this
      omega
theorem dig_length_ge {b : Nat} (hb : 2 ≤ b) (n : Nat) : n < b ^ (dig b n).length := by
  have := val_lt (by omega : 0 < b) (dig b n) (dig_lt hb n)
  rw [val_dig hb] at this; exact this
theorem dig_eq_nil {b : Nat} (hb : 2 ≤ b) {n : Nat} : dig b n = [] ↔ n = 0 := by
  constructor
  · intro h
    have := val_dig hb n
    rw [h] at this
    exact this.symm
  · rintro rfl; rfl
theorem dig_length_eq_zero {b : Nat} (hb : 2 ≤ b) {n : Nat} : (dig b n).length = 0 ↔ n = 0 := by
  rw [List.length_eq_zero_iff, dig_eq_nil hb]

theorem dig_of_val {b : Nat} (hb : 2 ≤ b) {xs : List Nat} (h : Dig b xs) (n : Nat) (hv : val b xs = n) : tz xs = dig b n := by rw [← hv]; exact tz_eq_dig hb xs h
theorem Dig.get {b : Nat} {xs : List Nat} (h : Dig b xs) (hb : 0 < b) (i : Nat) : xs.getD i 0 < b := by
  rw [List.getD_eq_getElem?_getD]
  cases hi : xs[i]? with
  | none => simpa using hb
  | some x => simpa using h x (List.mem_of_getElem? hi)
theorem Dig.take {b : Nat} {xs : List Nat} (h : Dig b xs) (n : Nat) : Dig b (xs.take n) := fun x hx => h x (List.mem_of_mem_take hx)
theorem Dig.drop {b : Nat} {xs : List Nat} (h : Dig b xs) (n : Nat) : Dig b (xs.drop n) := fun x hx => h x (List.mem_of_mem_drop hx)
theorem Dig.append {b : Nat} {xs ys : List Nat} (h : Dig b xs) (k : Dig b ys) : Dig b (xs ++ ys) := by
  intro x hx
  rcases List.mem_append.1 hx with hx | hx
  · exact h x hx
  · exact k x hx
theorem Dig.replicate {b : Nat} (hb : 0 < b) (n : Nat) : Dig b (List.replicate n 0) := by
  intro x hx; rw [List.mem_replicate] at hx; rw [hx.2]; exact hb
theorem Dig.set {b : Nat} {xs : List Nat} (h : Dig b xs) {d : Nat} (hd : d < b) (i : Nat) : Dig b (xs.set i d) := by
  intro x hx
  rcases List.mem_or_eq_of_mem_set hx with hx | rfl
  · exact h x hx
  · exact hd
theorem take_succ_getD {xs : List Nat} {i : Nat} (h : i < xs.length) : xs.take (i + 1) = xs.take i ++ [xs.getD i 0] := by
  rw [List.take_succ_eq_append_getElem h]
  simp [List.getD_eq_getElem?_getD, List.getElem?_eq_getElem h]
theorem val_take_succ {b : Nat} {xs : List Nat} {i : Nat} (h : i < xs.length) : val b (xs.take (i + 1)) = val b (xs.take i) + b ^ i * xs.getD i 0 := by
  rw [take_succ_getD h, val_append]
  simp [val, List.length_take, Nat.min_eq_left (Nat.le_of_lt h)]
theorem val_drop {b : Nat} {xs : List Nat} {i : Nat} (h : i < xs.length) : val b (xs.drop i) = xs.getD i 0 + b * val b (xs.drop (i + 1)) := by
  rw [List.drop_eq_getElem_cons h, val]
  simp [List.getD_eq_getElem?_getD, List.getElem?_eq_getElem h]
theorem val_split {b : Nat} (xs : List Nat) (i : Nat) (h : i ≤ xs.length) : val b xs = val b (xs.take i) + b ^ i * val b (xs.drop i) := by
  conv => lhs; rw [← List.take_append_drop i xs]
  rw [val_append, List.length_take, Nat.min_eq_left h]

/-- The first m digits of a number. -/
def digN (b : Nat) : Nat → Nat → List Nat
  | 0, _ => []
  | m + 1, n => n % b :: digN b m (n / b)
theorem digN_length (b : Nat) : ∀ m n, (digN b m n).length = m
  | 0, _ => rfl
  | m + 1, n => by simp [digN, digN_length b m]
theorem digN_dig {b : Nat} (hb : 0 < b) : ∀ m n, Dig b (digN b m n)
  | 0, _ => by intro x hx; simp [digN] at hx
  | m + 1, n => by
    intro x hx
    simp only [digN, List.mem_cons] at hx
    rcases hx with rfl | hx
    · exact Nat.mod_lt _ hb
    · exact digN_dig hb m _ x hx
theorem digN_val (b : Nat) : ∀ m n, val b (digN b m n) = n % b ^ m
  | 0, n => by simp [digN, val, Nat.mod_one]
  | m + 1, n => by
    rw [digN, val, digN_val b m, Nat.pow_succ, Nat.mul_comm (b ^ m) b, Nat.mod_mul]
theorem digN_zero (b : Nat) : ∀ m, digN b m 0 = List.replicate m 0
  | 0 => rfl
  | m + 1 => by simp [digN, digN_zero b m, List.replicate_succ]
theorem digN_get (b : Nat) : ∀ m n j, j < m → (digN b m n).getD j 0 = n / b ^ j % b
  | 0, _, _, h => by omega
  | m + 1, n, 0, _ => by simp [digN]
  | m + 1, n, j + 1, h => by
    have := digN_get b m (n / b) j (by omega)
    simp only [digN, List.getD_cons_succ]
    rw [this, Nat.div_div_eq_div_mul, Nat.pow_succ, Nat.mul_comm b]
theorem digN_set {b : Nat} (hb : 0 < b) : ∀ m n j d, j < m → n / b ^ j % b + d < b → (digN b m n).set j (n / b ^ j % b + d) = digN b m (n + d * b ^ j)
  | 0, _, _, _, h, _ => by omega
  | m + 1, n, 0, d, _, h => by
    simp only [Nat.pow_zero, Nat.div_one, Nat.mul_one] at h ⊢
    simp only [digN, List.set_cons_zero]
    have h1 : (n + d) % b = n % b + d := by
      have := Nat.mod_add_div n b
      conv => lhs; rw [← this, show n % b + b * (n / b) + d = (n % b + d) + b * (n / b) by omega, Nat.add_mul_mod_self_left, Nat.mod_eq_of_lt h]
    have h2 : (n + d) / b = n / b := by
      have := Nat.mod_add_div n b
      conv => lhs; rw [← this, show n % b + b * (n / b) + d = (n % b + d) + b * (n / b) by omega, Nat.add_mul_div_left _ _ hb, Nat.div_eq_of_lt h, Nat.zero_add]
    rw [h1, h2]
  | m + 1, n, j + 1, d, hj, h => by
    have e : n / b ^ (j + 1) = n / b / b ^ j := by rw [Nat.div_div_eq_div_mul, Nat.pow_succ, Nat.mul_comm b]
    rw [e] at h ⊢
    simp only [digN, List.set_cons_succ]
    rw [digN_set hb m (n / b) j d (by omega) h]
    have h1 : (n + d * b ^ (j + 1)) % b = n % b := by rw [Nat.pow_succ, ← Nat.mul_assoc, Nat.add_mul_mod_self_right]
    have h2 : (n + d * b ^ (j + 1)) / b = n / b + d * b ^ j := by rw [Nat.pow_succ, ← Nat.mul_assoc, Nat.add_mul_div_right _ _ hb]
    rw [h1, h2]

theorem getD_set {xs : List Nat} {i d : Nat} (h : i < xs.length) : (xs.set i d).getD i 0 = d := by simp [List.getD_eq_getElem?_getD, h]
theorem getD_set_ne {xs : List Nat} {i j d : Nat} (h : i ≠ j) : (xs.set i d).getD j 0 = xs.getD j 0 := by simp [List.getD_eq_getElem?_getD, h]
theorem val_set_take {b : Nat} {xs : List Nat} {i d : Nat} (h : i < xs.length) : val b ((xs.set i d).take (i + 1)) = val b (xs.take i) + b ^ i * d := by
  rw [val_take_succ (by simpa using h), getD_set h, List.take_set_of_le (Nat.le_refl _)]
theorem val_take_all {b : Nat} {xs : List Nat} {i : Nat} (h : xs.length ≤ i) : val b (xs.take i) = val b xs := by rw [List.take_of_length_le h]
theorem getD_ge {xs : List Nat} {i : Nat} (h : xs.length ≤ i) : xs.getD i 0 = 0 := by simp [List.getD_eq_getElem?_getD, h]
/-- One digit more, also behind the end. -/
theorem val_take_succ' {b : Nat} (xs : List Nat) (i : Nat) : val b (xs.take (i + 1)) = val b (xs.take i) + b ^ i * xs.getD i 0 := by
  by_cases h : i < xs.length
  · exact val_take_succ h
  · rw [val_take_all (by omega), val_take_all (by omega), getD_ge (by omega)]; simp
theorem val_drop' {b : Nat} (xs : List Nat) (i : Nat) : val b (xs.drop i) = xs.getD i 0 + b * val b (xs.drop (i + 1)) := by
  by_cases h : i < xs.length
  · exact val_drop h
  · rw [List.drop_eq_nil_of_le (by omega), List.drop_eq_nil_of_le (by omega), getD_ge (by omega)]; simp [val]
theorem val_set_drop {b : Nat} {xs : List Nat} {i d : Nat} (h : i < xs.length) : val b ((xs.set i d).drop i) = d + b * val b (xs.drop (i + 1)) := by
  rw [val_drop (by simpa using h), getD_set h, List.drop_set_of_lt (by omega)]
end Go.Fw
namespace Go.Fw
/-- The bases. -/
abbrev B32 : Nat := 4294967296
abbrev B24 : Nat := 16777216
/-- A number as the program's natural. -/
def natC (n : Nat) : CV := .lst (dig B32 n).length (u32s (dig B32 n))
/-- A number as the reference's natural. -/
def natR (n : Nat) : CV := .lst (dig B24 n).length (i64s (dig B24 n))
theorem pcallQ_eq {P : Program} {f : FuncId} {args : List CV} {v : CV} (h : PCallQ P f args (fun x => x = v)) : PCall P f args v := h
theorem w64 {n : Int} (h : -9223372036854775808 ≤ n ∧ n ≤ 9223372036854775807) : IntKind.i64.wrap n = n := IntWalk.i64_in n h
theorem natC_eq {xs : List Nat} (h : Dig B32 xs) : CV.lst (tz xs).length (u32s (tz xs)) = natC (val B32 xs) := by rw [natC, tz_eq_dig (by decide) xs h]
theorem natR_eq {xs : List Nat} (h : Dig B24 xs) : CV.lst (tz xs).length (i64s (tz xs)) = natR (val B24 xs) := by rw [natR, tz_eq_dig (by decide) xs h]
theorem eq_concat_of_pos {xs : List Nat} (h : xs ≠ []) : xs = xs.take (xs.length - 1) ++ [xs.getD (xs.length - 1) 0] := by
  have h1 : xs.length - 1 < xs.length := by have := List.length_pos_iff.2 h; omega
  conv => lhs; rw [← List.take_length (l := xs), show xs.length = xs.length - 1 + 1 by omega]
  exact take_succ_getD h1
end Go.Fw
namespace Go.Fw

/-- The string with bytes, the last one first. -/
def strOf (ls : List Nat) : ByteArray := ⟨(ls.reverse.map UInt8.ofNat).toArray⟩
/-- The bytes of a string, the last one first. -/
def lows (s : ByteArray) : List Nat := (s.data.toList.map UInt8.toNat).reverse
/-- The bytes of a number. -/
def bytesOf (n : Nat) : ByteArray := strOf (dig 256 n)
/-- The number with bytes. -/
def strVal (s : ByteArray) : Nat := val 256 (lows s)

theorem lows_dig (s : ByteArray) : Dig 256 (lows s) := by
  intro x hx
  simp only [lows, List.mem_reverse, List.mem_map] at hx
  obtain ⟨y, _, rfl⟩ := hx
  exact y.toNat_lt
theorem lows_length (s : ByteArray) : (lows s).length = s.size := by simp [lows]
theorem strOf_lows (s : ByteArray) : strOf (lows s) = s := by
  cases s with
  | mk d =>
    simp only [strOf, lows, List.reverse_reverse, List.map_map]
    congr
    have : (UInt8.ofNat ∘ UInt8.toNat) = id := by funext x; simp
    rw [this, List.map_id]
theorem lows_strOf {ls : List Nat} (h : Dig 256 ls) : lows (strOf ls) = ls := by
  simp only [lows, strOf]
  rw [List.map_map, ← List.map_reverse, List.reverse_reverse]
  conv => rhs; rw [← List.map_id ls]
  refine List.map_congr_left fun x hx => ?_
  have := h x hx
  simp only [Function.comp_apply, id, UInt8.toNat_ofNat']
  omega
theorem strOf_size (ls : List Nat) : (strOf ls).size = ls.length := by simp [strOf, ByteArray.size]
theorem strOf_nil : strOf [] = ⟨#[]⟩ := rfl
theorem bytes_eq {a b : ByteArray} (h : a.data.toList = b.data.toList) : a = b := by
  cases a; cases b; congr; exact Array.ext' h
theorem strOf_inj {a b : List Nat} (ha : Dig 256 a) (hb : Dig 256 b) (h : strOf a = strOf b) : a = b := by rw [← lows_strOf ha, h, lows_strOf hb]
theorem strOf_extract (ls : List Nat) (x : Nat) : (strOf (ls ++ [x])).extract 1 (ls.length + 1) = strOf ls := by
  apply bytes_eq
  simp only [strOf, ByteArray.data_extract, Array.toList_extract, List.reverse_append, List.reverse_cons, List.reverse_nil, List.nil_append, List.singleton_append, List.map_cons, List.extract_eq_take_drop, List.drop_succ_cons, List.drop_zero, Nat.add_sub_cancel]
  rw [List.take_of_length_le (by simp)]
theorem strOf_first (ls : List Nat) (x : Nat) : (strOf (ls ++ [x])).data.getD 0 0 = UInt8.ofNat x := by simp [strOf]
theorem strOf_toList (ls : List Nat) : (strOf ls).toList = ls.reverse.map UInt8.ofNat := by rw [strOf, ByteArray.toList_mk]
theorem toList_nil_iff (s : ByteArray) : (s.toList == []) = decide (s.size = 0) := by
  rw [ByteArray.toList_eq]
  have : s.size = s.data.toList.length := by simp
  rw [this]
  cases s.data.toList <;> simp
theorem toList_eq_iff (s t : ByteArray) : (s.toList == t.toList) = decide (s = t) := by
  rw [ByteArray.toList_eq, ByteArray.toList_eq]
  by_cases h : s = t
  · subst h; simp
  · simp only [h, decide_false]
    rw [beq_eq_false_iff_ne]
    intro e
    exact h (bytes_eq e)
theorem strVal_strOf {ls : List Nat} (h : Dig 256 ls) : strVal (strOf ls) = val 256 ls := by rw [strVal, lows_strOf h]
theorem strVal_bytesOf (n : Nat) : strVal (bytesOf n) = n := by rw [bytesOf, strVal_strOf (dig_lt (by decide) n), val_dig (by decide)]
theorem bytesOf_zero : bytesOf 0 = ⟨#[]⟩ := rfl
theorem bytesOf_size (n : Nat) : (bytesOf n).size = (dig 256 n).length := strOf_size _
theorem bytesOf_inj {m n : Nat} (h : bytesOf m = bytesOf n) : m = n := by rw [← strVal_bytesOf m, h, strVal_bytesOf]
theorem bytesOf_size_zero {n : Nat} : (bytesOf n).size = 0 ↔ n = 0 := by rw [bytesOf_size]; exact dig_length_eq_zero (by decide)
theorem strVal_lt (s : ByteArray) : strVal s < 256 ^ s.size := by rw [strVal, ← lows_length]; exact val_lt (by decide) _ (lows_dig s)
theorem tz_lows (s : ByteArray) : strOf (tz (lows s)) = bytesOf (strVal s) := by rw [tz_eq_dig (by decide) _ (lows_dig s)]; rfl
theorem lows_get (s : ByteArray) {i : Nat} (h : i < s.size) : (lows s).getD i 0 = (s.data.getD (s.size - 1 - i) 0).toNat := by
  have hs : s.size = s.data.size := rfl
  simp only [lows, List.getD_eq_getElem?_getD]
  rw [List.getElem?_reverse (by simp; omega)]
  simp only [List.length_map, Array.length_toList, List.getElem?_map, Array.getElem?_toList]
  rw [Array.getElem?_eq_getElem (by omega)]
  simp [Array.getD, show s.size - 1 - i < s.size by omega]
theorem eq_strOf_concat {s : ByteArray} (h : s.size ≠ 0) : ∃ ls x, Dig 256 ls ∧ x < 256 ∧ s = strOf (ls ++ [x]) := by
  have hl : lows s ≠ [] := by intro e; have := lows_length s; rw [e] at this; simp at this; omega
  have hc := eq_concat_of_pos hl
  refine ⟨(lows s).take ((lows s).length - 1), (lows s).getD ((lows s).length - 1) 0, (lows_dig s).take _, (lows_dig s).get (by decide) _, ?_⟩
  rw [← hc, strOf_lows]
end Go.Fw
set_option maxRecDepth 10000
namespace Go.Fw

theorem pow32_pos (n : Nat) : 0 < B32 ^ n := Nat.pow_pos (by decide)

/-- Any digit is set. -/
theorem digN_put {b : Nat} (hb : 0 < b) (m n j x : Nat) (hj : j < m) (hx : x < b) : (digN b m n).set j x = digN b m (n - n / b ^ j % b * b ^ j + x * b ^ j) := by
  have hp : 0 < b ^ j := Nat.pow_pos hb
  have hle : n / b ^ j % b * b ^ j ≤ n := Nat.le_trans (Nat.mul_le_mul_right _ (Nat.mod_le _ _)) (Nat.div_mul_le_self _ _)
  have key : (digN b m n) = (digN b m (n - n / b ^ j % b * b ^ j)).set j (n / b ^ j % b) := by
    have h0 : (n - n / b ^ j % b * b ^ j) / b ^ j % b = 0 := by
      have e : n - n / b ^ j % b * b ^ j = n % b ^ j + b * (n / b ^ j / b) * b ^ j := by
        have h1 := Nat.mod_add_div n (b ^ j)
        have h2 := Nat.mod_add_div (n / b ^ j) b
        have h3 : b ^ j * (n / b ^ j) = (n / b ^ j % b) * b ^ j + b * (n / b ^ j / b) * b ^ j := by rw [← Nat.add_mul, h2, Nat.mul_comm]
        omega
      rw [e, Nat.add_mul_div_right _ _ hp, Nat.div_eq_of_lt (Nat.mod_lt _ hp), Nat.zero_add, Nat.mul_mod_right]
    have := digN_set hb m (n - n / b ^ j % b * b ^ j) j (n / b ^ j % b) hj (by rw [h0, Nat.zero_add]; exact Nat.mod_lt _ hb)
    rw [h0, Nat.zero_add] at this
    rw [this]
    congr 1; omega
  have h0 : (n - n / b ^ j % b * b ^ j) / b ^ j % b = 0 := by
    have e : n - n / b ^ j % b * b ^ j = n % b ^ j + b * (n / b ^ j / b) * b ^ j := by
      have h1 := Nat.mod_add_div n (b ^ j)
      have h2 := Nat.mod_add_div (n / b ^ j) b
      have h3 : b ^ j * (n / b ^ j) = (n / b ^ j % b) * b ^ j + b * (n / b ^ j / b) * b ^ j := by rw [← Nat.add_mul, h2, Nat.mul_comm]
      omega
    rw [e, Nat.add_mul_div_right _ _ hp, Nat.div_eq_of_lt (Nat.mod_lt _ hp), Nat.zero_add, Nat.mul_mod_right]
  have hs := digN_set hb m (n - n / b ^ j % b * b ^ j) j x hj (by rw [h0, Nat.zero_add]; exact hx)
  rw [h0, Nat.zero_add] at hs
  rw [key, List.set_set, hs]

/-- The guess of a quotient's digit. -/
structure Guess (U V v1 v2 top u2 p : Nat) : Prop where
  hp : 0 < p
  hU : ∃ ul, ul < p ∧ U = (top * B32 + u2) * p + ul
  hV : ∃ vl, vl < p ∧ V = (v1 * B32 + v2) * p + vl
  hv1 : 2147483648 ≤ v1
  hv1' : v1 < B32
  hv2 : v2 < B32
  hu2 : u2 < B32
  hlt : U < V * B32

namespace Guess
variable {U V v1 v2 top u2 p : Nat} (g : Guess U V v1 v2 top u2 p)
include g

theorem vpos : 0 < V := by
  obtain ⟨vl, _, e⟩ := g.hV
  have h1 := g.hv1
  have hp := g.hp
  have : 0 < (v1 * B32 + v2) * p := Nat.mul_pos (by simp only [B32]; omega) hp
  omega

theorem top_le : top ≤ v1 * B32 + (B32 - 1) := by
  obtain ⟨ul, hul, eU⟩ := g.hU
  obtain ⟨vl, hvl, eV⟩ := g.hV
  have hlt := g.hlt
  have hp := g.hp
  have hv2 := g.hv2
  have h1 : top * B32 * p ≤ U := by rw [eU, Nat.add_mul]; omega
  have h2 : V < (v1 + 1) * B32 * p := by
    rw [eV]
    calc (v1 * B32 + v2) * p + vl < (v1 * B32 + v2) * p + p := by omega
      _ = (v1 * B32 + v2 + 1) * p := by rw [Nat.add_mul _ 1, Nat.one_mul]
      _ ≤ (v1 + 1) * B32 * p := Nat.mul_le_mul_right _ (by rw [Nat.add_mul]; omega)
  have h3 : top * (B32 * p) < (v1 + 1) * B32 * (B32 * p) := by
    calc top * (B32 * p) = top * B32 * p := (Nat.mul_assoc _ _ _).symm
      _ ≤ U := h1
      _ < V * B32 := hlt
      _ ≤ (v1 + 1) * B32 * p * B32 := Nat.mul_le_mul_right _ (by omega)
      _ = (v1 + 1) * B32 * (B32 * p) := by rw [Nat.mul_assoc ((v1+1)*B32), Nat.mul_comm p]
  have h4 := Nat.lt_of_mul_lt_mul_right h3
  rw [Nat.add_mul] at h4
  simp only [B32] at *; omega

theorem quot_lt : U / V < B32 := by rw [Nat.div_lt_iff_lt_mul g.vpos, Nat.mul_comm]; exact g.hlt

/-- The quotient is at most that of the first digits. -/
theorem quot_le : U / V * (v1 * B32 + v2) ≤ top * B32 + u2 := by
  obtain ⟨ul, hul, eU⟩ := g.hU
  obtain ⟨vl, hvl, eV⟩ := g.hV
  have h1 : U / V * V ≤ U := Nat.div_mul_le_self _ _
  have h2 : U / V * (v1 * B32 + v2) * p < (top * B32 + u2 + 1) * p := by
    calc U / V * (v1 * B32 + v2) * p = U / V * ((v1 * B32 + v2) * p) := Nat.mul_assoc _ _ _
      _ ≤ U / V * V := Nat.mul_le_mul_left _ (by omega)
      _ ≤ U := h1
      _ < (top * B32 + u2) * p + p := by omega
      _ = (top * B32 + u2 + 1) * p := by rw [Nat.add_mul _ 1, Nat.one_mul]
  have := Nat.lt_of_mul_lt_mul_right h2
  exact Nat.lt_succ_iff.1 this

/-- The guess is too great by one at most. -/
theorem le_succ {q : Nat} (hq : q < B32) (h : q * (v1 * B32 + v2) ≤ top * B32 + u2) : q ≤ U / V + 1 := by
  obtain ⟨ul, hul, eU⟩ := g.hU
  obtain ⟨vl, hvl, eV⟩ := g.hV
  have hv1 := g.hv1
  have hqp : q * p ≤ V := by
    calc q * p ≤ (v1 * B32 + v2) * p := Nat.mul_le_mul_right _ (by simp only [B32] at *; omega)
      _ ≤ V := by omega
  have h1 : q * V ≤ U + V := by
    calc q * V ≤ q * ((v1 * B32 + v2) * p + p) := Nat.mul_le_mul_left _ (by omega)
      _ = q * (v1 * B32 + v2) * p + q * p := by rw [Nat.mul_add, Nat.mul_assoc]
      _ ≤ (top * B32 + u2) * p + V := Nat.add_le_add (Nat.mul_le_mul_right _ h) hqp
      _ ≤ U + V := by omega
  cases q with
  | zero => exact Nat.zero_le _
  | succ q =>
    have h2 : q * V ≤ U := by rw [Nat.succ_mul] at h1; omega
    exact Nat.succ_le_succ ((Nat.le_div_iff_mul_le g.vpos).2 h2)

end Guess

/-- The state of the loop that corrects the guess. -/
structure Corr (U V v1 v2 top u2 q r : Nat) : Prop where
  eq : q * v1 + r = top
  le : U / V ≤ q
  up : q ≤ B32 + 1
  rest : r < B32

namespace Corr
variable {U V v1 v2 top u2 p q r : Nat}

theorem start (g : Guess U V v1 v2 top u2 p) : Corr U V v1 v2 top u2 (top / v1) (top % v1) := by
  have h1 := g.hv1
  have ht := g.top_le
  have hle : U / V ≤ top / v1 := by
    rw [Nat.le_div_iff_mul_le (by omega)]
    have := g.quot_le
    have h2 : U / V * v1 * B32 < (top + 1) * B32 := by
      calc U / V * v1 * B32 = U / V * (v1 * B32) := Nat.mul_assoc _ _ _
        _ ≤ U / V * (v1 * B32 + v2) := Nat.mul_le_mul_left _ (by omega)
        _ ≤ top * B32 + u2 := this
        _ < (top + 1) * B32 := by rw [Nat.add_mul]; have := g.hu2; omega
    have := Nat.lt_of_mul_lt_mul_right h2
    exact Nat.lt_succ_iff.1 this
  refine ⟨?_, hle, ?_, ?_⟩
  · rw [Nat.mul_comm]; exact Nat.div_add_mod _ _
  · rw [← Nat.lt_succ_iff, Nat.div_lt_iff_lt_mul (by omega)]
    simp only [B32] at *; omega
  · have := Nat.mod_lt top (by omega : 0 < v1)
    have := g.hv1'
    omega

/-- The guess is right, or too great by one. -/
theorem done (g : Guess U V v1 v2 top u2 p) (c : Corr U V v1 v2 top u2 q r) (h1 : q < B32) (h2 : q * v2 ≤ r * B32 + u2) : q = U / V ∨ q = U / V + 1 := by
  have h3 : q * (v1 * B32 + v2) ≤ top * B32 + u2 := by
    have e1 : top * B32 = q * v1 * B32 + r * B32 := by rw [← c.eq, Nat.add_mul]
    rw [e1, Nat.mul_add, ← Nat.mul_assoc]; omega
  have k1 := g.le_succ h1 h3
  have k2 := c.le
  generalize U / V = Q at *
  omega

theorem pred_le (g : Guess U V v1 v2 top u2 p) (c : Corr U V v1 v2 top u2 q r) (h : B32 ≤ q ∨ r * B32 + u2 < q * v2) : U / V < q := by
  rcases h with h | h
  · exact Nat.lt_of_lt_of_le g.quot_lt h
  · have hq := g.quot_le
    have h3 : top * B32 + u2 < q * (v1 * B32 + v2) := by
      have e1 : top * B32 = q * v1 * B32 + r * B32 := by rw [← c.eq, Nat.add_mul]
      rw [e1, Nat.mul_add, ← Nat.mul_assoc]
      rw [Nat.add_assoc]
      exact Nat.add_lt_add_left h _
    have h4 : ∀ k : Nat, U / V * k ≤ top * B32 + u2 → top * B32 + u2 < q * k → U / V < q := fun k a b => Nat.lt_of_mul_lt_mul_right (Nat.lt_of_le_of_lt a b)
    exact h4 _ hq h3

theorem step (g : Guess U V v1 v2 top u2 p) (c : Corr U V v1 v2 top u2 q r) (h : B32 ≤ q ∨ r * B32 + u2 < q * v2) (hr : r + v1 < B32) : Corr U V v1 v2 top u2 (q - 1) (r + v1) := by
  have hq := c.pred_le g h
  have e := c.eq
  have up := c.up
  refine ⟨?_, Nat.le_sub_one_of_lt hq, by omega, hr⟩
  have hq1 : 1 ≤ q := Nat.lt_of_le_of_lt (Nat.zero_le _) hq
  obtain ⟨q', rfl⟩ : ∃ q', q = q' + 1 := ⟨q - 1, by omega⟩
  rw [Nat.add_mul, Nat.one_mul] at e
  simp only [Nat.add_sub_cancel]
  omega

theorem last (g : Guess U V v1 v2 top u2 p) (c : Corr U V v1 v2 top u2 q r) (h : B32 ≤ q ∨ r * B32 + u2 < q * v2) (hr : B32 ≤ r + v1) : q - 1 < B32 ∧ (q - 1 = U / V ∨ q - 1 = U / V + 1) := by
  have hq := c.pred_le g h
  have e := c.eq
  have ht := g.top_le
  have hu := c.up
  have hv2 := g.hv2
  have hlt : q ≤ B32 := by
    rcases Nat.lt_or_ge q (B32 + 1) with h | h
    · omega
    · have : q = B32 + 1 := by omega
      subst this
      rw [Nat.add_mul, Nat.one_mul, Nat.mul_comm B32] at e
      omega
  have hls : ∀ q, q < B32 → q * (v1 * B32 + v2) ≤ top * B32 + u2 → q ≤ U / V + 1 := fun q a b => g.le_succ a b
  clear g c
  generalize U / V = Q at *
  obtain ⟨q', rfl⟩ : ∃ q', q = q' + 1 := ⟨q - 1, by omega⟩
  refine ⟨by omega, ?_⟩
  simp only [Nat.add_sub_cancel]
  have hq' : q' < B32 := by omega
  have h2 : q' * v2 ≤ (r + v1) * B32 + u2 := by
    calc q' * v2 ≤ B32 * B32 := Nat.mul_le_mul (by omega) (by omega)
      _ ≤ (r + v1) * B32 := Nat.mul_le_mul_right _ hr
      _ ≤ _ := Nat.le_add_right _ _
  have h3 : q' * (v1 * B32 + v2) ≤ top * B32 + u2 := by
    rw [Nat.add_mul, Nat.one_mul] at e
    rw [← e, Nat.mul_add, ← Nat.mul_assoc]
    have : (q' * v1 + v1 + r) * B32 = q' * v1 * B32 + (r + v1) * B32 := by
      rw [← Nat.add_mul]; congr 1; omega
    omega
  have := hls q' hq' h3
  omega
end Corr

/-- One step of the subtraction of a multiple. -/
theorem sub_step (W Wi q vi x P Pj c b d s c2 b2 new : Nat) (hinv : Wi + q * vi * Pj = W + (c + b) * P)
    (hP : ∃ Pi, P = Pj * Pi) (hs : c + q * x = s + B32 * c2) (hn : new + s + b = d + b2 * B32) (hd : d * P ≤ Wi) (Pi : Nat) (hPi : P = Pj * Pi) :
    (Wi - d * P + new * P) + q * (vi + Pi * x) * Pj = W + (c2 + b2) * (P * B32) := by
  have e1 : q * (vi + Pi * x) * Pj = q * vi * Pj + q * x * P := by
    rw [Nat.mul_add, Nat.add_mul, hPi]
    congr 1
    rw [← Nat.mul_assoc q, Nat.mul_assoc _ _ Pj, Nat.mul_assoc q Pi, Nat.mul_comm Pi (x * Pj), Nat.mul_assoc x, ← Nat.mul_assoc q]
  have e2 : (c2 + b2) * (P * B32) = B32 * c2 * P + b2 * B32 * P := by
    rw [Nat.add_mul]; congr 1 <;> (rw [Nat.mul_comm P, ← Nat.mul_assoc]; try rw [Nat.mul_comm c2])
  have e3 : (c + q * x) * P = (s + B32 * c2) * P := by rw [hs]
  have e4 : (new + s + b) * P = (d + b2 * B32) * P := by rw [hn]
  rw [e1, e2]
  simp only [Nat.add_mul] at *
  omega
end Go.Fw
open Go
namespace Go.Fw
set_option maxRecDepth 100000

theorem Add32_p1 (x : Int) (y : Int) (z : Int) : PCall P (255 : FuncId) [CV.lit (Value.int IntKind.u32 x), CV.lit (Value.int IntKind.u32 y), CV.lit (Value.int IntKind.u32 z)] (CV.tup [CV.lit (Value.int IntKind.u32 (IntKind.u32.wrap (IntKind.u64.wrap (IntKind.u64.wrap (IntKind.u64.wrap x + IntKind.u64.wrap y) + IntKind.u64.wrap z)))), CV.lit (Value.int IntKind.u32 (IntKind.u32.wrap ((IntKind.u64.wrap (IntKind.u64.wrap (IntKind.u64.wrap x + IntKind.u64.wrap y) + IntKind.u64.wrap z)).fdiv (4294967296 : Int))))]) :=
  pcallR (ors := []) (by kernel_rfl) (.cons (show (0 : Int) ≤ (32 : Int) from (by decide)) .nil)
theorem Sub32_p1 (x : Int) (y : Int) (z : Int) : PCall P (257 : FuncId) [CV.lit (Value.int IntKind.u32 x), CV.lit (Value.int IntKind.u32 y), CV.lit (Value.int IntKind.u32 z)] (CV.tup [CV.lit (Value.int IntKind.u32 (IntKind.u32.wrap (IntKind.u32.wrap (x - y) - z))), CV.lit (Value.int IntKind.u32 ((bitsM BinOp.or IntKind.u32 (bitsM BinOp.and IntKind.u32 (bitsM BinOp.xor IntKind.u32 (4294967295 : Int) x) y) (bitsM BinOp.and IntKind.u32 (bitsM BinOp.xor IntKind.u32 (4294967295 : Int) (bitsM BinOp.xor IntKind.u32 x y)) (IntKind.u32.wrap (IntKind.u32.wrap (x - y) - z)))).fdiv (2147483648 : Int)))]) :=
  pcallR (ors := []) (by kernel_rfl) (.cons (show (0 : Int) ≤ (31 : Int) from (by decide)) .nil)
theorem Div32_p1 (x : Int) (y : Int) (z : Int) (hz : (z != (0 : Int)) = true) (hx : decide (z ≤ x) = false) (o3 : IntKind.u64.wrap z ≠ (0 : Int)) (o4 : IntKind.u64.wrap z ≠ (0 : Int)) : PCall P (269 : FuncId) [CV.lit (Value.int IntKind.u32 x), CV.lit (Value.int IntKind.u32 y), CV.lit (Value.int IntKind.u32 z)] (CV.tup [CV.lit (Value.int IntKind.u32 (IntKind.u32.wrap (IntKind.u64.wrap ((bitsM BinOp.or IntKind.u64 (IntKind.u64.wrap (IntKind.u64.wrap x * (4294967296 : Int))) (IntKind.u64.wrap y)).tdiv (IntKind.u64.wrap z))))), CV.lit (Value.int IntKind.u32 (IntKind.u32.wrap ((bitsM BinOp.or IntKind.u64 (IntKind.u64.wrap (IntKind.u64.wrap x * (4294967296 : Int))) (IntKind.u64.wrap y)).tmod (IntKind.u64.wrap z))))]) :=
  pcallR (ors := [(4, Or.b true), (9, Or.b false)]) (by kernel_rfl) (.cons hz (.cons hx (.cons (show (0 : Int) ≤ (32 : Int) from (by decide)) (.cons o3 (.cons o4 .nil)))))
theorem Mul32_p1 (x : Int) (y : Int) : PCall P (267 : FuncId) [CV.lit (Value.int IntKind.u32 x), CV.lit (Value.int IntKind.u32 y)] (CV.tup [CV.lit (Value.int IntKind.u32 (IntKind.u32.wrap ((IntKind.u64.wrap (IntKind.u64.wrap x * IntKind.u64.wrap y)).fdiv (4294967296 : Int)))), CV.lit (Value.int IntKind.u32 (IntKind.u32.wrap (IntKind.u64.wrap (IntKind.u64.wrap x * IntKind.u64.wrap y))))]) :=
  pcallR (ors := []) (by kernel_rfl) (.cons (show (0 : Int) ≤ (32 : Int) from (by decide)) .nil)
end Go.Fw
