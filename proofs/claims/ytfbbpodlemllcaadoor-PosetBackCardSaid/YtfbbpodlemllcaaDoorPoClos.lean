/-
  Orders: the least order with given pairs: plain law, no program in sight.
-/
import Derived.Test.YtfbbpodlemllcaaDoorPoPdef
import Derived.Test.YtfbbpodlemllcaaDoorPoAsks2
namespace Go.Proofs.YtfbbpodlemllcaaDoor
open Go.RowKit Go.Shelf
set_option linter.unusedVariables false
set_option linter.unusedSimpArgs false
/-- Step by step. -/
inductive Way (E : Nat → Nat → Prop) : Nat → Nat → Prop
  | refl (a : Nat) : Way E a a
  | step {a b c : Nat} : Way E a b → E b c → Way E a c
theorem Way.trans {E : Nat → Nat → Prop} {a b c : Nat} (h : Way E a b) (k : Way E b c) : Way E a c := by
  induction k with
  | refl => exact h
  | step _ e ih => exact ih.step e
theorem Way.one {E : Nat → Nat → Prop} {a b : Nat} (h : E a b) : Way E a b := (Way.refl a).step h
theorem Way.mono {E E' : Nat → Nat → Prop} {a b : Nat} (h : Way E a b) (k : ∀ a b, E a b → E' a b) : Way E' a b := by
  induction h with
  | refl => exact .refl _
  | step _ e ih => exact ih.step (k _ _ e)
def Edge (pairs : List P2) (a b : Nat) : Prop := ((a : Int), (b : Int)) ∈ pairs
def inRange (n : Int) (p : P2) : Prop := 0 ≤ p.1 ∧ p.1 < n ∧ 0 ≤ p.2 ∧ p.2 < n
def Fit (n : Int) (pairs : List P2) : Prop := 1 ≤ n ∧ n ≤ 64 ∧ ∀ p ∈ pairs, inRange n p
noncomputable def closS (n : Nat) (pairs : List P2) : List Nat := (List.range n).map fun a => maskOf (fun b => tr (Way (Edge pairs) a b)) n
noncomputable def buildS (n : Int) (pairs : List P2) : List Nat × Nat :=
  if tr (Fit n pairs) then (if tr (Ord (closS n.toNat pairs)) then (closS n.toNat pairs, 0) else ([], 9)) else ([], 1)
/-- Is j above i? -/
def bt (up : List Nat) (i j : Nat) : Bool := (up.getD i 0).testBit j
theorem clos_len {n : Nat} {pairs : List P2} : (closS n pairs).length = n := by simp [closS]
theorem clos_get {n : Nat} {pairs : List P2} {i : Nat} (hi : i < n) : (closS n pairs).getD i 0 = maskOf (fun b => tr (Way (Edge pairs) i b)) n := by
  simp [closS, hi]
theorem clos_bt {n : Nat} {pairs : List P2} {i j : Nat} (hi : i < n) : bt (closS n pairs) i j = true ↔ j < n ∧ Way (Edge pairs) i j := by
  unfold bt
  rw [clos_get hi, maskOf_bit, Bool.and_eq_true, decide_eq_true_iff, tr_iff]
theorem clos_small {n : Nat} {pairs : List P2} (hn : n ≤ 64) : Small (closS n pairs) := fun m hm => by
  obtain ⟨a, _, rfl⟩ := List.mem_map.1 hm
  exact maskOf_lt _ n hn
/-- What holds of the masks while they grow. -/
structure Grows (n : Nat) (pairs : List P2) (up : List Nat) : Prop where
  len : up.length = n
  small : Small up
  lt : ∀ i j, bt up i j = true → i < n ∧ j < n
  way : ∀ i j, bt up i j = true → Way (Edge pairs) i j
def Based (n : Nat) (pairs : List P2) (up : List Nat) : Prop := ∀ i, i < n → bt up i i = true ∧ ∀ j, Edge pairs i j → bt up i j = true
def Closed (up : List Nat) : Prop := ∀ i k j, bt up i k = true → bt up k j = true → bt up i j = true
theorem grows_clos {n : Nat} {pairs : List P2} {up : List Nat} (h : Grows n pairs up) (hb : Based n pairs up) (hc : Closed up) : up = closS n pairs := by
  have hw : ∀ i j, i < n → Way (Edge pairs) i j → bt up i j = true := fun i j hi hw => by
    induction hw with
    | refl => exact (hb i hi).1
    | step _ e ih => exact hc _ _ _ ih ((hb _ (h.lt _ _ ih).2).2 _ e)
  refine List.ext_getElem (by rw [h.len, clos_len]) fun i h1 h2 => ?_
  have hi : i < n := by rw [← h.len]; exact h1
  have e1 : up[i] = up.getD i 0 := by simp [h1]
  have e2 : (closS n pairs)[i] = (closS n pairs).getD i 0 := by simp [h2]
  rw [e1, e2]
  apply Nat.eq_of_testBit_eq
  intro j
  show bt up i j = bt (closS n pairs) i j
  rw [Bool.eq_iff_iff, clos_bt hi]
  exact ⟨fun hj => ⟨(h.lt i j hj).2, h.way i j hj⟩, fun hj => hw i j hi hj.2⟩
/-- One mask more. -/
theorem bt_set {up : List Nat} {i m : Nat} (hi : i < up.length) (a b : Nat) : bt (up.set i m) a b = if a = i then m.testBit b else bt up a b := by
  unfold bt
  by_cases h : a = i
  · subst h; rw [if_pos rfl]; simp [hi]
  · rw [if_neg h]; simp [List.getElem?_set, Ne.symm h]
theorem bt_or {m k b : Nat} : (m ||| 2 ^ k).testBit b = (m.testBit b || decide (k = b)) := by rw [Nat.testBit_or, Nat.testBit_two_pow]
theorem small_set {up : List Nat} {i m : Nat} (h : Small up) (hm : m < 18446744073709551616) : Small (up.set i m) := fun x hx => by
  rcases List.mem_or_eq_of_mem_set hx with hx | rfl
  · exact h x hx
  · exact hm
theorem or_lt {m k : Nat} (hm : m < 18446744073709551616) (hk : k < 18446744073709551616) : m ||| k < 18446744073709551616 := Nat.or_lt_two_pow (n := 64) hm hk
theorem pow_lt64 {k : Nat} (hk : k < 64) : 2 ^ k < 18446744073709551616 := by
  have h : 2 ^ k < 2 ^ 64 := Nat.pow_lt_pow_right (by omega) hk
  exact h
/-- Each label alone; the first i of them. -/
def baseI (n i : Nat) : List Nat := (List.range n).map fun j => if j < i then 2 ^ j else 0
theorem baseI_len {n i : Nat} : (baseI n i).length = n := by simp [baseI]
theorem baseI_zero {n : Nat} : baseI n 0 = List.replicate n 0 := by
  refine List.ext_getElem (by simp [baseI]) fun i h1 h2 => by simp [baseI]
theorem baseI_set {n i : Nat} (hi : i < n) : (baseI n i).set i (2 ^ i) = baseI n (i + 1) := by
  refine List.ext_getElem (by simp [baseI]) fun j h1 h2 => ?_
  simp only [baseI, List.getElem_set, List.getElem_map, List.getElem_range]
  by_cases h : i = j
  · subst h; simp
  · rw [if_neg h]
    by_cases h3 : j < i
    · rw [if_pos h3, if_pos (by omega)]
    · rw [if_neg h3, if_neg (by omega)]
theorem baseI_small {n i : Nat} (hn : n ≤ 64) : Small (baseI n i) := fun m hm => by
  obtain ⟨a, ha, rfl⟩ := List.mem_map.1 hm
  have := List.mem_range.1 ha
  split
  · exact pow_lt64 (by omega)
  · decide
theorem base_bt {n : Nat} {i j : Nat} : bt (baseI n n) i j = true ↔ i < n ∧ i = j := by
  unfold bt
  by_cases h : i < n
  · simp [baseI, h, Nat.testBit_two_pow]
  · simp [baseI, h]
theorem base_grows {n : Nat} {pairs : List P2} (hn : n ≤ 64) : Grows n pairs (baseI n n) :=
  ⟨baseI_len, baseI_small hn, fun i j h => by have := base_bt.1 h; omega, fun i j h => by obtain ⟨_, rfl⟩ := base_bt.1 h; exact .refl _⟩
/-- A pair more. -/
def addE (up : List Nat) (p : P2) : List Nat := up.set p.1.toNat (up.getD p.1.toNat 0 ||| 2 ^ p.2.toNat)
theorem addE_len {up : List Nat} {p : P2} : (addE up p).length = up.length := by simp [addE]
theorem addE_bt {up : List Nat} {p : P2} (h : p.1.toNat < up.length) (i j : Nat) : bt (addE up p) i j = (bt up i j || (decide (i = p.1.toNat) && decide (p.2.toNat = j))) := by
  unfold addE
  rw [bt_set h]
  by_cases hi : i = p.1.toNat
  · subst hi; simp [bt, Nat.testBit_or, Nat.testBit_two_pow]
  · simp [hi]
theorem addE_small {up : List Nat} {p : P2} (h : Small up) (hp : p.2.toNat < 64) : Small (addE up p) := small_set h (or_lt (small_get h _) (pow_lt64 hp))
theorem addE_grows {n : Nat} {pairs : List P2} {up : List Nat} {p : P2} (h : Grows n pairs up) (hn : n ≤ 64) (hp : inRange n p) (hm : p ∈ pairs) : Grows n pairs (addE up p) := by
  obtain ⟨h1, h2, h3, h4⟩ := hp
  have hl : p.1.toNat < up.length := by rw [h.len]; omega
  refine ⟨by rw [addE_len, h.len], addE_small h.small (by omega), fun i j hb => ?_, fun i j hb => ?_⟩
  · rw [addE_bt hl, Bool.or_eq_true] at hb
    rcases hb with hb | hb
    · exact h.lt i j hb
    · simp at hb; omega
  · rw [addE_bt hl, Bool.or_eq_true] at hb
    rcases hb with hb | hb
    · exact h.way i j hb
    · simp at hb
      refine Way.one ?_
      show ((i : Int), (j : Int)) ∈ pairs
      obtain ⟨rfl, rfl⟩ := hb
      rw [Int.toNat_of_nonneg h1, Int.toNat_of_nonneg h3]; exact hm
/-- The first k pairs. -/
def addAll (n : Nat) (l : List P2) : List Nat := l.foldl addE (baseI n n)
theorem addAll_snoc {n : Nat} {l : List P2} {p : P2} : addAll n (l ++ [p]) = addE (addAll n l) p := by simp [addAll]
theorem addAll_len {n : Nat} (l : List P2) : (addAll n l).length = n := by
  suffices h : ∀ (l : List P2) (up : List Nat), up.length = n → (l.foldl addE up).length = n from h l _ baseI_len
  intro l
  induction l with
  | nil => intro up h; exact h
  | cons p l ih => intro up h; exact ih _ (by rw [addE_len, h])
theorem addAll_small {n : Nat} {l : List P2} (hn : n ≤ 64) (hl : ∀ p ∈ l, inRange n p) : Small (addAll n l) := by
  suffices h : ∀ (l : List P2) (up : List Nat), (∀ p ∈ l, inRange n p) → Small up → Small (l.foldl addE up) from h l _ hl (baseI_small hn)
  intro l
  induction l with
  | nil => intro up _ h; exact h
  | cons p l ih =>
    intro up hl h
    have hp := hl p (List.mem_cons_self ..)
    exact ih _ (fun q hq => hl q (List.mem_cons_of_mem _ hq)) (addE_small h (by have h4 := hp.2.2.2; omega))
theorem fold_grows {n : Nat} {pairs : List P2} (hn : n ≤ 64) (hf : ∀ p ∈ pairs, inRange n p) : ∀ (l : List P2) (up : List Nat), (∀ p ∈ l, p ∈ pairs) → Grows n pairs up → Grows n pairs (l.foldl addE up)
  | [], up, _, h => h
  | p :: l, up, hl, h => fold_grows hn hf l _ (fun q hq => hl q (List.mem_cons_of_mem _ hq)) (addE_grows h hn (hf p (hl p (List.mem_cons_self ..))) (hl p (List.mem_cons_self ..)))
theorem fold_keeps {n : Nat} : ∀ (l : List P2) (up : List Nat), up.length = n → (∀ p ∈ l, inRange n p) → ∀ i j, bt up i j = true → bt (l.foldl addE up) i j = true
  | [], up, _, _, i, j, h => h
  | p :: l, up, hl, hp, i, j, h => by
    have h1 := hp p (List.mem_cons_self ..)
    have hb := h1.1
    have hb2 := h1.2.1
    refine fold_keeps l _ (by rw [addE_len, hl]) (fun q hq => hp q (List.mem_cons_of_mem _ hq)) i j ?_
    rw [addE_bt (by rw [hl]; omega), h]; rfl
theorem fold_adds {n : Nat} : ∀ (l : List P2) (up : List Nat), up.length = n → (∀ p ∈ l, inRange n p) → ∀ i j, Edge l i j → bt (l.foldl addE up) i j = true
  | [], up, _, _, i, j, h => by simp [Edge] at h
  | p :: l, up, hl, hp, i, j, h => by
    have h1 := hp p (List.mem_cons_self ..)
    have hb := h1.1
    have hb2 := h1.2.1
    rcases List.mem_cons.1 h with rfl | h
    · refine fold_keeps l _ (by rw [addE_len, hl]) (fun q hq => hp q (List.mem_cons_of_mem _ hq)) i j ?_
      rw [addE_bt (by rw [hl]; omega)]; simp
    · exact fold_adds l _ (by rw [addE_len, hl]) (fun q hq => hp q (List.mem_cons_of_mem _ hq)) i j h
theorem addAll_grows {n : Nat} {pairs : List P2} (hn : n ≤ 64) (hf : ∀ p ∈ pairs, inRange n p) : Grows n pairs (addAll n pairs) := fold_grows hn hf _ _ (fun _ h => h) (base_grows hn)
theorem addAll_based {n : Nat} {pairs : List P2} (hf : ∀ p ∈ pairs, inRange n p) : Based n pairs (addAll n pairs) := fun i hi =>
  ⟨fold_keeps _ _ baseI_len hf i i (base_bt.2 ⟨hi, rfl⟩), fun j he => fold_adds _ _ baseI_len hf i j he⟩
/-- One step of the closing: through label k, the first i rows. -/
def wrow (up : List Nat) (k j : Nat) : Nat := if bt up j k then up.getD j 0 ||| up.getD k 0 else up.getD j 0
def wpart (up : List Nat) (k i : Nat) : List Nat := (List.range up.length).map fun j => if j < i then wrow up k j else up.getD j 0
def warsh (up : List Nat) : Nat → List Nat
  | 0 => up
  | k + 1 => wpart (warsh up k) k up.length
theorem wpart_len {up : List Nat} {k i : Nat} : (wpart up k i).length = up.length := by simp [wpart]
theorem warsh_len {up : List Nat} : ∀ k, (warsh up k).length = up.length
  | 0 => rfl
  | k + 1 => by rw [warsh, wpart_len, warsh_len]
theorem wpart_zero {up : List Nat} {k : Nat} : wpart up k 0 = up := by
  refine List.ext_getElem (by simp [wpart]) fun i h1 h2 => by simp [wpart, h2]
theorem wpart_get {up : List Nat} {k i j : Nat} : (wpart up k i).getD j 0 = if j < i ∧ j < up.length then wrow up k j else up.getD j 0 := by
  by_cases h : j < up.length
  · by_cases h2 : j < i
    · simp [wpart, h, h2]
    · simp [wpart, h, h2]
  · rw [if_neg (by omega)]
    simp [wpart, h]
theorem wpart_set {up : List Nat} {k i : Nat} (hi : i < up.length) : (wpart up k i).set i (wrow up k i) = wpart up k (i + 1) := by
  refine List.ext_getElem (by simp [wpart]) fun j h1 h2 => ?_
  simp only [wpart, List.getElem_set, List.getElem_map, List.getElem_range]
  by_cases h : i = j
  · subst h; simp
  · rw [if_neg h]
    by_cases h3 : j < i
    · rw [if_pos h3, if_pos (by omega)]
    · rw [if_neg h3, if_neg (by omega)]
theorem wrow_self {up : List Nat} {k : Nat} : wrow up k k = up.getD k 0 := by
  unfold wrow; split
  · exact Nat.or_self _
  · rfl
/-- What stands in the row of k is as it was. -/
theorem wpart_k {up : List Nat} {k i : Nat} : (wpart up k i).getD k 0 = up.getD k 0 := by
  rw [wpart_get]; split
  · exact wrow_self
  · rfl
theorem wpart_i {up : List Nat} {k i : Nat} : (wpart up k i).getD i 0 = up.getD i 0 := by
  rw [wpart_get, if_neg (by omega)]
theorem wpart_bt {up : List Nat} {k i j : Nat} : bt (wpart up k up.length) i j = (bt up i j || (bt up i k && bt up k j)) := by
  unfold bt
  rw [wpart_get]
  by_cases hi : i < up.length
  · rw [if_pos ⟨hi, hi⟩]
    unfold wrow
    cases hb : bt up i k with
    | true => rw [if_pos rfl, Nat.testBit_or]; rw [show (up.getD i 0).testBit k = true from hb]; rfl
    | false => rw [show (up.getD i 0).testBit k = false from hb]; simp
  · rw [if_neg (by omega)]
    have : up.getD i 0 = 0 := by simp [hi]
    rw [this]; simp
theorem wpart_small {up : List Nat} {k i : Nat} (h : Small up) : Small (wpart up k i) := fun m hm => by
  obtain ⟨j, _, rfl⟩ := List.mem_map.1 hm
  split
  · unfold wrow; split
    · exact or_lt (small_get h _) (small_get h _)
    · exact small_get h _
  · exact small_get h _
theorem warsh_small {up : List Nat} (h : Small up) : ∀ k, Small (warsh up k)
  | 0 => h
  | k + 1 => wpart_small (warsh_small h k)
theorem warsh_grows {n : Nat} {pairs : List P2} {up : List Nat} (h : Grows n pairs up) : ∀ k, Grows n pairs (warsh up k)
  | 0 => h
  | k + 1 => by
    have ih := warsh_grows h k
    have e : ∀ i j, bt (warsh up (k + 1)) i j = (bt (warsh up k) i j || (bt (warsh up k) i k && bt (warsh up k) k j)) := fun i j => by
      rw [warsh, ← warsh_len k, wpart_bt]
    refine ⟨by rw [warsh_len, h.len], warsh_small h.small _, fun i j hb => ?_, fun i j hb => ?_⟩
    · rw [e, Bool.or_eq_true, Bool.and_eq_true] at hb
      rcases hb with hb | ⟨h1, h2⟩
      · exact ih.lt i j hb
      · exact ⟨(ih.lt _ _ h1).1, (ih.lt _ _ h2).2⟩
    · rw [e, Bool.or_eq_true, Bool.and_eq_true] at hb
      rcases hb with hb | ⟨h1, h2⟩
      · exact ih.way i j hb
      · exact (ih.way _ _ h1).trans (ih.way _ _ h2)
theorem warsh_keeps {up : List Nat} {i j : Nat} (h : bt up i j = true) : ∀ k, bt (warsh up k) i j = true
  | 0 => h
  | k + 1 => by rw [warsh, ← warsh_len k, wpart_bt, warsh_keeps h k]; rfl
theorem warsh_closed {up : List Nat} : ∀ k, ∀ i m j, m < k → bt (warsh up k) i m = true → bt (warsh up k) m j = true → bt (warsh up k) i j = true
  | 0, _, _, _, h, _, _ => by omega
  | k + 1, i, m, j, hm, h1, h2 => by
    have ih := warsh_closed (up := up) k
    have e : ∀ i j, bt (warsh up (k + 1)) i j = (bt (warsh up k) i j || (bt (warsh up k) i k && bt (warsh up k) k j)) := fun i j => by
      rw [warsh, ← warsh_len k, wpart_bt]
    rw [e, Bool.or_eq_true, Bool.and_eq_true] at h1 h2 ⊢
    by_cases hk : m = k
    · subst hk
      have h3 : bt (warsh up m) i m = true := by rcases h1 with h1 | h1; exact h1; exact h1.1
      have h4 : bt (warsh up m) m j = true := by rcases h2 with h2 | h2; exact h2; exact h2.2
      exact .inr ⟨h3, h4⟩
    · have hlt : m < k := by omega
      rcases h1 with h1 | ⟨h1, h1'⟩
      · rcases h2 with h2 | ⟨h2, h2'⟩
        · exact .inl (ih i m j hlt h1 h2)
        · exact .inr ⟨ih i m k hlt h1 h2, h2'⟩
      · rcases h2 with h2 | ⟨h2, h2'⟩
        · exact .inr ⟨h1, ih k m j hlt h1' h2⟩
        · exact .inr ⟨h1, h2'⟩
theorem warsh_clos {n : Nat} {pairs : List P2} {up : List Nat} (h : Grows n pairs up) (hb : Based n pairs up) : warsh up n = closS n pairs :=
  grows_clos (warsh_grows h n) (fun i hi => ⟨warsh_keeps (hb i hi).1 n, fun j he => warsh_keeps ((hb i hi).2 j he) n⟩)
    (fun i m j h1 h2 => warsh_closed n i m j ((warsh_grows h n).lt _ _ h1).2 h1 h2)
/-- Closed as far as it has been looked at: nothing is left to set. -/
theorem closed_of {n : Nat} {pairs : List P2} {up : List Nat} (h : Grows n pairs up) (hc : ∀ i k j, i < n → k < n → j < n → bt up i k = true → bt up k j = true → bt up i j = true) : Closed up := fun i k j h1 h2 =>
  hc i k j (h.lt _ _ h1).1 (h.lt _ _ h2).1 (h.lt _ _ h2).2 h1 h2
theorem setB_grows {n : Nat} {pairs : List P2} {up : List Nat} (h : Grows n pairs up) (hn : n ≤ 64) {a b c : Nat} (h1 : bt up a b = true) (h2 : bt up b c = true) : Grows n pairs (up.set a (up.getD a 0 ||| 2 ^ c)) := by
  have ha := (h.lt _ _ h1).1
  have hc := (h.lt _ _ h2).2
  have hl : a < up.length := by rw [h.len]; exact ha
  refine ⟨by simp [h.len], small_set h.small (or_lt (small_get h.small _) (pow_lt64 (by omega))), fun i j hb => ?_, fun i j hb => ?_⟩
  · rw [bt_set hl] at hb
    by_cases hi : i = a
    · subst hi
      rw [if_pos rfl, bt_or, Bool.or_eq_true, decide_eq_true_iff] at hb
      rcases hb with hb | rfl
      · exact h.lt i j hb
      · exact ⟨ha, hc⟩
    · rw [if_neg hi] at hb; exact h.lt i j hb
  · rw [bt_set hl] at hb
    by_cases hi : i = a
    · subst hi
      rw [if_pos rfl, bt_or, Bool.or_eq_true, decide_eq_true_iff] at hb
      rcases hb with hb | rfl
      · exact h.way i j hb
      · exact (h.way _ _ h1).trans (h.way _ _ h2)
    · rw [if_neg hi] at hb; exact h.way i j hb
theorem setB_keeps {up : List Nat} {a c i j : Nat} (ha : a < up.length) (h : bt up i j = true) : bt (up.set a (up.getD a 0 ||| 2 ^ c)) i j = true := by
  rw [bt_set ha]
  by_cases hi : i = a
  · subst hi; rw [if_pos rfl, bt_or, show (up.getD i 0).testBit j = true from h]; rfl
  · rw [if_neg hi]; exact h
/-- How far it is from the end. -/
def gap (up : List Nat) : Nat := (up.map fun m => 18446744073709551616 - m).sum
theorem gap_set : ∀ (up : List Nat) (i m : Nat), i < up.length → up.getD i 0 < m → m < 18446744073709551616 → gap (up.set i m) < gap up
  | [], i, m, h, _, _ => by simp at h
  | x :: xs, 0, m, _, h, hm => by simp [gap] at h ⊢; omega
  | x :: xs, i + 1, m, h, hx, hm => by
    have := gap_set xs i m (by simpa using h) (by simpa using hx) hm
    simp [gap] at this ⊢; omega
theorem or_gt {m c : Nat} (h : m.testBit c = false) : m < m ||| 2 ^ c := by
  have h1 : m ≤ m ||| 2 ^ c := Nat.left_le_or
  have h2 : m ≠ m ||| 2 ^ c := fun e => by
    have : (m ||| 2 ^ c).testBit c = true := by rw [bt_or]; simp
    rw [← e, h] at this; cases this
  omega
/-- The cells of a list of masks: one set. -/
theorem flat_set (l : List Nat) (i m : Nat) : (flat encM l).toArray.set! i (.int .u64 (m : Int)) = (flat encM (l.set i m)).toArray := by
  have h : ∀ l : List Nat, flat encM l = l.map fun (m : Nat) => Value.int .u64 (m : Int) := fun l => by
    induction l with
    | nil => rfl
    | cons x xs ih => simp [flat, encM] at ih ⊢; exact ih
  rw [h, h, List.map_set]
  simp [Array.set!]
theorem flat_repl (n : Nat) : (flat encM (List.replicate n 0)) = List.replicate n (.int .u64 0) := by
  have h : ∀ l : List Nat, flat encM l = l.map fun (m : Nat) => Value.int .u64 (m : Int) := fun l => by
    induction l with
    | nil => rfl
    | cons x xs ih => simp [flat, encM] at ih ⊢; exact ih
  rw [h, List.map_replicate]; rfl
end Go.Proofs.YtfbbpodlemllcaaDoor
