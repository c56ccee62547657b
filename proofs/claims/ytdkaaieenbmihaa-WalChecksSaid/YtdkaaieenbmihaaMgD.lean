/-
  Contracts of functions that the laws of this chapter reach, joined.
-/
import Derived.Below
import Derived.Deep.Draws
import Derived.Deep.AppendLies
import Derived.Maps.AppendAt
import Derived.OwnWalk
import Derived.Laws.BytesArg
import Derived.Laws.MakeOwn
import Derived.Laws.OwnMore
import Derived.Deep.OwnRows
import Derived.Tactics
import Derived.Lib.ConvBytes
import Derived.Laws.Slices
import Derived.WalkKit
import Derived.KernelRfl
import Derived.RowKit3
import Derived.Deep.LoopGhost
import Derived.Deep.QuietTactic
import Derived.BigQuiet
import Derived.WideLaws
import Derived.Deep.DeepCutAuto
import Derived.Deep.CutBlock
import Derived.Deep.RegionHeld3
import Derived.Laws.Rows
import Derived.Lib.AppendStr
import Derived.ArgAppend
import Derived.Laws.IdiomCopy
import Derived.RowKit
import Derived.OrdersHeld
import Derived.Laws.BitsLemmas
import Derived.Laws.StructEq
import Derived.Test.YtdkaaieenbmihaaProg
import Derived.Test.YtdkaaieenbmihaaMgC
set_option linter.unusedVariables false
set_option linter.unusedSimpArgs false
-- PRINTED WORDS (module Derived/Print/Words.lean): go-wishes' parts 1 to 38 and go-gate-2's additions: AI agents of Go's test side, Mon Nov 16 2026; no person has read them. Plain theorems and definitions: no macro, no elab, no axiom.
namespace Go.Proofs.YtdkaaieenbmihaaW.PrintWords
open Go.RowKit

/-- A fact that the walk's simp doesn't look into. -/
structure Aside0 (p : Prop) : Prop where mk :: (out : p)
/-- The world is the old one, some orders having been drawn. -/
structure Drawn0 (w w' : World) : Prop where mk :: (out : ∃ n, w' = w.drewN n)
theorem Drawn0.refl (w : World) : Drawn0 w w := ⟨⟨0, rfl⟩⟩
theorem Drawn0.step {w w' : World} (h : Drawn0 w w') (n : Nat) : Drawn0 w (w'.drewN n) := by
  obtain ⟨m, rfl⟩ := h
  exact ⟨⟨m + n, World.drewN_drewN ..⟩⟩
theorem Drawn0.grown {w w' : World} (h : Drawn0 w w') : Grown w w' := by
  obtain ⟨n, rfl⟩ := h
  induction n with
  | zero => exact Grown.refl _
  | succ n ih => rw [← World.drew_drewN]; exact Grown.drew ih
theorem Drawn0.below {w w' : World} (h : Drawn0 w w') : Below w.heap.size w w' := by
  obtain ⟨n, rfl⟩ := h
  induction n with
  | zero => exact Below.refl _ _
  | succ n ih => rw [← World.drew_drewN]; exact ih.drew


/-! ### 1. Values and lists -/
def rd (xs : List Int) (i : Int) : Int := xs.getD i.toNat 0
def bt (s : ByteArray) (i : Int) : Int := if h : i.toNat < s.size then ((s[i.toNat]'h).toNat : Int) else 0
theorem bt_at (s : ByteArray) (i : Int) : ∀ h : i.toNat < s.size, ((s[i.toNat]'h).toNat : Int) = bt s i := fun h => by simp [bt, h]
def nums (k : IntKind) (xs : List Int) : List Value := xs.map fun x => .int k x
def bools (xs : List Bool) : List Value := xs.map fun x => .bool x
def pw_strs (xs : List ByteArray) : List Value := xs.map fun x => .string x
theorem nums_length (k : IntKind) (xs : List Int) : (nums k xs).length = xs.length := by simp [nums]

/-! ### 2. The world -/
theorem below_alloc {w W : World} (h : Below w.heap.size w W) (o : Obj) : Below w.heap.size w (W.alloc o) := h.alloc h.size o
theorem below_drew {B : Nat} {w W : World} (h : Below B w W) : Below B w W.drew := ⟨h.os, h.tape, h.output, h.size, h.block⟩
theorem pw_below_drewN {B : Nat} {w W : World} (h : Below B w W) (n : Nat) : Below B w (W.drewN n) := ⟨h.os, h.tape, h.output, h.size, h.block⟩
theorem grown_of_below {w w1 : World} (h : Below w.heap.size w w1) (row : Option Nat) : w.grownBy w1 row := ⟨h.os, h.tape, h.output, h.size, fun i hi _ => h.block i hi⟩
theorem pw_cell_below {w w1 : World} (h : Below w.heap.size w w1) {a : Addr} {v : Value} (hc : w.cell? a = some v) : w1.cell? a = some v := (h.cell (World.block_lt_of_cell? w a hc)).trans hc


/-! ### 3. A slice of whole numbers that is read; nil, empty and other slices alike -/
def ReadsInt (w : World) (k : IntKind) (A : Option Addr) (n : Nat) (xs : List Int) : Prop :=
  xs.length = n ∧ n ≤ 9223372036854775807 ∧ (0 < n → ∃ ad, A = some ad ∧ ∀ j, j < n → w.cell? (ad.add j) = some (.int k (xs.getD j 0)))
theorem ReadsInt.at_ {w : World} {k : IntKind} {A : Option Addr} {n : Nat} {xs : List Int} (h : ReadsInt w k A n xs) (i : Int) (h0 : 0 ≤ i) (h1 : i < n) : ∃ ad, A = some ad ∧ w.cell? (ad.add i.toNat) = some (.int k (rd xs i)) := by
  obtain ⟨ad, e, hc⟩ := h.2.2 (by omega)
  exact ⟨ad, e, hc _ (by omega)⟩
theorem ReadsInt.below {w w1 : World} {k : IntKind} {A : Option Addr} {n : Nat} {xs : List Int} (h : ReadsInt w k A n xs) (hb : Below w.heap.size w w1) : ReadsInt w1 k A n xs :=
  ⟨h.1, h.2.1, fun hn => by
    obtain ⟨ad, e, hc⟩ := h.2.2 hn
    exact ⟨ad, e, fun j hj => pw_cell_below hb (hc j hj)⟩⟩

/-! ### 4. A row of the call's own -/
theorem own_nil (W : World) (base : Nat) (e : TypeId) (size : Nat) : W.ownsRow base e size (.slice none 0 0) 0 [] := ⟨by simp, .inl ⟨rfl, rfl⟩⟩
theorem own_base {w : World} {base : Nat} {e : TypeId} {size n : Nat} {v : Value} {xs : List Value} (h : w.ownsRow base e size v n xs) (k : Nat) (hk : v.ownBlock = some k) : base ≤ k := by
  rcases h.2 with ⟨rfl, _⟩ | ⟨g, cap, cur, rfl, hb, _⟩
  · simp [Value.ownBlock] at hk
  · have : g = k := by simpa [Value.ownBlock] using hk
    omega
theorem own_lt {w : World} {base : Nat} {e : TypeId} {size n : Nat} {v : Value} {xs : List Value} (h : w.ownsRow base e size v n xs) (k : Nat) (hk : v.ownBlock = some k) : k < w.heap.size := by
  rcases h.2 with ⟨rfl, _⟩ | ⟨g, cap, cur, rfl, hb, hh, _⟩
  · simp [Value.ownBlock] at hk
  · have : g = k := by simpa [Value.ownBlock] using hk
    subst this
    exact (Array.getElem?_eq_some_iff.1 hh).1
theorem pw_own_below {w w1 : World} {base : Nat} {e : TypeId} {size n : Nat} {v : Value} {xs : List Value} (h : w.ownsRow base e size v n xs) (hb : Below w.heap.size w w1) : w1.ownsRow base e size v n xs :=
  h.kept (grown_of_below hb none) (by cases v.ownBlock <;> simp)
/-- What is written is another row: this one lives on. -/
theorem own_other {w w1 : World} {base : Nat} {e : TypeId} {size n : Nat} {v : Value} {xs : List Value} (h : w.ownsRow base e size v n xs) {row : Option Nat} (hg : w.grownBy w1 row) (hne : v.ownBlock = none ∨ v.ownBlock ≠ row) : w1.ownsRow base e size v n xs := h.kept hg hne
/-- The shape of whatever is owned. -/
theorem own_slice {w : World} {base n : Nat} {e : TypeId} {size : Nat} {v : Value} {xs : List Value} (h : w.ownsRow base e size v n xs) : ∃ A c, v = .slice A n c := by
  rcases h.2 with ⟨rfl, rfl⟩ | ⟨g, cap, cur, rfl, _⟩
  · exact ⟨none, 0, rfl⟩
  · exact ⟨_, cap, rfl⟩

/-! ### 5. append(v, x): behind 'at_builtin'; the goal's world is 'W.alloc' of the variadic's box -/
section
variable {P : Program} {ops : Array Oper} {rest : List Oper} {o : Oper} {a : Act} {Q : Exit → Act → World → Prop}


end

/-! ### 6. make([]T, n), n an Int; a literal -/
section
variable {P : Program}
end

/-! ### 7. v[i] read and v[i] = x, v a row of the call's own: 'obtain ⟨g, cap, rfl, hgb, hgl⟩ := HO.out.form (by omega)' first -/

/-! ### 8. append(v, ys...): ys a slice that is read, nil let in; behind 'at_builtin' -/
section
variable {P : Program} {ops : Array Oper} {rest : List Oper} {o : Oper} {a : Act} {Q : Exit → Act → World → Prop}
end

/-! ### 9. []byte(s): a slice that is read (its row bears a conversion's mark: no row of one's own); cuts of a slice that is read -/
def bytesOf (s : ByteArray) : List Int := s.data.toList.map fun b => (b.toNat : Int)
/-- 'xs[:k]' and 'xs[k:]' of a slice that is read; the address of the second as_ the walk has it. -/
theorem ReadsInt.take_ {w : World} {k : IntKind} {A : Option Addr} {n : Nat} {xs : List Int} (h : ReadsInt w k A n xs) (i : Nat) (hi : i ≤ n) : ReadsInt w k A i (xs.take i) := by
  refine ⟨by rw [List.length_take, h.1]; omega, by have := h.2.1; omega, fun hp => ?_⟩
  obtain ⟨ad, e, hc⟩ := h.2.2 (by omega)
  refine ⟨ad, e, fun j hj => ?_⟩
  rw [hc j (by omega)]
  simp [List.getD_eq_getElem?_getD, hj]
theorem ReadsInt.drop_ {w : World} {k : IntKind} {A : Option Addr} {n c : Nat} {xs : List Int} (h : ReadsInt w k A n xs) (i : Nat) (hi : i ≤ n) (hc : n ≤ c) : ReadsInt w k (if c = i then A else A.map (·.add i)) (n - i) (xs.drop i) := by
  refine ⟨by rw [List.length_drop, h.1], by have := h.2.1; omega, fun hp => ?_⟩
  obtain ⟨ad, rfl, hcell⟩ := h.2.2 (by omega)
  rw [if_neg (by omega)]
  refine ⟨ad.add i, rfl, fun j hj => ?_⟩
  have ha : (ad.add i).add j = ad.add (i + j) := by
    unfold Addr.add
    by_cases h1 : i = 0 <;> by_cases h2 : j = 0 <;> simp [h1, h2, Nat.add_assoc]
  rw [ha, hcell (i + j) (by omega)]
  simp [List.getD_eq_getElem?_getD, List.getElem?_drop]
/-! ### 10. Rounds: more rounds give the same answer; what ends gives a number of rounds -/
/-- Where the first answers, the second answers the same. -/
def LeO {α : Type} (a b : Option α) : Prop := ∀ r, a = some r → b = some r
theorem LeO.refl {α : Type} (a : Option α) : LeO a a := fun _ h => h
theorem LeO.none {α : Type} (b : Option α) : LeO Option.none b := fun _ h => by cases h
theorem LeO.trans {α : Type} {a b c : Option α} (h : LeO a b) (k : LeO b c) : LeO a c := fun r hr => k r (h r hr)
theorem LeO.ite {α : Type} {c : Prop} [Decidable c] {a a' b b' : Option α} (h : LeO a a') (k : LeO b b') : LeO (if c then a else b) (if c then a' else b') := by
  split
  · exact h
  · exact k
theorem LeO.bind {α β : Type} {a a' : Option α} {f f' : α → Option β} (h : LeO a a') (k : ∀ x, LeO (f x) (f' x)) : LeO (a.bind f) (a'.bind f') := by
  intro r hr
  obtain ⟨x, hx, hf⟩ := Option.bind_eq_some_iff.1 hr
  exact Option.bind_eq_some_iff.2 ⟨x, h x hx, k x r hf⟩
theorem LeO.map {α β : Type} {a a' : Option α} (f : α → β) (h : LeO a a') : LeO (a.map f) (a'.map f) := by
  intro r hr
  obtain ⟨x, hx, hf⟩ := Option.map_eq_some_iff.1 hr
  exact Option.map_eq_some_iff.2 ⟨x, h x hx, hf⟩
theorem more_rounds {α : Type} {g : Nat → Option α} (h : ∀ k, LeO (g k) (g (k + 1))) (k : Nat) : ∀ j, LeO (g k) (g (k + j))
  | 0 => LeO.refl _
  | j + 1 => (more_rounds h k j).trans (h (k + j))
theorem at_rounds {α : Type} {g : Nat → Option α} (h : ∀ k, LeO (g k) (g (k + 1))) {k k' : Nat} (hk : k ≤ k') {r : α} (hr : g k = some r) : g k' = some r := by
  have := more_rounds h k (k' - k) r hr
  rwa [Nat.add_sub_cancel' hk] at this
/-! ### 11. Rows of elements of several cells (structs): read, made. R: what an element's cells say ('RepItem w': printed for each type) -/
def Reps {α : Type} (R : α → List Value → Prop) (size : Nat) (ps : List α) (cs : List Value) : Prop :=
  cs.length = ps.length * size ∧ ∀ j p, ps[j]? = some p → R p ((cs.drop (j * size)).take size)
theorem Reps.none {α : Type} (R : α → List Value → Prop) (size : Nat) : Reps R size [] [] := ⟨by simp, fun j p h => by simp at h⟩
theorem Reps.snoc {α : Type} {R : α → List Value → Prop} {size : Nat} {ps : List α} {cs c : List Value} {p : α} (h : Reps R size ps cs) (hp : R p c) (hc : c.length = size) : Reps R size (ps ++ [p]) (cs ++ c) := by
  refine ⟨by rw [List.length_append, h.1, hc, List.length_append, List.length_singleton, Nat.add_mul, Nat.one_mul], fun j q hq => ?_⟩
  rcases Nat.lt_or_ge j ps.length with hj | hj
  · rw [List.getElem?_append_left hj] at hq
    have h1 : j * size + size ≤ cs.length := by rw [h.1, ← Nat.succ_mul]; exact Nat.mul_le_mul_right _ hj
    have h2 := h.2 j q hq
    rw [List.drop_append_of_le_length (by omega), List.take_append_of_le_length (by rw [List.length_drop]; omega)]
    exact h2
  · have hj' : j = ps.length := by
      have := (List.getElem?_eq_some_iff.1 hq).1
      rw [List.length_append, List.length_singleton] at this
      omega
    subst hj'
    have hq' : p = q := by simpa using hq
    subst hq'
    rw [← h.1, List.drop_left, ← hc, List.take_length]
    exact hp
theorem Reps.imp_ {α : Type} {R R' : α → List Value → Prop} {size : Nat} {ps : List α} {cs : List Value} (h : Reps R size ps cs) (hR : ∀ p c, R p c → R' p c) : Reps R' size ps cs := ⟨h.1, fun j p hj => hR _ _ (h.2 j p hj)⟩

def ReadsRow {α : Type} (R : α → List Value → Prop) (size : Nat) (w : World) (A : Option Addr) (n : Nat) (ps : List α) : Prop :=
  ps.length = n ∧ n ≤ 9223372036854775807 ∧ (0 < n → ∃ ad, A = some ad ∧ ∀ j p, ps[j]? = some p → ∃ c, c.length = size ∧ R p c ∧ ∀ i u, c[i]? = some u → w.cell? (ad.add (j * size + i)) = some u)
theorem ReadsRow.imp_ {α : Type} {R R' : α → List Value → Prop} {size : Nat} {w w1 : World} {A : Option Addr} {n : Nat} {ps : List α} (h : ReadsRow R size w A n ps) (hb : Below w.heap.size w w1) (hR : ∀ p c, R p c → R' p c) : ReadsRow R' size w1 A n ps :=
  ⟨h.1, h.2.1, fun hn => by
    obtain ⟨ad, e, hc⟩ := h.2.2 hn
    refine ⟨ad, e, fun j p hj => ?_⟩
    obtain ⟨c, hs, hr, hcell⟩ := hc j p hj
    exact ⟨c, hs, hR _ _ hr, fun i u hu => pw_cell_below hb (hcell i u hu)⟩⟩
theorem own_reads_row {α : Type} {R : α → List Value → Prop} {w : World} {base n size : Nat} {e : TypeId} {v : Value} {ps : List α} {cs : List Value} (h : w.ownsRow base e size v n cs) (hR : Reps R size ps cs) (hn : ps.length = n) :
    ∃ A c, v = .slice A n c ∧ ReadsRow R size w A n ps := by
  rcases Nat.eq_zero_or_pos n with h0 | h0
  · rcases h.2 with ⟨rfl, rfl⟩ | ⟨g, cap, cur, rfl, _⟩
    · exact ⟨none, 0, rfl, hn, by omega, fun hp => absurd hp (by omega)⟩
    · exact ⟨_, cap, rfl, hn, by omega, fun hp => absurd hp (by omega)⟩
  · obtain ⟨g, cap, rfl, _, _⟩ := h.form h0
    have hm : n ≤ 9223372036854775807 := by
      rcases h.2 with ⟨_, h1⟩ | ⟨g', cap', cur, he, _, _, h1, h2, _⟩
      · omega
      · simp only [maxLen] at h2
        omega
    refine ⟨_, cap, rfl, hn, hm, fun _ => ⟨_, rfl, fun j p hj => ⟨(cs.drop (j * size)).take size, ?_, hR.2 j p hj, fun i u hu => ?_⟩⟩⟩
    · have hjl := (List.getElem?_eq_some_iff.1 hj).1
      have h1 : j * size + size ≤ cs.length := by rw [hR.1, ← Nat.succ_mul]; exact Nat.mul_le_mul_right _ hjl
      rw [List.length_take, List.length_drop]
      omega
    · refine h.cells (g := g) rfl _ u ?_
      rw [List.getElem?_take] at hu
      split at hu
      · rw [List.getElem?_drop] at hu
        exact hu
      · cases hu

section
variable {P : Program} {ops : Array Oper} {rest : List Oper} {o : Oper} {a : Act} {Q : Exit → Act → World → Prop}
/-- append(v, x), x of several cells; behind 'at_builtin'; the goal's world is 'W.alloc' of the variadic's box. -/
theorem print_append_cells {w0 W : World} (base : Nat) (hgd : o.guard = none) (s x : Operand) (t e : TypeId) (z : Value) (size bytes : Nat)
    (ho : o.op = .call { callee := .builtin .append, args := #[s, x], argTypes := #[t, t] })
    (ht : P.underlying t = some (.slice e)) (hinfo : (P.info? e).map (fun i => (i.zero, i.size, i.bytes)) = some (some z, size, bytes)) (hz : z.cells.size = size) (hs0 : 0 < size) (hb0 : 0 < bytes)
    (v : Value) (n : Nat) (xs ys : List Value) (hs : a.eval s = v) (hx : a.eval x = .slice (some ⟨W.heap.size, 0, none⟩) 1 1) (hys : ys.length = size) (h1 : ∀ u ∈ ys, u.oneCell' = true)
    (HO : W.ownsRow base e size v n xs) (HB : Below base w0 W) (hbase : base ≤ W.heap.size) (hl : (n + 1) * bytes ≤ 140737488355328)
    (h : ∀ v1 w1, w1.ownsRow base e size v1 (n + 1) (xs ++ ys) → Below base w0 w1 → W.grownBy w1 v.ownBlock → (v1.ownBlock = v.ownBlock ∨ ∃ b, v1.ownBlock = some b ∧ W.heap.size ≤ b) → wpList P ops Q rest (a.put o.dst v1) w1) :
    wpList P ops Q (o :: rest) a (W.alloc (.cells ys.toArray e)) := by
  obtain ⟨i0, hi, hzz⟩ := Option.map_eq_some_iff.1 hinfo
  simp only [Prod.mk.injEq] at hzz
  obtain ⟨hz0, hz1, hz2⟩ := hzz
  have hlen : n + 1 ≤ 140737488355328 := Nat.le_trans (Nat.le_mul_of_pos_right _ hb0) hl
  refine wpList_append_own_at (W.alloc (.cells ys.toArray e)) hgd s x t ho base e i0 z size bytes ht hi hz0 hz1 hz2 hz hs0 v n xs hs (HO.alloc _) ⟨W.heap.size, 0, none⟩ 1 1 ys hx (by rw [hys]; simp)
    (by simpa using World.news_of_block (cs := ys.toArray) (t := e) (fr := (0, 0)) (heap_alloc_new W (.cells ys.toArray e))) h1 (by simp only [maxLen]; omega) hl (by simp; omega) ?_
  intro v1 w1 hown hg _ hat
  refine h v1 w1 hown ((HB.alloc hbase _).grown hg (by simp; omega) (own_base HO)) (World.grownBy.trans (World.grownBy_alloc W _ _) hg) ?_
  rcases hat with hat | hat
  · exact .inl hat
  · exact .inr ⟨_, hat, by simp⟩
end

/-! ### 12. A block of one's own that is a state: its cells, what a store leaves -/
theorem own_ne {w : World} {base : Nat} {e t : TypeId} {size n g : Nat} {v : Value} {xs : List Value} {cs : Array Value} (h : w.ownsRow base e size v n xs) (hg : w.heap[g]? = some (.cells cs t (0, 0))) (hne : e ≠ t) : some g ≠ v.ownBlock := by
  rcases h.2 with ⟨rfl, _⟩ | ⟨g', cap, cur, rfl, _, hh, _⟩
  · simp [Value.ownBlock]
  · intro he
    have : g = g' := by simpa [Value.ownBlock] using he
    subst this
    rw [hg] at hh
    injection hh with hh
    injection hh with _ ht
    exact hne ht.symm
theorem own_setCell {w : World} {base : Nat} {e : TypeId} {size n : Nat} {v : Value} {xs : List Value} (h : w.ownsRow base e size v n xs) {p : Addr} (hne : some p.block ≠ v.ownBlock) (u : Value) : (w.setCell p u).ownsRow base e size v n xs := by
  obtain ⟨h1, h2⟩ := h
  refine ⟨h1, ?_⟩
  rcases h2 with h2 | ⟨g, cap, cur, rfl, hg, hh, r⟩
  · exact .inl h2
  · exact .inr ⟨g, cap, cur, rfl, hg, by rw [Below.heap_setCell _ _ _ _ (fun e => hne (by rw [e]; rfl))]; exact hh, r⟩
theorem blk_set {w : World} {g : Nat} {t : TypeId} {cs : Array Value} (h : w.heap[g]? = some (.cells cs t (0, 0))) (i : Nat) (u : Value) : (w.setCell ⟨g, i, none⟩ u).heap[g]? = some (.cells (cs.setIfInBounds i u) t (0, 0)) := by
  simp [World.setCell, Array.getElem?_modify, h]
theorem blk_lt {w : World} {g : Nat} {o : Obj} (h : w.heap[g]? = some o) : g < w.heap.size := (Array.getElem?_eq_some_iff.1 h).1
theorem blk_frozen {w : World} {g : Nat} {t : TypeId} {cs : Array Value} (h : w.heap[g]? = some (.cells cs t (0, 0))) (i : Nat) : w.frozen? ⟨g, i, none⟩ = false := by simp [World.frozen?, h]
/-! ### 13. Two states at once: what a call on the state at block g (its row before: 'row') has turned -/
def KeepBut (w w' : World) (g : Nat) (row : Option Nat) : Prop := w.heap.size ≤ w'.heap.size ∧ ∀ i, i < w.heap.size → i ≠ g → some i ≠ row → w'.heap[i]? = w.heap[i]?
theorem KeepBut.refl (w : World) (g : Nat) (row : Option Nat) : KeepBut w w g row := ⟨Nat.le_refl _, fun _ _ _ _ => rfl⟩
theorem KeepBut.of_grown {w w1 : World} {row : Option Nat} (h : w.grownBy w1 row) (g : Nat) : KeepBut w w1 g row := ⟨h.size, fun i hi _ hr => h.block i hi hr⟩
theorem KeepBut.of_below {w w1 : World} (h : Below w.heap.size w w1) (g : Nat) (row : Option Nat) : KeepBut w w1 g row := ⟨h.size, fun i hi _ _ => h.block i hi⟩
theorem KeepBut.set_ {w w1 : World} {g : Nat} {row : Option Nat} (h : KeepBut w w1 g row) (j : Nat) (u : Value) : KeepBut w (w1.setCell ⟨g, j, none⟩ u) g row :=
  ⟨by simpa [World.setCell] using h.1, fun i hi hg hr => (Below.heap_setCell w1 ⟨g, j, none⟩ u i hg).trans (h.2 i hi hg hr)⟩
theorem KeepBut.trans {w w1 w2 : World} {g : Nat} {row row1 : Option Nat} (h : KeepBut w w1 g row) (k : KeepBut w1 w2 g row1) (hr : row1 = row ∨ ∃ b, row1 = some b ∧ w.heap.size ≤ b) : KeepBut w w2 g row :=
  ⟨Nat.le_trans h.1 k.1, fun i hi hg hn => by
    refine (k.2 i (Nat.lt_of_lt_of_le hi h.1) hg ?_).trans (h.2 i hi hg hn)
    rcases hr with rfl | ⟨b, rfl, hb⟩
    · exact hn
    · intro e
      injection e with e
      omega⟩
/-- Another block, another row: they live on. -/
theorem KeepBut.blk {w w1 : World} {g g' : Nat} {row : Option Nat} {o : Obj} (h : KeepBut w w1 g row) (hb : w.heap[g']? = some o) (hg : g' ≠ g) (hr : some g' ≠ row) : w1.heap[g']? = some o := (h.2 g' (blk_lt hb) hg hr).trans hb
theorem KeepBut.own {w w1 : World} {g : Nat} {row : Option Nat} {base : Nat} {e : TypeId} {size n : Nat} {v : Value} {xs : List Value} (h : KeepBut w w1 g row) (ho : w.ownsRow base e size v n xs) (hg : v.ownBlock ≠ some g) (hr : v.ownBlock = none ∨ v.ownBlock ≠ row) : w1.ownsRow base e size v n xs := by
  obtain ⟨h1, h2⟩ := ho
  refine ⟨h1, ?_⟩
  rcases h2 with h2 | ⟨b, cap, cur, rfl, hb, hh, r⟩
  · exact .inl h2
  · refine .inr ⟨b, cap, cur, rfl, hb, h.blk hh ?_ ?_, r⟩
    · intro e
      exact hg (by rw [← e]; rfl)
    · rcases hr with hr | hr
      · simp [Value.ownBlock] at hr
      · exact hr
/-! ### 10b. From some number of rounds on -/
def Ev {α : Type} (g : Nat → Option α) (r : α) : Prop := ∃ K, ∀ k, K ≤ k → g k = some r
theorem Ev.of {α : Type} {g : Nat → Option α} {r : α} (hg : ∀ k, LeO (g k) (g (k + 1))) {k : Nat} (h : g k = some r) : Ev g r := ⟨k, fun _ hk => at_rounds hg hk h⟩
theorem Ev.now {α : Type} (r : α) : Ev (fun _ => some r) r := ⟨0, fun _ _ => rfl⟩
theorem Ev.rounds {α : Type} {g : Nat → Option α} {r : α} (h : Ev g r) : ∃ k, g k = some r := by
  obtain ⟨K, h⟩ := h
  exact ⟨K, h K (Nat.le_refl _)⟩
theorem Ev.bind {α β : Type} {g : Nat → Option α} {f : Nat → α → Option β} {a : α} {r : β} (h : Ev g a) (k : Ev (fun n => f n a) r) : Ev (fun n => (g n).bind (f n)) r := by
  obtain ⟨K, h⟩ := h
  obtain ⟨K', k⟩ := k
  refine ⟨max K K', fun n hn => ?_⟩
  have h1 := h n (by omega)
  have h2 := k n (by omega)
  simp only [h1, Option.bind_some]
  exact h2
/-- One round of a loop. -/
theorem Ev.step {α : Type} {g f : Nat → Option α} {r : α} (h : ∀ k, g (k + 1) = f k) (k : Ev f r) : Ev g r := by
  obtain ⟨K, k⟩ := k
  refine ⟨K + 1, fun n hn => ?_⟩
  obtain ⟨m, rfl⟩ : ∃ m, n = m + 1 := ⟨n - 1, by omega⟩
  rw [h]
  exact k m (by omega)
theorem Ev.congr {α : Type} {g f : Nat → Option α} {r : α} (h : ∀ k, g k = f k) (k : Ev f r) : Ev g r := by
  obtain ⟨K, k⟩ := k
  exact ⟨K, fun n hn => (h n).trans (k n hn)⟩
/-! ### 14. append as_ one step of a region that draws its order: for 'go_region_law' (and a region walked by hand) -/
section
variable {P : Program} {ops : Array Oper} {o : Oper} {a : Act} {Q : Exit → Act → World → Prop} {K : Act → World → Prop}
end
/-! ### 15. A row's base may be lowered -/
theorem own_weaken {w : World} {base base' : Nat} {e : TypeId} {size n : Nat} {v : Value} {xs : List Value} (h : w.ownsRow base e size v n xs) (hb : base' ≤ base) : w.ownsRow base' e size v n xs := by
  obtain ⟨h1, h2⟩ := h
  refine ⟨h1, ?_⟩
  rcases h2 with h2 | ⟨g, cap, cur, rfl, hg, r⟩
  · exact .inl h2
  · exact .inr ⟨g, cap, cur, rfl, Nat.le_trans hb hg, r⟩
/-! ### 16. Parts 3 to 9 for ANY element of one cell: 'enc' (Value.int k, Value.string, Value.bool), a default 'd' -/
section
variable {α : Type} {enc : α → Value} {d : α}
def encs (enc : α → Value) (xs : List α) : List Value := xs.map enc
def rdOf (d : α) (xs : List α) (i : Int) : α := xs.getD i.toNat d
def ReadsOf (enc : α → Value) (d : α) (w : World) (A : Option Addr) (n : Nat) (xs : List α) : Prop :=
  xs.length = n ∧ n ≤ 9223372036854775807 ∧ (0 < n → ∃ ad, A = some ad ∧ ∀ j, j < n → w.cell? (ad.add j) = some (enc (xs.getD j d)))
theorem ReadsOf.at_ {w : World} {A : Option Addr} {n : Nat} {xs : List α} (h : ReadsOf enc d w A n xs) (i : Int) (h0 : 0 ≤ i) (h1 : i < n) : ∃ ad, A = some ad ∧ w.cell? (ad.add i.toNat) = some (enc (rdOf d xs i)) := by
  obtain ⟨ad, e, hc⟩ := h.2.2 (by omega)
  exact ⟨ad, e, hc _ (by omega)⟩
theorem ReadsOf.below {w w1 : World} {A : Option Addr} {n : Nat} {xs : List α} (h : ReadsOf enc d w A n xs) (hb : Below w.heap.size w w1) : ReadsOf enc d w1 A n xs :=
  ⟨h.1, h.2.1, fun hn => by
    obtain ⟨ad, e, hc⟩ := h.2.2 hn
    exact ⟨ad, e, fun j hj => pw_cell_below hb (hc j hj)⟩⟩
theorem ReadsOf.take_ {w : World} {A : Option Addr} {n : Nat} {xs : List α} (h : ReadsOf enc d w A n xs) (i : Nat) (hi : i ≤ n) : ReadsOf enc d w A i (xs.take i) := by
  refine ⟨by rw [List.length_take, h.1]; omega, by have := h.2.1; omega, fun hp => ?_⟩
  obtain ⟨ad, e, hc⟩ := h.2.2 (by omega)
  refine ⟨ad, e, fun j hj => ?_⟩
  rw [hc j (by omega)]
  simp [List.getD_eq_getElem?_getD, hj]
theorem ReadsOf.drop_ {w : World} {A : Option Addr} {n c : Nat} {xs : List α} (h : ReadsOf enc d w A n xs) (i : Nat) (hi : i ≤ n) (hc : n ≤ c) : ReadsOf enc d w (if c = i then A else A.map (·.add i)) (n - i) (xs.drop i) := by
  refine ⟨by rw [List.length_drop, h.1], by have := h.2.1; omega, fun hp => ?_⟩
  obtain ⟨ad, rfl, hcell⟩ := h.2.2 (by omega)
  rw [if_neg (by omega)]
  refine ⟨ad.add i, rfl, fun j hj => ?_⟩
  have ha : (ad.add i).add j = ad.add (i + j) := by
    unfold Addr.add
    by_cases h1 : i = 0 <;> by_cases h2 : j = 0 <;> simp [h1, h2, Nat.add_assoc]
  rw [ha, hcell (i + j) (by omega)]
  simp [List.getD_eq_getElem?_getD, List.getElem?_drop]
end
section
variable {α : Type} {P : Program} {ops : Array Oper} {rest : List Oper} {o : Oper} {a : Act} {Q : Exit → Act → World → Prop}
end

/-! ### 17. Rows of one element type held at once: no two share a block -/
def NeRow (v v' : Value) : Prop := ∀ k, v.ownBlock = some k → v'.ownBlock ≠ some k
/-! ### 18. A block behind a new one; behind a draw -/
/-! ### 19. Results that lie in memory beside others -/
section
variable {P : Program}
end
/-! ### 20. Rows of elements of any kind: R is what an element's cells say -/
theorem own_le {w : World} {base n m c size : Nat} {e : TypeId} {A : Option Addr} {xs : List Value} (h : w.ownsRow base e size (.slice A m c) n xs) : m ≤ c := by
  rcases h.2 with ⟨he, _⟩ | ⟨g, cap, cur, he, _, _, hnc, _⟩
  · injection he with _ h2 h3
    omega
  · injection he with _ h2 h3
    omega
def OwnRow {α : Type} (R : α → List Value → Prop) (e : TypeId) (size : Nat) (w : World) (base : Nat) (v : Value) (ps : List α) : Prop :=
  ∃ inner, w.ownsRow base e size v ps.length inner ∧ Reps R size ps inner
section
variable {α : Type} {R R' : α → List Value → Prop} {e : TypeId} {size : Nat} {w w1 : World} {base : Nat} {v : Value} {ps : List α}
theorem OwnRow.none_ (R : α → List Value → Prop) (e : TypeId) (size : Nat) (w : World) (base : Nat) : OwnRow R e size w base (.slice none 0 0) [] := ⟨[], own_nil _ _ _ _, Reps.none _ _⟩
theorem OwnRow.imp_ (h : OwnRow R e size w base v ps) (hR : ∀ p c, R p c → R' p c) : OwnRow R' e size w base v ps := by
  obtain ⟨inner, ho, hr⟩ := h
  exact ⟨inner, ho, hr.imp_ hR⟩
theorem OwnRow.below (h : OwnRow R e size w base v ps) (hb : Below w.heap.size w w1) : OwnRow R e size w1 base v ps := by
  obtain ⟨inner, ho, hr⟩ := h
  exact ⟨inner, pw_own_below ho hb, hr⟩
theorem OwnRow.other (h : OwnRow R e size w base v ps) {row : Option Nat} (hg : w.grownBy w1 row) (hne : v.ownBlock = none ∨ v.ownBlock ≠ row) : OwnRow R e size w1 base v ps := by
  obtain ⟨inner, ho, hr⟩ := h
  exact ⟨inner, own_other ho hg hne, hr⟩
theorem OwnRow.set_ (h : OwnRow R e size w base v ps) {g : Nat} {t : TypeId} {cells : Array Value} (hb : w.heap[g]? = some (.cells cells t (0, 0))) (ht : e ≠ t) (j : Nat) (u : Value) : OwnRow R e size (w.setCell ⟨g, j, none⟩ u) base v ps := by
  obtain ⟨inner, ho, hr⟩ := h
  exact ⟨inner, own_setCell ho (own_ne ho hb ht) u, hr⟩
theorem OwnRow.keep (h : OwnRow R e size w base v ps) {g : Nat} {t : TypeId} {cells : Array Value} (hb : w.heap[g]? = some (.cells cells t (0, 0))) (ht : e ≠ t) (hk : KeepBut w w1 g none) : OwnRow R e size w1 base v ps := by
  obtain ⟨inner, ho, hr⟩ := h
  exact ⟨inner, hk.own ho (Ne.symm (own_ne ho hb ht)) (by cases v.ownBlock <;> simp), hr⟩
theorem OwnRow.reads (h : OwnRow R e size w base v ps) : ∃ A c, v = .slice A ps.length c ∧ ps.length ≤ c ∧ ReadsRow R size w A ps.length ps := by
  obtain ⟨inner, ho, hr⟩ := h
  obtain ⟨A, c, rfl, hrow⟩ := own_reads_row ho hr rfl
  exact ⟨A, c, rfl, own_le ho, hrow⟩
end
section
variable {P : Program} {ops : Array Oper} {rest : List Oper} {o : Oper} {a : Act} {Q : Exit → Act → World → Prop} {α : Type} {R : α → List Value → Prop}
/-- append(v, x): x's cells are cs. R is that of the world AHEAD; move it over hg ('OwnRow.imp_'). -/
theorem OwnRow.append {w0 W : World} (base : Nat) (hgd : o.guard = none) (s x : Operand) (t e : TypeId) (z : Value) (size bytes : Nat)
    (ho : o.op = .call { callee := .builtin .append, args := #[s, x], argTypes := #[t, t] })
    (ht : P.underlying t = some (.slice e)) (hinfo : (P.info? e).map (fun i => (i.zero, i.size, i.bytes)) = some (some z, size, bytes)) (hz : z.cells.size = size) (hs0 : 0 < size) (hb0 : 0 < bytes)
    (v : Value) (ps : List α) (p : α) (cs : List Value) (hs : a.eval s = v) (hx : a.eval x = .slice (some ⟨W.heap.size, 0, none⟩) 1 1) (hp : R p cs) (hcs : cs.length = size) (h1 : ∀ u ∈ cs, u.oneCell' = true)
    (HO : OwnRow R e size W base v ps) (HB : Below base w0 W) (hbase : base ≤ W.heap.size) (hl : (ps.length + 1) * bytes ≤ 140737488355328)
    (h : ∀ v1 w1, OwnRow R e size w1 base v1 (ps ++ [p]) → Below base w0 w1 → W.grownBy w1 v.ownBlock → (v1.ownBlock = v.ownBlock ∨ ∃ b, v1.ownBlock = some b ∧ W.heap.size ≤ b) → wpList P ops Q rest (a.put o.dst v1) w1) :
    wpList P ops Q (o :: rest) a (W.alloc (.cells cs.toArray e)) := by
  obtain ⟨inner, hown, hr⟩ := HO
  refine print_append_cells base hgd s x t e z size bytes ho ht hinfo hz hs0 hb0 v ps.length inner cs hs hx hcs h1 hown HB hbase hl ?_
  intro v1 w1 hown1 hb1 hg1 hat1
  exact h v1 w1 ⟨inner ++ cs, by rw [List.length_append, List.length_singleton]; exact hown1, hr.snoc hp hcs⟩ hb1 hg1 hat1
end
section
variable {P : Program} {ops : Array Oper} {o : Oper} {a : Act} {Q : Exit → Act → World → Prop} {K : Act → World → Prop} {α : Type} {R : α → List Value → Prop}
end
/-! ### 21. Cuts of a slice that came in, lengths spelled as_ the lists' -/
section
variable {α : Type} {P : Program}
theorem ReadsOf.len_ {enc : α → Value} {d : α} {w : World} {A : Option Addr} {n : Nat} {xs : List α} (h : ReadsOf enc d w A n xs) : ReadsOf enc d w A xs.length xs := by rw [h.1]; exact h
end

/-! ### 22. append([]byte, s...), s a string; behind 'at_builtin'. (No word on where the new row lies: two rows of bytes at once don't go by it.) -/
section
variable {P : Program} {ops : Array Oper} {rest : List Oper} {o : Oper} {a : Act} {Q : Exit → Act → World → Prop}
end
/-! ### 23. KINDS: what a value's cells say, read (K) and made (M), kind by kind; every mover proved once -/
/-- ok: which blocks the rows inside may be ('not the row that is being written'). -/
structure Kd (α : Type) where
  sz : Nat
  E : List Nat
  K : World → α → List Value → Prop
  M : World → Nat → (Nat → Prop) → α → List Value → Prop
  K_len : ∀ {w x cs}, K w x cs → cs.length = sz
  K_one : ∀ {w x cs}, K w x cs → ∀ u ∈ cs, u.oneCell' = true
  K_below : ∀ {w w1 : World} {x cs}, Below w.heap.size w w1 → K w x cs → K w1 x cs
  K_of_M : ∀ {w base ok x cs}, M w base ok x cs → K w x cs
  M_mono : ∀ {w base ok ok' x cs}, (∀ k, ok k → ok' k) → M w base ok x cs → M w base ok' x cs
  M_bound : ∀ {w : World} {base ok x cs}, M w base ok x cs → M w base (fun k => ok k ∧ base ≤ k ∧ k < w.heap.size ∧ ∃ q, q ∈ E ∧ ∃ cells, w.heap[k]? = some (.cells cells q (0, 0))) x cs
  M_move : ∀ {w w1 : World} {base ok x cs}, (∀ k, ok k → w1.heap[k]? = w.heap[k]?) → M w base ok x cs → M w1 base ok x cs
  M_lower : ∀ {w base base' ok x cs}, base' ≤ base → M w base ok x cs → M w base' ok x cs

theorem own_move {w w1 : World} {base : Nat} {e : TypeId} {size n : Nat} {v : Value} {xs : List Value} (h : w.ownsRow base e size v n xs) (hm : ∀ k, v.ownBlock = some k → w1.heap[k]? = w.heap[k]?) : w1.ownsRow base e size v n xs := by
  obtain ⟨h1, h2⟩ := h
  refine ⟨h1, ?_⟩
  rcases h2 with h2 | ⟨g, cap, cur, rfl, hg, hh, r⟩
  · exact .inl h2
  · exact .inr ⟨g, cap, cur, rfl, hg, (hm g (by simp [Value.ownBlock])).trans hh, r⟩
theorem own_typed {w : World} {base : Nat} {e : TypeId} {size n : Nat} {v : Value} {xs : List Value} (h : w.ownsRow base e size v n xs) (k : Nat) (hk : v.ownBlock = some k) : ∃ cells, w.heap[k]? = some (.cells cells e (0, 0)) := by
  rcases h.2 with ⟨rfl, _⟩ | ⟨g, cap, cur, rfl, hg, hh, r⟩
  · simp [Value.ownBlock] at hk
  · have : g = k := by simpa [Value.ownBlock] using hk
    subst this
    exact ⟨cur, hh⟩

namespace Kd
/-- A row of elements that is read. -/
def C {α : Type} (d : Kd α) (w : World) (A : Option Addr) (n : Nat) (xs : List α) : Prop := ReadsRow (d.K w) d.sz w A n xs
/-- A row of elements (type e) of the call's own; the elements' rows are not this one. -/
def R {α : Type} (d : Kd α) (e : Nat) (w : World) (base : Nat) (ok : Nat → Prop) (v : Value) (xs : List α) : Prop :=
  (∀ k, v.ownBlock = some k → ok k) ∧ OwnRow (d.M w base (fun k => ok k ∧ some k ≠ v.ownBlock)) e d.sz w base v xs
section
variable {α : Type} {d : Kd α} {e : Nat} {w w1 : World} {base : Nat} {ok ok' : Nat → Prop} {v : Value} {xs : List α}
theorem C_below {A : Option Addr} {n : Nat} (h : d.C w A n xs) (hb : Below w.heap.size w w1) : d.C w1 A n xs := ReadsRow.imp_ h hb (fun _ _ hp => d.K_below hb hp)
theorem R_nil (d : Kd α) (e : Nat) (w : World) (base : Nat) (ok : Nat → Prop) : d.R e w base ok (.slice none 0 0) [] := ⟨fun k hk => by simp [Value.ownBlock] at hk, OwnRow.none_ _ _ _ _ _⟩
theorem R_mono (h : d.R e w base ok v xs) (hok : ∀ k, ok k → ok' k) : d.R e w base ok' v xs := ⟨fun k hk => hok k (h.1 k hk), h.2.imp_ (fun _ _ hp => d.M_mono (fun k hk => ⟨hok k hk.1, hk.2⟩) hp)⟩
theorem R_bound (h : d.R e w base ok v xs) : d.R e w base (fun k => ok k ∧ base ≤ k ∧ k < w.heap.size ∧ ∃ q, q ∈ e :: d.E ∧ ∃ cells, w.heap[k]? = some (.cells cells q (0, 0))) v xs := by
  obtain ⟨h0, inner, ho, hr⟩ := h
  refine ⟨fun k hk => ?_, inner, ho, hr.imp_ (fun _ _ hp => d.M_mono (fun k hk => ?_) (d.M_bound hp))⟩
  · obtain ⟨cells, hc⟩ := own_typed ho k hk
    exact ⟨h0 k hk, own_base ho k hk, own_lt ho k hk, e, List.mem_cons_self, cells, hc⟩
  · obtain ⟨⟨h1, h2⟩, h3, h4, q, hq, hc⟩ := hk
    exact ⟨⟨h1, h3, h4, q, List.mem_cons_of_mem _ hq, hc⟩, h2⟩
theorem R_move (h : d.R e w base ok v xs) (hm : ∀ k, ok k → w1.heap[k]? = w.heap[k]?) : d.R e w1 base ok v xs := by
  obtain ⟨h0, inner, ho, hr⟩ := h
  exact ⟨h0, inner, own_move ho (fun k hk => hm k (h0 k hk)), hr.imp_ (fun _ _ hp => d.M_move (fun k hk => hm k hk.1) hp)⟩
theorem R_lower {base' : Nat} (h : d.R e w base ok v xs) (hb : base' ≤ base) : d.R e w base' ok v xs := by
  obtain ⟨h0, inner, ho, hr⟩ := h
  exact ⟨h0, inner, own_weaken ho hb, hr.imp_ (fun _ _ hp => d.M_lower hb hp)⟩
/-- Any mover: what is ok, and a block of w's, stays. -/
theorem R_step (h : d.R e w base ok v xs) (hm : ∀ k, ok k → k < w.heap.size → w1.heap[k]? = w.heap[k]?) : d.R e w1 base ok v xs :=
  R_mono (R_move (R_bound h) (fun k hk => hm k hk.1 hk.2.2.1)) (fun _ hk => hk.1)
theorem M_step {x : α} {cs : List Value} (h : d.M w base ok x cs) (hm : ∀ k, ok k → k < w.heap.size → w1.heap[k]? = w.heap[k]?) : d.M w1 base ok x cs :=
  d.M_mono (fun _ hk => hk.1) (d.M_move (fun k hk => hm k hk.1 hk.2.2.1) (d.M_bound h))
theorem R_below (h : d.R e w base ok v xs) (hb : Below w.heap.size w w1) : d.R e w1 base ok v xs := R_step h (fun k _ hk => hb.block k hk)
theorem R_reads (h : d.R e w base ok v xs) : ∃ A c, v = .slice A xs.length c ∧ xs.length ≤ c ∧ d.C w A xs.length xs := by
  obtain ⟨A, c, he, hl, hr⟩ := OwnRow.reads h.2
  exact ⟨A, c, he, hl, hr.imp_ (Below.refl _ _) (fun _ _ hp => d.K_of_M hp)⟩
end

/-! #### the kinds -/
def scalar {α : Type} (enc : α → Value) (h1 : ∀ x, (enc x).oneCell' = true) : Kd α where
  sz := 1
  E := []
  K := fun _ x cs => cs = [enc x]
  M := fun _ _ _ x cs => cs = [enc x]
  K_len := fun h => by rw [h]; rfl
  K_one := fun h u hu => by
    rw [h] at hu
    rw [List.mem_singleton.1 hu]
    exact h1 _
  K_below := fun _ h => h
  K_of_M := fun h => h
  M_mono := fun _ h => h
  M_bound := fun h => h
  M_move := fun _ h => h
  M_lower := fun _ h => h
def int (k : IntKind) : Kd Int := scalar (Value.int k) (fun _ => rfl)
def bool : Kd Bool := scalar Value.bool (fun _ => rfl)
def string : Kd ByteArray := scalar Value.string (fun _ => rfl)
def slice {α : Type} (e : Nat) (d : Kd α) : Kd (List α) where
  sz := 1
  E := e :: d.E
  K := fun w xs cs => ∃ A c, cs = [.slice A xs.length c] ∧ xs.length ≤ c ∧ d.C w A xs.length xs
  M := fun w base ok xs cs => ∃ v, cs = [v] ∧ d.R e w base ok v xs
  K_len := by
    rintro w x cs ⟨A, c, rfl, _⟩
    rfl
  K_one := by
    rintro w x cs ⟨A, c, rfl, _⟩ u hu
    rw [List.mem_singleton.1 hu]
    rfl
  K_below := by
    rintro w w1 x cs hb ⟨A, c, rfl, hl, hr⟩
    exact ⟨A, c, rfl, hl, C_below hr hb⟩
  K_of_M := by
    rintro w base ok x cs ⟨v, rfl, h⟩
    obtain ⟨A, c, rfl, hl, hr⟩ := R_reads h
    exact ⟨A, c, rfl, hl, hr⟩
  M_mono := by
    rintro w base ok ok' x cs hok ⟨v, rfl, h⟩
    exact ⟨v, rfl, R_mono h hok⟩
  M_bound := by
    rintro w base ok x cs ⟨v, rfl, h⟩
    exact ⟨v, rfl, R_bound h⟩
  M_move := by
    rintro w w1 base ok x cs hm ⟨v, rfl, h⟩
    exact ⟨v, rfl, R_move h hm⟩
  M_lower := by
    rintro w base base' ok x cs hb ⟨v, rfl, h⟩
    exact ⟨v, rfl, R_lower h hb⟩
/-- Two in line. -/
def pair {α β : Type} (a : Kd α) (b : Kd β) : Kd (α × β) where
  sz := a.sz + b.sz
  E := a.E ++ b.E
  K := fun w x cs => ∃ c0 c1, cs = c0 ++ c1 ∧ a.K w x.1 c0 ∧ b.K w x.2 c1
  M := fun w base ok x cs => ∃ c0 c1, cs = c0 ++ c1 ∧ a.M w base ok x.1 c0 ∧ b.M w base ok x.2 c1
  K_len := by
    rintro w x cs ⟨c0, c1, rfl, h0, h1⟩
    rw [List.length_append, a.K_len h0, b.K_len h1]
  K_one := by
    rintro w x cs ⟨c0, c1, rfl, h0, h1⟩ u hu
    rcases List.mem_append.1 hu with hu | hu
    · exact a.K_one h0 u hu
    · exact b.K_one h1 u hu
  K_below := by
    rintro w w1 x cs hb ⟨c0, c1, rfl, h0, h1⟩
    exact ⟨c0, c1, rfl, a.K_below hb h0, b.K_below hb h1⟩
  K_of_M := by
    rintro w base ok x cs ⟨c0, c1, rfl, h0, h1⟩
    exact ⟨c0, c1, rfl, a.K_of_M h0, b.K_of_M h1⟩
  M_mono := by
    rintro w base ok ok' x cs hok ⟨c0, c1, rfl, h0, h1⟩
    exact ⟨c0, c1, rfl, a.M_mono hok h0, b.M_mono hok h1⟩
  M_bound := by
    rintro w base ok x cs ⟨c0, c1, rfl, h0, h1⟩
    refine ⟨c0, c1, rfl, a.M_mono ?_ (a.M_bound h0), b.M_mono ?_ (b.M_bound h1)⟩
    · rintro k ⟨h2, h3, h4, q, hq, hc⟩
      exact ⟨h2, h3, h4, q, List.mem_append_left _ hq, hc⟩
    · rintro k ⟨h2, h3, h4, q, hq, hc⟩
      exact ⟨h2, h3, h4, q, List.mem_append_right _ hq, hc⟩
  M_move := by
    rintro w w1 base ok x cs hm ⟨c0, c1, rfl, h0, h1⟩
    exact ⟨c0, c1, rfl, a.M_move hm h0, b.M_move hm h1⟩
  M_lower := by
    rintro w base base' ok x cs hb ⟨c0, c1, rfl, h0, h1⟩
    exact ⟨c0, c1, rfl, a.M_lower hb h0, b.M_lower hb h1⟩
/-- A Lean structure by its fields. -/
def iso {α β : Type} (d : Kd α) (f : β → α) : Kd β where
  sz := d.sz
  E := d.E
  K := fun w x cs => d.K w (f x) cs
  M := fun w base ok x cs => d.M w base ok (f x) cs
  K_len := d.K_len
  K_one := d.K_one
  K_below := d.K_below
  K_of_M := d.K_of_M
  M_mono := d.M_mono
  M_bound := d.M_bound
  M_move := d.M_move
  M_lower := d.M_lower
/-- Nothing is of this kind: where the nesting's depth is used up. -/
def bot {α : Type} (sz : Nat) (E : List Nat) : Kd α where
  sz := sz
  E := E
  K := fun _ _ _ => False
  M := fun _ _ _ _ _ => False
  K_len := fun h => h.elim
  K_one := fun h => h.elim
  K_below := fun _ h => h
  K_of_M := fun h => h
  M_mono := fun _ h => h
  M_bound := fun h => h
  M_move := fun _ h => h
  M_lower := fun _ h => h
/-- A type nested in itself: nested at most n deep .. -/
def upto {α : Type} (F : Kd α → Kd α) (sz : Nat) (E : List Nat) : Nat → Kd α
  | 0 => bot sz E
  | n + 1 => F (upto F sz E n)
/-- .. for some n. -/
def fix {α : Type} (F : Kd α → Kd α) (sz : Nat) (E : List Nat) (hs : ∀ n, (upto F sz E n).sz = sz) (hE : ∀ n q, q ∈ (upto F sz E n).E → q ∈ E) : Kd α where
  sz := sz
  E := E
  K := fun w x cs => ∃ n, (upto F sz E n).K w x cs
  M := fun w base ok x cs => ∃ n, (upto F sz E n).M w base ok x cs
  K_len := by
    rintro w x cs ⟨n, h⟩
    rw [(upto F sz E n).K_len h, hs n]
  K_one := by
    rintro w x cs ⟨n, h⟩
    exact (upto F sz E n).K_one h
  K_below := by
    rintro w w1 x cs hb ⟨n, h⟩
    exact ⟨n, (upto F sz E n).K_below hb h⟩
  K_of_M := by
    rintro w base ok x cs ⟨n, h⟩
    exact ⟨n, (upto F sz E n).K_of_M h⟩
  M_mono := by
    rintro w base ok ok' x cs hok ⟨n, h⟩
    exact ⟨n, (upto F sz E n).M_mono hok h⟩
  M_bound := by
    rintro w base ok x cs ⟨n, h⟩
    refine ⟨n, (upto F sz E n).M_mono ?_ ((upto F sz E n).M_bound h)⟩
    rintro k ⟨h2, h3, h4, q, hq, hc⟩
    exact ⟨h2, h3, h4, q, hE n q hq, hc⟩
  M_move := by
    rintro w w1 base ok x cs hm ⟨n, h⟩
    exact ⟨n, (upto F sz E n).M_move hm h⟩
  M_lower := by
    rintro w base base' ok x cs hb ⟨n, h⟩
    exact ⟨n, (upto F sz E n).M_lower hb h⟩

/-! #### an element of a row that is read; an element appended -/
/-- What an append leaves: the old elements' rows and the new one's are not the new row's block. -/
theorem R_appended {α : Type} {d : Kd α} {e base : Nat} {ok okp : Nat → Prop} {W w1 : World} {v v1 : Value} {xs : List α} {p : α} {inner cs : List Value} (h0 : ∀ k, v.ownBlock = some k → ok k) (hr : Reps (d.M W base (fun k => ok k ∧ some k ≠ v.ownBlock)) d.sz xs inner) (hp : d.M W base okp p cs) (hokp : ∀ k, okp k → ok k ∧ some k ≠ v.ownBlock) (hfresh : ∀ k, W.heap.size ≤ k → ok k)
    (hown : w1.ownsRow base e d.sz v1 (xs.length + 1) (inner ++ cs)) (hg : W.grownBy w1 v.ownBlock) (hat : v1.ownBlock = v.ownBlock ∨ ∃ b, v1.ownBlock = some b ∧ W.heap.size ≤ b) : d.R e w1 base ok v1 (xs ++ [p]) := by
  have hne : ∀ k, some k ≠ v.ownBlock → k < W.heap.size → some k ≠ v1.ownBlock := by
    intro k hk hlt
    rcases hat with hat | ⟨b, hb, hle⟩
    · rw [hat]; exact hk
    · rw [hb]
      intro he
      injection he with he
      omega
  have step : ∀ {q : α} {c : List Value} {o : Nat → Prop}, d.M W base o q c → (∀ k, o k → ok k ∧ some k ≠ v.ownBlock) → d.M w1 base (fun k => ok k ∧ some k ≠ v1.ownBlock) q c := by
    intro q c o hq ho
    have h1 := d.M_move (w1 := w1) (fun k hk => hg.block k hk.2.2.1 (ho k hk.1).2) (d.M_bound hq)
    exact d.M_mono (fun k hk => ⟨(ho k hk.1).1, hne k (ho k hk.1).2 hk.2.2.1⟩) h1
  refine ⟨fun k hk => ?_, inner ++ cs, by rw [List.length_append, List.length_singleton]; exact hown, ?_⟩
  · rcases hat with hat | ⟨b, hb, hle⟩
    · exact h0 k (hat ▸ hk)
    · rw [hb] at hk
      injection hk with hk
      exact hfresh k (by omega)
  · exact (hr.imp_ (fun _ _ hq => step hq (fun _ hk => hk))).snoc (step hp hokp) (d.K_len (d.K_of_M hp))
section
variable {P : Program} {ops : Array Oper} {rest : List Oper} {o : Oper} {a : Act} {Q : Exit → Act → World → Prop} {α : Type}
/-- append(v, x), behind 'at_builtin'; the goal's world is 'W.alloc' of the variadic's box; x's cells are cs, made (its rows satisfy okp). hfresh: a block that is new at W is ok. -/
theorem R_append (d : Kd α) {w0 W : World} (base : Nat) (hgd : o.guard = none) (s x : Operand) (t e : TypeId) (z : Value) (bytes : Nat)
    (ho : o.op = .call { callee := .builtin .append, args := #[s, x], argTypes := #[t, t] })
    (ht : P.underlying t = some (.slice e)) (hinfo : (P.info? e).map (fun i => (i.zero, i.size, i.bytes)) = some (some z, d.sz, bytes)) (hz : z.cells.size = d.sz) (hs0 : 0 < d.sz) (hb0 : 0 < bytes)
    (v : Value) (xs : List α) (p : α) (cs : List Value) (ok okp : Nat → Prop) (hs : a.eval s = v) (hx : a.eval x = .slice (some ⟨W.heap.size, 0, none⟩) 1 1) (hp : d.M W base okp p cs) (hokp : ∀ k, okp k → ok k ∧ some k ≠ v.ownBlock) (hfresh : ∀ k, W.heap.size ≤ k → ok k)
    (HO : d.R e W base ok v xs) (HB : Below base w0 W) (hbase : base ≤ W.heap.size) (hl : (xs.length + 1) * bytes ≤ 140737488355328)
    (h : ∀ v1 w1, d.R e w1 base ok v1 (xs ++ [p]) → Below base w0 w1 → W.grownBy w1 v.ownBlock → (v1.ownBlock = v.ownBlock ∨ ∃ b, v1.ownBlock = some b ∧ W.heap.size ≤ b) → wpList P ops Q rest (a.put o.dst v1) w1) :
    wpList P ops Q (o :: rest) a (W.alloc (.cells cs.toArray e)) := by
  obtain ⟨h0, inner, hown, hr⟩ := HO
  refine print_append_cells base hgd s x t e z d.sz bytes ho ht hinfo hz hs0 hb0 v xs.length inner cs hs hx (d.K_len (d.K_of_M hp)) (d.K_one (d.K_of_M hp)) hown HB hbase hl ?_
  intro v1 w1 hown1 hb1 hg1 hat1
  exact h v1 w1 (R_appended h0 hr hp hokp hfresh hown1 hg1 hat1) hb1 hg1 hat1
end
section
variable {P : Program} {ops : Array Oper} {o : Oper} {a : Act} {Q : Exit → Act → World → Prop} {Kc : Act → World → Prop} {α : Type}
end
theorem reads_of_C {α : Type} {enc : α → Value} {d : α} {h1 : ∀ x, (enc x).oneCell' = true} {w : World} {A : Option Addr} {n : Nat} {xs : List α} (h : (scalar enc h1).C w A n xs) : ReadsOf enc d w A n xs := by
  refine ⟨h.1, h.2.1, fun hn => ?_⟩
  obtain ⟨ad, e, hc⟩ := h.2.2 hn
  refine ⟨ad, e, fun j hj => ?_⟩
  have hl : j < xs.length := by have := h.1; omega
  obtain ⟨c, _, hK, hcell⟩ := hc j _ (List.getElem?_eq_getElem hl)
  have hK' : c = [enc xs[j]] := hK
  subst hK'
  have := hcell 0 _ rfl
  simpa [scalar, List.getD_eq_getElem?_getD, List.getElem?_eq_getElem hl] using this
end Kd
/-! ### 24. Kinds nested in themselves -/
namespace Kd
/-- F says the more, the more its argument says. -/
structure Mono {α β : Type} (F : Kd α → Kd β) : Prop where
  sz : ∀ d d' : Kd α, d.sz = d'.sz → (F d).sz = (F d').sz
  K : ∀ d d' : Kd α, d.sz = d'.sz → (∀ w x cs, d.K w x cs → d'.K w x cs) → ∀ w x cs, (F d).K w x cs → (F d').K w x cs
  M : ∀ d d' : Kd α, d.sz = d'.sz → (∀ w base ok x cs, d.M w base ok x cs → d'.M w base ok x cs) → ∀ w base ok x cs, (F d).M w base ok x cs → (F d').M w base ok x cs
/-- The element types inside stay among E. -/
def Sub {α β : Type} (F : Kd α → Kd β) (E : List Nat) : Prop := ∀ d : Kd α, (∀ q, q ∈ d.E → q ∈ E) → ∀ q, q ∈ (F d).E → q ∈ E
section
variable {α : Type} {F : Kd α → Kd α} {sz : Nat} {E : List Nat} {hs : ∀ n, (upto F sz E n).sz = sz} {hE : ∀ n q, q ∈ (upto F sz E n).E → q ∈ E}
end
end Kd
/-! ### 25. What is held while another row is written: 'ok' says that its rows are none of that row's block -/
namespace Kd
end Kd
/-! ### 26. Words for a printer that takes every slice by its kind -/
namespace Kd
section
variable {α β : Type} {d : Kd α} {d' : Kd β} {e e' : Nat} {w w1 W : World} {base b b' : Nat} {ok ok' okv oku : Nat → Prop} {v u : Value} {xs : List α} {ys : List β}
theorem R_alloc (h : d.R e w base ok v xs) (o : Obj) : d.R e (w.alloc o) base ok v xs := R_below h (below_alloc (Below.refl _ _) o)
theorem R_drew (h : d.R e w base ok v xs) : d.R e w.drew base ok v xs := R_below h (below_drew (Below.refl _ _))
theorem R_drewN (h : d.R e w base ok v xs) (m : Nat) : d.R e (w.drewN m) base ok v xs := R_below h (pw_below_drewN (Below.refl _ _) m)
theorem C_nil (d : Kd α) (w : World) : d.C w none ([] : List α).length [] := ⟨rfl, by simp, fun h => absurd h (Nat.lt_irrefl 0)⟩
end
/-! #### scalars -/
section
variable {w W : World} {A : Option Addr} {n : Nat}
variable {α : Type} {enc : α → Value} {h1 : ∀ x, (enc x).oneCell' = true} {e base g cap : Nat} {ok : Nat → Prop} {xs : List α}
end

/-! #### events: a letter for what make and a literal leave -/
section
variable {P : Program} {ops : Array Oper} {rest : List Oper} {o : Oper} {a : Act} {Q : Exit → Act → World → Prop}
variable {α : Type}
end
end Kd
/-! ### 27. Cuts of a row of one's own: 'xs = xs[:n]' stays a row (R_take); 'xs = xs[k:]' is a row that begins inside its block (Kd.Q), append goes on it too -/
theorem own_take {w : World} {base n m c size : Nat} {e : TypeId} {A : Option Addr} {xs : List Value} (h : w.ownsRow base e size (.slice A n c) n xs) (hm : m ≤ n) : w.ownsRow base e size (.slice A m c) m (xs.take (m * size)) := by
  obtain ⟨h1, h2⟩ := h
  refine ⟨by rw [List.length_take, h1]; exact Nat.min_eq_left (Nat.mul_le_mul_right _ hm), ?_⟩
  rcases h2 with ⟨he, h0⟩ | ⟨g, cap, cur, he, hb, hh, hnc, hcm, hcs, ht⟩
  · injection he with ha _ hc
    subst ha; subst hc
    exact .inl ⟨by rw [show m = 0 by omega], by omega⟩
  · injection he with ha _ hc
    subst ha; subst hc
    refine .inr ⟨g, c, cur, rfl, hb, hh, by omega, hcm, hcs, ?_⟩
    rw [← ht, List.take_take, Nat.min_eq_left (Nat.mul_le_mul_right _ hm)]
section
variable {P : Program}
end
/-- A row of one's own that may begin inside its block. -/
def QRow (w : World) (base : Nat) (e : TypeId) (size : Nat) (v : Value) (n : Nat) (xs : List Value) : Prop :=
  xs.length = n * size ∧
  ((n = 0 ∧ ∃ A, v = .slice A 0 0 ∧ ∀ a, A = some a → base ≤ a.block ∧ ∃ cur, w.heap[a.block]? = some (.cells cur e (0, 0))) ∨
   ∃ g off cap cur, v = .slice (some ⟨g, off * size, none⟩) n cap ∧ base ≤ g ∧ w.heap[g]? = some (.cells cur e (0, 0)) ∧ n ≤ cap ∧ off + cap ≤ maxLen ∧ cur.size = (off + cap) * size ∧ (cur.toList.drop (off * size)).take (n * size) = xs)
section
variable {w w1 : World} {base n size : Nat} {e : TypeId} {v : Value} {xs : List Value}
theorem q_of_own (h : w.ownsRow base e size v n xs) : QRow w base e size v n xs := by
  obtain ⟨h1, h2⟩ := h
  refine ⟨h1, ?_⟩
  rcases h2 with ⟨rfl, h0⟩ | ⟨g, cap, cur, rfl, hb, hh, hnc, hcm, hcs, ht⟩
  · exact .inl ⟨h0, none, rfl, fun a ha => by cases ha⟩
  · exact .inr ⟨g, 0, cap, cur, by rw [Nat.zero_mul], hb, hh, hnc, by rw [Nat.zero_add]; exact hcm, by rw [Nat.zero_add]; exact hcs, by rw [Nat.zero_mul, List.drop_zero]; exact ht⟩
theorem q_typed (h : QRow w base e size v n xs) (k : Nat) (hk : v.ownBlock = some k) : base ≤ k ∧ ∃ cells, w.heap[k]? = some (.cells cells e (0, 0)) := by
  rcases h.2 with ⟨_, A, rfl, hA⟩ | ⟨g, off, cap, cur, rfl, hg, hh, r⟩
  · cases A with
    | none => simp [Value.ownBlock] at hk
    | some a =>
      have : a.block = k := by simpa [Value.ownBlock] using hk
      subst this
      exact hA a rfl
  · have : g = k := by simpa [Value.ownBlock] using hk
    subst this
    exact ⟨hg, cur, hh⟩
theorem q_slice (h : QRow w base e size v n xs) : ∃ A c, v = .slice A n c ∧ n ≤ c := by
  rcases h.2 with ⟨h0, A, rfl, _⟩ | ⟨g, off, cap, cur, rfl, hg, hh, hnc, r⟩
  · exact ⟨A, 0, by rw [h0], by omega⟩
  · exact ⟨_, cap, rfl, hnc⟩
theorem q_max (h : QRow w base e size v n xs) : n ≤ 9223372036854775807 := by
  rcases h.2 with ⟨h0, _⟩ | ⟨g, off, cap, cur, rfl, hg, hh, hnc, hm, r⟩
  · omega
  · simp only [maxLen] at hm
    omega
theorem add_at (g o j : Nat) : (⟨g, o, none⟩ : Addr).add j = ⟨g, o + j, none⟩ := by unfold Addr.add; split <;> simp_all
theorem q_cells {A : Option Addr} {c : Nat} (h : QRow w base e size (.slice A n c) n xs) (hn : 0 < n) : ∃ ad, A = some ad ∧ ∀ j u, xs[j]? = some u → w.cell? (ad.add j) = some u := by
  rcases h.2 with ⟨h0, _⟩ | ⟨g, off, cap, cur, he, hg, hh, hnc, hm, hcs, ht⟩
  · omega
  · injection he with ha _ hc
    subst ha
    refine ⟨_, rfl, fun j u hu => ?_⟩
    rw [add_at, cell_of_row w g _ cur e (0, 0) hh]
    rw [← ht, List.getElem?_take] at hu
    split at hu
    · rw [List.getElem?_drop] at hu
      rw [← Array.getElem?_toList]
      exact hu
    · cases hu
/-- What a run of cells written leaves. -/
theorem setCells_far {g : Nat} : ∀ (vs : List Value) (o : Nat) {w : World} (k : Nat), k ≠ g → (w.setCells g o vs).heap[k]? = w.heap[k]?
  | [], _, _, _, _ => rfl
  | v :: r, o, w, k, hk => by
    rw [World.setCells, setCells_far r (o + 1) k hk]
    exact Below.heap_setCell w ⟨g, o, none⟩ v k hk
theorem setCells_same (g : Nat) : ∀ (vs : List Value) (o : Nat) (w : World), (w.setCells g o vs).os = w.os ∧ (w.setCells g o vs).tape = w.tape ∧ (w.setCells g o vs).output = w.output ∧ (w.setCells g o vs).heap.size = w.heap.size
  | [], _, _ => ⟨rfl, rfl, rfl, rfl⟩
  | v :: r, o, w => by
    obtain ⟨h1, h2, h3, h4⟩ := setCells_same g r (o + 1) (w.setCell ⟨g, o, none⟩ v)
    rw [World.setCells]
    exact ⟨h1, h2, h3, by rw [h4]; simp [World.setCell]⟩
theorem setCells_row {g : Nat} {e : TypeId} : ∀ (vs : List Value) (o : Nat) (w : World) (cur : Array Value), w.heap[g]? = some (.cells cur e (0, 0)) → o + vs.length ≤ cur.size →
    ∃ cur', (w.setCells g o vs).heap[g]? = some (.cells cur' e (0, 0)) ∧ cur'.size = cur.size ∧ cur'.toList = cur.toList.take o ++ vs ++ cur.toList.drop (o + vs.length)
  | [], o, w, cur, h, _ => ⟨cur, h, rfl, by simp⟩
  | v :: r, o, w, cur, h, hl => by
    have h2 := blk_set h o v
    simp only [List.length_cons] at hl
    obtain ⟨cur', h3, h4, h5⟩ := setCells_row r (o + 1) (w.setCell ⟨g, o, none⟩ v) _ h2 (by simp; omega)
    refine ⟨cur', h3, by rw [h4]; simp, ?_⟩
    rw [h5, Array.toList_setIfInBounds]
    have ho : o < cur.toList.length := by rw [Array.length_toList]; omega
    rw [List.take_set, List.drop_set_of_lt (by omega)]
    simp only [List.length_cons]
    rw [show o + 1 + r.length = o + (r.length + 1) by omega]
    congr 1
    rw [List.take_succ_eq_append_getElem ho, List.set_append_right _ _ (by rw [List.length_take]; omega)]
    have ho' : o < cur.size := by omega
    simp [Nat.min_eq_left (Nat.le_of_lt ho')]
end
section
variable {P : Program}
end
/-! ### 28. The kinds' words for cuts: R_take; Q (a row that may begin inside its block) with all of R's movers -/
namespace Kd
theorem reps_take {α : Type} {R : α → List Value → Prop} {size m : Nat} {ps : List α} {cs : List Value} (h : Reps R size ps cs) (hm : m ≤ ps.length) : Reps R size (ps.take m) (cs.take (m * size)) := by
  refine ⟨by rw [List.length_take, List.length_take, h.1, Nat.min_eq_left hm, Nat.min_eq_left (Nat.mul_le_mul_right _ hm)], fun j p hj => ?_⟩
  rw [List.getElem?_take] at hj
  split at hj
  · rename_i hjm
    have := h.2 j p hj
    have hle : j * size + size ≤ m * size := by rw [← Nat.succ_mul]; exact Nat.mul_le_mul_right _ hjm
    rw [List.drop_take, List.take_take, Nat.min_eq_left (by omega)]
    exact this
  · cases hj
theorem R_take {α : Type} {d : Kd α} {e m n c : Nat} {w : World} {base : Nat} {ok : Nat → Prop} {A : Option Addr} {xs : List α} (h : d.R e w base ok (.slice A n c) xs) (hm : m ≤ xs.length) : d.R e w base ok (.slice A m c) (xs.take m) := by
  obtain ⟨h0, inner, ho, hr⟩ := h
  have hn : n = xs.length := by
    obtain ⟨A', c', he⟩ := own_slice ho
    injection he
  subst hn
  have hb : ∀ x y : Nat, (Value.slice A x c).ownBlock = (Value.slice A y c).ownBlock := by
    intro x y
    cases A <;> rfl
  refine ⟨fun k hk => h0 k (by rw [hb _ m]; exact hk), inner.take (m * d.sz), ?_, ?_⟩
  · rw [List.length_take, Nat.min_eq_left hm]
    exact own_take ho hm
  · rw [hb m xs.length]
    exact reps_take hr hm
def Q {α : Type} (d : Kd α) (e : Nat) (w : World) (base : Nat) (ok : Nat → Prop) (v : Value) (xs : List α) : Prop :=
  (∀ k, v.ownBlock = some k → ok k) ∧ ∃ inner, QRow w base e d.sz v xs.length inner ∧ Reps (d.M w base (fun k => ok k ∧ some k ≠ v.ownBlock)) d.sz xs inner
section
variable {α : Type} {d : Kd α} {e : Nat} {w w1 W : World} {base : Nat} {ok ok' : Nat → Prop} {v : Value} {xs : List α}
theorem Q_of_R (h : d.R e w base ok v xs) : d.Q e w base ok v xs := by
  obtain ⟨h0, inner, ho, hr⟩ := h
  exact ⟨h0, inner, q_of_own ho, hr⟩
theorem Q_nil (d : Kd α) (e : Nat) (w : World) (base : Nat) (ok : Nat → Prop) : d.Q e w base ok (.slice none 0 0) [] := Q_of_R (R_nil d e w base ok)
theorem Q_reads' {A : Option Addr} {n c : Nat} (h : d.Q e w base ok (.slice A n c) xs) : n = xs.length ∧ n ≤ c ∧ d.C w A xs.length xs := by
  obtain ⟨_, inner, ho, hr⟩ := h
  obtain ⟨A', c', he, hl⟩ := q_slice ho
  injection he with h1 h2 h3
  subst h1; subst h2; subst h3
  refine ⟨rfl, hl, rfl, q_max ho, fun hp => ?_⟩
  obtain ⟨ad, ha, hc⟩ := q_cells ho hp
  refine ⟨ad, ha, fun j p hj => ⟨(inner.drop (j * d.sz)).take d.sz, ?_, d.K_of_M (hr.2 j p hj), fun i u hu => ?_⟩⟩
  · have hjl := (List.getElem?_eq_some_iff.1 hj).1
    have h1 : j * d.sz + d.sz ≤ inner.length := by rw [hr.1, ← Nat.succ_mul]; exact Nat.mul_le_mul_right _ hjl
    rw [List.length_take, List.length_drop]
    omega
  · refine hc _ u ?_
    rw [List.getElem?_take] at hu
    split at hu
    · rw [List.getElem?_drop] at hu
      exact hu
    · cases hu
end
section
variable {P : Program} {ops : Array Oper} {rest : List Oper} {o : Oper} {a : Act} {Q' : Exit → Act → World → Prop} {Kc : Act → World → Prop} {α : Type}
end
end Kd
/-! ### 29. Movers that ask of another row no more than they need: for R and for Q -/
namespace Kd
section
variable {α : Type} {d : Kd α} {e e' : Nat} {w w1 W : World} {base : Nat} {ok : Nat → Prop} {u v : Value} {xs : List α}

end
end Kd
/-! ### 30. Elements written: x[i] = T{..}, x[i].f = v, swaps, in a row of elements of any kind -/
theorem seg_get {α : Type} (a seg : List α) (o : Nat) (h : o + seg.length ≤ a.length) (q : Nat) :
    (a.take o ++ seg ++ a.drop (o + seg.length))[q]? = if q < o then a[q]? else if q < o + seg.length then seg[q - o]? else a[q]? := by
  have hl : (a.take o).length = o := by rw [List.length_take]; omega
  rw [List.append_assoc]
  by_cases h1 : q < o
  · rw [if_pos h1, List.getElem?_append_left (by omega), List.getElem?_take, if_pos h1]
  · rw [if_neg h1, List.getElem?_append_right (by omega), hl]
    by_cases h2 : q < o + seg.length
    · rw [if_pos h2, List.getElem?_append_left (by omega)]
    · rw [if_neg h2, List.getElem?_append_right (by omega), List.getElem?_drop]
      congr 1
      omega
namespace Kd
section
variable {α : Type} {d : Kd α} {e base g n cap : Nat} {ok okp : Nat → Prop} {W : World} {xs : List α}
end
end Kd
/-! ### 31. What came in, put into what is made: 'fixed d w0' (read in w0, whatever happens since), 'or_ a b', 'mix' (a slice that came in, or one that is made) -/
namespace Kd
def fixed {α : Type} (d : Kd α) (w0 : World) : Kd α where
  sz := d.sz
  E := []
  K := fun _ x cs => d.K w0 x cs
  M := fun _ _ _ x cs => d.K w0 x cs
  K_len := d.K_len
  K_one := d.K_one
  K_below := fun _ h => h
  K_of_M := fun h => h
  M_mono := fun _ h => h
  M_bound := fun h => h
  M_move := fun _ h => h
  M_lower := fun _ h => h
def or_ {α : Type} (a b : Kd α) (h : b.sz = a.sz) : Kd α where
  sz := a.sz
  E := a.E ++ b.E
  K := fun w x cs => a.K w x cs ∨ b.K w x cs
  M := fun w base ok x cs => a.M w base ok x cs ∨ b.M w base ok x cs
  K_len := fun hk => hk.elim a.K_len (fun hk => (b.K_len hk).trans h)
  K_one := fun hk => hk.elim a.K_one b.K_one
  K_below := fun hb hk => hk.imp (a.K_below hb) (b.K_below hb)
  K_of_M := fun hk => hk.imp a.K_of_M b.K_of_M
  M_mono := fun hok hk => hk.imp (a.M_mono hok) (b.M_mono hok)
  M_bound := fun hk => hk.imp
    (fun hk => a.M_mono (fun _ ⟨h1, h2, h3, q, hq, hc⟩ => ⟨h1, h2, h3, q, List.mem_append_left _ hq, hc⟩) (a.M_bound hk))
    (fun hk => b.M_mono (fun _ ⟨h1, h2, h3, q, hq, hc⟩ => ⟨h1, h2, h3, q, List.mem_append_right _ hq, hc⟩) (b.M_bound hk))
  M_move := fun hm hk => hk.imp (a.M_move hm) (b.M_move hm)
  M_lower := fun hb hk => hk.imp (a.M_lower hb) (b.M_lower hb)
/-- A slice whose elements are read by d when it came in, and are of kind dm when it is made. -/
def mix {α : Type} (e : Nat) (d dm : Kd α) (w0 : World) : Kd (List α) := or_ (fixed (slice e d) w0) (slice e dm) rfl
section
variable {α : Type} {F : Kd α → Kd α} {sz : Nat} {E : List Nat} {hs : ∀ n, (upto F sz E n).sz = sz} {hE : ∀ n q, q ∈ (upto F sz E n).E → q ∈ E}
end
end Kd
/-! ### 32. A whole row appended, of elements of any kind; copy onto a row of scalars of one's own -/
namespace Kd
section
variable {P : Program} {ops : Array Oper} {rest : List Oper} {o : Oper} {a : Act} {Q : Exit → Act → World → Prop} {α : Type}
end
end Kd
/-! ### 33. A store into a row of one's own, as_ an event: no go_simp -/
namespace Kd
section
variable {P : Program} {ops : Array Oper} {rest : List Oper} {o : Oper} {a : Act} {Q : Exit → Act → World → Prop} {α : Type}
end
end Kd
/-! ### 34. Cuts that are only read, of any row -/
namespace Kd
section
variable {α : Type} {k : Kd α} {w : World} {A : Option Addr} {xs : List α} {m c : Nat}
end
end Kd
section
variable {P : Program}
end
/-! ### 35. string(b), b read (a cut too) -/
theorem string_of_reads {P : Program} {w : World} {src dst e : TypeId} {A : Option Addr} {n c : Nat} {xs : List Int} (hs : P.underlying src = some (.slice e)) (he : P.underlying e = some (.int .u8)) (hd : P.underlying dst = some .string)
    (h : ReadsInt w .u8 A n xs) : (convert src dst (.slice A n c)).run P w = .ok (.string (strOfNums xs)) w := by
  have hn : xs.length = n := h.1
  rcases A with _ | ad
  · have h0 : n = 0 := by
      rcases Nat.eq_zero_or_pos n with h0 | h0
      · exact h0
      · obtain ⟨ad, h', _⟩ := h.2.2 h0
        cases h'
    subst h0
    obtain rfl : xs = [] := List.eq_nil_of_length_eq_zero hn
    exact run_convert_bytes_nil w src e hs he 0 c dst hd
  · have hl : (loadCells ad n).run P w = .ok (xs.map (Value.int .u8)).toArray w := by
      have := run_loadCells_list (P := P) w ad (xs.map (Value.int .u8)) (fun j v hj => by
        have hjl : j < xs.length := by
          rcases Nat.lt_or_ge j xs.length with h' | h'
          · exact h'
          · rw [List.getElem?_eq_none (by rw [List.length_map]; exact h')] at hj
            cases hj
        obtain ⟨ad', he', hc⟩ := h.2.2 (by omega)
        injection he' with he'
        subst he'
        rw [hc j (by omega)]
        rw [List.getElem?_map, List.getElem?_eq_getElem hjl] at hj
        simp at hj
        subst hj
        simp [List.getD_eq_getElem?_getD, List.getElem?_eq_getElem hjl])
      simpa [hn] using this
    rw [run_convert_bytes_string w src dst e _ n c hs he hd, run_bytesToString w ad n c xs hl, foldl_push_bytes]
    simp [strOfNums, ByteArray.empty, ByteArray.emptyWithCapacity]
    rfl
theorem Kd.C_string {P : Program} {w : World} {src dst e : TypeId} {A : Option Addr} {n c : Nat} {xs : List Int} (hs : P.underlying src = some (.slice e)) (he : P.underlying e = some (.int .u8)) (hd : P.underlying dst = some .string)
    (h : (Kd.int .u8).C w A n xs) : (convert src dst (.slice A n c)).run P w = .ok (.string (strOfNums xs)) w :=
  string_of_reads hs he hd (Kd.reads_of_C (enc := Value.int .u8) (d := (0 : Int)) (h1 := fun _ => rfl) h)
/-! ### 6. What the printer adds -/
theorem below_size {w W : World} (h : Below w.heap.size w W) : w.heap.size ≤ W.heap.size := h.size
theorem ReadsInt.nil (W : World) (k : IntKind) : ReadsInt W k none ([] : List Int).length [] := ⟨rfl, by simp, fun h => absurd h (Nat.lt_irrefl 0)⟩
theorem ReadsInt.drewN {W : World} {k : IntKind} {A : Option Addr} {n : Nat} {xs : List Int} (h : ReadsInt W k A n xs) (m : Nat) : ReadsInt (W.drewN m) k A n xs := h
theorem ReadsInt.allocS {W : World} {k : IntKind} {A : Option Addr} {n : Nat} {xs : List Int} (h : ReadsInt W k A n xs) (o : Obj) : ReadsInt (W.alloc o) k A n xs := h.below (below_alloc (Below.refl _ _) o)
theorem keep_cell {w W : World} {g : Nat} (h : KeepBut w W g none) {a : Addr} {v : Value} (hc : w.cell? a = some v) (hne : a.block ≠ g) : W.cell? a = some v := by
  have := h.2 a.block (World.block_lt_of_cell? w a hc) hne (by simp)
  simpa [World.cell?, this] using hc
theorem add_block (a : Addr) (i : Nat) : (a.add i).block = a.block := by unfold Addr.add; split <;> rfl
theorem ReadsOf.nil {α : Type} (enc : α → Value) (d : α) (W : World) : ReadsOf enc d W none ([] : List α).length [] := ⟨rfl, by simp, fun h => absurd h (Nat.lt_irrefl 0)⟩
theorem ReadsOf.drewN {α : Type} {enc : α → Value} {d : α} {W : World} {A : Option Addr} {n : Nat} {xs : List α} (h : ReadsOf enc d W A n xs) (m : Nat) : ReadsOf enc d (W.drewN m) A n xs := h
theorem ReadsOf.allocS {α : Type} {enc : α → Value} {d : α} {W : World} {A : Option Addr} {n : Nat} {xs : List α} (h : ReadsOf enc d W A n xs) (o : Obj) : ReadsOf enc d (W.alloc o) A n xs := h.below (below_alloc (Below.refl _ _) o)
/-- An own row, or what came in, lies elsewhere than the state's block. -/
theorem far_own {W : World} {base n c g : Nat} {e : TypeId} {size : Nat} {A : Option Addr} {xs : List Value} (_ : W.ownsRow base e size (.slice A n c) n xs) (hne : some g ≠ (Value.slice A n c).ownBlock) : ∀ ad, A = some ad → 0 < n → ad.block ≠ g := by
  rintro ad rfl _ rfl
  exact hne (by simp [Value.ownBlock])
theorem ReadsInt.keep {w W : World} {k : IntKind} {A : Option Addr} {n g : Nat} {xs : List Int} (h : ReadsInt w k A n xs) (hk : KeepBut w W g none) (hf : ∀ ad, A = some ad → 0 < n → ad.block ≠ g) : ReadsInt W k A n xs :=
  ⟨h.1, h.2.1, fun hn => by
    obtain ⟨ad, e, hc⟩ := h.2.2 hn
    exact ⟨ad, e, fun j hj => keep_cell hk (hc j hj) (by rw [add_block]; exact hf ad e hn)⟩⟩
theorem ReadsOf.keep {α : Type} {enc : α → Value} {d : α} {w W : World} {A : Option Addr} {n g : Nat} {xs : List α} (h : ReadsOf enc d w A n xs) (hk : KeepBut w W g none) (hf : ∀ ad, A = some ad → 0 < n → ad.block ≠ g) : ReadsOf enc d W A n xs :=
  ⟨h.1, h.2.1, fun hn => by
    obtain ⟨ad, e, hc⟩ := h.2.2 hn
    exact ⟨ad, e, fun j hj => keep_cell hk (hc j hj) (by rw [add_block]; exact hf ad e hn)⟩⟩
theorem own_blk {W : World} {base n c : Nat} {e : TypeId} {size g : Nat} {ad : Addr} {xs : List Value} (_ : W.ownsRow base e size (.slice (some ad) n c) n xs) (hne : some g ≠ (Value.slice (some ad) n c).ownBlock) : ad.block ≠ g := by
  rintro rfl
  exact hne (by simp [Value.ownBlock])
theorem below_drew1 {base : Nat} {w W : World} (h : Below base w W) : Below base w W.drew := h.drew
namespace Kd
section
variable {α β : Type} {d : Kd α} {d' : Kd β} {e e' base base' n : Nat} {ok ok' : Nat → Prop} {w W w1 W1 : World} {v u : Value} {xs : List α} {ys : List β} {A : Option Addr} {c : Nat}
theorem own_blk {ad : Addr} {g : Nat} (hne : some g ≠ (Value.slice (some ad) n c).ownBlock) : ad.block ≠ g := by
  rintro rfl
  exact hne (by simp [Value.ownBlock])
theorem far_own {g : Nat} (_ : d.R e w base ok (.slice A n c) xs) (hne : some g ≠ (Value.slice A n c).ownBlock) : ∀ ad, A = some ad → 0 < n → ad.block ≠ g := by
  rintro ad rfl _ rfl
  exact hne (by simp [Value.ownBlock])
end
section
variable {α : Type} {enc : α → Value} {h1 : ∀ x, (enc x).oneCell' = true} {w W : World} {A : Option Addr} {n g : Nat} {xs : List α}
end
end Kd
namespace Kd
section
variable {α : Type} {d : Kd α} {e base g : Nat} {ok : Nat → Prop} {w w1 : World} {v : Value} {xs : List α} {o : Obj}
end
end Kd
section
variable {P : Program} {ops : Array Oper} {rest : List Oper} {o : Oper} {a : Act} {Q : Exit → Act → World → Prop}
end
namespace Kd
section
variable {α : Type} {enc : α → Value} {h1 : ∀ x, (enc x).oneCell' = true} {e base g n cap : Nat} {ok : Nat → Prop} {W : World} {xs : List α}
end
end Kd
section
variable {P : Program} {ops : Array Oper} {rest : List Oper} {o : Oper} {a : Act} {Q : Exit → Act → World → Prop}
end
namespace Kd
section
variable {α : Type} {enc : α → Value} {h1 : ∀ x, (enc x).oneCell' = true} {e base g n cap : Nat} {ok : Nat → Prop} {W : World} {xs : List α}
end
end Kd
section
variable {P : Program} {ops : Array Oper} {rest : List Oper} {o : Oper} {a : Act} {Q : Exit → Act → World → Prop} {W : World}
end
/-! ### 36. Events as_ one step of a region that draws (for one_, two_, three_) -/
section
variable {P : Program} {ops : Array Oper} {o : Oper} {a : Act} {Q : Exit → Act → World → Prop} {Kc : Act → World → Prop}
namespace Kd
variable {α : Type}
end Kd
end
/-! ### 37. Results of any shape -/
inductive Vals (P : Program) (tmps : Array Value) (w : World) : List ResultVar → List Value → Prop where
  | nil : Vals P tmps w [] []
  | tmp {u : Tmp} {rs : List ResultVar} {vs : List Value} (h : Vals P tmps w rs vs) : Vals P tmps w (.tmp u :: rs) (tmps.getD u undef :: vs)
  | cell {p : Tmp} {ty : TypeId} {rs : List ResultVar} {vs : List Value} (g : Nat) (t : TypeId) (cs : Array Value) (fr : Nat × Nat) (d : TypeDesc)
      (hp : tmps.getD p undef = .pointer (some ⟨g, 0, none⟩)) (hg : w.heap[g]? = some (.cells cs t fr))
      (hu : P.underlying ty = some d) (hd : (match d with | .struct _ | .array _ _ => true | _ => false) = true) (hi : (P.info? ty).map (·.size) = some cs.size)
      (h : Vals P tmps w rs vs) : Vals P tmps w (.cell p ty :: rs) (.agg cs :: vs)
section
variable {P : Program} {tmps : Array Value} {w : World}
theorem vals_run {rs : List ResultVar} {vs : List Value} (hv : Vals P tmps w rs vs) (f : ResultVar → Sem Value) (hf : ∀ u, f (.tmp u) = pure (tmps.getD u undef)) (hc : ∀ a t, f (.cell a t) = (do loadVar t (← asAddr (tmps.getD a undef)))) :
    (rs.mapM f).run P w = .ok vs w := by
  induction hv with
  | nil => simp
  | tmp h ih => simp [List.mapM_cons, hf, ih]
  | cell g t cs fr d hp hg hu hd hi h ih =>
    rw [List.mapM_cons, hc, hp]
    simp [asAddr, run_loadVar_row w g t _ cs fr d hg hu hd hi, ih]
/-- Two results or more (or none): 'results_list (rs := [..]) rfl (by simp) (.cell g t cs fr d rfl hg hu rfl hi (.tmp (.tmp .nil)))'. -/
theorem results_list {fn : Func} {rs : List ResultVar} {vs : List Value} (h : fn.results = rs.toArray) (hl : vs.length ≠ 1) (hv : Vals P tmps w rs vs) : (results fn tmps).run P w = .ok (.tuple vs.toArray) w := by
  unfold results
  rw [h, List.mapM_toArray]
  simp only [Sem.run_bind, Sem.run_map]
  rw [vals_run hv]
  · simp [hl]
  · intro u
    rfl
  · intro a t
    rfl
end
/-! ### 38. 'out = append(out[:k], out[k+1:]...)': an element taken out of a row of one's own, in place -/
namespace Kd
section
variable {P : Program} {α : Type}
end
section
variable {P : Program} {ops : Array Oper} {rest : List Oper} {o : Oper} {a : Act} {Q : Exit → Act → World → Prop} {Kc : Act → World → Prop} {α : Type}
end
end Kd

end Go.Proofs.YtdkaaieenbmihaaW.PrintWords
namespace Go.Proofs.YtdkaaieenbmihaaW.PrintLast

section
variable {P : Program} {ops : Array Oper} {Q : Exit → Act → World → Prop} {md : Region.Mode} {S : World → Prop} {ds : List Nat}

/-- Operation d waits for operation i, by a chain of at most 'fuel' edges. -/
def Region.reachB (md : Region.Mode) (ops : Array Oper) (i : Nat) : Nat → Nat → Bool
  | 0, _ => false
  | fuel + 1, d => match ops[d]? with
    | some o => o.after.any fun e => Region.binds md e && (e.on == i || Region.reachB md ops i fuel e.on)
    | none => false

/-- What is listed is closed under the edges. -/
def Region.closedB (md : Region.Mode) (ops : Array Oper) (listed : Array Bool) : Bool :=
  (List.range ops.size).all fun j => !listed.getD j false || match ops[j]? with
    | some o => o.after.all fun e => !Region.binds md e || listed.getD e.on false
    | none => true

/-- Each of ds that has not come up yet waits for number i. -/
def Region.lastB (md : Region.Mode) (ops : Array Oper) (listed : Array Bool) (ds : List Nat) (i : Nat) : Bool :=
  ds.all fun d => listed.getD d true || Region.reachB md ops i ops.size d

def ListedClosed (md : Region.Mode) (ops : Array Oper) (listed : Array Bool) : Prop :=
  ∀ j oj, ops[j]? = some oj → listed.getD j false = true → ∀ e ∈ oj.after, Region.binds md e = true → listed.getD e.on false = true

theorem Region.closedB_spec {listed : Array Bool} (h : Region.closedB md ops listed = true) : ListedClosed md ops listed := by
  intro j oj hj hl e he hb
  have hlt : j < ops.size := (Array.getElem?_eq_some_iff.1 hj).1
  have h1 := List.all_eq_true.1 h j (List.mem_range.2 hlt)
  simp only [hl, hj, Bool.not_true, Bool.false_or] at h1
  have h2 := Array.all_eq_true_iff_forall_mem.1 h1 e he
  simpa [hb] using h2

theorem ListedClosed.set {listed : Array Bool} {i : Nat} (h : ListedClosed md ops listed) (hi : i ∈ Region.ready md ops listed) : ListedClosed md ops (listed.setIfInBounds i true) := by
  obtain ⟨_, oi, hoi, hall⟩ := mem_ready.1 hi
  intro j oj hj hl e he hb
  by_cases hij : i = j
  · subst hij
    have : oj = oi := Option.some.inj (hj.symm.trans hoi)
    subst this
    exact getD_set_true (hall e he hb)
  · rw [getD_set_ne false hij] at hl
    exact getD_set_true (h j oj hj hl e he hb)

theorem Region.reach_listed {listed : Array Bool} {i : Nat} (hc : ListedClosed md ops listed) : ∀ (fuel d : Nat), Region.reachB md ops i fuel d = true → listed.getD d false = true → listed.getD i false = true
  | 0, _, h, _ => by simp [Region.reachB] at h
  | fuel + 1, d, h, hl => by
    unfold Region.reachB at h
    cases ho : ops[d]? with
    | none => rw [ho] at h; simp at h
    | some o =>
      rw [ho] at h
      obtain ⟨e, he, h1⟩ := Array.any_eq_true'.1 h
      simp only [Bool.and_eq_true, Bool.or_eq_true, beq_iff_eq] at h1
      have hle := hc d o ho hl e he h1.1
      rcases h1.2 with h2 | h2
      · rw [← h2]; exact hle
      · exact Region.reach_listed hc fuel e.on h2 hle

/-- What waits for i cannot come up before i is listed. -/
theorem Region.reach_not_ready {listed : Array Bool} {i d fuel : Nat} (hc : ListedClosed md ops listed) (hr : Region.reachB md ops i fuel d = true) (hun : listed.getD i true = false) : d ∉ Region.ready md ops listed := by
  intro hd
  obtain ⟨_, o, ho, hall⟩ := mem_ready.1 hd
  have hi : listed.getD i false = true := by
    cases fuel with
    | zero => simp [Region.reachB] at hr
    | succ n =>
      unfold Region.reachB at hr
      rw [ho] at hr
      obtain ⟨e, he, h1⟩ := Array.any_eq_true'.1 hr
      simp only [Bool.and_eq_true, Bool.or_eq_true, beq_iff_eq] at h1
      have hle := hall e he h1.1
      rcases h1.2 with h2 | h2
      · rw [← h2]; exact hle
      · exact Region.reach_listed hc n e.on h2 hle
  rcases Nat.lt_or_ge i listed.size with h' | h'
  · simp [h'] at hun hi
    rw [hun] at hi
    cases hi
  · simp [Array.getElem?_eq_none h'] at hun

/-- Whatever order is picked from here on, AND 'S' HOLDS BEHIND EVERY OPERATION THAT IS CARRIED OUT, those of ds apart. -/
def wpAnyLast (P : Program) (md : Region.Mode) (ops : Array Oper) (Q : Exit → Act → World → Prop) (S : World → Prop) (ds : List Nat) : Nat → Array Bool → Act → World → Prop
  | 0, listed, a, w => Region.ready md ops listed = [] ∧ Q .normal a w
  | fuel + 1, listed, a, w =>
    (Region.ready md ops listed = [] → Q .normal a w) ∧
    ∀ i ∈ Region.ready md ops listed, wpOp P ops Q i (fun a' w' => (i ∉ ds → S w → S w') ∧ wpAnyLast P md ops Q S ds fuel (listed.setIfInBounds i true) a' w') a w


theorem wpAnyLast_first {i : Nat} {oi : Oper} {v : Value} (hi : ops[i]? = some oi) (hsel : ∀ (j : Nat) (o : Oper) cs b, ops[j]? = some o → o.op ≠ .select cs b)
    (hQ : ∀ c a w, Q (.panic c) (a.put oi.dst v) w → Q (.panic c) a w) (n : Nat) :
    ∀ (fuel : Nat) (listed : Array Bool) (a : Act) (w : World),
      (∀ j oj, ops[j]? = some oj → j ≠ i → listed.getD j true = false → (∀ e ∈ oj.after, Region.binds md e = true → e.on ≠ i) → oi.apart ops oj = true) →
      ListedClosed md ops listed → (∀ d ∈ ds, listed.getD d true = false → Region.reachB md ops i n d = true) →
      i ∈ Region.ready md ops listed → YieldsIf P ops S oi v a → S w →
      wpAnyLast P md ops Q S ds fuel (listed.setIfInBounds i true) (a.put oi.dst v) w → wpAnyLast P md ops Q S ds (fuel + 1) listed a w := by
  intro fuel
  induction fuel with
  | zero =>
    intro listed a w _ _ _ hr hy hS H
    refine ⟨fun h => (by rw [h] at hr; cases hr), fun j hj => ?_⟩
    by_cases hji : j = i
    · subst hji; exact hy.wpOp hi hS ⟨fun _ h => h, H⟩
    · have := ready_mono hj hji
      rw [H.1] at this
      cases this
  | succ fuel ih =>
    intro listed a w hfree hc hd hr hy hS H
    refine ⟨fun h => (by rw [h] at hr; cases hr), fun j hj => ?_⟩
    by_cases hji : j = i
    · subst hji; exact hy.wpOp hi hS ⟨fun _ h => h, H⟩
    · have h1 := H.2 j (ready_mono hj hji)
      obtain ⟨hjun, oj, hoj, hall⟩ := mem_ready.1 hj
      have hiun := (mem_ready.1 hr).1
      have hnot : ∀ e ∈ oj.after, Region.binds md e = true → e.on ≠ i := fun e he hb heq => by
        have h1 := hall e he hb
        rw [heq] at h1
        rcases Nat.lt_or_ge i listed.size with h' | h'
        · simp [h'] at hiun h1; rw [hiun] at h1; cases h1
        · simp [Array.getElem?_eq_none h'] at h1
      have hjd : j ∉ ds := fun hm => Region.reach_not_ready hc (hd j hm hjun) hiun hj
      have h2 := wpOp_putIf hoj (hfree j oj hoj hji hjun hnot) (fun cs b => hsel i oi cs b hi) (fun cs b => hsel j oj cs b hoj) hQ hy h1
      have hfree' : ∀ k ok, ops[k]? = some ok → k ≠ i → (listed.setIfInBounds j true).getD k true = false →
          (∀ e ∈ ok.after, Region.binds md e = true → e.on ≠ i) → oi.apart ops ok = true := fun k ok hk hki hun hno => by
        refine hfree k ok hk hki ?_ hno
        by_cases hjk : j = k
        · subst hjk; exact hjun
        · rw [getD_set_ne true hjk] at hun; exact hun
      have hd' : ∀ d ∈ ds, (listed.setIfInBounds j true).getD d true = false → Region.reachB md ops i n d = true := fun d hm hun => by
        refine hd d hm ?_
        by_cases hjk : j = d
        · subst hjk; exact hjun
        · rw [getD_set_ne true hjk] at hun; exact hun
      refine wpOp_mono (fun a' w' h3 => ⟨h3.2.1, ih (listed.setIfInBounds j true) a' w' hfree' (hc.set hj) hd' (ready_mono hr (Ne.symm hji)) h3.1 (h3.2.1 hjd hS) ?_⟩) h2
      rw [Array.setIfInBounds_comm _ _ hji]
      exact h3.2.2


/-- Take number 'i' first. -/
theorem wpAnyLast_take {i : Nat} {oi : Oper} {v : Value} {fuel : Nat} {listed : Array Bool} {a : Act} {w : World} (hi : ops[i]? = some oi)
    (hs : Region.noSelect ops = true) (hf : Region.free md ops listed i = true) (hr : (Region.ready md ops listed).contains i = true)
    (hc : Region.closedB md ops listed = true) (hl : Region.lastB md ops listed ds i = true)
    (hQ : ∀ c a w, Q (.panic c) (a.put oi.dst v) w → Q (.panic c) a w) (hy : YieldsIf P ops S oi v a) (hS : S w)
    (h : wpAnyLast P md ops Q S ds fuel (listed.setIfInBounds i true) (a.put oi.dst v) w) : wpAnyLast P md ops Q S ds (fuel + 1) listed a w :=
  wpAnyLast_first hi (Region.noSelect_spec hs) hQ ops.size fuel listed a w (Region.free_spec hi hf) (Region.closedB_spec hc)
    (fun d hm hun => by have := List.all_eq_true.1 hl d hm; rw [hun] at this; simpa using this) (by simpa using hr) hy hS h

theorem wpAnyLast_all {rs : List Nat} {fuel : Nat} {listed : Array Bool} {a : Act} {w : World} (hr : Region.ready md ops listed = rs) (hne : rs ≠ [])
    (h : ∀ i ∈ rs, wpOp P ops Q i (fun a' w' => (i ∉ ds → S w → S w') ∧ wpAnyLast P md ops Q S ds fuel (listed.setIfInBounds i true) a' w') a w) : wpAnyLast P md ops Q S ds (fuel + 1) listed a w :=
  ⟨fun h0 => absurd (hr ▸ h0) hne, hr ▸ h⟩



end

section
variable {P : Program} {ops : Array Oper} {Q : Exit → Act → World → Prop} {md : Region.Mode} {S : World → Prop} {ds : List Nat}

def AllReadyL (P : Program) (md : Region.Mode) (ops : Array Oper) (Q : Exit → Act → World → Prop) (S : World → Prop) (ds : List Nat) (fuel : Nat) (listed : Array Bool) (a : Act) (w : World) (rs : List Nat) : Prop :=
  ∀ i ∈ rs, wpOp P ops Q i (fun a' w' => (i ∉ ds → S w → S w') ∧ wpAnyLast P md ops Q S ds fuel (listed.setIfInBounds i true) a' w') a w
theorem AllReadyL.nil {fuel : Nat} {listed : Array Bool} {a : Act} {w : World} : AllReadyL P md ops Q S ds fuel listed a w [] := fun _ h => by cases h
theorem AllReadyL.cons {fuel : Nat} {listed : Array Bool} {a : Act} {w : World} {i : Nat} {o : Oper} {rs : List Nat} (ho : ops[i]? = some o) (hd : i ∉ ds)
    (h : ∀ K' : Act → World → Prop, Shut (∀ a w, S w → (S w → wpAnyLast P md ops Q S ds fuel (listed.setIfInBounds i true) a w) → K' a w) → if Region.wanted o (yielded ops a.tmps) = true then Oper.wp P o a w K' Q else K' (a.put o.dst undef) w)
    (hs : AllReadyL P md ops Q S ds fuel listed a w rs) : AllReadyL P md ops Q S ds fuel listed a w (i :: rs) := fun j hj => by
  rcases List.mem_cons.1 hj with rfl | hj
  · exact wpOp_step ho (fun K' hK => h K' (fun a w hS hW => hK a w ⟨fun _ _ => hS, hW hS⟩))
  · exact hs j hj
theorem wpAnyLast_ready {rs : List Nat} {fuel : Nat} {listed : Array Bool} {a : Act} {w : World} (hr : Region.ready md ops listed = rs) (hne : rs ≠ [])
    (h : AllReadyL P md ops Q S ds fuel listed a w rs) : wpAnyLast P md ops Q S ds (fuel + 1) listed a w := wpAnyLast_all hr hne h
def takeB (md : Region.Mode) (ops : Array Oper) (ds : List Nat) (l l' : Array Bool) (i : Nat) : Bool :=
  Region.noSelect ops && Region.free md ops l i && (Region.ready md ops l).contains i && Region.closedB md ops l && Region.lastB md ops l ds i && (l.setIfInBounds i true == l')
theorem take_ {i : Nat} {N : Option Tmp} {oi : Oper} {v : Value} {fuel : Nat} {l : Array Bool} {a : Act} {w : World} (l' : Array Bool) (hi : ops[i]? = some oi) (hN : oi.dst = N) (hc : takeB md ops ds l l' i = true)
    (hQ : ∀ c a w, Q (.panic c) (a.put oi.dst v) w → Q (.panic c) a w) (hy : YieldsIf P ops S oi v a) (hS : S w) {a' : Act} (ha : a.put N v = a')
    (h : wpAnyLast P md ops Q S ds fuel l' a' w) : wpAnyLast P md ops Q S ds (fuel + 1) l a w := by
  subst ha
  subst hN
  simp only [takeB, Bool.and_eq_true, beq_iff_eq] at hc
  obtain ⟨⟨⟨⟨⟨h1, h2⟩, h3⟩, h4⟩, h5⟩, h6⟩ := hc
  subst h6
  exact wpAnyLast_take hi h1 h2 h3 h4 h5 hQ hy hS h
def anyB (md : Region.Mode) (ops : Array Oper) (l l' : Array Bool) (i : Nat) : Bool :=
  Region.noSelect ops && Region.free md ops l i && (Region.ready md ops l).contains i && (l.setIfInBounds i true == l')
def readyB (md : Region.Mode) (ops : Array Oper) (l l' : Array Bool) (i : Nat) : Bool := (Region.ready md ops l == [i]) && (l.setIfInBounds i true == l')
/-- One operation alone may come up now (a call, a build, an append ..): it is run, S is shown behind it. -/
theorem one_ {i : Nat} {N : Option Tmp} {oi : Oper} {fuel : Nat} {l : Array Bool} {a : Act} {w : World} (l' : Array Bool) (hi : ops[i]? = some oi) (hN : oi.dst = N) (hc : readyB md ops l l' i = true) (hd : i ∉ ds)
    (h : ∀ K : Act → World → Prop, Shut (∀ a' w', S w' → (S w' → wpAnyLast P md ops Q S ds fuel l' a' w') → K a' w') → if Region.wanted oi (yielded ops a.tmps) = true then Oper.wp P oi a w K Q else K (a.put N undef) w) :
    wpAnyLast P md ops Q S ds (fuel + 1) l a w := by
  subst hN
  simp only [readyB, Bool.and_eq_true, beq_iff_eq] at hc
  obtain ⟨h1, h2⟩ := hc
  subst h2
  exact wpAnyLast_ready h1 (by simp) (AllReadyL.cons hi hd (fun K hK => h K hK) AllReadyL.nil)
/-! ### Several operations that write or call may come up: each order is walked, what follows is shown once (join_) -/
theorem two_ {i j : Nat} {Ni Nj : Option Tmp} {oi oj : Oper} {fuel : Nat} {l : Array Bool} {a : Act} {w : World} (li lj : Array Bool) (hi : ops[i]? = some oi) (hj : ops[j]? = some oj) (hNi : oi.dst = Ni) (hNj : oj.dst = Nj)
    (hc : (Region.ready md ops l == [i, j] && l.setIfInBounds i true == li && l.setIfInBounds j true == lj) = true) (hdi : i ∉ ds) (hdj : j ∉ ds)
    (h1 : ∀ K : Act → World → Prop, Shut (∀ a' w', S w' → (S w' → wpAnyLast P md ops Q S ds fuel li a' w') → K a' w') → if Region.wanted oi (yielded ops a.tmps) = true then Oper.wp P oi a w K Q else K (a.put Ni undef) w)
    (h2 : ∀ K : Act → World → Prop, Shut (∀ a' w', S w' → (S w' → wpAnyLast P md ops Q S ds fuel lj a' w') → K a' w') → if Region.wanted oj (yielded ops a.tmps) = true then Oper.wp P oj a w K Q else K (a.put Nj undef) w) :
    wpAnyLast P md ops Q S ds (fuel + 1) l a w := by
  subst hNi
  subst hNj
  simp only [Bool.and_eq_true, beq_iff_eq] at hc
  obtain ⟨⟨h3, h4⟩, h5⟩ := hc
  subst h4
  subst h5
  exact wpAnyLast_ready h3 (by simp) (AllReadyL.cons hi hdi (fun K hK => h1 K hK) (AllReadyL.cons hj hdj (fun K hK => h2 K hK) AllReadyL.nil))
theorem three_ {i j k : Nat} {Ni Nj Nk : Option Tmp} {oi oj ok : Oper} {fuel : Nat} {l : Array Bool} {a : Act} {w : World} (li lj lk : Array Bool) (hi : ops[i]? = some oi) (hj : ops[j]? = some oj) (hk : ops[k]? = some ok) (hNi : oi.dst = Ni) (hNj : oj.dst = Nj) (hNk : ok.dst = Nk)
    (hc : (Region.ready md ops l == [i, j, k] && l.setIfInBounds i true == li && l.setIfInBounds j true == lj && l.setIfInBounds k true == lk) = true) (hdi : i ∉ ds) (hdj : j ∉ ds) (hdk : k ∉ ds)
    (h1 : ∀ K : Act → World → Prop, Shut (∀ a' w', S w' → (S w' → wpAnyLast P md ops Q S ds fuel li a' w') → K a' w') → if Region.wanted oi (yielded ops a.tmps) = true then Oper.wp P oi a w K Q else K (a.put Ni undef) w)
    (h2 : ∀ K : Act → World → Prop, Shut (∀ a' w', S w' → (S w' → wpAnyLast P md ops Q S ds fuel lj a' w') → K a' w') → if Region.wanted oj (yielded ops a.tmps) = true then Oper.wp P oj a w K Q else K (a.put Nj undef) w)
    (h3 : ∀ K : Act → World → Prop, Shut (∀ a' w', S w' → (S w' → wpAnyLast P md ops Q S ds fuel lk a' w') → K a' w') → if Region.wanted ok (yielded ops a.tmps) = true then Oper.wp P ok a w K Q else K (a.put Nk undef) w) :
    wpAnyLast P md ops Q S ds (fuel + 1) l a w := by
  subst hNi
  subst hNj
  subst hNk
  simp only [Bool.and_eq_true, beq_iff_eq] at hc
  obtain ⟨⟨⟨h4, h5⟩, h6⟩, h7⟩ := hc
  subst h5
  subst h6
  subst h7
  exact wpAnyLast_ready h4 (by simp) (AllReadyL.cons hi hdi (fun K hK => h1 K hK) (AllReadyL.cons hj hdj (fun K hK => h2 K hK) (AllReadyL.cons hk hdk (fun K hK => h3 K hK) AllReadyL.nil)))
/-- The act with some destinations filled. -/
def putAll : Act → List (Tmp × Value) → Act
  | a, [] => a
  | a, (n, v) :: r => putAll (a.put (some n) v) r
/-- What follows, once: s the values that the orders leave, F what is known of them and of the world. -/
theorem join_ {σ : Type} {fuel : Nat} {l : Array Bool} {a : Act} {w : World} (fuel' : Nat) (l' : Array Bool) (ns : σ → List (Tmp × Value)) (F : σ → World → Prop)
    (hcont : ∀ s w', F s w' → wpAnyLast P md ops Q S ds fuel' l' (putAll a (ns s)) w')
    (h : (∀ s w', F s w' → wpAnyLast P md ops Q S ds fuel' l' (putAll a (ns s)) w') → wpAnyLast P md ops Q S ds fuel l a w) : wpAnyLast P md ops Q S ds fuel l a w := h hcont
/-- A call of a Go function, by its contract. -/
theorem call_ {oi : Oper} {N : Option Tmp} {a : Act} {w : World} {K : Act → World → Prop} (f : FuncId) (args : Array Value) (hw : Region.wanted oi (yielded ops a.tmps) = true) (hN : oi.dst = N) (hrun : (execOp a.eval oi).run P w = .ok (.enter f args) w)
    (h : Calls P f args w fun e w' => ∃ v, e = .returned v ∧ K (a.put N v) w') : if Region.wanted oi (yielded ops a.tmps) = true then Oper.wp P oi a w K Q else K (a.put N undef) w := by
  rw [if_pos hw]
  subst hN
  unfold Oper.wp
  rw [hrun, Oper.upon_enter]
  refine h.mono fun e w'' hh => ?_
  obtain ⟨v, rfl, hk⟩ := hh
  exact hk
theorem enters_ {f : FuncId} {fn : Func} (hf : P.funcs[f]? = some fn) (hname : (fn.name == "runtime.NumGoroutine") = false) (hb : fn.body.isSome = true) (args : Array Value) (w : World) : (callFunc f args).run P w = .ok (.enter f args) w := by
  have h1 : fn.name ≠ "runtime.NumGoroutine" := by simpa using hname
  obtain ⟨c, hc⟩ := Option.isSome_iff_exists.1 hb
  simp [callFunc, hf, h1, hc]
/-- The same, the operation's run shown here: 'goes_ A.func3 (by kernel_rfl) rfl #[..] (by rfl) rfl rfl (by rfl) ?_'. -/
theorem goes_ {oi : Oper} {N : Option Tmp} {a : Act} {w : World} {K : Act → World → Prop} {f : FuncId} {fn : Func} {as1 : Array Operand} {ts : Array TypeId} (hf : P.funcs[f]? = some fn) (hname : (fn.name == "runtime.NumGoroutine") = false) (hb : fn.body.isSome = true) (args : Array Value)
    (hw : Region.wanted oi (yielded ops a.tmps) = true) (hN : oi.dst = N) (hop : oi.op = .call { callee := .value (.func f), args := as1, argTypes := ts }) (hargs : as1.map a.eval = args)
    (h : Calls P f args w fun e w' => ∃ v, e = .returned v ∧ K (a.put N v) w') : if Region.wanted oi (yielded ops a.tmps) = true then Oper.wp P oi a w K Q else K (a.put N undef) w := by
  refine call_ f args hw hN ?_ h
  have he := enters_ hf hname hb args w
  unfold execOp
  simp [hop, resolve, Deferred.ofValue, invoke, Act.eval, hargs, he]
theorem i64_w (n : Int) : IntKind.i64.wrap n = Go.RowKit.wrap64 n := by unfold Go.RowKit.wrap64; exact IntKind.wrap_i64 n
theorem i32_w (n : Int) : IntKind.i32.wrap n = Go.RowKit.wrap32 n := by unfold Go.RowKit.wrap32; exact IntKind.wrap_i32 n
end
end Go.Proofs.YtdkaaieenbmihaaW.PrintLast
/-! ### 50. A region's order in a table, made once a region: each step asks the table (numbers alone), not the operations -/
namespace Go.Proofs.YtdkaaieenbmihaaW.PrintLast
open Go.Proofs.YtdkaaieenbmihaaW.PrintWords (Aside0)
def needsOf (md : Region.Mode) (o : Oper) : List Nat := (o.after.toList.filter (fun e => Region.binds md e)).map (fun e => e.on)
def clashOf (md : Region.Mode) (ops : Array Oper) (i : Nat) (oi : Oper) : List Nat := (List.range ops.size).filter fun j => !(j == i) && match ops[j]? with
  | some oj => !(oj.after.any (fun e => Region.binds md e && e.on == i) || oi.apart ops oj)
  | none => false
/-- No select in it; for each operation: what must have come up before it, and what may not come up behind it if it is taken first. -/
def rtab (md : Region.Mode) (ops : Array Oper) : Bool × List (List Nat × List Nat) := (Region.noSelect ops, (List.range ops.size).map fun i => match ops[i]? with
  | some o => (needsOf md o, clashOf md ops i o)
  | none => ([], []))
def readyAt (T : List (List Nat × List Nat)) (l : List Bool) (i : Nat) : Bool := !l.getD i true && match T[i]? with
  | some r => r.1.all (fun j => l.getD j false)
  | none => false
def readyT (T : List (List Nat × List Nat)) (l : List Bool) : List Nat := (List.range T.length).filter (readyAt T l)
def freeT (T : List (List Nat × List Nat)) (l : List Bool) (i : Nat) : Bool := match T[i]? with
  | some r => r.2.all (fun j => l.getD j true)
  | none => false
def closedT (T : List (List Nat × List Nat)) (l : List Bool) : Bool := (List.range T.length).all fun j => !l.getD j false || match T[j]? with
  | some r => r.1.all (fun k => l.getD k false)
  | none => true
def reachT (T : List (List Nat × List Nat)) (i : Nat) : Nat → Nat → Bool
  | 0, _ => false
  | fuel + 1, d => match T[d]? with
    | some r => r.1.any fun j => j == i || reachT T i fuel j
    | none => false
def lastT (T : List (List Nat × List Nat)) (l : List Bool) (ds : List Nat) (i : Nat) : Bool := ds.all fun d => l.getD d true || reachT T i T.length d
section
variable {md : Region.Mode} {ops : Array Oper} {T : Bool × List (List Nat × List Nat)} {l l' li lj lk : Array Bool} {ds : List Nat} {i j k : Nat}
def anyT (T : Bool × List (List Nat × List Nat)) (l l' : List Bool) (i : Nat) : Bool := T.1 && freeT T.2 l i && readyAt T.2 l i && (l.set i true == l')
def takeT (T : Bool × List (List Nat × List Nat)) (ds : List Nat) (l l' : List Bool) (i : Nat) : Bool := T.1 && freeT T.2 l i && readyAt T.2 l i && closedT T.2 l && lastT T.2 l ds i && (l.set i true == l')
/-- What d waits for, as_ bits: told in the table (B), checked in one pass: each bit is a need of d, or a bit of an earlier need's. -/
def upM (B : List Nat) (d : Nat) : List Nat → Nat
  | [] => 0
  | n :: r => (2 ^ n ||| (if n < d then B.getD n 0 else 0)) ||| upM B d r
def waitsOk (T : List (List Nat × List Nat)) (B : List Nat) : Bool := (List.range T.length).all fun d => match T[d]? with
  | some r => (B.getD d 0 ||| upM B d r.1) == upM B d r.1
  | none => false
def lastW (T : List (List Nat × List Nat)) (B : List Nat) (l : List Bool) (ds : List Nat) (i : Nat) : Bool := ds.all fun d => l.getD d true || (decide (d < T.length) && (B.getD d 0).testBit i)
def takeW (T : Bool × List (List Nat × List Nat)) (B : List Nat) (ds : List Nat) (l l' : List Bool) (i : Nat) : Bool := T.1 && freeT T.2 l i && readyAt T.2 l i && closedT T.2 l && lastW T.2 B l ds i && (l.set i true == l')
end
/-- The operations of a region, by its number. -/
def opsIn : Code → Nat → Option (Array Oper)
  | .region id ops _, k => if id == k then some ops else none
  | .seq a b, k => match opsIn a k with
    | some o => some o
    | none => opsIn b k
  | .cond _ a b, k => match opsIn a k with
    | some o => some o
    | none => opsIn b k
  | .block _ c, k => opsIn c k
  | .loop c, k => opsIn c k
  | .scope c, k => opsIn c k
  | .rangeFunc _ _ a b, k => match opsIn a k with
    | some o => some o
    | none => opsIn b k
  | _, _ => none
def opsOf (f : Func) (k : Nat) : Array Oper := ((f.body.bind fun c => opsIn c k)).getD #[]
end Go.Proofs.YtdkaaieenbmihaaW.PrintLast
/-! ### 56. Four, five, six operations that may come up next, in any order -/
namespace Go.Proofs.YtdkaaieenbmihaaW.PrintLast
section
variable {P : Program} {ops : Array Oper} {Q : Exit → Act → World → Prop} {md : Region.Mode} {S : World → Prop} {ds : List Nat} {T : Bool × List (List Nat × List Nat)}
end
end Go.Proofs.YtdkaaieenbmihaaW.PrintLast
/-! ### 39. Stores into a row that may begin inside its block (Q): Q_form, Q_elem, Q_seg; scalars: Q_cell, Q_putg -/
namespace Go.Proofs.YtdkaaieenbmihaaW.PrintWords
open Go.RowKit
namespace Kd
section
variable {α : Type} {d : Kd α} {e base g o n cap : Nat} {ok okp : Nat → Prop} {w W : World} {v : Value} {xs : List α}
theorem Q_form (h : d.Q e w base ok v xs) (hp : 0 < xs.length) : ∃ g o cap, v = .slice (some ⟨g, o, none⟩) xs.length cap ∧ base ≤ g ∧ g < w.heap.size ∧ ∃ cells, w.heap[g]? = some (.cells cells e (0, 0)) := by
  obtain ⟨h0, inner, hq, hr⟩ := h
  rcases hq.2 with ⟨h1, _⟩ | ⟨g, off, cap, cur, rfl, hb, hh, r⟩
  · omega
  · exact ⟨g, off * d.sz, cap, rfl, hb, blk_lt hh, cur, hh⟩
/-- Element i of such a row: its cells. -/
theorem Q_elem (h : d.Q e W base ok (.slice (some ⟨g, o, none⟩) n cap) xs) (z : α) (i : Int) (h0 : 0 ≤ i) (h1 : i < n) :
    ∃ c, c.length = d.sz ∧ d.M W base (fun k => ok k ∧ k ≠ g) (xs.getD i.toNat z) c ∧ (∀ j u, c[j]? = some u → W.cell? ⟨g, o + i.toNat * d.sz + j, none⟩ = some u) ∧ ∀ j, W.frozen? ⟨g, o + i.toNat * d.sz + j, none⟩ = false := by
  obtain ⟨hn, hnc, hC⟩ := Q_reads' h
  obtain ⟨_, inner, ho, hr⟩ := h
  have hil : i.toNat < xs.length := by omega
  have hseg : i.toNat * d.sz + d.sz ≤ inner.length := by rw [hr.1, ← Nat.succ_mul]; exact Nat.mul_le_mul_right _ hil
  have hM := hr.2 i.toNat _ (List.getElem?_eq_getElem hil)
  refine ⟨(inner.drop (i.toNat * d.sz)).take d.sz, by rw [List.length_take, List.length_drop]; omega, ?_, fun j u hu => ?_, fun j => ?_⟩
  · rw [List.getD_eq_getElem?_getD, List.getElem?_eq_getElem hil]
    exact d.M_mono (fun k hk => ⟨hk.1, fun he => hk.2 (by rw [he]; simp [Value.ownBlock])⟩) hM
  · rw [List.getElem?_take] at hu
    split at hu
    · rw [List.getElem?_drop] at hu
      subst hn
      obtain ⟨ad, he, hc⟩ := q_cells ho (by omega)
      injection he with he
      subst he
      have := hc _ u hu
      rwa [add_at, ← Nat.add_assoc] at this
    · cases hu
  · obtain ⟨_, cells, hc⟩ := q_typed ho g (by simp [Value.ownBlock])
    exact blk_frozen hc _
/-- A run of cells of element i is written: element i is x' then. c: the element's cells before (Q_elem). -/
theorem Q_seg (h : d.Q e W base ok (.slice (some ⟨g, o, none⟩) n cap) xs) (i : Int) (h0 : 0 ≤ i) (h1 : i < n) {c seg : List Value} {j : Nat} (hcl : c.length = d.sz) (hcc : ∀ j u, c[j]? = some u → W.cell? ⟨g, o + i.toNat * d.sz + j, none⟩ = some u)
    (hj : j + seg.length ≤ d.sz) {x' : α} (hM : d.M W base okp x' (c.take j ++ seg ++ c.drop (j + seg.length))) (hokp : ∀ k, okp k → ok k ∧ k ≠ g) :
    d.Q e (W.setCells g (o + i.toNat * d.sz + j) seg) base ok (.slice (some ⟨g, o, none⟩) n cap) (xs.set i.toNat x') ∧ W.grownBy (W.setCells g (o + i.toNat * d.sz + j) seg) (some g) := by
  obtain ⟨hn, hnc, _⟩ := Q_reads' h
  obtain ⟨hok, inner, ho, hr⟩ := h
  have hil : i.toNat < xs.length := by omega
  have hseg : i.toNat * d.sz + d.sz ≤ inner.length := by rw [hr.1, ← Nat.succ_mul]; exact Nat.mul_le_mul_right _ hil
  have hin : inner.length = n * d.sz := by rw [hr.1, hn]
  obtain ⟨ho1, ho2⟩ := ho
  rcases ho2 with ⟨hz, _⟩ | ⟨g', off, cap', cur, hv, hb, hh, hnc', hcm, hcs, ht⟩
  · omega
  injection hv with ha _ hc
  injection ha with ha
  injection ha with hg hoff
  subst hg; subst hc; subst hoff
  have hcap : n * d.sz ≤ cap * d.sz := Nat.mul_le_mul_right _ hnc
  have hcs' : cur.size = off * d.sz + cap * d.sz := by rw [hcs, Nat.add_mul]
  have hfit : off * d.sz + i.toNat * d.sz + j + seg.length ≤ cur.size := by omega
  obtain ⟨cur', h3, h4, h5⟩ := setCells_row seg (off * d.sz + i.toNat * d.sz + j) W cur hh hfit
  obtain ⟨s1, s2, s3, s4⟩ := setCells_same g seg (off * d.sz + i.toNat * d.sz + j) W
  have hfar : ∀ k, k ≠ g → (W.setCells g (off * d.sz + i.toNat * d.sz + j) seg).heap[k]? = W.heap[k]? := fun k hk => setCells_far seg _ k hk
  rw [← hn] at ht
  -- the row's cells are the block's from off on
  have hat : ∀ q, q < n * d.sz → cur.toList[off * d.sz + q]? = inner[q]? := by
    intro q hq
    rw [← ht, List.getElem?_take, if_pos hq, List.getElem?_drop]
  have hcin : ∀ q, q < d.sz → c[q]? = inner[i.toNat * d.sz + q]? := by
    intro q hq
    have hq' : q < c.length := by omega
    have h6 := hcc q _ (List.getElem?_eq_getElem hq')
    rw [cell_of_row W g _ cur e (0, 0) hh] at h6
    rw [List.getElem?_eq_getElem hq', ← h6, ← hat _ (by omega), Array.getElem?_toList, Nat.add_assoc]
  refine ⟨⟨hok, inner.take (i.toNat * d.sz + j) ++ seg ++ inner.drop (i.toNat * d.sz + j + seg.length), ⟨?_, .inr ⟨g, off, cap, cur', by rw [List.length_set, hn], hb, h3, by rw [List.length_set, ← hn]; exact hnc, hcm, by rw [h4, hcs], ?_⟩⟩, ?_⟩,
    ⟨s1, s2, s3, by rw [s4]; exact Nat.le_refl _, fun k _ hk => hfar k (fun he => hk (by rw [he]))⟩⟩
  · rw [List.length_set]
    simp only [List.length_append, List.length_take, List.length_drop]
    rw [hr.1] at hseg ⊢
    omega
  · rw [List.length_set, ← hn]
    apply List.ext_getElem?
    intro q
    rw [List.getElem?_take, List.getElem?_drop, h5]
    rw [seg_get cur.toList seg (off * d.sz + i.toNat * d.sz + j) (by rw [Array.length_toList]; omega) (off * d.sz + q), seg_get inner seg (i.toNat * d.sz + j) (by omega) q]
    by_cases hq : q < n * d.sz
    · rw [if_pos hq]
      by_cases hq1 : q < i.toNat * d.sz + j
      · rw [if_pos (by omega), if_pos hq1, hat q hq]
      · rw [if_neg (by omega), if_neg hq1]
        by_cases hq2 : q < i.toNat * d.sz + j + seg.length
        · rw [if_pos (by omega), if_pos hq2]
          congr 1
          omega
        · rw [if_neg (by omega), if_neg hq2, hat q hq]
    · rw [if_neg hq, if_neg (by omega), if_neg (by omega), List.getElem?_eq_none (by omega)]
  · refine ⟨?_, fun m p hm => ?_⟩
    · rw [List.length_set]
      simp only [List.length_append, List.length_take, List.length_drop]
      rw [hr.1] at hseg ⊢
      omega
    · have hml : m < xs.length := by
        have := (List.getElem?_eq_some_iff.1 hm).1
        rwa [List.length_set] at this
      have hmfit : m * d.sz + d.sz ≤ inner.length := by rw [hr.1, ← Nat.succ_mul]; exact Nat.mul_le_mul_right _ hml
      have hgo : some g = (Value.slice (some ⟨g, off * d.sz, none⟩) n cap).ownBlock := by simp [Value.ownBlock]
      by_cases hmi : m = i.toNat
      · subst hmi
        rw [List.getElem?_set_self (by omega)] at hm
        injection hm with hm
        subst hm
        have hcells : ((inner.take (i.toNat * d.sz + j) ++ seg ++ inner.drop (i.toNat * d.sz + j + seg.length)).drop (i.toNat * d.sz)).take d.sz = c.take j ++ seg ++ c.drop (j + seg.length) := by
          apply List.ext_getElem?
          intro q
          rw [List.getElem?_take, List.getElem?_drop, seg_get inner seg _ (by omega), seg_get c seg j (by omega) q]
          by_cases hq : q < d.sz
          · rw [if_pos hq, hcin q hq]
            by_cases hq1 : q < j
            · rw [if_pos (by omega), if_pos hq1]
            · rw [if_neg (by omega), if_neg hq1]
              by_cases hq2 : q < j + seg.length
              · rw [if_pos (by omega), if_pos hq2]
                congr 1
                omega
              · rw [if_neg (by omega), if_neg hq2]
          · rw [if_neg hq, if_neg (by omega), if_neg (by omega), List.getElem?_eq_none (by omega)]
        rw [hcells]
        refine d.M_mono (fun k hk => ?_) (d.M_move (w1 := W.setCells g (off * d.sz + i.toNat * d.sz + j) seg) (fun k hk => hfar k (hokp k hk).2) hM)
        exact ⟨(hokp k hk).1, fun he => (hokp k hk).2 (by rw [← hgo] at he; injection he)⟩
      · rw [List.getElem?_set_ne (by omega)] at hm
        have hold := hr.2 m p hm
        have hcells : ((inner.take (i.toNat * d.sz + j) ++ seg ++ inner.drop (i.toNat * d.sz + j + seg.length)).drop (m * d.sz)).take d.sz = (inner.drop (m * d.sz)).take d.sz := by
          apply List.ext_getElem?
          intro q
          rw [List.getElem?_take, List.getElem?_take, List.getElem?_drop, List.getElem?_drop, seg_get inner seg _ (by omega)]
          by_cases hq : q < d.sz
          · rw [if_pos hq, if_pos hq]
            rcases Nat.lt_or_gt_of_ne hmi with hlt | hgt
            · have : m * d.sz + d.sz ≤ i.toNat * d.sz := by rw [← Nat.succ_mul]; exact Nat.mul_le_mul_right _ hlt
              rw [if_pos (by omega)]
            · have : i.toNat * d.sz + d.sz ≤ m * d.sz := by rw [← Nat.succ_mul]; exact Nat.mul_le_mul_right _ hgt
              rw [if_neg (by omega), if_neg (by omega)]
          · rw [if_neg hq, if_neg hq]
        rw [hcells]
        refine d.M_move (fun k hk => hfar k (fun he => hk.2 (by rw [he]; exact hgo))) hold
end
section
variable {α : Type} {enc : α → Value} {h1 : ∀ x, (enc x).oneCell' = true} {e base g o n cap : Nat} {ok : Nat → Prop} {W : World} {xs : List α}
theorem Q_cell (d : α) (h : (scalar enc h1).Q e W base ok (.slice (some ⟨g, o, none⟩) n cap) xs) (i : Int) (h0 : 0 ≤ i) (hi : i < n) : W.cell? ⟨g, o + i.toNat, none⟩ = some (enc (rdOf d xs i)) ∧ W.frozen? ⟨g, o + i.toNat, none⟩ = false := by
  obtain ⟨c, _, hM, hcc, hf⟩ := Q_elem h d i h0 hi
  have hM' : c = [enc (xs.getD i.toNat d)] := hM
  subst hM'
  have h2 := hcc 0 _ rfl
  have h3 := hf 0
  rw [show (scalar enc h1).sz = 1 from rfl, Nat.mul_one, Nat.add_zero] at h2 h3
  exact ⟨h2, h3⟩
theorem Q_putg (h : (scalar enc h1).Q e W base ok (.slice (some ⟨g, o, none⟩) n cap) xs) (i : Int) (h0 : 0 ≤ i) (hi : i < n) (x : α) : (scalar enc h1).Q e (W.setCell ⟨g, o + i.toNat, none⟩ (enc x)) base ok (.slice (some ⟨g, o, none⟩) n cap) (xs.set i.toNat x) ∧ W.grownBy (W.setCell ⟨g, o + i.toNat, none⟩ (enc x)) (some g) := by
  have hp : 0 < xs.length := by have := (Q_reads' h).1; omega
  obtain ⟨c, hcl, _, hcc, _⟩ := Q_elem h (xs[0]'hp) i h0 hi
  have h2 := Q_seg h i h0 hi (c := c) (seg := [enc x]) (j := 0) (okp := fun _ => False) (x' := x) hcl hcc (Nat.le_refl 1) (by
    have hl : c.length = 1 := hcl
    show c.take 0 ++ [enc x] ++ c.drop (0 + 1) = [enc x]
    rw [List.drop_eq_nil_of_le (by omega)]
    rfl) (fun _ hk => hk.elim)
  rw [show (scalar enc h1).sz = 1 from rfl, Nat.mul_one, Nat.add_zero] at h2
  exact h2
end
end Kd
end Go.Proofs.YtdkaaieenbmihaaW.PrintWords
/-! ### 40. Elements whose inner rows lie apart: what is stored into one says nothing of the others.
   S: as R, with an owner function f (block to element's index). H: as S with a hole: of element i its cells alone are told, its blocks are oki. -/
namespace Go.Proofs.YtdkaaieenbmihaaW.PrintWords
open Go.RowKit
namespace Kd
/-- An element with its index: its blocks are those that f gives to it. -/
def tag {α : Type} (f : Nat → Nat) (d : Kd α) : Kd (α × Nat) where
  sz := d.sz
  E := d.E
  K := fun w x cs => d.K w x.1 cs
  M := fun w base ok x cs => d.M w base (fun k => ok k ∧ f k = x.2) x.1 cs
  K_len := fun h => d.K_len h
  K_one := fun h => d.K_one h
  K_below := fun hb h => d.K_below hb h
  K_of_M := fun h => d.K_of_M h
  M_mono := fun hok h => d.M_mono (fun k hk => ⟨hok k hk.1, hk.2⟩) h
  M_bound := fun h => d.M_mono (fun _ hk => ⟨⟨hk.1.1, hk.2⟩, hk.1.2⟩) (d.M_bound h)
  M_move := fun hm h => d.M_move (fun k hk => hm k hk.1) h
  M_lower := fun hb h => d.M_lower hb h
/-- Nothing but its cells: no block is said of it. -/
def bare {α : Type} (d : Kd α) : Kd α where
  sz := d.sz
  E := d.E
  K := d.K
  M := fun w base _ x cs => d.M w base (fun _ => False) x cs
  K_len := fun h => d.K_len h
  K_one := fun h => d.K_one h
  K_below := fun hb h => d.K_below hb h
  K_of_M := fun h => d.K_of_M h
  M_mono := fun _ h => h
  M_bound := fun h => h
  M_move := fun _ h => d.M_move (fun _ hk => hk.elim) h
  M_lower := fun hb h => d.M_lower hb h
/-- The cells themselves. -/
def raw (sz : Nat) : Kd (List Value) where
  sz := sz
  E := []
  K := fun _ x cs => cs = x ∧ cs.length = sz ∧ ∀ u ∈ cs, u.oneCell' = true
  M := fun _ _ _ x cs => cs = x ∧ cs.length = sz ∧ ∀ u ∈ cs, u.oneCell' = true
  K_len := fun h => h.2.1
  K_one := fun h => h.2.2
  K_below := fun _ h => h
  K_of_M := fun h => h
  M_mono := fun _ h => h
  M_bound := fun h => h
  M_move := fun _ h => h
  M_lower := fun _ h => h
/-- A row of elements (type e) of the call's own, no two of which lead to one block. -/
def S {α : Type} (d : Kd α) (e : Nat) (w : World) (base : Nat) (ok : Nat → Prop) (v : Value) (xs : List α) : Prop := ∃ f, (tag f d).R e w base ok v xs.zipIdx
section
variable {α β : Type} {d : Kd α} {d' : Kd β} {e e' : Nat} {w w1 W : World} {base b : Nat} {ok ok' okv oku : Nat → Prop} {u v : Value} {xs : List α} {ys : List β}
theorem S_nil (d : Kd α) (e : Nat) (w : World) (base : Nat) (ok : Nat → Prop) : S d e w base ok (.slice none 0 0) [] := ⟨fun _ => 0, R_nil _ _ _ _ _⟩
end
section
variable {α β : Type} {d : Kd α} {d' : Kd β} {e e' g : Nat} {w w1 W : World} {base b : Nat} {ok ok' okv oku : Nat → Prop} {u v : Value} {xs : List α} {ys : List β}
end
/-! #### append, make, literals: the new element's blocks are none of the elder ones' -/
section
open Classical in
variable {P : Program} {ops : Array Oper} {rest : List Oper} {o : Oper} {a : Act} {Q : Exit → Act → World → Prop} {Kc : Act → World → Prop} {α : Type}
end
/-! #### a row with a hole: element i is lent, its blocks are oki; of it the row says its cells alone -/
/-- Element i is these cells; the others are d's. -/
def gap {α : Type} (f : Nat → Nat) (d : Kd α) (i : Nat) (c : List Value) : Kd (α × Nat) where
  sz := d.sz
  E := d.E
  K := fun w x cs => (x.2 = i → cs = c ∧ cs.length = d.sz ∧ ∀ u ∈ cs, u.oneCell' = true) ∧ (x.2 ≠ i → d.K w x.1 cs)
  M := fun w base ok x cs => (x.2 = i → cs = c ∧ cs.length = d.sz ∧ ∀ u ∈ cs, u.oneCell' = true) ∧ (x.2 ≠ i → d.M w base (fun k => ok k ∧ f k = x.2) x.1 cs)
  K_len := fun {w x cs} h => by
    by_cases hx : x.2 = i
    · exact (h.1 hx).2.1
    · exact d.K_len (h.2 hx)
  K_one := fun {w x cs} h => by
    by_cases hx : x.2 = i
    · exact (h.1 hx).2.2
    · exact d.K_one (h.2 hx)
  K_below := fun hb h => ⟨h.1, fun hx => d.K_below hb (h.2 hx)⟩
  K_of_M := fun h => ⟨h.1, fun hx => d.K_of_M (h.2 hx)⟩
  M_mono := fun hok h => ⟨h.1, fun hx => d.M_mono (fun k hk => ⟨hok k hk.1, hk.2⟩) (h.2 hx)⟩
  M_bound := fun h => ⟨h.1, fun hx => d.M_mono (fun _ hk => ⟨⟨hk.1.1, hk.2⟩, hk.1.2⟩) (d.M_bound (h.2 hx))⟩
  M_move := fun hm h => ⟨h.1, fun hx => d.M_move (fun k hk => hm k hk.1) (h.2 hx)⟩
  M_lower := fun hb h => ⟨h.1, fun hx => d.M_lower hb (h.2 hx)⟩
def H {α : Type} (d : Kd α) (e : Nat) (w : World) (base : Nat) (ok : Nat → Prop) (v : Value) (xs : List α) (i : Int) (oki : Nat → Prop) (c : List Value) : Prop :=
  (∀ k, oki k → ok k) ∧ ∃ f, (gap f d i.toNat c).R e w base (fun k => ok k ∧ ¬ oki k) v xs.zipIdx
section
variable {α β : Type} {d : Kd α} {e e' g n cap : Nat} {w w1 W : World} {base : Nat} {ok ok' oki okp : Nat → Prop} {u v : Value} {xs : List α} {i : Int} {c : List Value}
open Classical in
end
section
variable {P : Program} {ops : Array Oper} {rest : List Oper} {o : Oper} {a : Act} {Q : Exit → Act → World → Prop} {α : Type}
end
end Kd
end Go.Proofs.YtdkaaieenbmihaaW.PrintWords
/-! ### 41. Arrays '[n]T' as_ values: a kind (a field, an element of a row), an element read, an element set -/
namespace Go.Proofs.YtdkaaieenbmihaaW.PrintWords
open Go.RowKit
namespace Kd
theorem reps_one {α : Type} {R : α → List Value → Prop} {size : Nat} {ps : List α} {cs : List Value} (h : Reps R size ps cs) (hs0 : 0 < size) (hR : ∀ p c, R p c → ∀ u ∈ c, u.oneCell' = true) : ∀ u ∈ cs, u.oneCell' = true := by
  intro u hu
  obtain ⟨q, hq, rfl⟩ := List.mem_iff_getElem.1 hu
  have hql : q / size < ps.length := by
    rw [Nat.div_lt_iff_lt_mul hs0, ← h.1]
    exact hq
  refine hR _ _ (h.2 (q / size) _ (List.getElem?_eq_getElem hql)) _ ?_
  rw [List.mem_iff_getElem?]
  refine ⟨q % size, ?_⟩
  rw [List.getElem?_take, if_pos (Nat.mod_lt _ hs0), List.getElem?_drop, Nat.mul_comm, Nat.div_add_mod, List.getElem?_eq_getElem hq]
/-- An array of n elements of kind d. -/
def arr {α : Type} (n : Nat) (d : Kd α) (hs : 0 < d.sz) : Kd (List α) where
  sz := n * d.sz
  E := d.E
  K := fun w xs cs => xs.length = n ∧ Reps (d.K w) d.sz xs cs
  M := fun w base ok xs cs => xs.length = n ∧ Reps (d.M w base ok) d.sz xs cs
  K_len := fun h => by rw [← h.1]; exact h.2.1
  K_one := fun h => reps_one h.2 hs (fun _ _ hk => d.K_one hk)
  K_below := fun hb h => ⟨h.1, h.2.imp_ (fun _ _ hk => d.K_below hb hk)⟩
  K_of_M := fun h => ⟨h.1, h.2.imp_ (fun _ _ hk => d.K_of_M hk)⟩
  M_mono := fun hok h => ⟨h.1, h.2.imp_ (fun _ _ hk => d.M_mono hok hk)⟩
  M_bound := fun h => ⟨h.1, h.2.imp_ (fun _ _ hk => d.M_bound hk)⟩
  M_move := fun hm h => ⟨h.1, h.2.imp_ (fun _ _ hk => d.M_move hm hk)⟩
  M_lower := fun hb h => ⟨h.1, h.2.imp_ (fun _ _ hk => d.M_lower hb hk)⟩
section
variable {α : Type} {n : Nat} {d : Kd α} {hs : 0 < d.sz} {w : World} {base : Nat} {ok : Nat → Prop} {xs : List α} {cs : List Value}
end
section
variable {α : Type} {n : Nat} {enc : α → Value} {h1 : ∀ x, (enc x).oneCell' = true} {hs : 0 < (scalar enc h1).sz} {w : World} {base : Nat} {ok : Nat → Prop} {xs : List α} {cs : List Value}
end
end Kd
end Go.Proofs.YtdkaaieenbmihaaW.PrintWords
/-! ### 42. append(v, make([]T, n)...): the operation comes as_ append with the number in the second place -/
namespace Go.Proofs.YtdkaaieenbmihaaW.PrintWords
open Go.RowKit
section
variable {P : Program}
end
namespace Kd
section
variable {P : Program} {ops : Array Oper} {rest : List Oper} {o : Oper} {a : Act} {Q : Exit → Act → World → Prop} {Kc : Act → World → Prop} {α : Type}
end
/-! #### the same for rows whose elements lie apart -/
/-- As_ tag; an element without index leads to nothing. -/
def tagO {α : Type} (f : Nat → Nat) (d : Kd α) : Kd (α × Option Nat) where
  sz := d.sz
  E := d.E
  K := fun w x cs => d.K w x.1 cs
  M := fun w base ok x cs => d.M w base (fun k => ok k ∧ some (f k) = x.2) x.1 cs
  K_len := fun h => d.K_len h
  K_one := fun h => d.K_one h
  K_below := fun hb h => d.K_below hb h
  K_of_M := fun h => d.K_of_M h
  M_mono := fun hok h => d.M_mono (fun k hk => ⟨hok k hk.1, hk.2⟩) h
  M_bound := fun h => d.M_mono (fun _ hk => ⟨⟨hk.1.1, hk.2⟩, hk.1.2⟩) (d.M_bound h)
  M_move := fun hm h => d.M_move (fun k hk => hm k hk.1) h
  M_lower := fun hb h => d.M_lower hb h
section
variable {α : Type} {d : Kd α} {e : Nat} {w : World} {base : Nat} {ok : Nat → Prop} {v : Value} {xs : List α}
def zipO (xs : List α) (z : α) (m : Nat) : List (α × Option Nat) := xs.zipIdx.map (fun p => (p.1, some p.2)) ++ List.replicate m (z, none)
end
section
variable {P : Program} {ops : Array Oper} {rest : List Oper} {o : Oper} {a : Act} {Q : Exit → Act → World → Prop} {Kc : Act → World → Prop} {α : Type}
end
end Kd
end Go.Proofs.YtdkaaieenbmihaaW.PrintWords
/-! ### 43. What is read beside a state: it stays read whatever the state's calls turn ('∀ W', KeepBut w W' g none → d.C W' A n xs') -/
namespace Go.Proofs.YtdkaaieenbmihaaW.PrintWords
open Go.RowKit
namespace Kd
/-- What a kind reads lies in the blocks: nothing else of the world is looked at. -/
structure Heap {α : Type} (d : Kd α) : Prop where
  K : ∀ {w w1 : World} {x : α} {cs : List Value}, (∀ k, k < w.heap.size → w1.heap[k]? = w.heap[k]?) → d.K w x cs → d.K w1 x cs
theorem cell_heap {w w1 : World} (hb : ∀ k, k < w.heap.size → w1.heap[k]? = w.heap[k]?) {a : Addr} {v : Value} (h : w.cell? a = some v) : w1.cell? a = some v := by
  have := hb a.block (World.block_lt_of_cell? w a h)
  simpa [World.cell?, this] using h
theorem Heap.C {α : Type} {d : Kd α} (hd : Heap d) {w w1 : World} {A : Option Addr} {n : Nat} {xs : List α} (hb : ∀ k, k < w.heap.size → w1.heap[k]? = w.heap[k]?) (h : d.C w A n xs) : d.C w1 A n xs :=
  ⟨h.1, h.2.1, fun hn => by
    obtain ⟨ad, e, hc⟩ := h.2.2 hn
    refine ⟨ad, e, fun j p hj => ?_⟩
    obtain ⟨c, hs, hr, hcell⟩ := hc j p hj
    exact ⟨c, hs, hd.K hb hr, fun i u hu => cell_heap hb (hcell i u hu)⟩⟩
section
variable {α : Type} {d : Kd α} {e base g n c : Nat} {ok : Nat → Prop} {w w0 W : World} {A : Option Addr} {xs : List α}
end
end Kd
end Go.Proofs.YtdkaaieenbmihaaW.PrintWords
/-! ### 45. What a call keeps: all but the blocks of S (the rows that it was given to write) and what is new since -/
namespace Go.Proofs.YtdkaaieenbmihaaW.PrintWords
open Go.RowKit
def Kept (w W : World) (S : Nat → Prop) : Prop := w.heap.size ≤ W.heap.size ∧ ∀ i, i < w.heap.size → ¬ S i → W.heap[i]? = w.heap[i]?
section
variable {w W W2 : World} {S S2 S' : Nat → Prop}
theorem Kept.refl (w : World) (S : Nat → Prop) : Kept w w S := ⟨Nat.le_refl _, fun _ _ _ => rfl⟩
theorem Kept.of_below (h : Below w.heap.size w W) (S : Nat → Prop) : Kept w W S := ⟨h.size, fun i hi _ => h.block i hi⟩
theorem Kept.mono (h : Kept w W S) (hs : ∀ k, S k → S' k) : Kept w W S' := ⟨h.1, fun i hi hn => h.2 i hi (fun hk => hn (hs i hk))⟩
theorem Kept.then_ (h : Kept w W S) (k : Kept W W2 S2) (hs : ∀ k, S2 k → S k ∨ w.heap.size ≤ k) : Kept w W2 S :=
  ⟨Nat.le_trans h.1 k.1, fun i hi hn => (k.2 i (Nat.lt_of_lt_of_le hi h.1) (fun h2 => (hs i h2).elim hn (fun h3 => by omega))).trans (h.2 i hi hn)⟩
theorem Kept.of_grown {row : Option Nat} (hg : W.grownBy W2 row) (h : Kept w W S) (hr : ∀ k, row = some k → S k ∨ w.heap.size ≤ k) : Kept w W2 S :=
  h.then_ (S2 := fun k => row = some k) ⟨hg.size, fun i hi hn => hg.block i hi (fun he => hn he.symm)⟩ hr
theorem Kept.below (h : Kept w W S) (hb : Below W.heap.size W W2) : Kept w W2 S := h.then_ (Kept.of_below hb (fun _ => False)) (fun _ hk => hk.elim)
theorem Kept.alloc (h : Kept w W S) (o : Obj) : Kept w (W.alloc o) S := h.below (below_alloc (Below.refl _ _) o)
theorem Kept.drew (h : Kept w W S) : Kept w W.drew S := h
theorem Kept.drewN (h : Kept w W S) (m : Nat) : Kept w (W.drewN m) S := h
theorem Kept.setCell (h : Kept w W S) {p : Addr} (hp : S p.block ∨ w.heap.size ≤ p.block) (u : Value) : Kept w (W.setCell p u) S :=
  h.then_ (S2 := fun k => k = p.block) ⟨by simp [World.setCell], fun i _ hn => Below.heap_setCell W p u i hn⟩ (fun k hk => by rw [hk]; exact hp)
/-- Beside a state: what was written is new since. -/
theorem Kept.keep {g : Nat} (h : KeepBut w W g none) (k : Kept W W2 S2) (hs : ∀ k, S2 k → w.heap.size ≤ k) : KeepBut w W2 g none :=
  ⟨Nat.le_trans h.1 k.1, fun i hi hg hr => (k.2 i (Nat.lt_of_lt_of_le hi h.1) (fun h2 => by have := hs i h2; omega)).trans (h.2 i hi hg hr)⟩
end
namespace Kd
section
variable {α : Type} {d : Kd α} {e base n c : Nat} {ok oki S S2 : Nat → Prop} {w w0 W W1 W2 : World} {v : Value} {A : Option Addr} {xs : List α} {i : Int} {cs : List Value}
end
end Kd
end Go.Proofs.YtdkaaieenbmihaaW.PrintWords
/-! ### 46. Values that share: what is only read, with the blocks it lies in (its footprint 'ok'): Foot, F (a row that is read), FK (an element's cells) -/
namespace Go.Proofs.YtdkaaieenbmihaaW.PrintWords
open Go.RowKit
/-- P holds in W and in every world that has W's blocks of ok. -/
def Foot (P : World → Prop) (W : World) (ok : Nat → Prop) : Prop := ∀ W' : World, (∀ k, ok k → k < W.heap.size → W'.heap[k]? = W.heap[k]?) → P W'
theorem heap_lt {W W1 : World} {k : Nat} (h : W1.heap[k]? = W.heap[k]?) (hlt : k < W.heap.size) : k < W1.heap.size := by
  rw [Array.getElem?_eq_getElem hlt] at h
  exact (Array.getElem?_eq_some_iff.1 h).1
namespace Foot
variable {P Q : World → Prop} {W W1 : World} {ok ok' : Nat → Prop}
theorem now (h : Foot P W ok) : P W := h W (fun _ _ _ => rfl)
theorem mono (h : Foot P W ok) (hok : ∀ k, ok k → ok' k) : Foot P W ok' := fun W' hW => h W' (fun k hk hlt => hW k (hok k hk) hlt)
theorem bound (h : Foot P W ok) : Foot P W (fun k => ok k ∧ k < W.heap.size) := fun W' hW => h W' (fun k hk hlt => hW k ⟨hk, hlt⟩ hlt)
theorem step (h : Foot P W ok) (hm : ∀ k, ok k → k < W.heap.size → W1.heap[k]? = W.heap[k]?) : Foot P W1 ok := fun W' hW => h W' (fun k hk hlt => (hW k hk (heap_lt (hm k hk hlt) hlt)).trans (hm k hk hlt))
theorem imp (h : Foot P W ok) (hi : ∀ W', P W' → Q W') : Foot Q W ok := fun W' hW => hi W' (h W' hW)
/-- Moved, and still elder than what is new since W. -/
theorem old (h : Foot P W ok) (hb : Below W.heap.size W W1) : Foot P W1 (fun k => ok k ∧ k < W.heap.size) := (h.bound).step (fun k _ hlt => hb.block k hlt)
end Foot
namespace Kd
/-- A row that is only read: what it leads to lies in ok. -/
def F {α : Type} (d : Kd α) (W : World) (ok : Nat → Prop) (A : Option Addr) (n : Nat) (xs : List α) : Prop := Foot (fun W => d.C W A n xs) W ok
/-- An element's cells: what they lead to lies in ok. -/
def FK {α : Type} (d : Kd α) (W : World) (ok : Nat → Prop) (x : α) (c : List Value) : Prop := Foot (fun W => d.K W x c) W ok
section
variable {α β : Type} {d : Kd α} {e base n n' cc g N : Nat} {ok ok' okp S : Nat → Prop} {w w0 w1 W W1 : World} {A A' : Option Addr} {u v v1 : Value} {xs : List α} {xs' : List β} {d' : Kd β} {x : α} {c : List Value}
theorem F_nil (d : Kd α) (W : World) (ok : Nat → Prop) : F d W ok none ([] : List α).length [] := fun W' _ => C_nil d W'
theorem FK_of_M (h : d.M W base ok x c) : FK d W ok x c := fun _ hW => d.K_of_M (M_step h hW)
end
end Kd
end Go.Proofs.YtdkaaieenbmihaaW.PrintWords
/-! ### 47. N: a row of the call's own whose elements share (what they lead to is only read) -/
namespace Go.Proofs.YtdkaaieenbmihaaW.PrintWords
open Go.RowKit
namespace Kd
/-- The cells one behind the other, element by element. -/
def chunks (sz : Nat) (n : Nat) (inner : List Value) : List (List Value) := (List.range n).map fun j => (inner.drop (j * sz)).take sz
theorem chunks_length (sz n : Nat) (inner : List Value) : (chunks sz n inner).length = n := by simp [chunks]
theorem chunks_at {sz n : Nat} {inner : List Value} {j : Nat} (hj : j < n) : (chunks sz n inner)[j]? = some ((inner.drop (j * sz)).take sz) := by simp [chunks, hj]
theorem chunks_get {sz n : Nat} {inner : List Value} {j : Nat} {c : List Value} (h : (chunks sz n inner)[j]? = some c) : c = (inner.drop (j * sz)).take sz := by
  have hj : j < n := by have := (List.getElem?_eq_some_iff.1 h).1; rwa [chunks_length] at this
  rw [chunks_at hj] at h
  injection h with h
  exact h.symm
theorem reps_raw {α : Type} {Rr : α → List Value → Prop} {sz : Nat} {xs : List α} {inner : List Value} (h : Reps Rr sz xs inner) (hR : ∀ x c, Rr x c → c.length = sz ∧ ∀ u ∈ c, u.oneCell' = true) : Reps (fun x cs => cs = x ∧ cs.length = sz ∧ ∀ u ∈ cs, u.oneCell' = true) sz (chunks sz xs.length inner) inner := by
  refine ⟨by rw [chunks_length]; exact h.1, fun j p hj => ?_⟩
  have hjl : j < xs.length := by have := (List.getElem?_eq_some_iff.1 hj).1; rwa [chunks_length] at this
  have hp := chunks_get hj
  exact ⟨hp.symm, hR _ _ (h.2 j _ (List.getElem?_eq_getElem hjl))⟩
section
variable {α : Type} {d : Kd α} {e base n cc g : Nat} {ok ok' okp S : Nat → Prop} {w w1 W W1 : World} {A : Option Addr} {u v v1 : Value} {xs : List α} {x : α} {c : List Value}
/-- A row of elements (type e) of the call's own; what the elements lead to is only read, and is not this row. -/
def N {α : Type} (d : Kd α) (e : Nat) (w : World) (base : Nat) (ok : Nat → Prop) (v : Value) (xs : List α) : Prop :=
  (∀ k, v.ownBlock = some k → ok k) ∧ ∃ rows : List (List Value), rows.length = xs.length ∧ (raw d.sz).R e w base (fun k => some k = v.ownBlock) v rows ∧ ∀ (j : Nat) (x : α) (c : List Value), xs[j]? = some x → rows[j]? = some c → FK d w (fun k => ok k ∧ some k ≠ v.ownBlock) x c
theorem R_N (h : d.R e w base ok v xs) : N d e w base ok v xs := by
  obtain ⟨h0, inner, ho, hr⟩ := h
  refine ⟨h0, chunks d.sz xs.length inner, chunks_length _ _ _, ⟨fun k hk => hk.symm, inner, by rw [chunks_length]; exact ho, reps_raw hr (fun x c hp => ⟨d.K_len (d.K_of_M hp), d.K_one (d.K_of_M hp)⟩)⟩, fun j x c hx hc => ?_⟩
  rw [chunks_get hc]
  exact FK_of_M (hr.2 j x hx)
theorem N_nil (d : Kd α) (e : Nat) (w : World) (base : Nat) (ok : Nat → Prop) : N d e w base ok (.slice none 0 0) [] := R_N (R_nil _ _ _ _ _)
end
end Kd
end Go.Proofs.YtdkaaieenbmihaaW.PrintWords
/-! ### 52. A row that stays read whatever happens to a block (a set of blocks) doesn't lie there -/
namespace Go.Proofs.YtdkaaieenbmihaaW.PrintWords
open Go.RowKit
namespace Kd
section
variable {α : Type} {d : Kd α} {W : World} {g n : Nat} {S ok : Nat → Prop} {A : Option Addr} {ad : Addr} {xs : List α}
end
end Kd
end Go.Proofs.YtdkaaieenbmihaaW.PrintWords
/-! ### 54. Behind orders that were drawn quietly: the same facts at the world's new name; a flat row's foot -/
namespace Go.Proofs.YtdkaaieenbmihaaW.PrintWords
open Go.RowKit
section
variable {w w' u : World} {m B g : Nat} {o : Obj} {row : Option Nat} {S : Nat → Prop} {a : Addr} {v : Value}
end
namespace Kd
section
variable {α : Type} {d : Kd α} {e base n m : Nat} {ok : Nat → Prop} {w w' : World} {v : Value} {A : Option Addr} {xs : List α}
end
end Kd
end Go.Proofs.YtdkaaieenbmihaaW.PrintWords
/-! ### 53. '==' of structs as_ one Bool -/
namespace Go.Proofs.YtdkaaieenbmihaaW.PrintWords
open Go.RowKit
section
variable {P : Program} {d : Nat} {xs ys : Array Value} {f : Field} {fs : List Field} {a b : Value} {r s : Bool} {w : World}
end
end Go.Proofs.YtdkaaieenbmihaaW.PrintWords
/-! ### 55. Reps told from the front, no append: for rows of one-cell elements and of wider ones -/
namespace Go.Proofs.YtdkaaieenbmihaaW.PrintWords
/-- One cell an element. -/
theorem Reps.one {α : Type} {R : α → List Value → Prop} {ps : List α} {cs : List Value} {p : α} {v : Value} (hp : R p [v]) (h : Reps R 1 ps cs) : Reps R 1 (p :: ps) (v :: cs) := by
  refine ⟨by simp [h.1], fun j q hq => ?_⟩
  cases j with
  | zero =>
    simp only [List.getElem?_cons_zero, Option.some.injEq] at hq
    subst hq
    simpa using hp
  | succ j =>
    simp only [List.getElem?_cons_succ] at hq
    have h1 := h.2 j q hq
    simpa [Nat.mul_one] using h1
/-- More cells an element: told apart by the cells' list. -/
theorem Reps.front {α : Type} {R : α → List Value → Prop} {size : Nat} {ps : List α} {cs c all : List Value} {p : α} (hp : R p c) (hc : c.length = size) (h : Reps R size ps cs) (ha : c ++ cs = all) : Reps R size (p :: ps) all := by
  subst ha
  refine ⟨by rw [List.length_append, hc, h.1, List.length_cons, Nat.succ_mul, Nat.add_comm], fun j q hq => ?_⟩
  cases j with
  | zero =>
    simp only [List.getElem?_cons_zero, Option.some.injEq] at hq
    subst hq
    rw [Nat.zero_mul, List.drop_zero, List.take_append_of_le_length (by omega), List.take_of_length_le (by omega)]
    exact hp
  | succ j =>
    simp only [List.getElem?_cons_succ] at hq
    have h1 := h.2 j q hq
    rw [Nat.succ_mul, List.drop_append, List.drop_of_length_le (by rw [hc]; exact Nat.le_add_left _ _), List.nil_append, hc, Nat.add_sub_cancel]
    exact h1
theorem Reps.c2 {α : Type} {R : α → List Value → Prop} {ps : List α} {cs : List Value} {p : α} {va vb : Value} (hp : R p [va, vb]) (h : Reps R 2 ps cs) : Reps R 2 (p :: ps) (va :: vb :: cs) := Reps.front hp rfl h rfl
theorem Reps.c3 {α : Type} {R : α → List Value → Prop} {ps : List α} {cs : List Value} {p : α} {va vb vc : Value} (hp : R p [va, vb, vc]) (h : Reps R 3 ps cs) : Reps R 3 (p :: ps) (va :: vb :: vc :: cs) := Reps.front hp rfl h rfl
theorem Reps.c4 {α : Type} {R : α → List Value → Prop} {ps : List α} {cs : List Value} {p : α} {va vb vc vd : Value} (hp : R p [va, vb, vc, vd]) (h : Reps R 4 ps cs) : Reps R 4 (p :: ps) (va :: vb :: vc :: vd :: cs) := Reps.front hp rfl h rfl
theorem Reps.c5 {α : Type} {R : α → List Value → Prop} {ps : List α} {cs : List Value} {p : α} {va vb vc vd ve : Value} (hp : R p [va, vb, vc, vd, ve]) (h : Reps R 5 ps cs) : Reps R 5 (p :: ps) (va :: vb :: vc :: vd :: ve :: cs) := Reps.front hp rfl h rfl
theorem Reps.c6 {α : Type} {R : α → List Value → Prop} {ps : List α} {cs : List Value} {p : α} {va vb vc vd ve vf : Value} (hp : R p [va, vb, vc, vd, ve, vf]) (h : Reps R 6 ps cs) : Reps R 6 (p :: ps) (va :: vb :: vc :: vd :: ve :: vf :: cs) := Reps.front hp rfl h rfl
theorem Reps.c7 {α : Type} {R : α → List Value → Prop} {ps : List α} {cs : List Value} {p : α} {va vb vc vd ve vf vg : Value} (hp : R p [va, vb, vc, vd, ve, vf, vg]) (h : Reps R 7 ps cs) : Reps R 7 (p :: ps) (va :: vb :: vc :: vd :: ve :: vf :: vg :: cs) := Reps.front hp rfl h rfl
theorem Reps.c8 {α : Type} {R : α → List Value → Prop} {ps : List α} {cs : List Value} {p : α} {va vb vc vd ve vf vg vh : Value} (hp : R p [va, vb, vc, vd, ve, vf, vg, vh]) (h : Reps R 8 ps cs) : Reps R 8 (p :: ps) (va :: vb :: vc :: vd :: ve :: vf :: vg :: vh :: cs) := Reps.front hp rfl h rfl
theorem Reps.c9 {α : Type} {R : α → List Value → Prop} {ps : List α} {cs : List Value} {p : α} {va vb vc vd ve vf vg vh vi : Value} (hp : R p [va, vb, vc, vd, ve, vf, vg, vh, vi]) (h : Reps R 9 ps cs) : Reps R 9 (p :: ps) (va :: vb :: vc :: vd :: ve :: vf :: vg :: vh :: vi :: cs) := Reps.front hp rfl h rfl
theorem Reps.c10 {α : Type} {R : α → List Value → Prop} {ps : List α} {cs : List Value} {p : α} {va vb vc vd ve vf vg vh vi vj : Value} (hp : R p [va, vb, vc, vd, ve, vf, vg, vh, vi, vj]) (h : Reps R 10 ps cs) : Reps R 10 (p :: ps) (va :: vb :: vc :: vd :: ve :: vf :: vg :: vh :: vi :: vj :: cs) := Reps.front hp rfl h rfl
end Go.Proofs.YtdkaaieenbmihaaW.PrintWords
/-! ### 57. A region of open order by ONE relation over what is listed so far: each operation is shown once, whatever came up before it -/
namespace Go.Proofs.YtdkaaieenbmihaaW.PrintLast
/-- Number i is listed too. -/
def up (b : Nat → Bool) (i : Nat) : Nat → Bool := fun j => if j = i then true else b j
/-- What is listed: O's operations by b, all else already. -/
def lof (n : Nat) (O : List Nat) (b : Nat → Bool) : List Bool := (List.range n).map fun j => if O.contains j then b j else true
/-- The destinations of what is listed are filled. -/
def putSel (a : Act) (b : Nat → Bool) : List (Nat × Tmp × Value) → Act
  | [] => a
  | e :: r => putSel (if b e.1 = true then a.put (some e.2.1) e.2.2 else a) b r
section
variable {P : Program} {ops : Array Oper} {Q : Exit → Act → World → Prop} {md : Region.Mode} {T : Bool × List (List Nat × List Nat)} {B : List Nat} {O : List Nat} {b : Nat → Bool} {i j n : Nat}
/-- The step of operation i: out of the relation, it not being listed, all it waits for being so, and nothing that waits for it. -/
def StepAt (P : Program) (ops : Array Oper) (Q : Exit → Act → World → Prop) (B : List Nat) (O : List Nat) (I : (Nat → Bool) → Act → World → Prop) (i : Nat) : Prop :=
  ∀ b a w, I b a w → b i = false → (∀ j, (O.contains j && (B.getD i 0).testBit j) = true → b j = true) → (∀ d, (O.contains d && (B.getD d 0).testBit i) = true → b d = false) →
    ∃ oi, ops[i]? = some oi ∧ ∀ K : Act → World → Prop, Shut (∀ a' w', I (up b i) a' w' → K a' w') → if Region.wanted oi (yielded ops a.tmps) = true then Oper.wp P oi a w K Q else K (a.put oi.dst undef) w
/-- Every edge goes to an earlier operation; what is listed already waits for nothing of O; O's numbers are the region's, each once. -/
def baseOk (T : List (List Nat × List Nat)) (O : List Nat) : Bool :=
  (List.range T.length).all (fun d => match T[d]? with
    | some r => (O.contains d || r.1.all fun n => !O.contains n) && r.1.all fun n => decide (n < d)
    | none => false) && O.all (fun i => decide (i < T.length)) && decide O.Nodup
def Closed (T : List (List Nat × List Nat)) (O : List Nat) (b : Nat → Bool) : Prop := ∀ d r, T[d]? = some r → O.contains d = true → b d = true → ∀ n ∈ r.1, O.contains n = true → b n = true
/-! The frame: what is listed has its destination filled. -/
end
end Go.Proofs.YtdkaaieenbmihaaW.PrintLast
namespace Go.Proofs.YtdkaaieenbmihaaW.PrintWords
open Go.RowKit
end Go.Proofs.YtdkaaieenbmihaaW.PrintWords
namespace Go.Proofs.YtdkaaieenbmihaaW.PrintLast
section
variable {ops : Array Oper} {a : Act} {o og : Oper} {g : Nat} {t : Tmp} {u : Bool}
end
end Go.Proofs.YtdkaaieenbmihaaW.PrintLast
/-! ### 58. A guarded operation whose guard is known to want it: the same goal without the guard -/
namespace Go.Proofs.YtdkaaieenbmihaaW.PrintWords
open Go.RowKit
section
variable {P : Program} {ops : Array Oper} {rest : List Oper} {o : Oper} {a : Act} {Q : Exit → Act → World → Prop} {W : World}
end
end Go.Proofs.YtdkaaieenbmihaaW.PrintWords
/-! ### 48. N's events: append, a whole row appended, zeros appended, literals, make, stores, cuts, an element taken out -/
namespace Go.Proofs.YtdkaaieenbmihaaW.PrintWords
open Go.RowKit
namespace Kd
section
variable {α : Type} {d : Kd α} {e base n cap g : Nat} {ok ok' okp : Nat → Prop} {w w1 W : World} {v v1 : Value} {xs ys : List α}
end
section
variable {P : Program} {ops : Array Oper} {rest : List Oper} {o : Oper} {a : Act} {Q : Exit → Act → World → Prop} {Kc : Act → World → Prop} {α : Type}
end
end Kd
end Go.Proofs.YtdkaaieenbmihaaW.PrintWords
-- PRINTED WORDS (module Derived/Print/More.lean): go-gate-2's additions: an AI agent of Go's test side, Tue Nov 17 2026; no person has read it. Lean checks it.
namespace Go.Proofs.YtdkaaieenbmihaaW.PrintMore
open Go.RowKit Go.Proofs.YtdkaaieenbmihaaW.PrintWords
namespace Kd
open Go.Proofs.YtdkaaieenbmihaaW.PrintWords.Kd
end Kd

namespace Kd
open Go.Proofs.YtdkaaieenbmihaaW.PrintWords.Kd
section
variable {α : Type} {d : Kd α} {e base g N : Nat} {ok : Nat → Prop} {W w1 : World} {u v : Value} {xs : List α}
end
end Kd
/-- 'max' and 'min' of two whole numbers. -/
theorem max2_int (k k' : IntKind) (x y : Int) : Builtin.max2 (.int k x) (.int k' y) = pure (.int k (if x < y then y else x)) := by simp only [Builtin.max2, gt_iff_lt]
theorem min2_int (k k' : IntKind) (x y : Int) : Builtin.min2 (.int k x) (.int k' y) = pure (.int k (if y < x then y else x)) := by simp only [Builtin.min2]
theorem max_two (ats : Array TypeId) (ty : TypeId) (a b : Value) : Builtin.max_ ats ty #[a, b] = (Builtin.max2 a b >>= fun s => pure s) := by simp only [Builtin.max_, List.foldlM_cons, List.foldlM_nil]
theorem min_two (ats : Array TypeId) (ty : TypeId) (a b : Value) : Builtin.min_ ats ty #[a, b] = (Builtin.min2 a b >>= fun s => pure s) := by simp only [Builtin.min_, List.foldlM_cons, List.foldlM_nil]
theorem max_three (ats : Array TypeId) (ty : TypeId) (a b c : Value) : Builtin.max_ ats ty #[a, b, c] = (Builtin.max2 a b >>= fun s => Builtin.max2 s c >>= fun s => pure s) := by simp only [Builtin.max_, List.foldlM_cons, List.foldlM_nil]
theorem min_three (ats : Array TypeId) (ty : TypeId) (a b c : Value) : Builtin.min_ ats ty #[a, b, c] = (Builtin.min2 a b >>= fun s => Builtin.min2 s c >>= fun s => pure s) := by simp only [Builtin.min_, List.foldlM_cons, List.foldlM_nil]
theorem max_four (ats : Array TypeId) (ty : TypeId) (a b c d : Value) : Builtin.max_ ats ty #[a, b, c, d] = (Builtin.max2 a b >>= fun s => Builtin.max2 s c >>= fun s => Builtin.max2 s d >>= fun s => pure s) := by simp only [Builtin.max_, List.foldlM_cons, List.foldlM_nil]
theorem min_four (ats : Array TypeId) (ty : TypeId) (a b c d : Value) : Builtin.min_ ats ty #[a, b, c, d] = (Builtin.min2 a b >>= fun s => Builtin.min2 s c >>= fun s => Builtin.min2 s d >>= fun s => pure s) := by simp only [Builtin.min_, List.foldlM_cons, List.foldlM_nil]
end Go.Proofs.YtdkaaieenbmihaaW.PrintMore
namespace Go.Proofs.YtdkaaieenbmihaaW.PrintWords
open Go.RowKit
section
variable {P : Program} {ops : Array Oper} {rest : List Oper} {o : Oper} {a : Act} {Q : Exit → Act → World → Prop} {W : World}
/-- The operation is a builtin over these places. -/
theorem gate_builtin {b : Builtin} {xs : Array Operand} {ts : Array TypeId} (_ho : o.op = .call { callee := .builtin b, args := xs, argTypes := ts }) (h : wpList P ops Q (o :: rest) a W) : wpList P ops Q (o :: rest) a W := h
end
/-- The greater of two whole numbers, as Go's max tells it. -/
def mx (a b : Int) : Int := if a < b then b else a
/-- The smaller of two whole numbers, as Go's min tells it. -/
def mn (a b : Int) : Int := if b < a then b else a
/-- A shift to the left, as Go tells it: a count beyond the width leaves nothing. -/
def shl (k : IntKind) (x y : Int) : Int := k.wrap (x * 2 ^ min y.toNat k.bits)
/-- A shift to the right: a count beyond the width leaves the sign. -/
def shr (k : IntKind) (x y : Int) : Int := x / 2 ^ min y.toNat k.bits
theorem shr_small {k : IntKind} {x y j : Int} (h : shr k x y = j) (hy : y ≤ k.bits) : x / 2 ^ y.toNat = j := by rw [← h]; unfold shr; rw [Nat.min_eq_left (by omega)]
namespace Kd
section
variable {α : Type} {d : Kd α} {e base : Nat} {ok : Nat → Prop} {W w1 : World} {v : Value} {xs : List α}
end
section
variable {α : Type} {d : Kd α} {e base g n cap : Nat} {ok oki okp : Nat → Prop} {W : World} {xs : List α} {i : Int} {c : List Value}
end
section
variable {α : Type} {d : Kd α} {e base b b' g N : Nat} {ok ok1 : Nat → Prop} {W W2 w1 : World} {u v : Value} {xs ys : List α} {S : Nat → Prop}
end
end Kd
end Go.Proofs.YtdkaaieenbmihaaW.PrintWords
namespace Go.Proofs.YtdkaaieenbmihaaW.PrintWords
open Go.RowKit
namespace Kd
/-- A row that is only read, told by its value: its form, its length, what it leads to (in ok). e and base say nothing; they make it as the others are. -/
def V {α : Type} (d : Kd α) (_e : Nat) (W : World) (_base : Nat) (ok : Nat → Prop) (v : Value) (xs : List α) : Prop := ∃ A c, v = .slice A xs.length c ∧ xs.length ≤ c ∧ F d W ok A xs.length xs
section
variable {α β : Type} {d : Kd α} {e base base' n m c g N' lo hi : Nat} {ok ok' S : Nat → Prop} {w W w1 : World} {A : Option Addr} {ad : Addr} {u v v1 : Value} {xs : List α}
theorem V_nil (d : Kd α) (e : Nat) (W : World) (base : Nat) (ok : Nat → Prop) : V d e W base ok (.slice none 0 0) [] := ⟨none, 0, rfl, Nat.le_refl _, F_nil d W ok⟩
end
end Kd
end Go.Proofs.YtdkaaieenbmihaaW.PrintWords
namespace Go.Proofs.Ytdkaaieenbmihaa.PA
open Go.RowKit Go.Proofs.YtdkaaieenbmihaaW.PrintWords Go.Proofs.YtdkaaieenbmihaaW.PrintLast Go.Proofs.YtdkaaieenbmihaaW.PrintMore
attribute [local go_sem] max2_int min2_int max_two min_two max_three min_three max_four min_four   -- for this text's walks alone



theorem bne_nil_ (l : List UInt8) : (l != []) = !l.isEmpty := by cases l <;> rfl
theorem beq_nil_ (l : List UInt8) : (l == []) = l.isEmpty := by cases l <;> rfl

def errW : Option Int → Value
  | none => .nilIface
  | some c => .iface 0 (.int .i64 c)
theorem errW_none : errW none = .nilIface := rfl
theorem errW_some (c : Int) : errW (some c) = .iface 0 (.int .i64 c) := rfl

theorem info5 : (Try.prog.info? 5).map (fun i => (i.zero, i.size, i.bytes)) = some (some (.int .u8 0), 1, 1) := by kernel_rfl
-- the values' own types
def rd_L1 (xs : List (List Int)) (i : Int) : (List Int) := xs.getD i.toNat ([] : List Int)

end Go.Proofs.Ytdkaaieenbmihaa.PA
namespace Go.Proofs.Ytdkaaieenbmihaa.PA
open Go.RowKit Go.Proofs.YtdkaaieenbmihaaW.PrintWords Go.Proofs.YtdkaaieenbmihaaW.PrintLast Go.Proofs.YtdkaaieenbmihaaW.PrintMore
attribute [local go_sem] max2_int min2_int max_two min_two max_three min_three max_four min_four   -- for this text's walks alone

/-! ### value_Name: function 55 -/
mutual
def value_Name.j0 : Nat → ByteArray → Bool → Option (Bool)
  | 0, _, _ => none
  | k + 1, x0, x16 => if x16 = true then (some false) else (value_Name.l0 k x0 (x0.size : Int) 0)
def value_Name.l0 : Nat → ByteArray → Int → Int → Option (Bool)
  | 0, _, _, _ => none
  | k + 1, x0, x18, x19 => if x19 < x18 then (if 0 ≤ x19 then (if x19 < (x0.size : Int) then (if (bt x0 x19) ≥ 97 then (if ((bt x0 x19) ≤ 122) then (value_Name.l0 k x0 x18 (wrap64 (x19 + 1))) else (if x19 = 0 then (some false) else (if (bt x0 x19) < 48 then (if (bt x0 x19) = 95 then (value_Name.l0 k x0 x18 (wrap64 (x19 + 1))) else (some false)) else (if (bt x0 x19) > 57 then (if (bt x0 x19) = 95 then (value_Name.l0 k x0 x18 (wrap64 (x19 + 1))) else (some false)) else (value_Name.l0 k x0 x18 (wrap64 (x19 + 1))))))) else (if x19 = 0 then (some false) else (if (bt x0 x19) < 48 then (if (bt x0 x19) = 95 then (value_Name.l0 k x0 x18 (wrap64 (x19 + 1))) else (some false)) else (if (bt x0 x19) > 57 then (if (bt x0 x19) = 95 then (value_Name.l0 k x0 x18 (wrap64 (x19 + 1))) else (some false)) else (value_Name.l0 k x0 x18 (wrap64 (x19 + 1))))))) else (none)) else (none)) else (some (x0.toList != ([] : List UInt8)))
end
def value_Name.f (k : Nat) (a0 : ByteArray) : Option (Bool) := if a0.toList = ([110, 111, 116] : List UInt8) then (value_Name.j0 k a0 true) else (if a0.toList = ([115, 97, 121, 115] : List UInt8) then (value_Name.j0 k a0 true) else (value_Name.j0 k a0 (decide ((a0.size : Int) > 16))))
theorem value_Name.mono_l : ∀ k, (∀ y0 y1, LeO (value_Name.j0 k y0 y1) (value_Name.j0 (k + 1) y0 y1)) ∧ (∀ y0 y1 y2, LeO (value_Name.l0 k y0 y1 y2) (value_Name.l0 (k + 1) y0 y1 y2))
  | 0 => ⟨fun _ _ r h => by simp [value_Name.j0] at h, fun _ _ _ r h => by simp [value_Name.l0] at h⟩
  | k + 1 => by
    obtain ⟨ih0, ih1⟩ := value_Name.mono_l k
    refine ⟨?_, ?_⟩
    · intro y0 y1
      unfold value_Name.j0
      repeat' first
      | (with_reducible exact ih0 _ _)
      | (with_reducible exact ih1 _ _ _)
      | (with_reducible exact LeO.refl _)
      | (with_reducible exact LeO.none _)
      | (with_reducible refine LeO.ite ?_ ?_)
      | (with_reducible refine LeO.bind ?_ (fun _ => ?_))
      | exact ih0 _ _
      | exact ih1 _ _ _
      | exact LeO.none _
      | refine LeO.ite ?_ ?_
      | refine LeO.bind ?_ (fun _ => ?_)
    · intro y0 y1 y2
      unfold value_Name.l0
      repeat' first
      | (with_reducible exact ih0 _ _)
      | (with_reducible exact ih1 _ _ _)
      | (with_reducible exact LeO.refl _)
      | (with_reducible exact LeO.none _)
      | (with_reducible refine LeO.ite ?_ ?_)
      | (with_reducible refine LeO.bind ?_ (fun _ => ?_))
      | exact ih0 _ _
      | exact ih1 _ _ _
      | exact LeO.none _
      | refine LeO.ite ?_ ?_
      | refine LeO.bind ?_ (fun _ => ?_)
theorem value_Name.mono : ∀ a0 k, LeO (value_Name.f k a0) (value_Name.f (k + 1) a0) := by
  intro a0 k
  obtain ⟨ih0, ih1⟩ := value_Name.mono_l k
  unfold value_Name.f
  repeat' first
      | (with_reducible exact ih0 _ _)
      | (with_reducible exact ih1 _ _ _)
      | (with_reducible exact LeO.refl _)
      | (with_reducible exact LeO.none _)
      | (with_reducible refine LeO.ite ?_ ?_)
      | (with_reducible refine LeO.bind ?_ (fun _ => ?_))
      | exact ih0 _ _
      | exact ih1 _ _ _
      | exact LeO.none _
      | refine LeO.ite ?_ ?_
      | refine LeO.bind ?_ (fun _ => ?_)
set_option maxHeartbeats 8000000 in
set_option maxRecDepth 100000 in
theorem value_Name.calls (k : Nat) (a0 : ByteArray) (r : Bool) (w : World) (h : value_Name.f k a0 = some r) :
    Calls Try.prog 55 #[.string a0] w fun e w' => e = .returned (.bool r) ∧ Drawn0 w w' := by
  have H : (if a0.toList = ([110, 111, 116] : List UInt8) then (value_Name.j0 k a0 true) else (if a0.toList = ([115, 97, 121, 115] : List UInt8) then (value_Name.j0 k a0 true) else (value_Name.j0 k a0 (decide ((a0.size : Int) > 16))))) = some r := h
  clear h
  have HC2 := Aside0.mk H
  clear H
  go_enter Try.func55, Try.ntmps55
  go_upto_region 1 with (fail)
  go_cut [16] (fun v16 wc => ∃ (kq : Nat) (x16_1 : Bool), v16 = .bool x16_1 ∧ Aside0 (value_Name.j0 kq a0 x16_1 = some r) ∧ Aside0 (kq ≤ k) ∧ Drawn0 w wc)
  case first =>
    have H := HC2.out
    clear HC2
    by_cases c3 : a0.toList = ([110, 111, 116] : List UInt8)
    · rw [if_pos c3] at H
      have c3b0 : (a0.toList == ([110, 111, 116] : List UInt8)) = true := beq_iff_eq.mpr c3
      have c3b1 : (a0.toList != ([110, 111, 116] : List UInt8)) = false := bne_eq_false_iff_eq.mpr c3
      clear c3
      (first | rw [c3b0] | (simp only [i64_w, i32_w]; rw [c3b0]) | skip)
      have H' := Aside0.mk H
      clear H
      go_wp2
      go_meet
      case rel => exact ⟨_, (true), (by first | rfl | (simp; done) | (simp [*]; done)), H', ⟨by first | omega | exact Nat.le_refl _⟩, by repeat (first | exact Drawn0.refl _ | apply Drawn0.step)⟩
    · rw [if_neg c3] at H
      have c3b0 : (a0.toList == ([110, 111, 116] : List UInt8)) = false := beq_eq_false_iff_ne.mpr c3
      have c3b1 : (a0.toList != ([110, 111, 116] : List UInt8)) = true := bne_iff_ne.mpr c3
      (first | rw [c3b0] | (simp only [i64_w, i32_w]; rw [c3b0]) | skip)
      by_cases c4 : a0.toList = ([115, 97, 121, 115] : List UInt8)
      · rw [if_pos c4] at H
        have c4b0 : (a0.toList == ([115, 97, 121, 115] : List UInt8)) = true := beq_iff_eq.mpr c4
        have c4b1 : (a0.toList != ([115, 97, 121, 115] : List UInt8)) = false := bne_eq_false_iff_eq.mpr c4
        clear c4
        have H' := Aside0.mk H
        clear H
        go_wp2
        go_meet
        case rel => exact ⟨_, (true), (by first | rfl | (simp; done) | (simp [*]; done)), H', ⟨by first | omega | exact Nat.le_refl _⟩, by repeat (first | exact Drawn0.refl _ | apply Drawn0.step)⟩
      · rw [if_neg c4] at H
        have c4b0 : (a0.toList == ([115, 97, 121, 115] : List UInt8)) = false := beq_eq_false_iff_ne.mpr c4
        have c4b1 : (a0.toList != ([115, 97, 121, 115] : List UInt8)) = true := bne_iff_ne.mpr c4
        have H' := Aside0.mk H
        clear H
        go_wp2
        go_meet
        case rel => exact ⟨_, (decide ((a0.size : Int) > 16)), (by first | rfl | (simp; done) | (simp [*]; done)), H', ⟨by first | omega | exact Nat.le_refl _⟩, by repeat (first | exact Drawn0.refl _ | apply Drawn0.step)⟩
  case rest =>
    clear HC2
    try clear p2
    try clear c3
    try clear c3b0
    try clear c3b1
    try clear c4
    try clear c4b0
    try clear c4b1
    obtain ⟨kq, x16_1, rfl, HA, HJ1, ⟨mc1, rfl⟩⟩ := hcut
    cases kq with
    | zero => exact absurd HA.out (by simp [value_Name.j0])
    | succ kj1 =>
      have H := HA.out
      clear HA
      simp only [value_Name.j0] at H
      by_cases c5 : x16_1 = true
      · subst c5
        have H1 : (some false) = some r := by rw [if_pos rfl] at H; exact H
        clear H
        have H := H1
        clear H1
        obtain rfl := Option.some.inj H
        go_wp2
        go_ret
        exact ⟨by first | rfl | (simp; done) | (simp [*]; done) | (simp only [bne_nil_, beq_nil_]; done) | (simp [bne_nil_, beq_nil_]; done) | (simp_all [bne_nil_, beq_nil_]; done), by repeat (first | exact Drawn0.refl _ | apply Drawn0.step)⟩
      · replace c5 := Bool.eq_false_iff.mpr c5
        subst c5
        have H1 : (value_Name.l0 kj1 a0 (a0.size : Int) 0) = some r := by rw [if_neg (show ¬ (false = true) by decide)] at H; exact H
        clear H
        have H := H1
        clear H1
        have H' := Aside0.mk H
        clear H
        go_wp2
        go_loopg [19] kj1 (fun kq v19 w' => ∃ (x19_2 : Int), v19 = .int .i64 x19_2 ∧ Aside0 (value_Name.l0 kq a0 (a0.size : Int) x19_2 = some r) ∧ Aside0 (kq ≤ kj1) ∧ Drawn0 w w')
        case atStart => exact ⟨(0), (by first | rfl | (simp; done) | (simp [*]; done)), H', ⟨Nat.le_refl _⟩, by repeat (first | exact Drawn0.refl _ | apply Drawn0.step)⟩
        case round =>
          clear H'
          try clear c1
          try clear p2
          try clear c3
          try clear c3b0
          try clear c3b1
          try clear c4
          try clear c4b0
          try clear c4b1
          try clear c5
          try clear p2
          obtain ⟨x19_2, rfl, HA, HK2, ⟨m2, rfl⟩⟩ := hrel
          cases gk with
          | zero => exact absurd HA.out (by simp [value_Name.l0])
          | succ k2 =>
            have H := HA.out
            clear HA
            simp only [value_Name.l0] at H
            by_cases c6 : x19_2 < (a0.size : Int)
            · rw [if_pos c6] at H
              have c6b0 : decide (x19_2 < (a0.size : Int)) = true := decide_eq_true c6
              clear c6
              by_cases c7 : 0 ≤ x19_2
              · rw [if_pos c7] at H
                have c7b0 : decide (0 ≤ x19_2) = true := decide_eq_true c7
                clear c7
                by_cases c8 : x19_2 < (a0.size : Int)
                · rw [if_pos c8] at H
                  have c8b0 : decide (x19_2 < (a0.size : Int)) = true := decide_eq_true c8
                  clear c8
                  by_cases c10 : (bt a0 x19_2) ≥ 97
                  · rw [if_pos c10] at H
                    have c10b0 : decide (97 ≤ (bt a0 x19_2)) = true := decide_eq_true c10
                    clear c10
                    by_cases c11 : ((bt a0 x19_2) ≤ 122)
                    · rw [if_pos c11] at H
                      have c11b0 : decide ((bt a0 x19_2) ≤ 122) = true := decide_eq_true c11
                      clear c11
                      have H' := Aside0.mk H
                      clear H
                      have p9 : 0 ≤ (x19_2 : Int) := of_decide_eq_true (by first | (with_reducible assumption) | assumption)
                      have q9 : x19_2 < (a0.size : Int) := of_decide_eq_true (by first | (with_reducible assumption) | assumption)
                      have hx9 := bt_at a0 x19_2
                      replace p9 := eq_true p9
                      replace q9 := eq_true q9
                      go_wp2
                      go_roundg k2
                      case measure => have := HJ1.out; have := HK2.out; omega
                      case rel => exact ⟨(wrap64 (x19_2 + 1)), (by first | rfl | (simp; done) | (simp [*]; done)), H', ⟨by have := HJ1.out; have := HK2.out; omega⟩, by repeat (first | exact Drawn0.refl _ | apply Drawn0.step)⟩
                    · rw [if_neg c11] at H
                      have c11b0 : decide ((bt a0 x19_2) ≤ 122) = false := decide_eq_false c11
                      clear c11
                      by_cases c12 : x19_2 = 0
                      · rw [if_pos c12] at H
                        have c12b0 : (x19_2 == 0) = true := beq_iff_eq.mpr c12
                        have c12b1 : (x19_2 != 0) = false := bne_eq_false_iff_eq.mpr c12
                        clear c12
                        obtain rfl := Option.some.inj H
                        have p9 : 0 ≤ (x19_2 : Int) := of_decide_eq_true (by first | (with_reducible assumption) | assumption)
                        have q9 : x19_2 < (a0.size : Int) := of_decide_eq_true (by first | (with_reducible assumption) | assumption)
                        have hx9 := bt_at a0 x19_2
                        replace p9 := eq_true p9
                        replace q9 := eq_true q9
                        go_wp2
                        go_ret
                        exact ⟨by first | rfl | (simp; done) | (simp [*]; done) | (simp only [bne_nil_, beq_nil_]; done) | (simp [bne_nil_, beq_nil_]; done) | (simp_all [bne_nil_, beq_nil_]; done), by repeat (first | exact Drawn0.refl _ | apply Drawn0.step)⟩
                      · rw [if_neg c12] at H
                        have c12b0 : (x19_2 == 0) = false := beq_eq_false_iff_ne.mpr c12
                        have c12b1 : (x19_2 != 0) = true := bne_iff_ne.mpr c12
                        by_cases c13 : (bt a0 x19_2) < 48
                        · rw [if_pos c13] at H
                          have c13b0 : decide ((bt a0 x19_2) < 48) = true := decide_eq_true c13
                          clear c13
                          by_cases c14 : (bt a0 x19_2) = 95
                          · rw [if_pos c14] at H
                            have c14b0 : ((bt a0 x19_2) == 95) = true := beq_iff_eq.mpr c14
                            have c14b1 : ((bt a0 x19_2) != 95) = false := bne_eq_false_iff_eq.mpr c14
                            clear c14
                            have H' := Aside0.mk H
                            clear H
                            have p9 : 0 ≤ (x19_2 : Int) := of_decide_eq_true (by first | (with_reducible assumption) | assumption)
                            have q9 : x19_2 < (a0.size : Int) := of_decide_eq_true (by first | (with_reducible assumption) | assumption)
                            have hx9 := bt_at a0 x19_2
                            replace p9 := eq_true p9
                            replace q9 := eq_true q9
                            go_wp2
                            go_roundg k2
                            case measure => have := HJ1.out; have := HK2.out; omega
                            case rel => exact ⟨(wrap64 (x19_2 + 1)), (by first | rfl | (simp; done) | (simp [*]; done)), H', ⟨by have := HJ1.out; have := HK2.out; omega⟩, by repeat (first | exact Drawn0.refl _ | apply Drawn0.step)⟩
                          · rw [if_neg c14] at H
                            have c14b0 : ((bt a0 x19_2) == 95) = false := beq_eq_false_iff_ne.mpr c14
                            have c14b1 : ((bt a0 x19_2) != 95) = true := bne_iff_ne.mpr c14
                            obtain rfl := Option.some.inj H
                            have p9 : 0 ≤ (x19_2 : Int) := of_decide_eq_true (by first | (with_reducible assumption) | assumption)
                            have q9 : x19_2 < (a0.size : Int) := of_decide_eq_true (by first | (with_reducible assumption) | assumption)
                            have hx9 := bt_at a0 x19_2
                            replace p9 := eq_true p9
                            replace q9 := eq_true q9
                            go_wp2
                            go_ret
                            exact ⟨by first | rfl | (simp; done) | (simp [*]; done) | (simp only [bne_nil_, beq_nil_]; done) | (simp [bne_nil_, beq_nil_]; done) | (simp_all [bne_nil_, beq_nil_]; done), by repeat (first | exact Drawn0.refl _ | apply Drawn0.step)⟩
                        · rw [if_neg c13] at H
                          have c13b0 : decide ((bt a0 x19_2) < 48) = false := decide_eq_false c13
                          clear c13
                          by_cases c15 : (bt a0 x19_2) > 57
                          · rw [if_pos c15] at H
                            have c15b0 : decide (57 < (bt a0 x19_2)) = true := decide_eq_true c15
                            clear c15
                            by_cases c16 : (bt a0 x19_2) = 95
                            · rw [if_pos c16] at H
                              have c16b0 : ((bt a0 x19_2) == 95) = true := beq_iff_eq.mpr c16
                              have c16b1 : ((bt a0 x19_2) != 95) = false := bne_eq_false_iff_eq.mpr c16
                              clear c16
                              have H' := Aside0.mk H
                              clear H
                              have p9 : 0 ≤ (x19_2 : Int) := of_decide_eq_true (by first | (with_reducible assumption) | assumption)
                              have q9 : x19_2 < (a0.size : Int) := of_decide_eq_true (by first | (with_reducible assumption) | assumption)
                              have hx9 := bt_at a0 x19_2
                              replace p9 := eq_true p9
                              replace q9 := eq_true q9
                              go_wp2
                              go_roundg k2
                              case measure => have := HJ1.out; have := HK2.out; omega
                              case rel => exact ⟨(wrap64 (x19_2 + 1)), (by first | rfl | (simp; done) | (simp [*]; done)), H', ⟨by have := HJ1.out; have := HK2.out; omega⟩, by repeat (first | exact Drawn0.refl _ | apply Drawn0.step)⟩
                            · rw [if_neg c16] at H
                              have c16b0 : ((bt a0 x19_2) == 95) = false := beq_eq_false_iff_ne.mpr c16
                              have c16b1 : ((bt a0 x19_2) != 95) = true := bne_iff_ne.mpr c16
                              obtain rfl := Option.some.inj H
                              have p9 : 0 ≤ (x19_2 : Int) := of_decide_eq_true (by first | (with_reducible assumption) | assumption)
                              have q9 : x19_2 < (a0.size : Int) := of_decide_eq_true (by first | (with_reducible assumption) | assumption)
                              have hx9 := bt_at a0 x19_2
                              replace p9 := eq_true p9
                              replace q9 := eq_true q9
                              go_wp2
                              go_ret
                              exact ⟨by first | rfl | (simp; done) | (simp [*]; done) | (simp only [bne_nil_, beq_nil_]; done) | (simp [bne_nil_, beq_nil_]; done) | (simp_all [bne_nil_, beq_nil_]; done), by repeat (first | exact Drawn0.refl _ | apply Drawn0.step)⟩
                          · rw [if_neg c15] at H
                            have c15b0 : decide (57 < (bt a0 x19_2)) = false := decide_eq_false c15
                            clear c15
                            have H' := Aside0.mk H
                            clear H
                            have p9 : 0 ≤ (x19_2 : Int) := of_decide_eq_true (by first | (with_reducible assumption) | assumption)
                            have q9 : x19_2 < (a0.size : Int) := of_decide_eq_true (by first | (with_reducible assumption) | assumption)
                            have hx9 := bt_at a0 x19_2
                            replace p9 := eq_true p9
                            replace q9 := eq_true q9
                            go_wp2
                            go_roundg k2
                            case measure => have := HJ1.out; have := HK2.out; omega
                            case rel => exact ⟨(wrap64 (x19_2 + 1)), (by first | rfl | (simp; done) | (simp [*]; done)), H', ⟨by have := HJ1.out; have := HK2.out; omega⟩, by repeat (first | exact Drawn0.refl _ | apply Drawn0.step)⟩
                  · rw [if_neg c10] at H
                    have c10b0 : decide (97 ≤ (bt a0 x19_2)) = false := decide_eq_false c10
                    clear c10
                    by_cases c17 : x19_2 = 0
                    · rw [if_pos c17] at H
                      have c17b0 : (x19_2 == 0) = true := beq_iff_eq.mpr c17
                      have c17b1 : (x19_2 != 0) = false := bne_eq_false_iff_eq.mpr c17
                      clear c17
                      obtain rfl := Option.some.inj H
                      have p9 : 0 ≤ (x19_2 : Int) := of_decide_eq_true (by first | (with_reducible assumption) | assumption)
                      have q9 : x19_2 < (a0.size : Int) := of_decide_eq_true (by first | (with_reducible assumption) | assumption)
                      have hx9 := bt_at a0 x19_2
                      replace p9 := eq_true p9
                      replace q9 := eq_true q9
                      go_wp2
                      go_ret
                      exact ⟨by first | rfl | (simp; done) | (simp [*]; done) | (simp only [bne_nil_, beq_nil_]; done) | (simp [bne_nil_, beq_nil_]; done) | (simp_all [bne_nil_, beq_nil_]; done), by repeat (first | exact Drawn0.refl _ | apply Drawn0.step)⟩
                    · rw [if_neg c17] at H
                      have c17b0 : (x19_2 == 0) = false := beq_eq_false_iff_ne.mpr c17
                      have c17b1 : (x19_2 != 0) = true := bne_iff_ne.mpr c17
                      by_cases c18 : (bt a0 x19_2) < 48
                      · rw [if_pos c18] at H
                        have c18b0 : decide ((bt a0 x19_2) < 48) = true := decide_eq_true c18
                        clear c18
                        by_cases c19 : (bt a0 x19_2) = 95
                        · rw [if_pos c19] at H
                          have c19b0 : ((bt a0 x19_2) == 95) = true := beq_iff_eq.mpr c19
                          have c19b1 : ((bt a0 x19_2) != 95) = false := bne_eq_false_iff_eq.mpr c19
                          clear c19
                          have H' := Aside0.mk H
                          clear H
                          have p9 : 0 ≤ (x19_2 : Int) := of_decide_eq_true (by first | (with_reducible assumption) | assumption)
                          have q9 : x19_2 < (a0.size : Int) := of_decide_eq_true (by first | (with_reducible assumption) | assumption)
                          have hx9 := bt_at a0 x19_2
                          replace p9 := eq_true p9
                          replace q9 := eq_true q9
                          go_wp2
                          go_roundg k2
                          case measure => have := HJ1.out; have := HK2.out; omega
                          case rel => exact ⟨(wrap64 (x19_2 + 1)), (by first | rfl | (simp; done) | (simp [*]; done)), H', ⟨by have := HJ1.out; have := HK2.out; omega⟩, by repeat (first | exact Drawn0.refl _ | apply Drawn0.step)⟩
                        · rw [if_neg c19] at H
                          have c19b0 : ((bt a0 x19_2) == 95) = false := beq_eq_false_iff_ne.mpr c19
                          have c19b1 : ((bt a0 x19_2) != 95) = true := bne_iff_ne.mpr c19
                          obtain rfl := Option.some.inj H
                          have p9 : 0 ≤ (x19_2 : Int) := of_decide_eq_true (by first | (with_reducible assumption) | assumption)
                          have q9 : x19_2 < (a0.size : Int) := of_decide_eq_true (by first | (with_reducible assumption) | assumption)
                          have hx9 := bt_at a0 x19_2
                          replace p9 := eq_true p9
                          replace q9 := eq_true q9
                          go_wp2
                          go_ret
                          exact ⟨by first | rfl | (simp; done) | (simp [*]; done) | (simp only [bne_nil_, beq_nil_]; done) | (simp [bne_nil_, beq_nil_]; done) | (simp_all [bne_nil_, beq_nil_]; done), by repeat (first | exact Drawn0.refl _ | apply Drawn0.step)⟩
                      · rw [if_neg c18] at H
                        have c18b0 : decide ((bt a0 x19_2) < 48) = false := decide_eq_false c18
                        clear c18
                        by_cases c20 : (bt a0 x19_2) > 57
                        · rw [if_pos c20] at H
                          have c20b0 : decide (57 < (bt a0 x19_2)) = true := decide_eq_true c20
                          clear c20
                          by_cases c21 : (bt a0 x19_2) = 95
                          · rw [if_pos c21] at H
                            have c21b0 : ((bt a0 x19_2) == 95) = true := beq_iff_eq.mpr c21
                            have c21b1 : ((bt a0 x19_2) != 95) = false := bne_eq_false_iff_eq.mpr c21
                            clear c21
                            have H' := Aside0.mk H
                            clear H
                            have p9 : 0 ≤ (x19_2 : Int) := of_decide_eq_true (by first | (with_reducible assumption) | assumption)
                            have q9 : x19_2 < (a0.size : Int) := of_decide_eq_true (by first | (with_reducible assumption) | assumption)
                            have hx9 := bt_at a0 x19_2
                            replace p9 := eq_true p9
                            replace q9 := eq_true q9
                            go_wp2
                            go_roundg k2
                            case measure => have := HJ1.out; have := HK2.out; omega
                            case rel => exact ⟨(wrap64 (x19_2 + 1)), (by first | rfl | (simp; done) | (simp [*]; done)), H', ⟨by have := HJ1.out; have := HK2.out; omega⟩, by repeat (first | exact Drawn0.refl _ | apply Drawn0.step)⟩
                          · rw [if_neg c21] at H
                            have c21b0 : ((bt a0 x19_2) == 95) = false := beq_eq_false_iff_ne.mpr c21
                            have c21b1 : ((bt a0 x19_2) != 95) = true := bne_iff_ne.mpr c21
                            obtain rfl := Option.some.inj H
                            have p9 : 0 ≤ (x19_2 : Int) := of_decide_eq_true (by first | (with_reducible assumption) | assumption)
                            have q9 : x19_2 < (a0.size : Int) := of_decide_eq_true (by first | (with_reducible assumption) | assumption)
                            have hx9 := bt_at a0 x19_2
                            replace p9 := eq_true p9
                            replace q9 := eq_true q9
                            go_wp2
                            go_ret
                            exact ⟨by first | rfl | (simp; done) | (simp [*]; done) | (simp only [bne_nil_, beq_nil_]; done) | (simp [bne_nil_, beq_nil_]; done) | (simp_all [bne_nil_, beq_nil_]; done), by repeat (first | exact Drawn0.refl _ | apply Drawn0.step)⟩
                        · rw [if_neg c20] at H
                          have c20b0 : decide (57 < (bt a0 x19_2)) = false := decide_eq_false c20
                          clear c20
                          have H' := Aside0.mk H
                          clear H
                          have p9 : 0 ≤ (x19_2 : Int) := of_decide_eq_true (by first | (with_reducible assumption) | assumption)
                          have q9 : x19_2 < (a0.size : Int) := of_decide_eq_true (by first | (with_reducible assumption) | assumption)
                          have hx9 := bt_at a0 x19_2
                          replace p9 := eq_true p9
                          replace q9 := eq_true q9
                          go_wp2
                          go_roundg k2
                          case measure => have := HJ1.out; have := HK2.out; omega
                          case rel => exact ⟨(wrap64 (x19_2 + 1)), (by first | rfl | (simp; done) | (simp [*]; done)), H', ⟨by have := HJ1.out; have := HK2.out; omega⟩, by repeat (first | exact Drawn0.refl _ | apply Drawn0.step)⟩
                · rw [if_neg c8] at H
                  exact absurd H (by simp)
              · rw [if_neg c7] at H
                exact absurd H (by simp)
            · rw [if_neg c6] at H
              have c6b0 : decide (x19_2 < (a0.size : Int)) = false := decide_eq_false c6
              clear c6
              obtain rfl := Option.some.inj H
              go_wp2
              go_ret
              exact ⟨by first | rfl | (simp; done) | (simp [*]; done) | (simp only [bne_nil_, beq_nil_]; done) | (simp [bne_nil_, beq_nil_]; done) | (simp_all [bne_nil_, beq_nil_]; done), by repeat (first | exact Drawn0.refl _ | apply Drawn0.step)⟩

/-- THE ONE PURE STATEMENT of value_Name: yours. -/
def value_Name.Pure : Prop := ∀ (a0 : ByteArray), a0.size ≤ 140737488351232 → ∃ k, value_Name.f k a0 = some true
theorem value_Name.walk (P : value_Name.Pure) (a0 : ByteArray) (w : World) (w0 : a0.size ≤ 140737488351232) :
    Calls Try.prog 55 #[.string a0] w fun e w' => e = .returned (.bool true) ∧ Below w.heap.size w w' := by
  obtain ⟨k, h⟩ := P a0 w0
  refine (value_Name.calls k a0 true w h).mono ?_
  rintro e w' ⟨rfl, hd⟩
  exact ⟨rfl, hd.below⟩

end Go.Proofs.Ytdkaaieenbmihaa.PA
namespace Go.Proofs.Ytdkaaieenbmihaa.Pure
open Go.RowKit Go.Proofs.Ytdkaaieenbmihaa.PA Go.Proofs.YtdkaaieenbmihaaW.PrintWords Go.Proofs.YtdkaaieenbmihaaW.PrintLast

theorem up1 (i : Nat) (h : i < 9223372036854775807) : wrap64 ((i : Int) + 1) = ((i + 1 : Nat) : Int) := by unfold wrap64; omega

def okAt (s : ByteArray) (j : Nat) : Bool := decide ((97 ≤ bt s j ∧ bt s j ≤ 122) ∨ (j ≠ 0 ∧ ((48 ≤ bt s j ∧ bt s j ≤ 57) ∨ bt s j = 95)))
def nameB (s : ByteArray) : Bool := (s.toList != [110, 111, 116]) && ((s.toList != [115, 97, 121, 115]) && (decide (s.size ≠ 0) && (decide (s.size ≤ 16) && (List.range' 0 s.size).all (okAt s))))

theorem toList_nil_iff (s : ByteArray) : s.toList = [] ↔ s.size = 0 := by
  rw [ByteArray.toList_eq]
  obtain ⟨⟨l⟩⟩ := s
  simp [ByteArray.size]
theorem bne_size (s : ByteArray) : (s.toList != ([] : List UInt8)) = decide (s.size ≠ 0) := by
  rw [Bool.eq_iff_iff]
  simp [toList_nil_iff]

set_option maxHeartbeats 1000000 in
theorem name_loop (s : ByteArray) (hs : s.size ≤ 16) : ∀ (d i k : Nat), i + d = s.size → d < k →
    value_Name.l0 k s (s.size : Int) (i : Int) = some ((List.range' i d).all (okAt s) && (s.toList != ([] : List UInt8))) := by
  intro d
  induction d with
  | zero =>
    intro i k h hk
    obtain ⟨k, rfl⟩ : ∃ m, k = m + 1 := ⟨k - 1, by omega⟩
    rw [value_Name.l0, if_neg (by omega)]
    simp
  | succ d ih =>
    intro i k h hk
    obtain ⟨k, rfl⟩ : ∃ m, k = m + 1 := ⟨k - 1, by omega⟩
    have hi := ih (i + 1) k (by omega) (by omega)
    rw [value_Name.l0, if_pos (by omega), if_pos (by omega), if_pos (by omega), up1 i (by omega), hi, List.range'_succ, List.all_cons]
    generalize (List.range' (i + 1) d).all (okAt s) = z
    clear hi ih
    by_cases e : okAt s i = true
    · rw [e, Bool.true_and]
      unfold okAt at e
      have e := of_decide_eq_true e
      repeat' split
      all_goals first | rfl | omega
    · have e := Bool.eq_false_iff.mpr e
      rw [e, Bool.false_and, Bool.false_and]
      unfold okAt at e
      have e := of_decide_eq_false e
      repeat' split
      all_goals first | rfl | omega

theorem name_ev (s : ByteArray) : Ev (fun k => value_Name.f k s) (nameB s) := by
  refine ⟨s.size + 3, fun k hk => ?_⟩
  obtain ⟨k, rfl⟩ : ∃ m, k = m + 1 := ⟨k - 1, by omega⟩
  simp only [value_Name.f, nameB]
  by_cases h1 : s.toList = [110, 111, 116]
  · rw [if_pos h1, h1]; rfl
  · rw [if_neg h1]
    have b1 : (s.toList != [110, 111, 116]) = true := by simpa using h1
    rw [b1, Bool.true_and]
    by_cases h2 : s.toList = [115, 97, 121, 115]
    · rw [if_pos h2, h2]; rfl
    · rw [if_neg h2]
      have b2 : (s.toList != [115, 97, 121, 115]) = true := by simpa using h2
      rw [b2, Bool.true_and, value_Name.j0]
      by_cases h3 : s.size ≤ 16
      · rw [if_neg (by simp; omega)]
        have := name_loop s h3 s.size 0 k (by omega) (by omega)
        rw [Int.ofNat_zero] at this
        rw [this, decide_eq_true h3, Bool.true_and, bne_size, Bool.and_comm]
      · rw [if_pos (by simp; omega), decide_eq_false h3, Bool.false_and, Bool.and_false]
end Go.Proofs.Ytdkaaieenbmihaa.Pure
namespace Go.Proofs.Ytdkaaieenbmihaa
open _root_.Go.Proofs.Ytdkaaieenbmihaa.Pure
open Go.RowKit
theorem name_calls (s : ByteArray) (w : World) : Calls Try.prog 55 #[.string s] w fun e w' => e = .returned (.bool (nameB s)) ∧ Below w.heap.size w w' := by
  obtain ⟨k, hk⟩ := (name_ev s).rounds
  exact (PA.value_Name.calls k s _ w hk).mono fun e w' h => ⟨h.1, h.2.below⟩
end Go.Proofs.Ytdkaaieenbmihaa
namespace Go.Proofs.Ytdkaaieenbmihaa
open Go.RowKit
open Go.Proofs.Ytdkaaieenbmihaa.Pure (nameB)
set_option maxRecDepth 100000 in
theorem Rename_calls {w : World} {D mb : Nat} {d : DS} (h : DiskI w D mb d) (s t : ByteArray) : Calls Try.prog 41 #[.pointer (some ⟨D, 0, none⟩), .string s, .string t] w fun e w' => e = .returned (.int .i64 ((d.ren nameB s t).2 : Int)) ∧ DiskI w' D mb (d.ren nameB s t).1 ∧ KpS (TD D mb) w w' := by
  have hDw : Hid (DiskI w D mb d) := h
  obtain ⟨d1, ee, hd1⟩ : ∃ p q, d.ren nameB s t = (p, q) := ⟨_, _, rfl⟩
  rw [hd1]
  have hd1H : Hid (d.ren nameB s t = (d1, ee)) := hd1
  obtain ⟨bs, su, er, hf⟩ : ∃ p q r, d.findS s = (p, q, r) := ⟨_, _, _, rfl⟩
  have hfS : Hid (d.findS s = (bs, su, er)) := hf
  clear h hd1 hf
  go_enter Try.func41, Try.ntmps41
  go_upto_region 1 with fail
  have h0Bd : (((w.alloc (.cells #[.pointer (some ⟨D, 0, none⟩)] 39)).alloc (.cells #[.string s] 9)).alloc (.cells #[.string t] 9)).heap[w.heap.size]? = some (.cells #[.pointer (some ⟨D, 0, none⟩)] 39 (0, 0)) := (heap_kept (heap_kept (heap_at w _ w.heap.size rfl) ((Below.refl _ _).alloc (Nat.le_refl _) _)) ((Below.refl _ _).alloc (Nat.le_refl _) _))
  have h0Bn : (((w.alloc (.cells #[.pointer (some ⟨D, 0, none⟩)] 39)).alloc (.cells #[.string s] 9)).alloc (.cells #[.string t] 9)).heap[(w.heap.size + 1)]? = some (.cells #[.string s] 9 (0, 0)) := (heap_kept (heap_at (w.alloc (.cells #[.pointer (some ⟨D, 0, none⟩)] 39)) _ (w.heap.size + 1) (by rw [size_al])) ((Below.refl _ _).alloc (Nat.le_refl _) _))
  have h0Bt : (((w.alloc (.cells #[.pointer (some ⟨D, 0, none⟩)] 39)).alloc (.cells #[.string s] 9)).alloc (.cells #[.string t] 9)).heap[(w.heap.size + 2)]? = some (.cells #[.string t] 9 (0, 0)) := (heap_at ((w.alloc (.cells #[.pointer (some ⟨D, 0, none⟩)] 39)).alloc (.cells #[.string s] 9)) _ (w.heap.size + 2) (by rw [size_al, size_al]))
  have hB0 : Below w.heap.size w (((w.alloc (.cells #[.pointer (some ⟨D, 0, none⟩)] 39)).alloc (.cells #[.string s] 9)).alloc (.cells #[.string t] 9)) := ((((Below.refl _ _).alloc (by exact Nat.le_refl _) _).alloc (by rw [size_al]; omega) _).alloc (by rw [size_al, size_al]; omega) _)
  generalize (((w.alloc (.cells #[.pointer (some ⟨D, 0, none⟩)] 39)).alloc (.cells #[.string s] 9)).alloc (.cells #[.string t] 9)) = W at hB0 h0Bd h0Bn h0Bt ⊢
  obtain ⟨Bd, hBd⟩ : ∃ B, B = w.heap.size := ⟨_, rfl⟩
  obtain ⟨Bn, hBn⟩ : ∃ B, B = (w.heap.size + 1) := ⟨_, rfl⟩
  obtain ⟨Bt, hBt⟩ : ∃ B, B = (w.heap.size + 2) := ⟨_, rfl⟩
  rw [← hBt] at h0Bt ⊢
  rw [← hBn] at h0Bn ⊢
  rw [← hBd] at h0Bd ⊢
  have hBdW : Hid (W.heap[Bd]? = some (.cells #[.pointer (some ⟨D, 0, none⟩)] 39 (0, 0))) := h0Bd
  have hBnW : Hid (W.heap[Bn]? = some (.cells #[.string s] 9 (0, 0))) := h0Bn
  have hBtW : Hid (W.heap[Bt]? = some (.cells #[.string t] 9 (0, 0))) := h0Bt
  have hBW : Hid (Below w.heap.size w W) := hB0
  clear hB0 h0Bd h0Bn h0Bt hBd hBn hBt
  have hDW : Hid (DiskI W D mb d) := hDw.out.below hBW.out
  clear hDw
  refine wp_region_lit ?_
  refine sl_run rfl (.pointer (some ⟨D, 0, none⟩)) W (exec_load_cell 39 W _ rfl ⟨Bd, 0, none⟩ (by kernel_rfl) _ (by rw [cell_of_row _ _ _ _ _ _ hBdW.out]; rfl) (fun _ => by kernel_rfl)) ?_
  simp only [Act.put, fl1, fl2, fl3]
  refine sl_run rfl (.string s) W (exec_load_cell 9 W _ rfl ⟨Bn, 0, none⟩ (by kernel_rfl) _ (by rw [cell_of_row _ _ _ _ _ _ hBnW.out]; rfl) (fun _ => by kernel_rfl)) ?_
  simp only [Act.put, fl1, fl2, fl3]
  refine sg_call (by kernel_rfl) 46 #[.pointer (some ⟨D, 0, none⟩), .string s] (by kernel_rfl) (R := fun u w' => ∃ v, u = .tuple #[.agg #[v, .int .i64 (su : Int)], .int .i64 (er : Int)] ∧ Rw 1 encB w' v bs ∧ Below W.heap.size W w') ((find_calls hDW.out s).mono fun e w' h => by
    obtain ⟨v, h1, h2, h3⟩ := h
    rw [hfS.out] at h1 h2
    exact ⟨_, h1, v, rfl, h2, h3⟩) ?_
  rintro _ W2 ⟨v, rfl, hr, hb⟩
  obtain ⟨A, c, rfl⟩ := hr.form
  have hrW2 : Hid (Rw 1 encB W2 (.slice A bs.length c) bs) := hr
  clear hr
  simp only [Act.put, fl1, fl2, fl3]
  have hDW2 : Hid (DiskI W2 D mb d) := (hDW.out).below hb
  have hBW2 : Hid (Below w.heap.size w W2) := (hBW.out).trans ((hb).mono (hBW.out).size)
  have hBdW2 : Hid (W2.heap[Bd]? = some (.cells #[.pointer (some ⟨D, 0, none⟩)] 39 (0, 0))) := heap_kept hBdW.out hb
  have hBnW2 : Hid (W2.heap[Bn]? = some (.cells #[.string s] 9 (0, 0))) := heap_kept hBnW.out hb
  have hBtW2 : Hid (W2.heap[Bt]? = some (.cells #[.string t] 9 (0, 0))) := heap_kept hBtW.out hb
  clear hDW hBW hBdW hBnW hBtW
  clear hb
  refine sl_run rfl (.tuple #[.agg #[.slice A bs.length c, .int .i64 (su : Int)], .int .i64 (er : Int)]) W2 (by kernel_rfl) ?_
  simp only [Act.put, fl1, fl2, fl3]
  refine sl_run rfl (.agg #[.slice A bs.length c, .int .i64 (su : Int)]) W2 (by kernel_rfl) ?_
  simp only [Act.put, fl1, fl2, fl3]
  refine sl_run rfl (.int .i64 (er : Int)) W2 (by kernel_rfl) ?_
  simp only [Act.put, fl1, fl2, fl3]
  refine sg_run (by kernel_rfl) (.pointer (some ⟨W2.heap.size, 0, none⟩)) (W2.alloc (.cells #[.slice none 0 0, .int .i64 0] 77)) (by kernel_rfl) ?_
  simp only [Act.put, fl1, fl2, fl3]
  refine sl_skipped (by kernel_rfl) ((W2.alloc (.cells #[.slice none 0 0, .int .i64 0] 77)).setRow W2.heap.size #[.slice A bs.length c, .int .i64 (su : Int)]) ?he ?_
  case he => exact exec_store_f _ _ rfl W2.heap.size (by kernel_rfl) (.slice A bs.length c) (su : Int) rfl (by kernel_rfl) #[.slice none 0 0, .int .i64 0] (heap_alloc_new _ _) rfl
  simp only [Act.put, fl1, fl2, fl3]
  have hb : Below W2.heap.size W2 ((W2.alloc (.cells #[.slice none 0 0, .int .i64 0] 77)).setRow W2.heap.size #[.slice A bs.length c, .int .i64 (su : Int)]) := below_setRow ((Below.refl _ _).alloc (Nat.le_refl _) _) (Nat.le_refl _) _
  have hf0 : ((W2.alloc (.cells #[.slice none 0 0, .int .i64 0] 77)).setRow W2.heap.size #[.slice A bs.length c, .int .i64 (su : Int)]).heap[W2.heap.size]? = some (.cells #[.slice A bs.length c, .int .i64 (su : Int)] 77 (0, 0)) := setRow_heap _ _ #[.slice none 0 0, .int .i64 0] _ 77 (0, 0) (heap_alloc_new _ _)
  generalize ((W2.alloc (.cells #[.slice none 0 0, .int .i64 0] 77)).setRow W2.heap.size #[.slice A bs.length c, .int .i64 (su : Int)]) = W3 at hb hf0 ⊢
  have hle0 : w.heap.size ≤ W2.heap.size := hBW2.out.size
  obtain ⟨F, hFe⟩ : ∃ F, F = W2.heap.size := ⟨_, rfl⟩
  have hDW3 : Hid (DiskI W3 D mb d) := (hDW2.out).below hb
  have hBW3 : Hid (Below w.heap.size w W3) := (hBW2.out).trans ((hb).mono (hBW2.out).size)
  have hBdW3 : Hid (W3.heap[Bd]? = some (.cells #[.pointer (some ⟨D, 0, none⟩)] 39 (0, 0))) := heap_kept hBdW2.out hb
  have hBnW3 : Hid (W3.heap[Bn]? = some (.cells #[.string s] 9 (0, 0))) := heap_kept hBnW2.out hb
  have hBtW3 : Hid (W3.heap[Bt]? = some (.cells #[.string t] 9 (0, 0))) := heap_kept hBtW2.out hb
  have hrW3 : Hid (Rw 1 encB W3 (.slice A bs.length c) bs) := (hrW2.out).below hb
  clear hDW2 hBW2 hBdW2 hBnW2 hBtW2 hrW2
  rw [← hFe] at hf0 hle0 ⊢
  have hFW3 : Hid (W3.heap[F]? = some (.cells #[.slice A bs.length c, .int .i64 (su : Int)] 77 (0, 0))) := hf0
  have hFle : Hid (w.heap.size ≤ F) := hle0
  clear hb hf0 hle0 hFe
  refine sl_run rfl (.int .i64 (er : Int)) W3 (by kernel_rfl) ?_
  simp only [Act.put, fl1, fl2, fl3]
  refine wpList_nil ?_
  by_cases he : er = 0
  case neg =>
    have hI : ((er : Int) != 0) = true := err_ne he
    have hI2 : ¬ (er : Int) = 0 := by omega
    have hF : Hid (d1 = d ∧ ee = er) := by
      obtain ⟨_, _, hb⟩ := findS_bad hfS.out he
      have h8 := hd1H.out
      unfold DS.ren at h8
      rcases hb with ⟨h9, e9⟩ | ⟨h9, h7, e9⟩
      · rw [if_pos h9] at h8
        injection h8 with h8 h7
        exact And.intro h8.symm (h7.symm.trans e9.symm)
      · rw [if_neg (by rw [h9]; decide), h7] at h8
        injection h8 with h8 h7
        exact And.intro h8.symm (h7.symm.trans e9.symm)
    obtain ⟨rfl, rfl⟩ := hF.out
    have hE : Hid (DiskI W3 D mb d1 ∧ KpS (TD D mb) w W3) := And.intro hDW3.out (KpS.of hBW3.out)
    clear hF hfS hd1H he
    clear hDW3 hBW3 hBdW3 hBnW3 hBtW3 hrW3 hFW3
    go_wp2_with fail
    go_ret
    exact ⟨rfl, hE.out.1, hE.out.2⟩
  case pos =>
  subst he
  obtain ⟨hoff, f0, hget, hfb, hfs, hmem, hfn⟩ := findS_ok hfS.out
  have hgetH : Hid (d.get s = some f0) := hget
  have hoffH : Hid (d.off = false) := hoff
  have hfineH : Hid (f0.sure ≤ f0.bs.length ∧ f0.bs.length ≤ 1048576) := hDW3.out.fine f0 hmem
  have hfnH : Hid (f0.nm = s) := hfn
  have hsuH : Hid (f0.sure = su) := hfs
  subst hfb
  have hspec := hd1H.out
  unfold DS.ren at hspec
  rw [if_neg (by rw [hoff]; decide), hget] at hspec
  dsimp only at hspec
  clear hd1H hfS hget hoff hfn hfs hmem
  obtain ⟨nb, hnb⟩ : ∃ b, b = nameB t := ⟨_, rfl⟩
  have hnbH : Hid (nb = nameB t) := hnb
  rw [← hnb] at hspec
  clear hnb
  go_upto_region 4 with fail
  refine wp_region_lit ?_
  refine sl_run rfl (.string t) W3 (exec_load_cell 9 W3 _ rfl ⟨Bt, 0, none⟩ (by kernel_rfl) _ (by rw [cell_of_row _ _ _ _ _ _ hBtW3.out]; rfl) (fun _ => by kernel_rfl)) ?_
  simp only [Act.put, fl1, fl2, fl3]
  refine sg_call (by kernel_rfl) 55 #[.string t] (by kernel_rfl) (R := fun v w' => v = .bool nb ∧ Below W3.heap.size W3 w') ((hnbH.out ▸ name_calls t W3).mono fun e w' h => ⟨_, h.1, rfl, h.2⟩) ?_
  rintro _ W5 ⟨rfl, hb⟩
  simp only [Act.put, fl1, fl2, fl3]
  have hDW5 : Hid (DiskI W5 D mb d) := (hDW3.out).below hb
  have hBW5 : Hid (Below w.heap.size w W5) := (hBW3.out).trans ((hb).mono (hBW3.out).size)
  have hBdW5 : Hid (W5.heap[Bd]? = some (.cells #[.pointer (some ⟨D, 0, none⟩)] 39 (0, 0))) := heap_kept hBdW3.out hb
  have hBnW5 : Hid (W5.heap[Bn]? = some (.cells #[.string s] 9 (0, 0))) := heap_kept hBnW3.out hb
  have hBtW5 : Hid (W5.heap[Bt]? = some (.cells #[.string t] 9 (0, 0))) := heap_kept hBtW3.out hb
  have hrW5 : Hid (Rw 1 encB W5 (.slice A f0.bs.length c) f0.bs) := (hrW3.out).below hb
  have hFW5 : Hid (W5.heap[F]? = some (.cells #[.slice A f0.bs.length c, .int .i64 (su : Int)] 77 (0, 0))) := heap_kept hFW3.out hb
  clear hDW3 hBW3 hBdW3 hBnW3 hBtW3 hrW3 hFW3
  clear hb
  cases nb with
  | false =>
    refine sl_run rfl (.bool true) W5 (by kernel_rfl) ?_
    simp only [Act.put, fl1, fl2, fl3]
    refine wpList_nil ?_
    rw [if_pos rfl] at hspec
    injection hspec with e1 e2
    subst e1 e2
    have hE : Hid (DiskI W5 D mb d ∧ KpS (TD D mb) w W5) := And.intro hDW5.out (KpS.of hBW5.out)
    clear hgetH hoffH hfineH hfnH hsuH hnbH
    clear hDW5 hBW5 hBdW5 hBnW5 hBtW5 hrW5 hFW5
    go_wp2_with fail
    go_ret
    exact ⟨rfl, hE.out.1, hE.out.2⟩
  | true =>
    refine sl_run rfl (.bool false) W5 (by kernel_rfl) ?_
    simp only [Act.put, fl1, fl2, fl3]
    refine wpList_nil ?_
    rw [if_neg (by decide)] at hspec
    go_upto_region 6 with fail
    refine wp_region_lit ?_
    have hfW5 : W5.heap[F]? = some (.cells #[.slice A f0.bs.length c, .int .i64 (f0.sure : Int)] 77 (0, 0)) := by rw [hsuH.out]; exact hFW5.out
    refine sl_run rfl (.pointer (some ⟨D, 0, none⟩)) W5 (exec_load_cell 39 W5 _ rfl ⟨Bd, 0, none⟩ (by kernel_rfl) _ (by rw [cell_of_row _ _ _ _ _ _ hBdW5.out]; rfl) (fun _ => by kernel_rfl)) ?_
    simp only [Act.put, fl1, fl2, fl3]
    refine sl_run rfl (.func (.func 57) #[] #[.pointer (some ⟨Bd, 0, none⟩), .pointer (some ⟨Bn, 0, none⟩), .pointer (some ⟨F, 0, none⟩), .pointer (some ⟨Bt, 0, none⟩)]) W5 (by kernel_rfl) ?_
    simp only [Act.put, fl1, fl2, fl3]
    refine sg_call (by kernel_rfl) 51 #[.pointer (some ⟨D, 0, none⟩), .func (.func 57) #[] #[.pointer (some ⟨Bd, 0, none⟩), .pointer (some ⟨Bn, 0, none⟩), .pointer (some ⟨F, 0, none⟩), .pointer (some ⟨Bt, 0, none⟩)]] (by kernel_rfl) (R := fun u w' => u = .int .i64 (ee : Int) ∧ DiskI w' D mb d1 ∧ KpS (TD D mb) W5 w') ?hc ?_
    case hc =>
      refine (one_calls hDW5.out 57 #[.pointer (some ⟨Bd, 0, none⟩), .pointer (some ⟨Bn, 0, none⟩), .pointer (some ⟨F, 0, none⟩), .pointer (some ⟨Bt, 0, none⟩)] (fun w => by kernel_rfl) (fun L => DS.putL (DS.del L s) ⟨t, f0.bs, f0.sure⟩) fun w' hk hD => ren1_calls hD Bd Bn F Bt s ⟨t, f0.bs, f0.sure⟩ (.slice A f0.bs.length c) (rw_kpS hDW5.out hrW5.out hk) hfineH.out (hk.box hDW5.out hfW5 (by decide)) (hk.box hDW5.out hBdW5.out (by decide)) (hk.box hDW5.out hBnW5.out (by decide)) (hk.box hDW5.out hBtW5.out (by decide))).mono fun e w' h => ?_
      rw [hspec] at h
      exact ⟨_, h.1, rfl, h.2⟩
    rintro _ W4 ⟨rfl, hD4, hK4⟩
    simp only [Act.put, fl1, fl2, fl3]
    have hE : Hid (DiskI W4 D mb d1 ∧ KpS (TD D mb) w W4) := And.intro hD4 ((KpS.of hBW5.out).trans hK4)
    clear hD4 hK4
    clear hDW5 hBW5 hBdW5 hBnW5 hBtW5 hrW5 hFW5
    refine sl_run rfl (.int .i64 (ee : Int)) W4 (by kernel_rfl) ?_
    simp only [Act.put, fl1, fl2, fl3]
    refine wpList_nil ?_
    clear hnbH hfW5
    clear hspec hgetH hoffH hfineH hfnH hsuH
    go_wp2_with fail
    go_ret
    exact ⟨rfl, hE.out.1, hE.out.2⟩
theorem read_of (d : DS) (s : ByteArray) : d.read s = ((d.findS s).1, (d.findS s).2.2) := by
  unfold DS.read DS.findS
  split
  · rfl
  · cases d.get s <;> rfl
set_option maxRecDepth 100000 in
theorem Read_calls {w : World} {D mb : Nat} {d : DS} (h : DiskI w D mb d) (s : ByteArray) : Calls Try.prog 20 #[.pointer (some ⟨D, 0, none⟩), .string s] w fun e w' => ∃ v, e = .returned (.tuple #[v, .int .i64 ((d.read s).2 : Int)]) ∧ Rw 1 encB w' v (d.read s).1 ∧ Below w.heap.size w w' := by
  have hDw : Hid (DiskI w D mb d) := h
  obtain ⟨bs, su, er, hf⟩ : ∃ p q r, d.findS s = (p, q, r) := ⟨_, _, _, rfl⟩
  have hfS : Hid (d.findS s = (bs, su, er)) := hf
  rw [read_of, hf]
  have hlen : Hid (er = 0 → bs.length ≤ 1048576) := fun he => by
    subst he
    obtain ⟨_, f0, _, h1, _, h2, _⟩ := findS_ok hf
    rw [← h1]; exact (h.fine f0 h2).2
  have hbad : Hid (er ≠ 0 → bs = []) := fun he => (findS_bad hf he).1
  have hBw : Hid (Below w.heap.size w w) := Below.refl _ _
  clear h hf
  go_enter Try.func20, Try.ntmps20
  go_upto_region 1 with fail
  refine wp_region_lit ?_
  refine sl_run rfl (.pointer (some ⟨D, 0, none⟩)) w (by kernel_rfl) ?_
  simp only [Act.put, fl1, fl2, fl3]
  refine sl_run rfl (.string s) w (by kernel_rfl) ?_
  simp only [Act.put, fl1, fl2, fl3]
  refine sg_call (by kernel_rfl) 46 #[.pointer (some ⟨D, 0, none⟩), .string s] (by kernel_rfl) (R := fun u w' => ∃ v, u = .tuple #[.agg #[v, .int .i64 (su : Int)], .int .i64 (er : Int)] ∧ Rw 1 encB w' v bs ∧ Below w.heap.size w w') ((find_calls hDw.out s).mono fun e w' h => by
    obtain ⟨v, h1, h2, h3⟩ := h
    rw [hfS.out] at h1 h2
    exact ⟨_, h1, v, rfl, h2, h3⟩) ?_
  rintro _ W2 ⟨v, rfl, hr, hb⟩
  obtain ⟨A, c, rfl⟩ := hr.form
  have hrW2 : Hid (Rw 1 encB W2 (.slice A bs.length c) bs) := hr
  clear hr
  simp only [Act.put, fl1, fl2, fl3]
  have hDW2 : Hid (DiskI W2 D mb d) := (hDw.out).below hb
  have hBW2 : Hid (Below w.heap.size w W2) := (hBw.out).trans ((hb).mono (hBw.out).size)
  clear hDw hBw
  clear hb
  refine sl_run rfl (.tuple #[.agg #[.slice A bs.length c, .int .i64 (su : Int)], .int .i64 (er : Int)]) W2 (by kernel_rfl) ?_
  simp only [Act.put, fl1, fl2, fl3]
  refine sl_run rfl (.agg #[.slice A bs.length c, .int .i64 (su : Int)]) W2 (by kernel_rfl) ?_
  simp only [Act.put, fl1, fl2, fl3]
  refine sl_run rfl (.int .i64 (er : Int)) W2 (by kernel_rfl) ?_
  simp only [Act.put, fl1, fl2, fl3]
  refine sg_run (by kernel_rfl) (.pointer (some ⟨W2.heap.size, 0, none⟩)) (W2.alloc (.cells #[.slice none 0 0, .int .i64 0] 77)) (by kernel_rfl) ?_
  simp only [Act.put, fl1, fl2, fl3]
  refine sl_skipped (by kernel_rfl) ((W2.alloc (.cells #[.slice none 0 0, .int .i64 0] 77)).setRow W2.heap.size #[.slice A bs.length c, .int .i64 (su : Int)]) ?he ?_
  case he => exact exec_store_f _ _ rfl W2.heap.size (by kernel_rfl) (.slice A bs.length c) (su : Int) rfl (by kernel_rfl) #[.slice none 0 0, .int .i64 0] (heap_alloc_new _ _) rfl
  simp only [Act.put, fl1, fl2, fl3]
  have hb : Below W2.heap.size W2 ((W2.alloc (.cells #[.slice none 0 0, .int .i64 0] 77)).setRow W2.heap.size #[.slice A bs.length c, .int .i64 (su : Int)]) := below_setRow ((Below.refl _ _).alloc (Nat.le_refl _) _) (Nat.le_refl _) _
  have hf0 : ((W2.alloc (.cells #[.slice none 0 0, .int .i64 0] 77)).setRow W2.heap.size #[.slice A bs.length c, .int .i64 (su : Int)]).heap[W2.heap.size]? = some (.cells #[.slice A bs.length c, .int .i64 (su : Int)] 77 (0, 0)) := setRow_heap _ _ #[.slice none 0 0, .int .i64 0] _ 77 (0, 0) (heap_alloc_new _ _)
  generalize ((W2.alloc (.cells #[.slice none 0 0, .int .i64 0] 77)).setRow W2.heap.size #[.slice A bs.length c, .int .i64 (su : Int)]) = W3 at hb hf0 ⊢
  have hle0 : w.heap.size ≤ W2.heap.size := hBW2.out.size
  obtain ⟨F, hFe⟩ : ∃ F, F = W2.heap.size := ⟨_, rfl⟩
  have hDW3 : Hid (DiskI W3 D mb d) := (hDW2.out).below hb
  have hBW3 : Hid (Below w.heap.size w W3) := (hBW2.out).trans ((hb).mono (hBW2.out).size)
  have hrW3 : Hid (Rw 1 encB W3 (.slice A bs.length c) bs) := (hrW2.out).below hb
  clear hDW2 hBW2 hrW2
  rw [← hFe] at hf0 hle0 ⊢
  have hFW3 : Hid (W3.heap[F]? = some (.cells #[.slice A bs.length c, .int .i64 (su : Int)] 77 (0, 0))) := hf0
  have hFle : Hid (w.heap.size ≤ F) := hle0
  clear hb hf0 hle0 hFe
  refine sl_run rfl (.int .i64 (er : Int)) W3 (by kernel_rfl) ?_
  simp only [Act.put, fl1, fl2, fl3]
  refine wpList_nil ?_
  by_cases he : er = 0
  case neg =>
    have hI : ((er : Int) != 0) = true := err_ne he
    have hI2 : ¬ (er : Int) = 0 := by omega
    have hbs := hbad.out he
    subst hbs
    have hF2 := hBW3
    clear hlen hbad hfS he
    clear hDW3 hrW3 hFW3
    go_wp2_with fail
    go_ret2
    exact ⟨_, rfl, Rw.nil, hF2.out⟩
  case pos =>
  subst he
  have hl9 := hlen.out rfl
  clear hlen hbad hfS
  go_upto_region 4 with fail
  refine wp_region_lit ?_
  refine sl_run rfl (.pointer (some ⟨F, 0, none⟩)) W3 (by kernel_rfl) ?_
  simp only [Act.put, fl1, fl2, fl3]
  refine sl_run rfl (.slice A bs.length c) W3 (exec_load_cell 22 W3 _ rfl ⟨F, 0, none⟩ (by kernel_rfl) _ (by rw [cell_of_row _ _ _ _ _ _ hFW3.out]; rfl) (fun _ => by kernel_rfl)) ?_
  simp only [Act.put, fl1, fl2, fl3]
  refine sg_call (by kernel_rfl) 31 #[.slice A bs.length c] (by kernel_rfl) (R := fun u w' => w'.ownsRow W3.heap.size 5 1 u bs.length (flat encB bs) ∧ Below W3.heap.size W3 w') ((clone_calls bs A bs.length c W3 rfl (by omega) hrW3.out).mono fun e w' h => by
    obtain ⟨v, h1, h2, h3⟩ := h
    exact ⟨_, h1, h2, h3⟩) ?_
  rintro v4 W4 ⟨hown, hb⟩
  simp only [Act.put, fl1, fl2, fl3]
  have hDW4 : Hid (DiskI W4 D mb d) := (hDW3.out).below hb
  have hBW4 : Hid (Below w.heap.size w W4) := (hBW3.out).trans ((hb).mono (hBW3.out).size)
  have hrW4 : Hid (Rw 1 encB W4 (.slice A bs.length c) bs) := (hrW3.out).below hb
  have hFW4 : Hid (W4.heap[F]? = some (.cells #[.slice A bs.length c, .int .i64 (su : Int)] 77 (0, 0))) := heap_kept hFW3.out hb
  clear hDW3 hBW3 hrW3 hFW3
  have hqW4 : Hid (Rw 1 encB W4 v4 bs) := Rw.own encB_size (by decide) hown
  clear hb hown
  refine sg_call (by kernel_rfl) 26 #[v4] (by kernel_rfl) (R := fun u w' => Rw 1 encB w' u bs ∧ Below W4.heap.size W4 w') ((clip_calls bs v4 W4 (by omega) hqW4.out).mono fun e w' h => by
    obtain ⟨v, h1, h2, h3⟩ := h
    exact ⟨_, h1, h2, h3⟩) ?_
  rintro v5 W5 ⟨hq5, hb⟩
  simp only [Act.put, fl1, fl2, fl3]
  have hDW5 : Hid (DiskI W5 D mb d) := (hDW4.out).below hb
  have hBW5 : Hid (Below w.heap.size w W5) := (hBW4.out).trans ((hb).mono (hBW4.out).size)
  have hrW5 : Hid (Rw 1 encB W5 (.slice A bs.length c) bs) := (hrW4.out).below hb
  have hFW5 : Hid (W5.heap[F]? = some (.cells #[.slice A bs.length c, .int .i64 (su : Int)] 77 (0, 0))) := heap_kept hFW4.out hb
  have hqW5 : Hid (Rw 1 encB W5 v4 bs) := (hqW4.out).below hb
  clear hDW4 hBW4 hrW4 hFW4 hqW4
  have hpW5 : Hid (Rw 1 encB W5 v5 bs) := hq5
  clear hb hq5
  refine sl_run rfl (v5) W5 (by kernel_rfl) ?_
  simp only [Act.put, fl1, fl2, fl3]
  refine sl_run rfl (.int .i64 0) W5 (by kernel_rfl) ?_
  simp only [Act.put, fl1, fl2, fl3]
  refine wpList_nil ?_
  have hF2 := hBW5
  clear hDW5 hrW5 hFW5 hqW5
  go_wp2_with fail
  go_ret2
  exact ⟨_, rfl, hpW5.out, hF2.out⟩
end Go.Proofs.Ytdkaaieenbmihaa
namespace Go.Proofs.Ytdkaaieenbmihaa
open Go.RowKit
theorem rw_kpF {w w' : World} {F n c : Nat} {A : Option Addr} {m : Int} (hF : w.heap[F]? = some (.cells #[.slice A n c, .int .i64 m] 77 (0, 0))) (hk : KpS (fun q => q = F) w w') {v : Value} {l : List Nat} (hr : Rw 1 encB w v l) : Rw 1 encB w' v l := by
  refine hr.kept hk.size (fun hl q hq => hk.block q (hr.lt hl q hq) (fun e => ?_))
  obtain ⟨A', c', rfl⟩ := hr.form
  obtain ⟨g, o, rfl, _, _, hel⟩ := hr.elem 0 (List.length_pos_iff.2 hl)
  have hg : g = q := by
    simp [Value.ownBlock] at hq; exact hq
  subst hg
  have hc := hel 0 (.int .u8 ((l.getD 0 default : Nat) : Int)) rfl
  subst e
  rw [cell_of_row _ _ _ _ _ _ hF] at hc
  simp only [Nat.zero_mul, Nat.add_zero] at hc
  match o, hc with
  | 0, hc => simp at hc
  | 1, hc => simp at hc
  | o + 2, hc => simp at hc
theorem DiskI.kpF {w w' : World} {D mb : Nat} {d : DS} (h : DiskI w D mb d) {F n c : Nat} {A : Option Addr} {m : Int} (hF : w.heap[F]? = some (.cells #[.slice A n c, .int .i64 m] 77 (0, 0))) (hk : KpS (fun q => q = F) w w') : DiskI w' D mb d := by
  obtain ⟨h1, ⟨L, h2, h3, h4⟩, h5, h6, h7⟩ := h
  refine ⟨hk.heap h1 (fun e => ?_), ⟨L, h2.kept (hk.block mb h2.lt (fun e => ?_)), h3, fun p hp => rw_kpF hF hk (h4 p hp)⟩, h5, h6, h7⟩
  · rw [e, hF] at h1; simp at h1
  · obtain ⟨es, clock, hm⟩ := h2
    have := hm.heap
    rw [e, hF] at this; cases this
theorem box_kpF {w w' : World} {F B : Nat} {cs cs' : Array Value} {t : TypeId} (hF : w.heap[F]? = some (.cells cs 77 (0, 0))) (hk : KpS (fun q => q = F) w w') (hB : w.heap[B]? = some (.cells cs' t (0, 0))) (ht : t ≠ 77) : w'.heap[B]? = some (.cells cs' t (0, 0)) :=
  hk.heap hB (fun e => by rw [e, hF] at hB; simp at hB; exact ht hB.2.symm)
theorem below_kpF {B F : Nat} {a w w' : World} (h : Below B a w) (hk : KpS (fun q => q = F) w w') (hg : B ≤ F) (hB : B ≤ w.heap.size) : Below B a w' :=
  h.trans (hk.bel (fun q hq => by rw [hq]; exact hg) hB)
theorem exec_cutS {o : Oper} {a : Act} (x hi mx : Operand) (ho : o.op = .slice 22 x none (some hi) (some mx)) (A : Option Addr) (n c m : Nat) (hx : a.eval x = .slice A n c)
    (hh : a.eval hi = .int .i64 (m : Int)) (hm : a.eval mx = .int .i64 (m : Int)) (hc : m ≤ c) (w : World) : (execOp a.eval o).run Try.prog w = .ok (.value (.slice (if m = 0 then A else A.map (·.add 0)) m m)) w := by
  unfold execOp
  simp only [ho, Option.map_some, Option.map_none, hx, hh, hm, Sem.run_bind, run_sliceAt_slice w 22 _ _ _ _ un30, run_slice_hm w 22 _ n c un30 .i64 .i64 (m : Int) (m : Int) (by omega) (by omega) (by omega), sz30, Result.andThen_ok, Sem.run_pure, sliced, Int.toNat_natCast, Nat.zero_mul, Nat.sub_zero]
theorem cut_rw {w : World} {l : List Nat} {A : Option Addr} {n c m : Nat} (hy : Rw 1 encB w (.slice A n c) l) (hm : m ≤ l.length) : m ≤ c ∧ Rw 1 encB w (.slice (if m = 0 then A else A.map (·.add 0)) m m) (l.take m) := by
  rcases hy with ⟨A', c', h, rfl, h2⟩ | ⟨g, o, c', h, h2, h3, h4⟩
  · injection h with h5 h6 h7
    have : m = 0 := by simpa using hm
    subst this
    rw [if_pos rfl]
    exact ⟨Nat.zero_le _, .inl ⟨A, 0, rfl, by simp, fun _ => rfl⟩⟩
  · injection h with h5 h6 h7
    subst h5 h7
    refine ⟨by omega, .inr ⟨g, o, m, ?_, ?_, h3, fun i hi => ?_⟩⟩
    · have : (l.take m).length = m := by rw [List.length_take]; omega
      rw [this]
      congr 1
      split
      · rfl
      · rw [Option.map_some, Addr.add_mid, Nat.add_zero]
    · rw [List.length_take]; omega
    · have hi2 : i < m := by rw [List.length_take] at hi; omega
      have h8 := h4 i (by omega)
      have e : (l.take m).getD i default = l.getD i default := by simp [List.getD_eq_getElem?_getD, List.getElem?_take, hi2]
      rw [e]; exact h8
set_option maxRecDepth 100000 in
theorem Cut_calls {w : World} {D mb : Nat} {d : DS} (h : DiskI w D mb d) (s : ByteArray) (n : Int) : Calls Try.prog 35 #[.pointer (some ⟨D, 0, none⟩), .string s, .int .i64 n] w fun e w' => e = .returned (.int .i64 ((d.cut s n).2 : Int)) ∧ DiskI w' D mb (d.cut s n).1 ∧ KpS (TD D mb) w w' := by
  have hDw : Hid (DiskI w D mb d) := h
  obtain ⟨d1, ee, hd1⟩ : ∃ p q, d.cut s n = (p, q) := ⟨_, _, rfl⟩
  rw [hd1]
  have hd1H : Hid (d.cut s n = (d1, ee)) := hd1
  obtain ⟨bs, su, er, hf⟩ : ∃ p q r, d.findS s = (p, q, r) := ⟨_, _, _, rfl⟩
  have hfS : Hid (d.findS s = (bs, su, er)) := hf
  clear h hd1 hf
  go_enter Try.func35, Try.ntmps35
  go_upto_region 1 with fail
  have h0Bd : ((w.alloc (.cells #[.pointer (some ⟨D, 0, none⟩)] 39)).alloc (.cells #[.string s] 9)).heap[w.heap.size]? = some (.cells #[.pointer (some ⟨D, 0, none⟩)] 39 (0, 0)) := (heap_kept (heap_at w _ w.heap.size rfl) ((Below.refl _ _).alloc (Nat.le_refl _) _))
  have h0Bn : ((w.alloc (.cells #[.pointer (some ⟨D, 0, none⟩)] 39)).alloc (.cells #[.string s] 9)).heap[(w.heap.size + 1)]? = some (.cells #[.string s] 9 (0, 0)) := (heap_at (w.alloc (.cells #[.pointer (some ⟨D, 0, none⟩)] 39)) _ (w.heap.size + 1) (by rw [size_al]))
  have hB0 : Below w.heap.size w ((w.alloc (.cells #[.pointer (some ⟨D, 0, none⟩)] 39)).alloc (.cells #[.string s] 9)) := (((Below.refl _ _).alloc (by exact Nat.le_refl _) _).alloc (by rw [size_al]; omega) _)
  generalize ((w.alloc (.cells #[.pointer (some ⟨D, 0, none⟩)] 39)).alloc (.cells #[.string s] 9)) = W at hB0 h0Bd h0Bn ⊢
  obtain ⟨Bd, hBd⟩ : ∃ B, B = w.heap.size := ⟨_, rfl⟩
  obtain ⟨Bn, hBn⟩ : ∃ B, B = (w.heap.size + 1) := ⟨_, rfl⟩
  rw [← hBn] at h0Bn ⊢
  rw [← hBd] at h0Bd ⊢
  have hBdW : Hid (W.heap[Bd]? = some (.cells #[.pointer (some ⟨D, 0, none⟩)] 39 (0, 0))) := h0Bd
  have hBnW : Hid (W.heap[Bn]? = some (.cells #[.string s] 9 (0, 0))) := h0Bn
  have hBW : Hid (Below w.heap.size w W) := hB0
  clear hB0 h0Bd h0Bn hBd hBn
  have hDW : Hid (DiskI W D mb d) := hDw.out.below hBW.out
  clear hDw
  refine wp_region_lit ?_
  refine sl_run rfl (.pointer (some ⟨D, 0, none⟩)) W (exec_load_cell 39 W _ rfl ⟨Bd, 0, none⟩ (by kernel_rfl) _ (by rw [cell_of_row _ _ _ _ _ _ hBdW.out]; rfl) (fun _ => by kernel_rfl)) ?_
  simp only [Act.put, fl1, fl2, fl3]
  refine sl_run rfl (.string s) W (exec_load_cell 9 W _ rfl ⟨Bn, 0, none⟩ (by kernel_rfl) _ (by rw [cell_of_row _ _ _ _ _ _ hBnW.out]; rfl) (fun _ => by kernel_rfl)) ?_
  simp only [Act.put, fl1, fl2, fl3]
  refine sg_call (by kernel_rfl) 46 #[.pointer (some ⟨D, 0, none⟩), .string s] (by kernel_rfl) (R := fun u w' => ∃ v, u = .tuple #[.agg #[v, .int .i64 (su : Int)], .int .i64 (er : Int)] ∧ Rw 1 encB w' v bs ∧ Below W.heap.size W w') ((find_calls hDW.out s).mono fun e w' h => by
    obtain ⟨v, h1, h2, h3⟩ := h
    rw [hfS.out] at h1 h2
    exact ⟨_, h1, v, rfl, h2, h3⟩) ?_
  rintro _ W2 ⟨v, rfl, hr, hb⟩
  obtain ⟨A, c, rfl⟩ := hr.form
  have hrW2 : Hid (Rw 1 encB W2 (.slice A bs.length c) bs) := hr
  clear hr
  simp only [Act.put, fl1, fl2, fl3]
  have hDW2 : Hid (DiskI W2 D mb d) := (hDW.out).below hb
  have hBW2 : Hid (Below w.heap.size w W2) := (hBW.out).trans ((hb).mono (hBW.out).size)
  have hBdW2 : Hid (W2.heap[Bd]? = some (.cells #[.pointer (some ⟨D, 0, none⟩)] 39 (0, 0))) := heap_kept hBdW.out hb
  have hBnW2 : Hid (W2.heap[Bn]? = some (.cells #[.string s] 9 (0, 0))) := heap_kept hBnW.out hb
  clear hDW hBW hBdW hBnW
  clear hb
  refine sl_run rfl (.tuple #[.agg #[.slice A bs.length c, .int .i64 (su : Int)], .int .i64 (er : Int)]) W2 (by kernel_rfl) ?_
  simp only [Act.put, fl1, fl2, fl3]
  refine sl_run rfl (.agg #[.slice A bs.length c, .int .i64 (su : Int)]) W2 (by kernel_rfl) ?_
  simp only [Act.put, fl1, fl2, fl3]
  refine sl_run rfl (.int .i64 (er : Int)) W2 (by kernel_rfl) ?_
  simp only [Act.put, fl1, fl2, fl3]
  refine sg_run (by kernel_rfl) (.pointer (some ⟨W2.heap.size, 0, none⟩)) (W2.alloc (.cells #[.slice none 0 0, .int .i64 0] 77)) (by kernel_rfl) ?_
  simp only [Act.put, fl1, fl2, fl3]
  refine sl_skipped (by kernel_rfl) ((W2.alloc (.cells #[.slice none 0 0, .int .i64 0] 77)).setRow W2.heap.size #[.slice A bs.length c, .int .i64 (su : Int)]) ?he ?_
  case he => exact exec_store_f _ _ rfl W2.heap.size (by kernel_rfl) (.slice A bs.length c) (su : Int) rfl (by kernel_rfl) #[.slice none 0 0, .int .i64 0] (heap_alloc_new _ _) rfl
  simp only [Act.put, fl1, fl2, fl3]
  have hb : Below W2.heap.size W2 ((W2.alloc (.cells #[.slice none 0 0, .int .i64 0] 77)).setRow W2.heap.size #[.slice A bs.length c, .int .i64 (su : Int)]) := below_setRow ((Below.refl _ _).alloc (Nat.le_refl _) _) (Nat.le_refl _) _
  have hf0 : ((W2.alloc (.cells #[.slice none 0 0, .int .i64 0] 77)).setRow W2.heap.size #[.slice A bs.length c, .int .i64 (su : Int)]).heap[W2.heap.size]? = some (.cells #[.slice A bs.length c, .int .i64 (su : Int)] 77 (0, 0)) := setRow_heap _ _ #[.slice none 0 0, .int .i64 0] _ 77 (0, 0) (heap_alloc_new _ _)
  generalize ((W2.alloc (.cells #[.slice none 0 0, .int .i64 0] 77)).setRow W2.heap.size #[.slice A bs.length c, .int .i64 (su : Int)]) = W3 at hb hf0 ⊢
  have hle0 : w.heap.size ≤ W2.heap.size := hBW2.out.size
  obtain ⟨F, hFe⟩ : ∃ F, F = W2.heap.size := ⟨_, rfl⟩
  have hDW3 : Hid (DiskI W3 D mb d) := (hDW2.out).below hb
  have hBW3 : Hid (Below w.heap.size w W3) := (hBW2.out).trans ((hb).mono (hBW2.out).size)
  have hBdW3 : Hid (W3.heap[Bd]? = some (.cells #[.pointer (some ⟨D, 0, none⟩)] 39 (0, 0))) := heap_kept hBdW2.out hb
  have hBnW3 : Hid (W3.heap[Bn]? = some (.cells #[.string s] 9 (0, 0))) := heap_kept hBnW2.out hb
  have hrW3 : Hid (Rw 1 encB W3 (.slice A bs.length c) bs) := (hrW2.out).below hb
  clear hDW2 hBW2 hBdW2 hBnW2 hrW2
  rw [← hFe] at hf0 hle0 ⊢
  have hFW3 : Hid (W3.heap[F]? = some (.cells #[.slice A bs.length c, .int .i64 (su : Int)] 77 (0, 0))) := hf0
  have hFle : Hid (w.heap.size ≤ F) := hle0
  clear hb hf0 hle0 hFe
  refine sl_run rfl (.int .i64 (er : Int)) W3 (by kernel_rfl) ?_
  simp only [Act.put, fl1, fl2, fl3]
  refine wpList_nil ?_
  by_cases he : er = 0
  case neg =>
    have hI : ((er : Int) != 0) = true := err_ne he
    have hI2 : ¬ (er : Int) = 0 := by omega
    have hF : Hid (d1 = d ∧ ee = er) := by
      obtain ⟨_, _, hb⟩ := findS_bad hfS.out he
      have h8 := hd1H.out
      unfold DS.cut at h8
      rcases hb with ⟨h9, e9⟩ | ⟨h9, h7, e9⟩
      · rw [if_pos h9] at h8
        injection h8 with h8 h7
        exact And.intro h8.symm (h7.symm.trans e9.symm)
      · rw [if_neg (by rw [h9]; decide), h7] at h8
        injection h8 with h8 h7
        exact And.intro h8.symm (h7.symm.trans e9.symm)
    obtain ⟨rfl, rfl⟩ := hF.out
    have hE : Hid (DiskI W3 D mb d1 ∧ KpS (TD D mb) w W3) := And.intro hDW3.out (KpS.of hBW3.out)
    clear hF hfS hd1H he
    clear hDW3 hBW3 hBdW3 hBnW3 hrW3 hFW3
    go_wp2_with fail
    go_ret
    exact ⟨rfl, hE.out.1, hE.out.2⟩
  case pos =>
  subst he
  obtain ⟨hoff, f0, hget, hfb, hfs, hmem, hfn⟩ := findS_ok hfS.out
  have hgetH : Hid (d.get s = some f0) := hget
  have hoffH : Hid (d.off = false) := hoff
  have hfineH : Hid (f0.sure ≤ f0.bs.length ∧ f0.bs.length ≤ 1048576) := hDW3.out.fine f0 hmem
  have hfnH : Hid (f0.nm = s) := hfn
  have hsuH : Hid (f0.sure = su) := hfs
  subst hfb
  have hspec := hd1H.out
  unfold DS.cut at hspec
  rw [if_neg (by rw [hoff]; decide), hget] at hspec
  dsimp only at hspec
  clear hd1H hfS hget hoff hfn hfs hmem
  by_cases p1 : n < 0
  case pos =>
    rw [if_pos (.inl p1)] at hspec
    injection hspec with e1 e2
    subst e1 e2
    have hE : Hid (DiskI W3 D mb d ∧ KpS (TD D mb) w W3) := And.intro hDW3.out (KpS.of hBW3.out)
    have hc0 : W3.cell? ⟨F, 0, none⟩ = some (.slice A f0.bs.length c) := by rw [cell_of_row _ _ _ _ _ _ hFW3.out]; rfl
    clear hgetH hoffH hfineH hfnH hsuH
    clear hDW3 hBW3 hBdW3 hBnW3 hrW3 hFW3
    go_wp2_with fail
    go_ret
    exact ⟨rfl, hE.out.1, hE.out.2⟩
  case neg =>
  by_cases p2 : n > (f0.bs.length : Int)
  case pos =>
    rw [if_pos (.inr p2)] at hspec
    injection hspec with e1 e2
    subst e1 e2
    have hE : Hid (DiskI W3 D mb d ∧ KpS (TD D mb) w W3) := And.intro hDW3.out (KpS.of hBW3.out)
    have hc0 : W3.cell? ⟨F, 0, none⟩ = some (.slice A f0.bs.length c) := by rw [cell_of_row _ _ _ _ _ _ hFW3.out]; rfl
    clear hgetH hoffH hfineH hfnH hsuH
    clear hDW3 hBW3 hBdW3 hBnW3 hrW3 hFW3
    go_wp2_with fail
    go_ret
    exact ⟨rfl, hE.out.1, hE.out.2⟩
  case neg =>
  rw [if_neg (by rintro (h8 | h8) <;> omega)] at hspec
  obtain ⟨m, rfl⟩ : ∃ m : Nat, n = (m : Int) := ⟨n.toNat, by omega⟩
  have hml : m ≤ f0.bs.length := by omega
  rw [Int.toNat_natCast] at hspec
  have hc0 : W3.cell? ⟨F, 0, none⟩ = some (.slice A f0.bs.length c) := by rw [cell_of_row _ _ _ _ _ _ hFW3.out]; rfl
  go_upto_region 6 with fail
  clear hc0
  obtain ⟨A2, hA2⟩ : ∃ A2, A2 = (if m = 0 then A else A.map (·.add 0)) := ⟨_, rfl⟩
  have hcr := cut_rw hrW3.out hml
  rw [← hA2] at hcr
  have hA2H : Hid (A2 = (if m = 0 then A else A.map (·.add 0))) := hA2
  have hcrH : Hid (Rw 1 encB W3 (.slice A2 m m) (f0.bs.take m)) := hcr.2
  have hmc : m ≤ c := hcr.1
  clear hA2 hcr
  refine wp_normalG ?_
  refine wp_leaves (α := Unit) (fun _ a => (((((((((((a.put (some 27) (.pointer (some ⟨F, 0, none⟩))).put (some 28) (.slice A f0.bs.length c)).put (some 29) (.int .i64 (m : Int))).put (some 30) (.int .i64 (m : Int))).put (some 31) (.slice A2 m m)).put (some 32) (.pointer (some ⟨F, 1, none⟩))).put (some 33) (.int .i64 (su : Int))).put (some 34) (.int .i64 (m : Int))).put (some 35) (.int .i64 ((min f0.sure m : Nat) : Int))).put (some 36) (.pointer (some ⟨F, 0, none⟩))).put (some 37) (.pointer (some ⟨F, 1, none⟩)))) (fun _ w' => KpS (fun q => q = F) W3 w' ∧ w'.heap[F]? = some (.cells #[.slice A2 m m, .int .i64 ((min f0.sure m : Nat) : Int)] 77 (0, 0))) ?_ ?_
  · refine wp_region_held_drew (S := fun w' => KpS (fun q => q = F) W3 w') (by kernel_rfl) (KpS.of (Below.refl _ _).drew) (fun hS => ?_)
    change wpAnyH _ _ _ _ _ 13 (Array.replicate 13 false) _ _
    have hFy : W3.drew.heap[F]? = some (.cells #[.slice A f0.bs.length c, .int .i64 (su : Int)] 77 (0, 0)) := heap_kept hFW3.out (Below.refl _ _).drew
    generalize hx : W3.drew = y at hS hFy
    clear hx
    refine held_take 0 rfl (by kernel_rfl) (by kernel_rfl) (by kernel_rfl) (.pointer (some ⟨F, 0, none⟩)) (fun _ _ _ h => nomatch h.1) (by kernel_rfl) (fun w' h => by kernel_rfl) hS ?_
    simp only [Act.put, fl1, fl2, fl3, fl4, fl5, fl6]
    refine held_take 2 rfl (by kernel_rfl) (by kernel_rfl) (by kernel_rfl) (.int .i64 (m : Int)) (fun _ _ _ h => nomatch h.1) (by kernel_rfl) (fun w' h => by kernel_rfl) hS ?_
    simp only [Act.put, fl1, fl2, fl3, fl4, fl5, fl6]
    refine held_take 3 rfl (by kernel_rfl) (by kernel_rfl) (by kernel_rfl) (.int .i64 (m : Int)) (fun _ _ _ h => nomatch h.1) (by kernel_rfl) (fun w' h => by kernel_rfl) hS ?_
    simp only [Act.put, fl1, fl2, fl3, fl4, fl5, fl6]
    refine held_take 5 rfl (by kernel_rfl) (by kernel_rfl) (by kernel_rfl) (.pointer (some ⟨F, 1, none⟩)) (fun _ _ _ h => nomatch h.1) (by kernel_rfl) (fun w' h => by kernel_rfl) hS ?_
    simp only [Act.put, fl1, fl2, fl3, fl4, fl5, fl6]
    refine held_take 7 rfl (by kernel_rfl) (by kernel_rfl) (by kernel_rfl) (.int .i64 (m : Int)) (fun _ _ _ h => nomatch h.1) (by kernel_rfl) (fun w' h => by kernel_rfl) hS ?_
    simp only [Act.put, fl1, fl2, fl3, fl4, fl5, fl6]
    refine held_two 1 6 rfl rfl (by kernel_rfl) (by kernel_rfl) (by kernel_rfl) (.slice A f0.bs.length c) y ?he1 hS (.int .i64 (su : Int)) y ?he2 hS ?_ ?_
    case he1 => exact exec_load_cell 22 y _ rfl ⟨F, 0, none⟩ (by kernel_rfl) _ (by rw [cell_of_row _ _ _ _ _ _ hFy]; rfl) (fun _ => by kernel_rfl)
    case he2 => exact exec_load_cell 3 y _ rfl ⟨F, 1, none⟩ (by kernel_rfl) _ (by rw [cell_of_row _ _ _ _ _ _ hFy]; rfl) (fun _ => by kernel_rfl)
    · simp only [Act.put, fl1, fl2, fl3, fl4, fl5, fl6]
      refine held_take 4 rfl (by kernel_rfl) (by kernel_rfl) (by kernel_rfl) (.slice A2 m m) (fun _ _ _ h => nomatch h.1) (by kernel_rfl) (fun w' h => (exec_cutS _ _ _ rfl A f0.bs.length c m (by kernel_rfl) (by kernel_rfl) (by kernel_rfl) hmc w').trans (by rw [hA2H.out])) hS ?_
      simp only [Act.put, fl1, fl2, fl3, fl4, fl5, fl6]
      refine held_run 6 rfl (by kernel_rfl) (by kernel_rfl) (.int .i64 (su : Int)) y ?he hS ?_
      case he => exact exec_load_cell 3 y _ rfl ⟨F, 1, none⟩ (by kernel_rfl) _ (by rw [cell_of_row _ _ _ _ _ _ hFy]; rfl) (fun _ => by kernel_rfl)
      simp only [Act.put, fl1, fl2, fl3, fl4, fl5, fl6]
      refine held_take 8 rfl (by kernel_rfl) (by kernel_rfl) (by kernel_rfl) (.int .i64 ((min f0.sure m : Nat) : Int)) (fun _ _ _ h => nomatch h.1) (by kernel_rfl) (fun w' h => (exec_minI _ _ rfl (su : Int) (m : Int) (by kernel_rfl) (by kernel_rfl) w').trans (by rw [← hsuH.out, show min (f0.sure : Int) (m : Int) = ((min f0.sure m : Nat) : Int) by omega])) hS ?_
      simp only [Act.put, fl1, fl2, fl3, fl4, fl5, fl6]
      refine held_take 9 rfl (by kernel_rfl) (by kernel_rfl) (by kernel_rfl) (.pointer (some ⟨F, 0, none⟩)) (fun _ _ _ h => nomatch h.1) (by kernel_rfl) (fun w' h => by kernel_rfl) hS ?_
      simp only [Act.put, fl1, fl2, fl3, fl4, fl5, fl6]
      refine held_did 10 rfl (by kernel_rfl) (by kernel_rfl) (y.setCell ⟨F, 0, none⟩ (.slice A2 m m)) ?he ?hS2 ?_
      case he => exact exec_store_cell 22 _ _ rfl F 0 (by kernel_rfl) (.slice A2 m m) (by kernel_rfl) (.slice A f0.bs.length c) (by rw [cell_of_row _ _ _ _ _ _ hFy]; rfl) (frozen_of_row _ _ _ _ _ hFy) (fun w => by kernel_rfl) rfl rfl
      case hS2 => exact hS.set F 0 _ (.inl rfl)
      simp only [Act.put, fl1, fl2, fl3, fl4, fl5, fl6]
      have hS2 := hS.set F 0 (.slice A2 m m) (.inl rfl)
      have hFy2 : (y.setCell ⟨F, 0, none⟩ (.slice A2 m m)).heap[F]? = some (.cells #[.slice A2 m m, .int .i64 (su : Int)] 77 (0, 0)) := heap_setCell_same _ _ _ _ _ _ hFy
      generalize (y.setCell ⟨F, 0, none⟩ (.slice A2 m m)) = y2 at hS2 hFy2
      refine held_take 11 rfl (by kernel_rfl) (by kernel_rfl) (by kernel_rfl) (.pointer (some ⟨F, 1, none⟩)) (fun _ _ _ h => nomatch h.1) (by kernel_rfl) (fun w' h => by kernel_rfl) hS2 ?_
      simp only [Act.put, fl1, fl2, fl3, fl4, fl5, fl6]
      have hS3 := hS2.set F 1 (.int .i64 ((min f0.sure m : Nat) : Int)) (.inl rfl)
      have hFy3 : (y2.setCell ⟨F, 1, none⟩ (.int .i64 ((min f0.sure m : Nat) : Int))).heap[F]? = some (.cells #[.slice A2 m m, .int .i64 ((min f0.sure m : Nat) : Int)] 77 (0, 0)) := heap_setCell_same _ _ _ _ _ _ hFy2
      refine held_did 12 rfl (by kernel_rfl) (by kernel_rfl) (y2.setCell ⟨F, 1, none⟩ (.int .i64 ((min f0.sure m : Nat) : Int))) ?he ?hS4 ?_
      case he => exact exec_store_cell 3 _ _ rfl F 1 (by kernel_rfl) (.int .i64 ((min f0.sure m : Nat) : Int)) (by kernel_rfl) (.int .i64 (su : Int)) (by rw [cell_of_row _ _ _ _ _ _ hFy2]; rfl) (frozen_of_row _ _ _ _ _ hFy2) (fun w => by kernel_rfl) rfl rfl
      case hS4 => exact hS3
      simp only [Act.put, fl1, fl2, fl3, fl4, fl5, fl6]
      refine wpAnyH_done (by kernel_rfl) ?_ _
      exact ⟨rfl, (), by kernel_rfl, hS3, hFy3⟩
    · simp only [Act.put, fl1, fl2, fl3, fl4, fl5, fl6]
      refine held_take 8 rfl (by kernel_rfl) (by kernel_rfl) (by kernel_rfl) (.int .i64 ((min f0.sure m : Nat) : Int)) (fun _ _ _ h => nomatch h.1) (by kernel_rfl) (fun w' h => (exec_minI _ _ rfl (su : Int) (m : Int) (by kernel_rfl) (by kernel_rfl) w').trans (by rw [← hsuH.out, show min (f0.sure : Int) (m : Int) = ((min f0.sure m : Nat) : Int) by omega])) hS ?_
      simp only [Act.put, fl1, fl2, fl3, fl4, fl5, fl6]
      refine held_run 1 rfl (by kernel_rfl) (by kernel_rfl) (.slice A f0.bs.length c) y ?he hS ?_
      case he => exact exec_load_cell 22 y _ rfl ⟨F, 0, none⟩ (by kernel_rfl) _ (by rw [cell_of_row _ _ _ _ _ _ hFy]; rfl) (fun _ => by kernel_rfl)
      simp only [Act.put, fl1, fl2, fl3, fl4, fl5, fl6]
      refine held_take 4 rfl (by kernel_rfl) (by kernel_rfl) (by kernel_rfl) (.slice A2 m m) (fun _ _ _ h => nomatch h.1) (by kernel_rfl) (fun w' h => (exec_cutS _ _ _ rfl A f0.bs.length c m (by kernel_rfl) (by kernel_rfl) (by kernel_rfl) hmc w').trans (by rw [hA2H.out])) hS ?_
      simp only [Act.put, fl1, fl2, fl3, fl4, fl5, fl6]
      refine held_take 9 rfl (by kernel_rfl) (by kernel_rfl) (by kernel_rfl) (.pointer (some ⟨F, 0, none⟩)) (fun _ _ _ h => nomatch h.1) (by kernel_rfl) (fun w' h => by kernel_rfl) hS ?_
      simp only [Act.put, fl1, fl2, fl3, fl4, fl5, fl6]
      refine held_did 10 rfl (by kernel_rfl) (by kernel_rfl) (y.setCell ⟨F, 0, none⟩ (.slice A2 m m)) ?he ?hS2 ?_
      case he => exact exec_store_cell 22 _ _ rfl F 0 (by kernel_rfl) (.slice A2 m m) (by kernel_rfl) (.slice A f0.bs.length c) (by rw [cell_of_row _ _ _ _ _ _ hFy]; rfl) (frozen_of_row _ _ _ _ _ hFy) (fun w => by kernel_rfl) rfl rfl
      case hS2 => exact hS.set F 0 _ (.inl rfl)
      simp only [Act.put, fl1, fl2, fl3, fl4, fl5, fl6]
      have hS2 := hS.set F 0 (.slice A2 m m) (.inl rfl)
      have hFy2 : (y.setCell ⟨F, 0, none⟩ (.slice A2 m m)).heap[F]? = some (.cells #[.slice A2 m m, .int .i64 (su : Int)] 77 (0, 0)) := heap_setCell_same _ _ _ _ _ _ hFy
      generalize (y.setCell ⟨F, 0, none⟩ (.slice A2 m m)) = y2 at hS2 hFy2
      refine held_take 11 rfl (by kernel_rfl) (by kernel_rfl) (by kernel_rfl) (.pointer (some ⟨F, 1, none⟩)) (fun _ _ _ h => nomatch h.1) (by kernel_rfl) (fun w' h => by kernel_rfl) hS2 ?_
      simp only [Act.put, fl1, fl2, fl3, fl4, fl5, fl6]
      have hS3 := hS2.set F 1 (.int .i64 ((min f0.sure m : Nat) : Int)) (.inl rfl)
      have hFy3 : (y2.setCell ⟨F, 1, none⟩ (.int .i64 ((min f0.sure m : Nat) : Int))).heap[F]? = some (.cells #[.slice A2 m m, .int .i64 ((min f0.sure m : Nat) : Int)] 77 (0, 0)) := heap_setCell_same _ _ _ _ _ _ hFy2
      refine held_did 12 rfl (by kernel_rfl) (by kernel_rfl) (y2.setCell ⟨F, 1, none⟩ (.int .i64 ((min f0.sure m : Nat) : Int))) ?he ?hS4 ?_
      case he => exact exec_store_cell 3 _ _ rfl F 1 (by kernel_rfl) (.int .i64 ((min f0.sure m : Nat) : Int)) (by kernel_rfl) (.int .i64 (su : Int)) (by rw [cell_of_row _ _ _ _ _ _ hFy2]; rfl) (frozen_of_row _ _ _ _ _ hFy2) (fun w => by kernel_rfl) rfl rfl
      case hS4 => exact hS3
      simp only [Act.put, fl1, fl2, fl3, fl4, fl5, fl6]
      refine wpAnyH_done (by kernel_rfl) ?_ _
      exact ⟨rfl, (), by kernel_rfl, hS3, hFy3⟩
  rintro ⟨⟩ W5 ⟨hk5, hF5⟩
  refine ⟨rfl, ?_⟩
  rename_i hK
  refine hK _ _ ?_
  clear hK
  simp only [Act.put, fl1, fl2, fl3]
  have hDW5 : Hid (DiskI W5 D mb d) := hDW3.out.kpF hFW3.out hk5
  have hBW5 : Hid (Below w.heap.size w W5) := below_kpF hBW3.out hk5 hFle.out hBW3.out.size
  have hBdW5 : Hid (W5.heap[Bd]? = some (.cells #[.pointer (some ⟨D, 0, none⟩)] 39 (0, 0))) := box_kpF hFW3.out hk5 hBdW3.out (by decide)
  have hBnW5 : Hid (W5.heap[Bn]? = some (.cells #[.string s] 9 (0, 0))) := box_kpF hFW3.out hk5 hBnW3.out (by decide)
  have hFW5 : Hid (W5.heap[F]? = some (.cells #[.slice A2 m m, .int .i64 ((min f0.sure m : Nat) : Int)] 77 (0, 0))) := hF5
  have hcW5 : Hid (Rw 1 encB W5 (.slice A2 m m) (f0.bs.take m)) := rw_kpF hFW3.out hk5 hcrH.out
  clear hk5 hF5 hcrH hA2H
  clear hDW3 hBW3 hBdW3 hBnW3 hrW3 hFW3
  have hlt2 : (f0.bs.take m).length = m := by rw [List.length_take]; omega
  go_upto_region 7 with fail
  refine wp_region_lit ?_
  refine sl_run rfl (.pointer (some ⟨D, 0, none⟩)) W5 (exec_load_cell 39 W5 _ rfl ⟨Bd, 0, none⟩ (by kernel_rfl) _ (by rw [cell_of_row _ _ _ _ _ _ hBdW5.out]; rfl) (fun _ => by kernel_rfl)) ?_
  simp only [Act.put, fl1, fl2, fl3]
  refine sl_run rfl (.func (.func 53) #[] #[.pointer (some ⟨F, 0, none⟩), .pointer (some ⟨Bd, 0, none⟩), .pointer (some ⟨Bn, 0, none⟩)]) W5 (by kernel_rfl) ?_
  simp only [Act.put, fl1, fl2, fl3]
  refine sg_call (by kernel_rfl) 51 #[.pointer (some ⟨D, 0, none⟩), .func (.func 53) #[] #[.pointer (some ⟨F, 0, none⟩), .pointer (some ⟨Bd, 0, none⟩), .pointer (some ⟨Bn, 0, none⟩)]] (by kernel_rfl) (R := fun u w' => u = .int .i64 (ee : Int) ∧ DiskI w' D mb d1 ∧ KpS (TD D mb) W5 w') ?hc ?_
  case hc =>
    refine (one_calls hDW5.out 53 #[.pointer (some ⟨F, 0, none⟩), .pointer (some ⟨Bd, 0, none⟩), .pointer (some ⟨Bn, 0, none⟩)] (fun w => by kernel_rfl) (fun L => DS.putL L ⟨s, f0.bs.take m, min f0.sure m⟩) fun w' hk hD => cut1_calls hD F Bd Bn ⟨s, f0.bs.take m, min f0.sure m⟩ (.slice A2 m m) (rw_kpS hDW5.out hcW5.out hk) ⟨by show min f0.sure m ≤ (f0.bs.take m).length; rw [hlt2]; exact Nat.min_le_right _ _, by show (f0.bs.take m).length ≤ _; rw [hlt2]; have := hfineH.out.2; omega⟩ (hk.box hDW5.out hFW5.out (by decide)) (hk.box hDW5.out hBdW5.out (by decide)) (hk.box hDW5.out hBnW5.out (by decide))).mono fun e w' h => ?_
    rw [hspec] at h
    exact ⟨_, h.1, rfl, h.2⟩
  rintro _ W4 ⟨rfl, hD4, hK4⟩
  simp only [Act.put, fl1, fl2, fl3]
  have hE : Hid (DiskI W4 D mb d1 ∧ KpS (TD D mb) w W4) := And.intro hD4 ((KpS.of hBW5.out).trans hK4)
  clear hD4 hK4
  clear hDW5 hBW5 hBdW5 hBnW5 hFW5 hcW5
  refine sl_run rfl (.int .i64 (ee : Int)) W4 (by kernel_rfl) ?_
  simp only [Act.put, fl1, fl2, fl3]
  refine wpList_nil ?_
  clear hlt2
  clear hspec hgetH hoffH hfineH hfnH hsuH
  go_wp2_with fail
  go_ret
  exact ⟨rfl, hE.out.1, hE.out.2⟩
end Go.Proofs.Ytdkaaieenbmihaa
namespace Go.Proofs.Ytdkaaieenbmihaa
open Go.RowKit
theorem run_append_zero {w : World} {A B : Option Addr} {n c : Nat} {ty : TypeId} : (Builtin.append_ #[22, 22] ty #[.slice A n n, .slice B 0 c]).run Try.prog w = .ok (.slice A n n) w := by
  obtain ⟨i5, hi5, hz0, hz1, hz2⟩ := info_parts inf5
  cases A <;> cases B <;> simp [Builtin.append_, run_underlying un30', sizeOf, typeInfo, hi5, hz1, Builtin.lenOf, Builtin.firstCells, loadCells, loadCellsFrom, storeCells, Result.andThen]
set_option maxRecDepth 100000 in
theorem exec_appB {w : World} {o : Oper} {a : Act} (s x : Operand) (ho : o.op = .call { callee := .builtin .append, args := #[s, x], argTypes := #[22, 22] }) (A : Option Addr) (n : Nat) (l : List Nat) (hs : a.eval s = .slice A n n) (hv : Rw 1 encB w (.slice A n n) l)
    (y : Value) (m : List Nat) (hx : a.eval x = y) (hy : Rw 1 encB w y m) (hlen : l.length + m.length ≤ 1000000000) :
    ∃ v w', (execOp a.eval o).run Try.prog w = .ok (.value v) w' ∧ Rw 1 encB w' v (l ++ m) ∧ Below w.heap.size w w' := by
  obtain ⟨i5, hi5, hz0, hz1, hz2⟩ := info_parts inf5
  obtain ⟨B, c, rfl⟩ := hy.form
  have key : ∃ v w', (Builtin.append_ #[22, 22] o.type #[.slice A n n, .slice B m.length c]).run Try.prog w = .ok v w' ∧ Rw 1 encB w' v (l ++ m) ∧ Below w.heap.size w w' := by
    have hnl : n = l.length := by
      obtain ⟨A', c', h⟩ := hv.form
      injection h with h1 h2 h3
    by_cases hm : m = []
    · subst hm
      exact ⟨_, w, run_append_zero, by rw [List.append_nil]; exact hv, Below.refl _ _⟩
    · have hm0 : 0 < m.length := List.length_pos_iff.2 hm
      obtain ⟨g2, o2, rfl, hc2, hg2, _⟩ := hy.elem 0 hm0
      have hnews := Rw.cells (enc := encB) encB_size (fun i hi => run_elem hy i hi)
      have fin : ∀ {v w'}, w'.ownsRow w.heap.size 5 1 v (l.length + m.length) (flat encB l ++ flat encB m) → w.grownBy w' none → Rw 1 encB w' v (l ++ m) ∧ Below w.heap.size w w' := fun {v w'} hown hgr => by
        refine ⟨Rw.own encB_size (by decide) (n := (l ++ m).length) (e := 5) (base := w.heap.size) (by rw [List.length_append, flat_app]; exact hown), (Below.refl _ _).grown hgr (Nat.le_refl _) (fun q hq => by cases hq)⟩
      by_cases hA : A = none
      · subst hA
        have hl0 : l = [] ∧ n = 0 := by
          rcases hv with ⟨A', c', h, h2, _⟩ | ⟨g, o', c', h, _⟩
          · exact ⟨h2, by rw [hnl, h2]; rfl⟩
          · simp at h
        obtain ⟨rfl, rfl⟩ := hl0
        obtain ⟨v', w', hr, h2, h3, _⟩ := run_append_own (P := Try.prog) w w.heap.size 22 o.type 5 i5 (.int .u8 0) 1 1 un30' hi5 hz0 hz1 hz2 rfl (by decide) (.slice none 0 0) 0 [] (World.ownsRow_nil w w.heap.size 5 1) ⟨g2, o2, none⟩ m.length c (flat encB m) (flat_len encB_size m) hnews (flat_one encB_one m) (by unfold maxLen; omega) (by omega) (Nat.le_refl _)
        exact ⟨v', w', hr, fin (by
          rw [List.length_nil, Nat.zero_add]
          have e : flat encB ([] : List Nat) = [] := rfl
          rw [e, List.nil_append]
          simpa using h2) h3⟩
      · obtain ⟨ad, rfl⟩ : ∃ ad, A = some ad := by cases A with | none => exact absurd rfl hA | some ad => exact ⟨ad, rfl⟩
        have holds : ∀ j u, (flat encB l)[j]? = some u → w.cell? (ad.add j) = some u := fun j u hj => by
          rcases hv with ⟨A', c', h, h2, _⟩ | ⟨g, o', c', h, h2, h3, h4⟩
          · rw [h2] at hj; simp [flat] at hj
          · have hA := Rw.cells (enc := encB) encB_size h4 j u hj
            injection h with h5 h6 h7
            injection h5 with h5
            rw [h5]; exact hA
        obtain ⟨v', w', hr, h2, h3⟩ := run_append_arg_grows (P := Try.prog) w 22 o.type 5 i5 (.int .u8 0) 1 1 un30' hi5 hz0 hz1 hz2 rfl (by decide) ad n n (flat encB l) (by rw [flat_len encB_size, hnl]) holds ⟨g2, o2, none⟩ m.length c (flat encB m) (flat_len encB_size m) hnews (by omega) (by unfold maxLen; omega) (by omega)
        exact ⟨v', w', hr, fin (by rw [← hnl]; exact h2) h3⟩
  obtain ⟨v, w', hr, h2, h3⟩ := key
  refine ⟨v, w', ?_, h2, h3⟩
  unfold execOp
  simp only [ho, resolve, invoke, builtin, Sem.run_bind, Sem.run_pure, Result.andThen_ok, List.map_toArray, List.map_cons, List.map_nil, hs, hx, hr]
theorem exec_takeB {o : Oper} {a : Act} (x hi : Operand) (ho : o.op = .slice 22 x none (some hi) none) (A : Option Addr) (n c q : Nat) (hx : a.eval x = .slice A n c)
    (hh : a.eval hi = .int .i64 (q : Int)) (hc : q ≤ c) (w : World) : (execOp a.eval o).run Try.prog w = .ok (.value (.slice (if c = 0 then A else A.map (·.add 0)) q c)) w := by
  unfold execOp
  simp only [ho, Option.map_some, Option.map_none, hx, hh, Sem.run_bind, run_sliceAt_slice w 22 _ _ _ _ un30, run_slice_h w 22 _ n c un30 .i64 (q : Int) (by omega) (by omega), sz30, Result.andThen_ok, Sem.run_pure, sliced, Int.toNat_natCast, Nat.zero_mul, Nat.sub_zero]
end Go.Proofs.Ytdkaaieenbmihaa
namespace Go.Proofs.Ytdkaaieenbmihaa
open Go.RowKit
open Go.Proofs.Ytdkaaieenbmihaa.Pure (nameB)
theorem kp_join {w w' w2 : World} {D mb F : Nat} (h : KpS (TD D mb) w w') (k : KpS (fun q => q = F) w' w2) (hF : w.heap.size ≤ F) : KpS (TD D mb) w w2 :=
  ⟨k.os.trans h.os, k.tape.trans h.tape, k.output.trans h.output, Nat.le_trans h.size k.size, fun i hi hn => (k.block i (Nat.lt_of_lt_of_le hi h.size) (fun e => by have e : i = F := e; omega)).trans (h.block i hi hn)⟩
theorem clip2_calls (l : List Nat) (v : Value) (w : World) (hn9 : l.length ≤ 1000000000) (hy : Rw 1 encB w v l) :
    Calls Try.prog 26 #[v] w fun e w' => ∃ A2, e = .returned (.slice A2 l.length l.length) ∧ Rw 1 encB w' (.slice A2 l.length l.length) l ∧ Below w.heap.size w w' := by
  obtain ⟨A, c, rfl⟩ := hy.form
  obtain ⟨n, hn⟩ : ∃ n, n = l.length := ⟨_, rfl⟩
  rw [← hn] at hy ⊢
  obtain ⟨hc, hy2⟩ := clip_rw hn hy
  have hnH : Hid (n = l.length) := hn
  clear hn
  go_enter Try.func26, Try.ntmps26
  go_upto_region 1 with fail
  refine wp_region_lit ?_
  refine sl_run rfl (.slice A n c) w (by kernel_rfl) ?_
  simp only [Act.put, fl1, fl2, fl3]
  refine sl_run rfl (.slice A n c) w (by kernel_rfl) ?_
  simp only [Act.put, fl1, fl2, fl3]
  refine sl_run rfl (.int .i64 n) w (by kernel_rfl) ?_
  simp only [Act.put, fl1, fl2, fl3]
  refine sl_run rfl (.slice A n c) w (by kernel_rfl) ?_
  simp only [Act.put, fl1, fl2, fl3]
  refine sl_run rfl (.int .i64 n) w (by kernel_rfl) ?_
  simp only [Act.put, fl1, fl2, fl3]
  refine sl_run rfl _ w (exec_clip un30 sz30 _ _ _ rfl A n c (by kernel_rfl) (by kernel_rfl) (by kernel_rfl) hc w) ?_
  generalize (if n = 0 then A else A.map (·.add 0)) = A2 at hy2 ⊢
  simp only [Act.put, fl1, fl2, fl3]
  refine sl_run rfl (.slice A2 n n) w (by kernel_rfl) ?_
  simp only [Act.put, fl1, fl2, fl3]
  refine wpList_nil ?_
  go_wp2_with fail
  go_ret
  exact ⟨A2, by rw [hnH.out]; rfl, by first | exact hy2 | (rw [← hnH.out]; exact hy2), Below.refl _ _⟩
theorem app_eq {d : DS} {s : ByteArray} {bs : List Nat} {su er : Nat} (nm : ByteArray → Bool) (h : d.findS s = (bs, su, er)) (b : List Nat) (ho : d.off = false) : d.app nm s b =
    if nm s = false then (d, 1) else if er = 4 ∧ 8 ≤ d.L.length then (d, 3) else if 1048576 < b.length ∨ 1048576 < bs.length + b.length then (d, 3)
    else ({ d.used b.length with L := DS.putL d.L ⟨s, bs ++ b.take (d.useN b.length), su⟩ }, if d.useOk b.length then 0 else 20) := by
  unfold DS.findS at h
  rw [if_neg (by rw [ho]; decide)] at h
  unfold DS.app
  rw [if_neg (by rw [ho]; decide)]
  cases hg : d.get s with
  | none =>
    rw [hg] at h
    injection h with h h2
    injection h2 with h2 h3
    subst h h2 h3
    simp
  | some f =>
    rw [hg] at h
    injection h with h h2
    injection h2 with h2 h3
    subst h h2 h3
    simp
theorem findS_er {d : DS} {s : ByteArray} {bs : List Nat} {su er : Nat} (h : d.findS s = (bs, su, er)) : (d.off = true ∧ er = 20) ∨ (d.off = false ∧ (er = 0 ∨ er = 4)) := by
  by_cases he : er = 0
  · subst he; exact .inr ⟨(findS_ok h).1, .inl rfl⟩
  · rcases (findS_bad h he).2.2 with h8 | ⟨h8, _, h9⟩
    · exact .inl h8
    · exact .inr ⟨h8, .inr h9⟩
theorem findS_fine {w : World} {D mb : Nat} {d : DS} (hD : DiskI w D mb d) {s : ByteArray} {bs : List Nat} {su er : Nat} (h : d.findS s = (bs, su, er)) : su ≤ bs.length ∧ bs.length ≤ 1048576 := by
  by_cases he : er = 0
  · subst he
    obtain ⟨_, f0, _, rfl, rfl, hm, _⟩ := findS_ok h
    exact hD.fine f0 hm
  · obtain ⟨rfl, rfl, _⟩ := findS_bad h he
    exact ⟨Nat.le_refl _, by decide⟩
theorem exec_lenm {o : Oper} {a : Act} {w : World} (x : Operand) (ho : o.op = .call { callee := .builtin .len, args := #[x], argTypes := #[64] }) (mb : Nat) (hx : a.eval x = .map (some mb)) {L : List (ByteArray × Value)} (h : DM w mb L) (n : Nat) (hn : L.length = n) : (execOp a.eval o).run Try.prog w = .ok (.value (.int .i64 (n : Int))) w := by
  subst hn
  unfold execOp
  simp [ho, hx, resolve, invoke, builtin, run_lenm h un61, Result.andThen]
set_option maxRecDepth 100000 in
set_option maxHeartbeats 1000000 in
theorem Append_calls {w : World} {D mb : Nat} {d : DS} (h : DiskI w D mb d) (s : ByteArray) (b : List Nat) (Ab : Option Addr) (n cb : Nat) (hn : n = b.length) (hn9 : n ≤ 500000000) (hyb : Rw 1 encB w (.slice Ab n cb) b) :
    Calls Try.prog 39 #[.pointer (some ⟨D, 0, none⟩), .string s, .slice Ab n cb] w fun e w' => e = .returned (.int .i64 ((d.app nameB s b).2 : Int)) ∧ DiskI w' D mb (d.app nameB s b).1 ∧ KpS (TD D mb) w w' := by
  have hDw : Hid (DiskI w D mb d) := h
  have hyw : Hid (Rw 1 encB w (.slice Ab n cb) b) := hyb
  have hBw : Hid (Below w.heap.size w w) := Below.refl _ _
  have hn' : Hid (n = b.length) := hn
  obtain ⟨d1, ee, hd1⟩ : ∃ p q, d.app nameB s b = (p, q) := ⟨_, _, rfl⟩
  rw [hd1]
  have hd1H : Hid (d.app nameB s b = (d1, ee)) := hd1
  obtain ⟨bs, su, er, hf⟩ : ∃ p q r, d.findS s = (p, q, r) := ⟨_, _, _, rfl⟩
  have hfS : Hid (d.findS s = (bs, su, er)) := hf
  have hfi := findS_fine h hf
  have hfiH : Hid (su ≤ bs.length ∧ bs.length ≤ 1048576) := hfi
  clear h hd1 hf hyb hn hfi
  go_enter Try.func39, Try.ntmps39
  go_upto_region 1 with fail
  refine wp_region_lit ?_
  refine sl_run rfl (.pointer (some ⟨D, 0, none⟩)) w (by kernel_rfl) ?_
  simp only [Act.put, fl1, fl2, fl3]
  refine sl_run rfl (.string s) w (by kernel_rfl) ?_
  simp only [Act.put, fl1, fl2, fl3]
  refine sg_call (by kernel_rfl) 46 #[.pointer (some ⟨D, 0, none⟩), .string s] (by kernel_rfl) (R := fun u w' => ∃ v, u = .tuple #[.agg #[v, .int .i64 (su : Int)], .int .i64 (er : Int)] ∧ Rw 1 encB w' v bs ∧ Below w.heap.size w w') ((find_calls hDw.out s).mono fun e w' h => by
    obtain ⟨v, h1, h2, h3⟩ := h
    rw [hfS.out] at h1 h2
    exact ⟨_, h1, v, rfl, h2, h3⟩) ?_
  rintro _ W2 ⟨v, rfl, hr, hb⟩
  obtain ⟨A, c, rfl⟩ := hr.form
  have hrW2 : Hid (Rw 1 encB W2 (.slice A bs.length c) bs) := hr
  clear hr
  simp only [Act.put, fl1, fl2, fl3]
  have hDW2 : Hid (DiskI W2 D mb d) := (hDw.out).below hb
  have hBW2 : Hid (Below w.heap.size w W2) := (hBw.out).trans ((hb).mono (hBw.out).size)
  have hyW2 : Hid (Rw 1 encB W2 (.slice Ab n cb) b) := (hyw.out).below hb
  clear hDw hBw hyw
  clear hb
  refine sl_run rfl (.tuple #[.agg #[.slice A bs.length c, .int .i64 (su : Int)], .int .i64 (er : Int)]) W2 (by kernel_rfl) ?_
  simp only [Act.put, fl1, fl2, fl3]
  refine sl_run rfl (.agg #[.slice A bs.length c, .int .i64 (su : Int)]) W2 (by kernel_rfl) ?_
  simp only [Act.put, fl1, fl2, fl3]
  refine sl_run rfl (.int .i64 (er : Int)) W2 (by kernel_rfl) ?_
  simp only [Act.put, fl1, fl2, fl3]
  refine sg_run (by kernel_rfl) (.pointer (some ⟨W2.heap.size, 0, none⟩)) (W2.alloc (.cells #[.slice none 0 0, .int .i64 0] 77)) (by kernel_rfl) ?_
  simp only [Act.put, fl1, fl2, fl3]
  refine sl_skipped (by kernel_rfl) ((W2.alloc (.cells #[.slice none 0 0, .int .i64 0] 77)).setRow W2.heap.size #[.slice A bs.length c, .int .i64 (su : Int)]) ?he ?_
  case he => exact exec_store_f _ _ rfl W2.heap.size (by kernel_rfl) (.slice A bs.length c) (su : Int) rfl (by kernel_rfl) #[.slice none 0 0, .int .i64 0] (heap_alloc_new _ _) rfl
  simp only [Act.put, fl1, fl2, fl3]
  have hb : Below W2.heap.size W2 ((W2.alloc (.cells #[.slice none 0 0, .int .i64 0] 77)).setRow W2.heap.size #[.slice A bs.length c, .int .i64 (su : Int)]) := below_setRow ((Below.refl _ _).alloc (Nat.le_refl _) _) (Nat.le_refl _) _
  have hf0 : ((W2.alloc (.cells #[.slice none 0 0, .int .i64 0] 77)).setRow W2.heap.size #[.slice A bs.length c, .int .i64 (su : Int)]).heap[W2.heap.size]? = some (.cells #[.slice A bs.length c, .int .i64 (su : Int)] 77 (0, 0)) := setRow_heap _ _ #[.slice none 0 0, .int .i64 0] _ 77 (0, 0) (heap_alloc_new _ _)
  generalize ((W2.alloc (.cells #[.slice none 0 0, .int .i64 0] 77)).setRow W2.heap.size #[.slice A bs.length c, .int .i64 (su : Int)]) = W3 at hb hf0 ⊢
  have hle0 : w.heap.size ≤ W2.heap.size := hBW2.out.size
  obtain ⟨F, hFe⟩ : ∃ F, F = W2.heap.size := ⟨_, rfl⟩
  have hDW3 : Hid (DiskI W3 D mb d) := (hDW2.out).below hb
  have hBW3 : Hid (Below w.heap.size w W3) := (hBW2.out).trans ((hb).mono (hBW2.out).size)
  have hyW3 : Hid (Rw 1 encB W3 (.slice Ab n cb) b) := (hyW2.out).below hb
  have hrW3 : Hid (Rw 1 encB W3 (.slice A bs.length c) bs) := (hrW2.out).below hb
  clear hDW2 hBW2 hyW2 hrW2
  rw [← hFe] at hf0 hle0 ⊢
  have hFW3 : Hid (W3.heap[F]? = some (.cells #[.slice A bs.length c, .int .i64 (su : Int)] 77 (0, 0))) := hf0
  have hFle : Hid (w.heap.size ≤ F) := hle0
  clear hb hf0 hle0 hFe
  refine sl_run rfl (.int .i64 (er : Int)) W3 (by kernel_rfl) ?_
  simp only [Act.put, fl1, fl2, fl3]
  refine wpList_nil ?_
  rcases findS_er hfS.out with ⟨ho, rfl⟩ | ⟨ho, her⟩
  case inl =>
    have hspec := hd1H.out
    unfold DS.app at hspec
    rw [if_pos ho] at hspec
    clear hd1H ho

    injection hspec with e1 e2
    subst e1 e2
    have hE : Hid (DiskI W3 D mb d ∧ KpS (TD D mb) w W3) := And.intro hDW3.out (KpS.of hBW3.out)
    clear hfS hfiH
    clear hDW3 hBW3 hyW3 hrW3 hFW3
    go_wp2_with fail
    go_ret
    exact ⟨rfl, hE.out.1, hE.out.2⟩
  case inr =>
  have hspec := hd1H.out
  rw [app_eq nameB hfS.out b ho] at hspec
  have hspH : Hid ((if nameB s = false then (d, 1) else if er = 4 ∧ 8 ≤ d.L.length then (d, 3) else if 1048576 < b.length ∨ 1048576 < bs.length + b.length then (d, 3)
      else ({ d.used b.length with L := DS.putL d.L ⟨s, bs ++ b.take (d.useN b.length), su⟩ }, if d.useOk b.length then 0 else 20)) = (d1, ee)) := hspec
  clear hspec hd1H ho
  have hI1 : ¬ (er : Int) = 20 := by omega
  have hI2 : ((er : Int) == 20) = false := by rw [beq_eq_false_iff_ne]; omega
  obtain ⟨nb, hnb⟩ : ∃ b, b = nameB s := ⟨_, rfl⟩
  have hnbH : Hid (nb = nameB s) := hnb
  clear hnb
  go_upto_region 4 with fail
  refine wp_region_lit ?_
  refine sl_run rfl (.string s) W3 (by kernel_rfl) ?_
  simp only [Act.put, fl1, fl2, fl3]
  refine sg_call (by kernel_rfl) 55 #[.string s] (by kernel_rfl) (R := fun v w' => v = .bool nb ∧ Below W3.heap.size W3 w') ((hnbH.out ▸ name_calls s W3).mono fun e w' h => ⟨_, h.1, rfl, h.2⟩) ?_
  rintro _ W4 ⟨rfl, hb⟩
  simp only [Act.put, fl1, fl2, fl3]
  have hDW4 : Hid (DiskI W4 D mb d) := (hDW3.out).below hb
  have hBW4 : Hid (Below w.heap.size w W4) := (hBW3.out).trans ((hb).mono (hBW3.out).size)
  have hyW4 : Hid (Rw 1 encB W4 (.slice Ab n cb) b) := (hyW3.out).below hb
  have hrW4 : Hid (Rw 1 encB W4 (.slice A bs.length c) bs) := (hrW3.out).below hb
  have hFW4 : Hid (W4.heap[F]? = some (.cells #[.slice A bs.length c, .int .i64 (su : Int)] 77 (0, 0))) := heap_kept hFW3.out hb
  clear hDW3 hBW3 hyW3 hrW3 hFW3
  clear hb
  cases nb with
  | false =>
    refine sl_run rfl (.bool true) W4 (by kernel_rfl) ?_
    simp only [Act.put, fl1, fl2, fl3]
    refine sl_run rfl (.bool true) W4 (by kernel_rfl) ?_
    simp only [Act.put, fl1, fl2, fl3]
    refine wpList_nil ?_
    have hspec := hspH.out
    rw [if_pos hnbH.out.symm] at hspec
    clear hspH hnbH her hI1 hI2
    injection hspec with e1 e2
    subst e1 e2
    have hE : Hid (DiskI W4 D mb d ∧ KpS (TD D mb) w W4) := And.intro hDW4.out (KpS.of hBW4.out)
    clear hfS hfiH
    clear hDW4 hBW4 hyW4 hrW4 hFW4
    go_wp2_with fail
    go_ret
    exact ⟨rfl, hE.out.1, hE.out.2⟩
  | true =>
    refine sl_run rfl (.bool false) W4 (by kernel_rfl) ?_
    simp only [Act.put, fl1, fl2, fl3]
    refine sl_run rfl (.bool false) W4 (by kernel_rfl) ?_
    simp only [Act.put, fl1, fl2, fl3]
    refine wpList_nil ?_
    have hspec := hspH.out
    rw [if_neg (by rw [← hnbH.out]; decide)] at hspec
    have hsp2 : Hid ((if er = 4 ∧ 8 ≤ d.L.length then (d, 3) else if 1048576 < b.length ∨ 1048576 < bs.length + b.length then (d, 3)
        else ({ d.used b.length with L := DS.putL d.L ⟨s, bs ++ b.take (d.useN b.length), su⟩ }, if d.useOk b.length then 0 else 20)) = (d1, ee)) := hspec
    clear hspec hspH hnbH
    go_upto_region 6 with fail
    obtain ⟨full, hfull⟩ : ∃ f : Bool, f = decide (er = 4 ∧ 8 ≤ d.L.length) := ⟨_, rfl⟩
    have hfullH : Hid (full = decide (er = 4 ∧ 8 ≤ d.L.length)) := hfull
    clear hfull
    obtain ⟨Lm, hLm, hLl⟩ := hDW4.out.len
    have hLmH : Hid (DM W4 mb Lm) := hLm
    have hLlH : Hid (Lm.length = d.L.length) := hLl
    clear hLm hLl
    go_cut [25] from 26 to 35 (fun s25 wc => s25 = .bool full ∧ wc = W4)
    case first =>
      refine wp_region_lit ?_
      rcases her with rfl | rfl
      · skip
        refine sl_run rfl (.int .i64 0) W4 (by kernel_rfl) ?_
        simp only [Act.put, fl1, fl2, fl3]
        refine sl_run rfl (.bool false) W4 (by kernel_rfl) ?_
        simp only [Act.put, fl1, fl2, fl3]
        refine sl_run rfl (.bool false) W4 (by kernel_rfl) ?_
        simp only [Act.put, fl1, fl2, fl3]
        refine wpList_skip ?hw ?_
        case hw => kernel_rfl
        simp only [Act.put, fl1, fl2, fl3]
        refine wpList_skip ?hw ?_
        case hw => kernel_rfl
        simp only [Act.put, fl1, fl2, fl3]
        refine wpList_skip ?hw ?_
        case hw => kernel_rfl
        simp only [Act.put, fl1, fl2, fl3]
        refine wpList_skip ?hw ?_
        case hw => kernel_rfl
        simp only [Act.put, fl1, fl2, fl3]
        refine wpList_skip ?hw ?_
        case hw => kernel_rfl
        simp only [Act.put, fl1, fl2, fl3]
        refine wpList_skip ?hw ?_
        case hw => kernel_rfl
        simp only [Act.put, fl1, fl2, fl3]
        refine sl_run rfl (.bool false) W4 (by kernel_rfl) ?_
        simp only [Act.put, fl1, fl2, fl3]
        refine sl_run rfl (.bool false) W4 (by kernel_rfl) ?_
        simp only [Act.put, fl1, fl2, fl3]
        refine wpList_nil ?_
        go_wp2_with fail
        go_meet
        exact ⟨by rw [hfullH.out]; simp, rfl⟩
      · skip
        obtain ⟨g8, hg8⟩ : ∃ g : Bool, g = decide (8 ≤ d.L.length) := ⟨_, rfl⟩
        have hg8H : Hid (g8 = decide (8 ≤ d.L.length)) := hg8
        clear hg8
        refine sl_run rfl (.int .i64 4) W4 (by kernel_rfl) ?_
        simp only [Act.put, fl1, fl2, fl3]
        refine sl_run rfl (.bool true) W4 (by kernel_rfl) ?_
        simp only [Act.put, fl1, fl2, fl3]
        refine sl_run rfl (.bool true) W4 (by kernel_rfl) ?_
        simp only [Act.put, fl1, fl2, fl3]
        refine sg_run (by kernel_rfl) (.pointer (some ⟨D, 0, none⟩)) W4 (by kernel_rfl) ?_
        simp only [Act.put, fl1, fl2, fl3]
        refine sg_run (by kernel_rfl) (.pointer (some ⟨D, 0, none⟩)) W4 (by kernel_rfl) ?_
        simp only [Act.put, fl1, fl2, fl3]
        refine sg_run (by kernel_rfl) (.pointer (some ⟨D, 0, none⟩)) W4 (by kernel_rfl) ?_
        simp only [Act.put, fl1, fl2, fl3]
        refine sg_run (by kernel_rfl) (.map (some mb)) W4 (exec_load_cell 64 W4 _ rfl ⟨D, 0, none⟩ (by kernel_rfl) _ hDW4.out.c0 (fun _ => by kernel_rfl)) ?_
        simp only [Act.put, fl1, fl2, fl3]
        refine sg_run (by kernel_rfl) (.int .i64 (d.L.length : Int)) W4 (exec_lenm _ rfl mb (by kernel_rfl) hLmH.out _ hLlH.out) ?_
        simp only [Act.put, fl1, fl2, fl3]
        refine sg_run (by kernel_rfl) (.bool g8) W4 (exec_geq 3 _ _ rfl (d.L.length : Int) 8 (by kernel_rfl) (by kernel_rfl) g8 (by rw [hg8H.out, Bool.eq_iff_iff]; simp; omega)) ?_
        simp only [Act.put, fl1, fl2, fl3]
        refine sl_run rfl (.bool g8) W4 (by kernel_rfl) ?_
        simp only [Act.put, fl1, fl2, fl3]
        refine sl_run rfl (.bool g8) W4 (by kernel_rfl) ?_
        simp only [Act.put, fl1, fl2, fl3]
        refine wpList_nil ?_
        go_wp2_with fail
        go_meet
        exact ⟨by rw [hfullH.out]; rw [hg8H.out]; simp, rfl⟩
    case rest =>
    obtain ⟨rfl, hwc⟩ := hcut
    subst wc
    clear hLmH hLlH
    cases full with
    | true =>
      have hspec := hsp2.out
      rw [if_pos (of_decide_eq_true hfullH.out.symm)] at hspec
      clear hsp2 hfullH her hI1 hI2
      injection hspec with e1 e2
      subst e1 e2
      have hE : Hid (DiskI W4 D mb d ∧ KpS (TD D mb) w W4) := And.intro hDW4.out (KpS.of hBW4.out)
      clear hfS hfiH
      clear hDW4 hBW4 hyW4 hrW4 hFW4
      go_wp2_with fail
      go_ret
      exact ⟨rfl, hE.out.1, hE.out.2⟩
    | false =>
      have hspec := hsp2.out
      rw [if_neg (of_decide_eq_false hfullH.out.symm)] at hspec
      have hsp3 : Hid ((if 1048576 < b.length ∨ 1048576 < bs.length + b.length then (d, 3)
          else ({ d.used b.length with L := DS.putL d.L ⟨s, bs ++ b.take (d.useN b.length), su⟩ }, if d.useOk b.length then 0 else 20)) = (d1, ee)) := hspec
      clear hspec hsp2 hfullH her hI1 hI2
      obtain ⟨big, hbig⟩ : ∃ f : Bool, f = decide (1048576 < b.length ∨ 1048576 < bs.length + b.length) := ⟨_, rfl⟩
      have hbigH : Hid (big = decide (1048576 < b.length ∨ 1048576 < bs.length + b.length)) := hbig
      clear hbig
      go_upto_region 8 with fail
      go_cut [36] from 37 to 48 (fun s36 wc => s36 = .bool big ∧ wc = W4)
      case first =>
        refine wp_region_lit ?_
        have hbl : bs.length ≤ 1048576 := hfiH.out.2
        by_cases p1 : 1048576 < n
        · skip
          refine sl_run rfl (.slice Ab n cb) W4 (by kernel_rfl) ?_
          simp only [Act.put, fl1, fl2, fl3]
          refine sl_run rfl (.int .i64 (n : Int)) W4 (by kernel_rfl) ?_
          simp only [Act.put, fl1, fl2, fl3]
          refine sl_run rfl (.bool true) W4 (exec_gtr 3 _ _ rfl (n : Int) 1048576 (by kernel_rfl) (by kernel_rfl) true (decide_eq_true (by omega))) ?_
          simp only [Act.put, fl1, fl2, fl3]
          refine sl_run rfl (.bool true) W4 (by kernel_rfl) ?_
          simp only [Act.put, fl1, fl2, fl3]
          refine wpList_skip ?hw ?_
          case hw => kernel_rfl
          simp only [Act.put, fl1, fl2, fl3]
          refine wpList_skip ?hw ?_
          case hw => kernel_rfl
          simp only [Act.put, fl1, fl2, fl3]
          refine wpList_skip ?hw ?_
          case hw => kernel_rfl
          simp only [Act.put, fl1, fl2, fl3]
          refine wpList_skip ?hw ?_
          case hw => kernel_rfl
          simp only [Act.put, fl1, fl2, fl3]
          refine wpList_skip ?hw ?_
          case hw => kernel_rfl
          simp only [Act.put, fl1, fl2, fl3]
          refine wpList_skip ?hw ?_
          case hw => kernel_rfl
          simp only [Act.put, fl1, fl2, fl3]
          refine wpList_skip ?hw ?_
          case hw => kernel_rfl
          simp only [Act.put, fl1, fl2, fl3]
          refine sl_run rfl (.bool true) W4 (by kernel_rfl) ?_
          simp only [Act.put, fl1, fl2, fl3]
          refine sl_run rfl (.bool true) W4 (by kernel_rfl) ?_
          simp only [Act.put, fl1, fl2, fl3]
          refine wpList_nil ?_
          have p1H : Hid (1048576 < n) := p1
          clear p1
          go_wp2_with fail
          go_meet
          exact ⟨by rw [hbigH.out, decide_eq_true (.inl (by rw [← hn'.out]; exact p1H.out))], rfl⟩
        · skip
          obtain ⟨g8, hg8⟩ : ∃ g : Bool, g = decide (1048576 < bs.length + n) := ⟨_, rfl⟩
          have hg8H : Hid (g8 = decide (1048576 < bs.length + n)) := hg8
          clear hg8
          refine sl_run rfl (.slice Ab n cb) W4 (by kernel_rfl) ?_
          simp only [Act.put, fl1, fl2, fl3]
          refine sl_run rfl (.int .i64 (n : Int)) W4 (by kernel_rfl) ?_
          simp only [Act.put, fl1, fl2, fl3]
          refine sl_run rfl (.bool false) W4 (exec_gtr 3 _ _ rfl (n : Int) 1048576 (by kernel_rfl) (by kernel_rfl) false (decide_eq_false (by omega))) ?_
          simp only [Act.put, fl1, fl2, fl3]
          refine sl_run rfl (.bool false) W4 (by kernel_rfl) ?_
          simp only [Act.put, fl1, fl2, fl3]
          refine sg_run (by kernel_rfl) (.pointer (some ⟨F, 0, none⟩)) W4 (by kernel_rfl) ?_
          simp only [Act.put, fl1, fl2, fl3]
          refine sg_run (by kernel_rfl) (.slice A bs.length c) W4 (exec_load_cell 22 W4 _ rfl ⟨F, 0, none⟩ (by kernel_rfl) _ (by rw [cell_of_row _ _ _ _ _ _ hFW4.out]; rfl) (fun _ => by kernel_rfl)) ?_
          simp only [Act.put, fl1, fl2, fl3]
          refine sg_run (by kernel_rfl) (.int .i64 (bs.length : Int)) W4 (by kernel_rfl) ?_
          simp only [Act.put, fl1, fl2, fl3]
          refine sg_run (by kernel_rfl) (.slice Ab n cb) W4 (by kernel_rfl) ?_
          simp only [Act.put, fl1, fl2, fl3]
          refine sg_run (by kernel_rfl) (.int .i64 (n : Int)) W4 (by kernel_rfl) ?_
          simp only [Act.put, fl1, fl2, fl3]
          refine sg_run (by kernel_rfl) (.int .i64 ((bs.length : Int) + (n : Int))) W4 (exec_add2 _ _ rfl (bs.length : Int) (n : Int) (by kernel_rfl) (by kernel_rfl) (by omega) (by omega) W4) ?_
          simp only [Act.put, fl1, fl2, fl3]
          refine sg_run (by kernel_rfl) (.bool g8) W4 (exec_gtr 3 _ _ rfl ((bs.length : Int) + (n : Int)) 1048576 (by kernel_rfl) (by kernel_rfl) g8 (by rw [hg8H.out, Bool.eq_iff_iff]; simp; omega)) ?_
          simp only [Act.put, fl1, fl2, fl3]
          refine sl_run rfl (.bool g8) W4 (by kernel_rfl) ?_
          simp only [Act.put, fl1, fl2, fl3]
          refine sl_run rfl (.bool g8) W4 (by kernel_rfl) ?_
          simp only [Act.put, fl1, fl2, fl3]
          refine wpList_nil ?_
          have p1H : Hid (¬ 1048576 < n) := p1
          clear p1
          go_wp2_with fail
          go_meet
          exact ⟨by rw [hbigH.out, hg8H.out, ← hn'.out]; congr 1; rw [Bool.eq_iff_iff]; have := p1H.out; simp; omega, rfl⟩
      case rest =>
      obtain ⟨rfl, hwc⟩ := hcut
      subst wc
      cases big with
      | true =>
        have hspec := hsp3.out
        rw [if_pos (of_decide_eq_true hbigH.out.symm)] at hspec
        clear hsp3 hbigH
        injection hspec with e1 e2
        subst e1 e2
        have hE : Hid (DiskI W4 D mb d ∧ KpS (TD D mb) w W4) := And.intro hDW4.out (KpS.of hBW4.out)
        clear hfS hfiH
        clear hDW4 hBW4 hyW4 hrW4 hFW4
        go_wp2_with fail
        go_ret
        exact ⟨rfl, hE.out.1, hE.out.2⟩
      | false =>
        have hspec := hsp3.out
        have hnb9 := of_decide_eq_false hbigH.out.symm
        rw [if_neg hnb9] at hspec
        obtain ⟨got, hgot⟩ : ∃ g, g = d.useN b.length := ⟨_, rfl⟩
        obtain ⟨ok, hok⟩ : ∃ g, g = d.useOk b.length := ⟨_, rfl⟩
        rw [← hgot, ← hok] at hspec
        have hgle : got ≤ n := by
          rw [hgot, hn'.out]
          unfold DS.useN
          split
          · exact Nat.le_refl _
          · exact Nat.min_le_left _ _
        have hspF : Hid (({ d.used b.length with L := DS.putL d.L ⟨s, bs ++ b.take got, su⟩ }, if ok then 0 else 20) = (d1, ee)) := hspec
        have hgotH : Hid (got = d.useN b.length) := hgot
        have hokH : Hid (ok = d.useOk b.length) := hok
        have hbl9 : Hid (bs.length + b.length ≤ 1048576) := by show _ ≤ _; omega
        clear hspec hsp3 hbigH hnb9 hgot hok
        go_upto_region 10 with fail
        refine wp_region_lit ?_
        refine sl_run rfl (.pointer (some ⟨D, 0, none⟩)) W4 (by kernel_rfl) ?_
        simp only [Act.put, fl1, fl2, fl3]
        refine sl_run rfl (.slice Ab n cb) W4 (by kernel_rfl) ?_
        simp only [Act.put, fl1, fl2, fl3]
        refine sl_run rfl (.int .i64 (n : Int)) W4 (by kernel_rfl) ?_
        simp only [Act.put, fl1, fl2, fl3]
        refine sg_call (by kernel_rfl) 56 #[.pointer (some ⟨D, 0, none⟩), .int .i64 (n : Int)] (by kernel_rfl) (R := fun v w' => v = .tuple #[.int .i64 (got : Int), .bool ok] ∧ DiskI w' D mb (d.used b.length) ∧ KpS (TD D mb) W4 w') ?hc ?_
        case hc =>
          refine (use_calls hDW4.out n (by omega)).mono fun e w' h => ?_
          rw [hn'.out, ← hgotH.out, ← hokH.out] at h
          exact ⟨_, h.1, rfl, h.2⟩
        rintro _ W5 ⟨rfl, hD5, hK5⟩
        simp only [Act.put, fl1, fl2, fl3]
        have hyW5 : Hid (Rw 1 encB W5 (.slice Ab n cb) b) := rw_kpS hDW4.out hyW4.out hK5
        have hrW5 : Hid (Rw 1 encB W5 (.slice A bs.length c) bs) := rw_kpS hDW4.out hrW4.out hK5
        have hFW5 : Hid (W5.heap[F]? = some (.cells #[.slice A bs.length c, .int .i64 (su : Int)] 77 (0, 0))) := hK5.box hDW4.out hFW4.out (by decide)
        have hDW5 : Hid (DiskI W5 D mb (d.used b.length)) := hD5
        have hkW5 : Hid (KpS (TD D mb) w W5) := (KpS.of hBW4.out).trans hK5
        clear hD5 hK5 hgotH hokH
        clear hDW4 hBW4 hyW4 hrW4 hFW4
        refine sl_run rfl (.tuple #[.int .i64 (got : Int), .bool ok]) W5 (by kernel_rfl) ?_
        simp only [Act.put, fl1, fl2, fl3]
        refine sl_run rfl (.int .i64 (got : Int)) W5 (by kernel_rfl) ?_
        simp only [Act.put, fl1, fl2, fl3]
        refine sl_run rfl (.bool ok) W5 (by kernel_rfl) ?_
        simp only [Act.put, fl1, fl2, fl3]
        refine sl_run rfl (.int .i64 (got : Int)) W5 (by kernel_rfl) ?_
        simp only [Act.put, fl1, fl2, fl3]
        refine sl_run rfl (.bool ok) W5 (by kernel_rfl) ?_
        simp only [Act.put, fl1, fl2, fl3]
        refine wpList_nil ?_
        obtain ⟨hncb, _⟩ := rw_take hn'.out hyW5.out got hgle
        have htkH : Hid (Rw 1 encB W5 (.slice (if cb = 0 then Ab else Ab.map (·.add 0)) got cb) (b.take got)) := (rw_take hn'.out hyW5.out got hgle).2
        obtain ⟨TA, hTA⟩ : ∃ t, t = (if cb = 0 then Ab else Ab.map (·.add 0)) := ⟨_, rfl⟩
        have hTAH : Hid (TA = (if cb = 0 then Ab else Ab.map (·.add 0))) := hTA
        rw [← hTA] at htkH
        clear hTA
        go_upto_region 11 with fail
        refine wp_normalG ?_
        refine wp_leaves (α := Value × Value) (fun e a => (((((((((a.put (some 56) (.pointer (some ⟨F, 0, none⟩))).put (some 57) (.slice A bs.length c)).put (some 58) e.1).put (some 59) (.slice Ab n cb)).put (some 60) (.int .i64 (got : Int))).put (some 61) (.slice TA got cb)).put (some 62) e.2).put (some 63) (.pointer (some ⟨F, 0, none⟩)))))
          (fun e w' => KpS (fun q => q = F) W5 w' ∧ w'.heap[F]? = some (.cells #[e.2, .int .i64 (su : Int)] 77 (0, 0)) ∧ Rw 1 encB w' e.2 (bs ++ b.take got)) ?_ ?_
        · refine wp_region_held_drew (S := fun w' => KpS (fun q => q = F) W5 w') (by kernel_rfl) (KpS.of (Below.refl _ _).drew) (fun hS => ?_)
          change wpAnyH _ _ _ _ _ 9 (Array.replicate 9 false) _ _
          have hFy : W5.drew.heap[F]? = some (.cells #[.slice A bs.length c, .int .i64 (su : Int)] 77 (0, 0)) := heap_kept hFW5.out (Below.refl _ _).drew
          have hBy : Below W5.heap.size W5 W5.drew := (Below.refl _ _).drew
          generalize hx : W5.drew = y at hS hFy hBy
          clear hx
          refine held_take 0 rfl (by kernel_rfl) (by kernel_rfl) (by kernel_rfl) (.pointer (some ⟨F, 0, none⟩)) (fun _ _ _ h => nomatch h.1) (by kernel_rfl) (fun w' h => by kernel_rfl) hS ?_
          simp only [Act.put, fl1, fl2, fl3, fl4, fl5, fl6]
          refine held_take 3 rfl (by kernel_rfl) (by kernel_rfl) (by kernel_rfl) (.slice Ab n cb) (fun _ _ _ h => nomatch h.1) (by kernel_rfl) (fun w' h => by kernel_rfl) hS ?_
          simp only [Act.put, fl1, fl2, fl3, fl4, fl5, fl6]
          refine held_take 4 rfl (by kernel_rfl) (by kernel_rfl) (by kernel_rfl) (.int .i64 (got : Int)) (fun _ _ _ h => nomatch h.1) (by kernel_rfl) (fun w' h => by kernel_rfl) hS ?_
          simp only [Act.put, fl1, fl2, fl3, fl4, fl5, fl6]
          refine held_take 5 rfl (by kernel_rfl) (by kernel_rfl) (by kernel_rfl) (.slice TA got cb) (fun _ _ _ h => nomatch h.1) (by kernel_rfl) (fun w' h => (exec_takeB _ _ rfl Ab n cb got (by kernel_rfl) (by kernel_rfl) hncb w').trans (by rw [hTAH.out])) hS ?_
          simp only [Act.put, fl1, fl2, fl3, fl4, fl5, fl6]
          refine held_run 1 rfl (by kernel_rfl) (by kernel_rfl) (.slice A bs.length c) y ?he hS ?_
          case he => exact exec_load_cell 22 y _ rfl ⟨F, 0, none⟩ (by kernel_rfl) _ (by rw [cell_of_row _ _ _ _ _ _ hFy]; rfl) (fun _ => by kernel_rfl)
          simp only [Act.put, fl1, fl2, fl3, fl4, fl5, fl6]
          refine held_call 2 rfl (by kernel_rfl) (by kernel_rfl) 26 #[.slice A bs.length c] (by kernel_rfl) (R := fun u w' => (∃ A2, u = .slice A2 bs.length bs.length) ∧ Rw 1 encB w' u bs ∧ Below y.heap.size y w') ?hc ?_
          case hc =>
            refine (clip2_calls bs (.slice A bs.length c) y (by have := hfiH.out; omega) (hrW5.out.below hBy)).mono fun e w' h => ?_
            obtain ⟨A2, h1, h2, h3⟩ := h
            exact ⟨_, h1, ⟨A2, rfl⟩, h2, h3⟩
          rintro _ y2 ⟨⟨A2, rfl⟩, hr2, hb2⟩
          have hS2 : KpS (fun q => q = F) W5 y2 := hS.trans (KpS.of hb2)
          refine ⟨hS2, ?_⟩
          simp only [Act.put, fl1, fl2, fl3, fl4, fl5, fl6]
          have hBy2 : Below W5.heap.size W5 y2 := hBy.trans (hb2.mono hBy.size)
          have hFy2 := heap_kept hFy hb2
          refine held_got 6 rfl (by kernel_rfl) (by kernel_rfl) (R := fun v w' => Rw 1 encB w' v (bs ++ b.take got) ∧ Below y2.heap.size y2 w') ?he ?_
          case he => exact exec_appB _ _ rfl A2 bs.length bs (by kernel_rfl) hr2 (.slice TA got cb) (b.take got) (by kernel_rfl) (htkH.out.below hBy2) (by have := hfiH.out; rw [List.length_take]; omega)
          rintro v3 y3 ⟨hr3, hb3⟩
          have hS3 : KpS (fun q => q = F) W5 y3 := hS2.trans (KpS.of hb3)
          have hFy3 := heap_kept hFy2 hb3
          refine ⟨hS3, ?_⟩
          simp only [Act.put, fl1, fl2, fl3, fl4, fl5, fl6]
          clear hS hS2 hFy hFy2 hBy hBy2 hr2 hb2 hb3
          refine held_take 7 rfl (by kernel_rfl) (by kernel_rfl) (by kernel_rfl) (.pointer (some ⟨F, 0, none⟩)) (fun _ _ _ h => nomatch h.1) (by kernel_rfl) (fun w' h => by kernel_rfl) hS3 ?_
          simp only [Act.put, fl1, fl2, fl3, fl4, fl5, fl6]
          have hone9 : v3.cells = #[v3] ∧ v3.oneCell' = true := by
            obtain ⟨A9, c9, rfl⟩ := hr3.form
            exact ⟨rfl, rfl⟩
          have hS4 := hS3.set F 0 v3 (.inl rfl)
          have hFy4 : (y3.setCell ⟨F, 0, none⟩ v3).heap[F]? = some (.cells #[v3, .int .i64 (su : Int)] 77 (0, 0)) := heap_setCell_same _ _ _ _ _ _ hFy3
          have hr4 : Rw 1 encB (y3.setCell ⟨F, 0, none⟩ v3) v3 (bs ++ b.take got) := rw_setF hFy3 hr3 0 v3
          refine held_did 8 rfl (by kernel_rfl) (by kernel_rfl) (y3.setCell ⟨F, 0, none⟩ v3) ?he ?hS5 ?_
          case he => exact exec_store_cell 22 _ _ rfl F 0 (by kernel_rfl) v3 (by kernel_rfl) (.slice A bs.length c) (by rw [cell_of_row _ _ _ _ _ _ hFy3]; rfl) (frozen_of_row _ _ _ _ _ hFy3) (fun w => by kernel_rfl) hone9.1 hone9.2
          case hS5 => exact hS4
          simp only [Act.put, fl1, fl2, fl3, fl4, fl5, fl6]
          refine wpAnyH_done (by kernel_rfl) ?_ _
          exact ⟨rfl, (.slice A2 bs.length bs.length, v3), by kernel_rfl, hS4, hFy4, hr4⟩
        rintro ⟨v2, v3⟩ W6 ⟨hk6, hF6, hr6⟩
        refine ⟨rfl, ?_⟩
        rename_i hK
        refine hK _ _ ?_
        clear hK
        simp only [Act.put, fl1, fl2, fl3]
        have hDW6 : Hid (DiskI W6 D mb (d.used b.length)) := hDW5.out.kpF hFW5.out hk6
        have hkW6 : Hid (KpS (TD D mb) w W6) := kp_join hkW5.out hk6 hFle.out
        have hFW6 : Hid (W6.heap[F]? = some (.cells #[v3, .int .i64 (su : Int)] 77 (0, 0))) := hF6
        have hrW6 : Hid (Rw 1 encB W6 v3 (bs ++ b.take got)) := hr6
        clear hk6 hF6 hr6 hDW5 hkW5 hFW5 hyW5 hrW5 htkH hTAH hFle
        go_upto_region 12 with fail
        refine wp_normalG ?_
        refine wp_region_held_drew (S := fun w' => KpS (TD D mb) W6 w' ∧ w'.cell? ⟨D, 0, none⟩ = some (.map (some mb))) (by kernel_rfl) ⟨KpS.of (Below.refl _ _).drew, by rw [(Below.refl W6.heap.size W6).drew.cell (by exact (Array.getElem?_eq_some_iff.1 hDW6.out.row).1)]; exact hDW6.out.c0⟩ (fun hS => ?_)
        change wpAnyH _ _ _ _ _ 7 (Array.replicate 7 false) _ _
        have hDy : DiskI W6.drew D mb (d.used b.length) := hDW6.out.below (Below.refl _ _).drew
        have hvy : Rw 1 encB W6.drew v3 (bs ++ b.take got) := hrW6.out.below (Below.refl _ _).drew
        generalize hx : W6.drew = y at hS hDy hvy
        clear hx
        refine held_take 0 rfl (by kernel_rfl) (by kernel_rfl) (by kernel_rfl) (.pointer (some ⟨D, 0, none⟩)) (fun _ _ _ h => nomatch h.1) (by kernel_rfl) (fun w' h => (by kernel_rfl)) hS ?_
        simp only [Act.put, fl1, fl2, fl3, fl4, fl5, fl6]
        refine held_take 1 rfl (by kernel_rfl) (by kernel_rfl) (by kernel_rfl) (.pointer (some ⟨D, 0, none⟩)) (fun _ _ _ h => nomatch h.1) (by kernel_rfl) (fun w' h => (by kernel_rfl)) hS ?_
        simp only [Act.put, fl1, fl2, fl3, fl4, fl5, fl6]
        refine held_take 2 rfl (by kernel_rfl) (by kernel_rfl) (by kernel_rfl) (.pointer (some ⟨D, 0, none⟩)) (fun _ _ _ h => nomatch h.1) (by kernel_rfl) (fun w' h => (by kernel_rfl)) hS ?_
        simp only [Act.put, fl1, fl2, fl3, fl4, fl5, fl6]
        refine held_take 3 rfl (by kernel_rfl) (by kernel_rfl) (by kernel_rfl) (.map (some mb)) (fun _ _ _ h => nomatch h.1) (by kernel_rfl) (fun w' h => (exec_load_cell 64 w' _ rfl ⟨D, 0, none⟩ (by kernel_rfl) _ h.2 (fun _ => by kernel_rfl))) hS ?_
        simp only [Act.put, fl1, fl2, fl3, fl4, fl5, fl6]
        refine held_take 4 rfl (by kernel_rfl) (by kernel_rfl) (by kernel_rfl) (.string s) (fun _ _ _ h => nomatch h.1) (by kernel_rfl) (fun w' h => (by kernel_rfl)) hS ?_
        simp only [Act.put, fl1, fl2, fl3, fl4, fl5, fl6]
        refine held_take 5 rfl (by kernel_rfl) (by kernel_rfl) (by kernel_rfl) (.agg (#[v3, .int .i64 (su : Int)])) (fun _ _ _ h => nomatch h.1) (by kernel_rfl) (fun w' h => (exec_load_row 77 w' _ rfl F (by kernel_rfl) 77 (#[v3, .int .i64 (su : Int)]) (0, 0) _ (h.1.box hDW6.out hFW6.out (by decide)) Try.underlying77 rfl (by kernel_rfl))) hS ?_
        simp only [Act.put, fl1, fl2, fl3, fl4, fl5, fl6]
        refine held_act 6 rfl (by kernel_rfl) (by kernel_rfl) (R := fun w' => DiskI w' D mb { d.used b.length with L := DS.putL (d.used b.length).L ⟨s, bs ++ b.take got, su⟩ } ∧ KpS (TD D mb) y w') ?he ?_
        case he => exact exec_mapset _ _ _ rfl hDy ⟨s, bs ++ b.take got, su⟩ v3 hvy ⟨by show su ≤ (bs ++ b.take got).length; rw [List.length_append]; have := hfiH.out.1; omega, by show (bs ++ b.take got).length ≤ _; rw [List.length_append, List.length_take]; have := hbl9.out; omega⟩ (by kernel_rfl) (by kernel_rfl) (by kernel_rfl)
        rintro y2 ⟨hD2, hK2⟩
        have hD3 : DiskI y2 D mb d1 := by
          have h8 := hspF.out
          injection h8 with h8 h9
          rw [← h8, ← used_L d b.length]; exact hD2
        have hF : Hid (DiskI y2 D mb d1 ∧ KpS (TD D mb) w y2) := And.intro hD3 (hkW6.out.trans (hS.1.trans hK2))
        refine ⟨⟨hS.1.trans hK2, hD2.c0⟩, ?_⟩
        simp only [Act.put, fl1, fl2, fl3, fl4, fl5, fl6]
        have hee : Hid ((if ok then 0 else 20) = ee) := by
          have h8 := hspF.out
          injection h8 with h8 h9
        clear hS hDy hvy hD2 hK2 hD3 hDW6 hkW6 hFW6 hrW6 hspF hbl9 hfS hfiH hn'
        refine wpAnyH_done (by kernel_rfl) ?_ _
        refine ⟨rfl, ?_⟩
        rename_i hK
        refine hK _ _ ?_
        clear hK
        cases ok with
        | true =>
          have e9 : ee = 0 := hee.out.symm
          subst e9
          clear hee
          go_wp2_with fail
          go_ret
          exact ⟨rfl, hF.out.1, hF.out.2⟩
        | false =>
          have e9 : ee = 20 := hee.out.symm
          subst e9
          clear hee
          go_wp2_with fail
          go_ret
          exact ⟨rfl, hF.out.1, hF.out.2⟩
end Go.Proofs.Ytdkaaieenbmihaa
namespace Go
open Go.MapKept (Stamped IsKey stamped_modify findNow_spec run_checkKey run_findKey run_keyThatStays heap_set)
theorem born_modify (es : Array MapEntry) (j : Nat) (f : MapEntry → MapEntry) (hf : ∀ e, (f e).born = e.born) : (es.modify j f).toList.map (·.born) = es.toList.map (·.born) := by
  apply List.ext_getElem?
  intro i
  simp only [List.getElem?_map, Array.getElem?_toList, Array.getElem?_modify]
  by_cases h : j = i
  · subst h; cases es[j]? <;> simp [hf]
  · simp [h]
/-- A store at a name that is there. -/
theorem run_putE {P : Program} {w : World} {mb clock : Nat} {es : Array MapEntry} {L : List (ByteArray × Value)} (h : DE w mb es clock L) {t k e : TypeId} (ht : P.underlying t = some (.map k e)) (hk : P.underlying k = some .string) (s : ByteArray) (v u : Value) (hl : lk L s = some u) :
    ∃ es' w', (Instr.mapUpdate t (.map (some mb)) (.string s) v).run P w = .ok () w' ∧ DE w' mb es' clock (pt L s v) ∧ es'.toList.map (·.born) = es.toList.map (·.born) ∧ Only mb w w' := by
  rcases h.find s with ⟨h1, h2, h3⟩ | ⟨j, x, u', h1, hj, hx, hu, hL, h2⟩
  · rw [h2] at hl; cases hl
  · have hkey : ∀ e', es[j]? = some e' → ({ e' with key := .string s, val := v } : MapEntry).key = e'.key := fun e' he' => by rw [hj] at he'; cases he'; exact hx.symm
    refine ⟨es.modify j fun e => { e with key := .string s, val := v }, { w with heap := w.heap.setIfInBounds mb (.map (es.modify j fun e => { e with key := .string s, val := v }) clock) }, ?_, ⟨(heap_set h.heap).1, stamped_modify h.st _ _ (fun _ _ => rfl) (fun e' _ he' => hkey e' he'), ?_⟩, born_modify _ _ _ (fun _ => rfl), only_set _ _ _⟩
    · simp [Instr.mapUpdate, run_underlying ht, MapKept.run_getObj_map h.heap, run_checkKey (d := .string) hk (k := .string s) trivial, run_findKey hk h1, hj, hx, run_keyThatStays (d := .string) (k := .string s) trivial, MapKept.run_setObj_map _ h.heap, Result.andThen]
    · have hp : pt L s v = L.map (fun p => if p.1 = s then (s, v) else p) := by simp [pt, h2]
      rw [hp]
      apply List.ext_getElem?
      intro i
      simp only [List.getElem?_map, Array.getElem?_toList, Array.getElem?_modify]
      have hg := h.get i
      rw [Array.getElem?_toList] at hg
      by_cases e : j = i
      · subst e
        rw [hj, hL]; simp
      · rw [if_neg e]
        cases hL2 : L[i]? with
        | none => rw [hL2] at hg; simpa using hg
        | some p =>
          have hne : ¬ p.1 = s := fun e2 => by
            have hn := h.nodup
            have a1 : (L.map (·.1))[j]? = some s := by simp [hL]
            have a2 : (L.map (·.1))[i]? = some s := by simp [hL2, e2]
            exact e ((List.getElem?_inj (List.getElem?_eq_some_iff.1 a1).1 hn).1 (a1.trans a2.symm))
          rw [hL2] at hg
          simp only [Option.map_some, if_neg hne]
          simpa using hg
end Go
namespace Go.Proofs.Ytdkaaieenbmihaa
open Go.RowKit
/-- The map and its files' bytes, at whatever entries. -/
structure MI (w : World) (D mb since : Nat) (left : Int) (off : Bool) (es : Array MapEntry) (L : List (FE × Value)) : Prop where
  row : w.heap[D]? = some (.cells #[.map (some mb), .int .i64 left, .bool off] 66 (0, 0))
  de : DE w mb es since (L.map vv)
  rw : ∀ p ∈ L, Rw 1 encB w p.2 p.1.bs
theorem MI.below {w w' : World} {D mb since : Nat} {left : Int} {off : Bool} {es : Array MapEntry} {L : List (FE × Value)} (h : MI w D mb since left off es L) (hb : Below w.heap.size w w') : MI w' D mb since left off es L :=
  ⟨heap_kept h.row hb, ⟨heap_kept h.de.heap hb, h.de.st, h.de.prs⟩, fun p hp => (h.rw p hp).below hb⟩
theorem rw_kpO {w w' : World} {R : Nat} {m : Option Nat} {s c : Nat} {seen : Array Nat} (hR : w.heap[R]? = some (.mapIter m s seen c)) (hk : KpS (fun q => q = R) w w') {v : Value} {l : List Nat} (hr : Rw 1 encB w v l) : Rw 1 encB w' v l := by
  refine hr.kept hk.size (fun hl q hq => hk.block q (hr.lt hl q hq) (fun e => ?_))
  obtain ⟨A', c', rfl⟩ := hr.form
  obtain ⟨g, o, rfl, _, _, hel⟩ := hr.elem 0 (List.length_pos_iff.2 hl)
  have hg : g = q := by
    simp [Value.ownBlock] at hq; exact hq
  subst hg
  have hc := hel 0 (.int .u8 ((l.getD 0 default : Nat) : Int)) rfl
  subst e
  simp [World.cell?, hR] at hc
theorem MI.kR {w w' : World} {D mb since : Nat} {left : Int} {off : Bool} {es : Array MapEntry} {L : List (FE × Value)} (h : MI w D mb since left off es L) {R : Nat} {m : Option Nat} {s c : Nat} {seen : Array Nat} (hR : w.heap[R]? = some (.mapIter m s seen c)) (hk : KpS (fun q => q = R) w w') : MI w' D mb since left off es L :=
  ⟨hk.heap h.row (fun e => by have := h.row; rw [e, hR] at this; cases this), ⟨hk.heap h.de.heap (fun e => by have := h.de.heap; rw [e, hR] at this; cases this), h.de.st, h.de.prs⟩, fun p hp => rw_kpO hR hk (h.rw p hp)⟩
theorem kp_setBlock {w w1 : World} (h1 : w1 = w ∨ w1 = w.drew) (R : Nat) (o : Obj) (hR : R < w.heap.size) : KpS (fun q => q = R) w (Go.ChangeMaps.setBlock w1 R o) ∧ (Go.ChangeMaps.setBlock w1 R o).heap[R]? = some o := by
  have h : ∀ w : World, R < w.heap.size → KpS (fun q => q = R) w (Go.ChangeMaps.setBlock w R o) ∧ (Go.ChangeMaps.setBlock w R o).heap[R]? = some o := fun w hR =>
    ⟨⟨rfl, rfl, rfl, by simp [Go.ChangeMaps.setBlock], fun k hk hn => by simp [Go.ChangeMaps.setBlock, Array.getElem?_setIfInBounds, show ¬ R = k from fun e => hn e.symm]⟩, by simp [Go.ChangeMaps.setBlock, Array.getElem?_setIfInBounds, hR]⟩
  rcases h1 with rfl | rfl
  · exact h _ hR
  · obtain ⟨a, b⟩ := h w.drew hR
    exact ⟨(KpS.of (Below.refl w.heap.size w).drew).trans a, b⟩
/-- How far the crash is. -/
structure CrI (w0 : World) (D mb R since : Nat) (keep : Int) (F0 : List FE) (Bn : List Nat) (seen : Array Nat) (w : World) : Prop where
  ex : ∃ es L, MI w D mb since (-1) false es L ∧ es.toList.map (·.born) = Bn ∧ L.map (·.1) = (Bn.zip F0).map fun p => if seen.contains p.1 then DS.crash1 keep p.2 else p.2
  it : w.heap[R]? = some (.mapIter (some mb) since seen since)
  kp : KpS (TD D mb) w0 w
/-- One that is left, by its place. -/
theorem CrI.at {w0 w : World} {D mb R since : Nat} {keep : Int} {F0 : List FE} {Bn : List Nat} {seen : Array Nat} {es : Array MapEntry} {L : List (FE × Value)} (hm : MI w D mb since (-1) false es L) (hb : es.toList.map (·.born) = Bn) (hL : L.map (·.1) = (Bn.zip F0).map fun p => if seen.contains p.1 then DS.crash1 keep p.2 else p.2) (hlen : Bn.length = F0.length)
    {e : MapEntry} (he : e ∈ (leftOf es seen).toList) : ∃ (i : Nat) (f : FE) (v : Value), es.toList[i]? = some e ∧ seen.contains e.born = false ∧ Bn[i]? = some e.born ∧ F0[i]? = some f ∧ L[i]? = some (f, v) ∧ e.key = .string f.nm ∧ e.val = .agg #[v, .int .i64 (f.sure : Int)] := by
  obtain ⟨hm1, hs⟩ := mem_left he
  obtain ⟨i, hi, hie⟩ := List.getElem_of_mem hm1
  have h1 : es.toList[i]? = some e := by rw [List.getElem?_eq_getElem hi, hie]
  have h2 : Bn[i]? = some e.born := by rw [← hb, List.getElem?_map, h1]; rfl
  have hiB : i < Bn.length := (List.getElem?_eq_some_iff.1 h2).1
  have hiF : i < F0.length := by omega
  have h3 : F0[i]? = some F0[i] := List.getElem?_eq_getElem hiF
  have hz : (L.map (·.1))[i]? = some F0[i] := by
    rw [hL, List.getElem?_map, (List.getElem?_zip_eq_some (z := (e.born, F0[i]))).2 ⟨h2, h3⟩]
    simp only [Option.map_some, hs, Bool.false_eq_true, if_false]
  rw [List.getElem?_map] at hz
  cases hLi : L[i]? with
  | none => rw [hLi] at hz; cases hz
  | some p =>
    rw [hLi] at hz
    have hp : p.1 = F0[i] := by simpa using hz
    have hg := hm.de.get i
    rw [h1, List.getElem?_map, hLi] at hg
    simp only [Option.map_some, Option.some.injEq, Prod.mk.injEq] at hg
    refine ⟨i, F0[i], p.2, h1, hs, h2, h3, by rw [← hp]; exact hLi, by rw [hg.1, ← hp]; rfl, by rw [hg.2, ← hp]; rfl⟩
/-- The files behind a round. -/
theorem zip_push {keep : Int} {F0 : List FE} {Bn : List Nat} {seen : Array Nat} (hnB : Bn.Nodup) {i b : Nat} {f : FE} (hB : Bn[i]? = some b) (hF : F0[i]? = some f) :
    ((Bn.zip F0).map fun p => if (seen.push b).contains p.1 then DS.crash1 keep p.2 else p.2) = ((Bn.zip F0).map fun p => if seen.contains p.1 then DS.crash1 keep p.2 else p.2).set i (DS.crash1 keep f) := by
  apply List.ext_getElem?
  intro j
  rw [List.getElem?_set]
  have hz : (Bn.zip F0)[i]? = some (b, f) := List.getElem?_zip_eq_some.2 ⟨hB, hF⟩
  by_cases e : i = j
  · subst e
    rw [if_pos rfl, if_pos (by rw [List.length_map]; exact (List.getElem?_eq_some_iff.1 hz).1), List.getElem?_map, hz]
    simp
  · rw [if_neg e, List.getElem?_map, List.getElem?_map]
    cases hj : (Bn.zip F0)[j]? with
    | none => rfl
    | some p =>
      have hBj := (List.getElem?_zip_eq_some.1 (show (Bn.zip F0)[j]? = some (p.1, p.2) from hj)).1
      have hne : p.1 ≠ b := fun e2 => e ((List.getElem?_inj (List.getElem?_eq_some_iff.1 hB).1 hnB).1 (by rw [hB, hBj, e2]))
      simp only [Option.map_some, contains_push]
      rw [show (p.1 == b) = false from by simpa using hne, Bool.or_false]
theorem put_set {L : List FE} (hn : (L.map (·.nm)).Nodup) {i : Nat} {f g : FE} (hL : L[i]? = some f) (hg : g.nm = f.nm) : DS.putL L g = L.set i g := by
  unfold DS.putL
  have hf : (L.find? fun x => decide (x.nm = g.nm)).isSome := by
    rw [List.find?_isSome]
    exact ⟨f, List.mem_of_getElem? hL, by simp [hg]⟩
  rw [if_pos hf]
  apply List.ext_getElem?
  intro j
  rw [List.getElem?_map, List.getElem?_set]
  by_cases e : i = j
  · subst e
    rw [if_pos rfl, if_pos (List.getElem?_eq_some_iff.1 hL).1, hL]
    simp [hg]
  · rw [if_neg e]
    cases hj : L[j]? with
    | none => rfl
    | some x =>
      have hne : ¬ x.nm = g.nm := fun e2 => by
        have a1 : (L.map (·.nm))[i]? = some f.nm := by rw [List.getElem?_map, hL]; rfl
        have a2 : (L.map (·.nm))[j]? = some f.nm := by rw [List.getElem?_map, hj, ← hg, ← e2]; rfl
        exact e ((List.getElem?_inj (List.getElem?_eq_some_iff.1 a1).1 hn).1 (a1.trans a2.symm))
      simp [hne]
/-- Behind the store of a round. -/
theorem CrI.step {w0 w w' : World} {D mb R since : Nat} {keep : Int} {F0 : List FE} {Bn : List Nat} {seen : Array Nat} {es es' : Array MapEntry} {L : List (FE × Value)} (hm : MI w D mb since (-1) false es L) (hb : es.toList.map (·.born) = Bn) (hL : L.map (·.1) = (Bn.zip F0).map fun p => if seen.contains p.1 then DS.crash1 keep p.2 else p.2)
    {i b : Nat} {f : FE} {v v' : Value} (hB : Bn[i]? = some b) (hF : F0[i]? = some f) (hLi : L[i]? = some (f, v)) (hv : Rw 1 encB w' v' (DS.crash1 keep f).bs) (hde : DE w' mb es' since (pt (L.map vv) f.nm (vv (DS.crash1 keep f, v')).2)) (hb' : es'.toList.map (·.born) = es.toList.map (·.born)) (ho : KpS (TD D mb) w w') (hrow : w'.heap[D]? = w.heap[D]?)
    (hit : w'.heap[R]? = some (.mapIter (some mb) since (seen.push b) since)) (hk : KpS (TD D mb) w0 w) (hrw : ∀ p ∈ L, Rw 1 encB w' p.2 p.1.bs) : CrI w0 D mb R since keep F0 Bn (seen.push b) w' := by
  have hnB : Bn.Nodup := by rw [← hb]; exact hm.de.st.2.1
  have hnm : (DS.crash1 keep f).nm = f.nm := rfl
  have hnL : ((L.map (·.1)).map (·.nm)).Nodup := by
    have h8 := hm.de.nodup
    rw [List.map_map] at h8 ⊢
    exact h8
  rw [← hnm, show (DS.crash1 keep f).nm = ((DS.crash1 keep f, v') : FE × Value).1.nm from rfl, pt_vv] at hde
  refine ⟨⟨es', put2 L (DS.crash1 keep f, v'), ⟨hrow.trans hm.row, hde, fun p hp => ?_⟩, hb'.trans hb, ?_⟩, hit, hk.trans ho⟩
  · rcases mem_put2 hp with hp | rfl
    · exact hrw p hp
    · exact hv
  · rw [put2_fst, put_set hnL (i := i) (f := f) (by rw [List.getElem?_map, hLi]; rfl) hnm, hL, zip_push hnB hB hF]
theorem CrI.done {w0 w : World} {D mb R since : Nat} {keep : Int} {F0 : List FE} {Bn : List Nat} {seen : Array Nat} (h : CrI w0 D mb R since keep F0 Bn seen w) (hlen : Bn.length = F0.length) (hfine : ∀ f ∈ F0, f.sure ≤ f.bs.length ∧ f.bs.length ≤ 1048576) (hall : ∀ b ∈ Bn, seen.contains b = true) : DiskI w D mb ⟨F0.map (DS.crash1 keep), -1, false⟩ := by
  obtain ⟨es, L, hm, hb, hL⟩ := h.ex
  have hz : (Bn.zip F0).map (fun p => if seen.contains p.1 then DS.crash1 keep p.2 else p.2) = F0.map (DS.crash1 keep) := by
    have : (Bn.zip F0).map (fun p => if seen.contains p.1 then DS.crash1 keep p.2 else p.2) = (Bn.zip F0).map (fun p => DS.crash1 keep p.2) := List.map_congr_left fun p hp => by rw [if_pos (hall p.1 (List.of_mem_zip hp).1)]
    rw [this, show (fun p : Nat × FE => DS.crash1 keep p.2) = DS.crash1 keep ∘ Prod.snd from rfl, ← List.map_map, List.map_snd_zip (by omega)]
  refine ⟨hm.row, ⟨L, ⟨es, since, hm.de⟩, by rw [hL, hz], hm.rw⟩, fun g hg => ?_, Int.le_refl _, by show (-1 : Int) < _; decide⟩
  obtain ⟨f, hf, rfl⟩ := List.mem_map.1 hg
  have h8 := hfine f hf
  unfold DS.crash1
  simp only [List.length_take]
  omega
end Go.Proofs.Ytdkaaieenbmihaa
