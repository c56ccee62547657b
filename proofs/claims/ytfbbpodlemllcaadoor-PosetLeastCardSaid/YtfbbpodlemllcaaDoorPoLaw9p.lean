/-
  A label is above only if there is a way of pairs: plain law.
-/
import Derived.Test.YtfbbpodlemllcaaDoorPoLaw8p
namespace Go.Proofs.YtfbbpodlemllcaaDoor
open Go.RowKit Go.Shelf
set_option linter.unusedVariables false
set_option linter.unusedSimpArgs false
/-- How many are still to be seen. -/
def holes (S : List Bool) : Nat := (S.filter fun b => !b).length
theorem holes_set : ∀ (S : List Bool) (i : Nat), i < S.length → S.getD i false = false → holes (S.set i true) + 1 = holes S
  | [], i, h, _ => by simp at h
  | b :: S, 0, _, h => by
    simp at h; subst h; simp [holes]
  | b :: S, i + 1, h, h2 => by
    have := holes_set S i (by simpa using h) (by simpa using h2)
    unfold holes at this ⊢
    rw [List.set_cons_succ, List.filter_cons, List.filter_cons]
    cases b <;> simp <;> omega
theorem holes_le (S : List Bool) : holes S ≤ S.length := List.length_filter_le _ _
theorem getD_set {S : List Bool} {i : Nat} (h : i < S.length) (j : Nat) : (S.set i true).getD j false = if j = i then true else S.getD j false := by
  by_cases hj : j = i
  · subst hj; rw [if_pos rfl]; simp [h]
  · rw [if_neg hj]; simp [List.getElem?_set, Ne.symm hj]
/-- What is seen is by a way. -/
def Sound (m : Nat) (pairs : List P2) (a : Nat) (S : List Bool) : Prop := S.length = m ∧ S.getD a false = true ∧ ∀ j, S.getD j false = true → Way (Edge pairs) a j
def ShutAt (S : List Bool) (p : P2) : Prop := S.getD p.1.toNat false = true → S.getD p.2.toNat false = true
structure SInv (m : Nat) (pairs : List P2) (a : Nat) (S0 S : List Bool) (z : Bool) (i : Nat) : Prop where
  sound : Sound m pairs a S
  no : z = false → S = S0 ∧ ∀ p ∈ pairs.take i, ShutAt S p
  yes : z = true → holes S < holes S0
theorem sinv_start {m a : Nat} {pairs : List P2} {S : List Bool} (h : Sound m pairs a S) : SInv m pairs a S S false 0 := ⟨h, fun _ => ⟨rfl, fun p hp => by simp at hp⟩, (fun h => by cases h)⟩
theorem sinv_keep {m a i : Nat} {pairs : List P2} {S0 S : List Bool} {z : Bool} {p : P2} (h : SInv m pairs a S0 S z i) (ht : pairs.take (i + 1) = pairs.take i ++ [p])
    (hs : ShutAt S p) : SInv m pairs a S0 S z (i + 1) :=
  ⟨h.sound, fun hz => ⟨(h.no hz).1, fun q hq => by
    rw [ht] at hq
    rcases List.mem_append.1 hq with hq | hq
    · exact (h.no hz).2 q hq
    · rw [List.mem_singleton.1 hq]; exact hs⟩, h.yes⟩
theorem sinv_set {m a i : Nat} {pairs : List P2} {S0 S : List Bool} {z : Bool} {x y : Nat} (h : SInv m pairs a S0 S z i) (hm : ((x : Int), (y : Int)) ∈ pairs) (hy : y < m)
    (h1 : S.getD x false = true) (h2 : S.getD y false = false) (j : Nat) : SInv m pairs a S0 (S.set y true) true j := by
  have hl : y < S.length := by rw [h.sound.1]; exact hy
  have hh := holes_set S y hl h2
  refine ⟨⟨by rw [List.length_set]; exact h.sound.1, by rw [getD_set hl]; split; rfl; exact h.sound.2.1, fun k hk => ?_⟩, (fun hz => by cases hz), fun _ => ?_⟩
  · rw [getD_set hl] at hk
    by_cases e : k = y
    · subst e; exact (h.sound.2.2 x h1).step hm
    · rw [if_neg e] at hk; exact h.sound.2.2 k hk
  · cases z with
    | false => rw [← (h.no rfl).1]; omega
    | true => have := h.yes rfl; omega
theorem shut_way {m a b : Nat} {pairs : List P2} {S : List Bool} (h : Sound m pairs a S) (hc : ∀ p ∈ pairs, ShutAt S p) : S.getD b false = true ↔ Way (Edge pairs) a b := by
  refine ⟨h.2.2 b, fun hw => ?_⟩
  induction hw with
  | refl => exact h.2.1
  | step _ e ih => simpa [ShutAt] using hc _ e (by simpa using ih)
theorem at_clos {n : Nat} {pairs : List P2} {a b : Nat} (ha : a < n) (hb : b < n) (ho : Ord (closS n pairs)) : atS (closS n pairs) a b ↔ Way (Edge pairs) a b := by
  constructor
  · intro h
    obtain ⟨i, j, hi, hj, _, _, _, hbt⟩ := at_parts h
    obtain rfl : a = i := by omega
    obtain rfl : b = j := by omega
    exact ((clos_bt ha).1 hbt).2
  · intro h
    exact at_mk (by rw [clos_len]; exact ha) (by rw [clos_len]; exact hb) ho ((clos_bt ha).2 ⟨hb, h⟩)
/-- The start. -/
def seen0 (m a : Nat) : List Bool := (List.replicate m false).set a true
theorem seen0_sound {m a : Nat} (pairs : List P2) (ha : a < m) : Sound m pairs a (seen0 m a) := by
  have hl : a < (List.replicate m false).length := by simpa using ha
  refine ⟨by simp [seen0], by unfold seen0; rw [getD_set hl, if_pos rfl], fun j hj => ?_⟩
  unfold seen0 at hj
  rw [getD_set hl] at hj
  by_cases e : j = a
  · subst e; exact .refl _
  · rw [if_neg e] at hj
    by_cases h2 : j < m
    · simp [h2] at hj
    · simp [h2] at hj
theorem build_ok {n : Int} {pairs : List P2} (h : (buildS n pairs).2 = 0) : Fit n pairs ∧ Ord (closS n.toNat pairs) ∧ (buildS n pairs).1 = closS n.toNat pairs := by
  unfold buildS at h ⊢
  cases h1 : tr (Fit n pairs) with
  | false => rw [h1, if_neg (by decide)] at h; cases h
  | true =>
    rw [h1, if_pos rfl] at h
    cases h2 : tr (Ord (closS n.toNat pairs)) with
    | false => rw [h2, if_neg (by decide)] at h; cases h
    | true => exact ⟨tr_iff.1 h1, tr_iff.1 h2, by rw [if_pos rfl, if_pos rfl]⟩
/-- The seen ones lie in a block of their own. -/
def RowT (g : Nat) (S : List Bool) (w : World) : Prop := w.heap[g]? = some (.cells (S.map Value.bool).toArray 4 (0, 0))
theorem RowT.cell {g : Nat} {S : List Bool} {w : World} (h : RowT g S w) {i : Nat} (hi : i < S.length) : w.cell? ⟨g, i, none⟩ = some (.bool (S.getD i false)) := by
  rw [cell_of_row _ _ _ _ _ _ h]; simp [hi]
theorem RowT.below {g : Nat} {S : List Bool} {w w' : World} (h : RowT g S w) (hb : Below w.heap.size w w') : RowT g S w' := heap_kept h hb
theorem RowT.frozen {g i : Nat} {S : List Bool} {w : World} (h : RowT g S w) : w.frozen? ⟨g, i, none⟩ = false := frozen_of_row _ _ _ _ _ h
theorem RowT.set {g : Nat} {S : List Bool} {w : World} (h : RowT g S w) (i : Nat) : RowT g (S.set i true) (w.setCell ⟨g, i, none⟩ (.bool true)) := by
  have := heap_setCell_same w g i _ _ (.bool true) h
  unfold RowT
  rw [this, List.map_set]; simp only [Array.set!, List.setIfInBounds_toArray]
theorem inf4 : (Tryd.prog.info? 4).map (fun i => (i.zero, i.size, i.bytes)) = some (some (.bool false), 1, 1) := by kernel_rfl
theorem made_false (n : Nat) : madeCells (Value.bool false).cells (n * 1) = ((List.replicate n false).map Value.bool).toArray := by
  have hc : (Value.bool false).cells = #[.bool false] := rfl
  rw [hc]
  refine Array.ext (by simp [madeCells]) fun i h1 h2 => ?_
  simp [madeCells, Nat.mod_one]
theorem un50 : Tryd.prog.underlying 50 = some (.slice (Tryd.prog.elem 50)) := by kernel_rfl
theorem sz50 (w : World) : (sizeOf (Tryd.prog.elem 50)).run Tryd.prog w = .ok 1 w := by kernel_rfl
end Go.Proofs.YtfbbpodlemllcaaDoor
