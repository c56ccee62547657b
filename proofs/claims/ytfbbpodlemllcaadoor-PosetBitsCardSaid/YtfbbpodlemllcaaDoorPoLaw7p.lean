/-
  The bits of a mask, rising: plain law.
-/
import Derived.Test.YtfbbpodlemllcaaDoorPoFixed
namespace Go.Proofs.YtfbbpodlemllcaaDoor
open Go.RowKit Go.Shelf
set_option linter.unusedVariables false
set_option linter.unusedSimpArgs false
def nextAt (l : List Nat) : Nat := (l.getLast?.map (· + 1)).getD 0
theorem nextAt_nil : nextAt [] = 0 := rfl
theorem nextAt_snoc (l : List Nat) (x : Nat) : nextAt (l ++ [x]) = x + 1 := by simp [nextAt]
def CondAt (m a x : Nat) : Prop := a ≤ x ∧ ∀ j, a ≤ j → j < x → m.testBit j = false
def Good (m : Nat) (l : List Nat) : Prop := ∀ p x q, l = p ++ x :: q → CondAt m (nextAt p) x
theorem good_nil (m : Nat) : Good m [] := fun p x q h => by simp at h
theorem good_snoc {m : Nat} {l : List Nat} {x : Nat} : Good m (l ++ [x]) ↔ Good m l ∧ CondAt m (nextAt l) x := by
  constructor
  · intro h
    refine ⟨fun p y q e => h p y (q ++ [x]) (by rw [e]; simp), h l x [] rfl⟩
  · rintro ⟨h, hx⟩ p y q e
    rcases List.eq_nil_or_concat q with rfl | ⟨q', z, rfl⟩
    · obtain ⟨rfl, e2⟩ := List.append_inj' e rfl
      cases e2; exact hx
    · have e' : l ++ [x] = (p ++ y :: q') ++ [z] := by rw [e]; simp
      obtain ⟨rfl, _⟩ := List.append_inj' e' rfl
      exact h p y q' rfl
theorem bl_mem {m j : Nat} : j ∈ bl m ↔ j < 64 ∧ m.testBit j = true := by simp [bl]
theorem bl_sorted (m : Nat) : (bl m).Pairwise (· < ·) := List.Pairwise.sublist List.filter_sublist List.pairwise_lt_range
theorem nextAt_le {p : List Nat} {x : Nat} (h : ∀ y ∈ p, y < x) : nextAt p ≤ x := by
  rcases List.eq_nil_or_concat p with rfl | ⟨q, z, rfl⟩
  · exact Nat.zero_le _
  · have := h z (by simp)
    rw [List.concat_eq_append, nextAt_snoc]; omega
theorem lt_nextAt {p : List Nat} (h : p.Pairwise (· < ·)) : ∀ y ∈ p, y < nextAt p := by
  rcases List.eq_nil_or_concat p with rfl | ⟨q, z, rfl⟩
  · intro y hy; cases hy
  · rw [List.concat_eq_append] at h ⊢
    intro y hy
    rw [nextAt_snoc]
    rcases List.mem_append.1 hy with hy | hy
    · have := (List.pairwise_append.1 h).2.2 y hy z (by simp); omega
    · rw [List.mem_singleton.1 hy]; omega
theorem good_prefix {m : Nat} {l : List Nat} (h : l <+: bl m) : Good m l := by
  rintro p x q rfl
  obtain ⟨r, hr⟩ := h
  have hs := bl_sorted m
  rw [← hr, List.append_assoc] at hs
  obtain ⟨h1, h2, h3⟩ := List.pairwise_append.1 hs
  refine ⟨nextAt_le fun y hy => h3 y hy x (by simp), fun j hj hjx => ?_⟩
  cases hb : m.testBit j with
  | false => rfl
  | true =>
    exfalso
    have hx64 : x < 64 := (bl_mem.1 (by rw [← hr]; simp : x ∈ bl m)).1
    have hm : j ∈ bl m := bl_mem.2 ⟨by omega, hb⟩
    rw [← hr, List.append_assoc] at hm
    rcases List.mem_append.1 hm with hm | hm
    · have := lt_nextAt h1 j hm; omega
    · rw [List.cons_append] at h2 hm
      rcases List.mem_cons.1 hm with rfl | hm
      · omega
      · have := (List.pairwise_cons.1 h2).1 j hm; omega
theorem done_rest {m j : Nat} {l : List Nat} (h : l = bl m) (hj : nextAt l ≤ j) (h64 : j < 64) : m.testBit j = false := by
  cases hb : m.testBit j with
  | false => rfl
  | true =>
    have hm : j ∈ l := by rw [h]; exact bl_mem.2 ⟨h64, hb⟩
    have := lt_nextAt (by rw [h]; exact bl_sorted m) j hm
    omega
theorem nextAt_64 {m : Nat} {l : List Nat} (h : l = bl m) : nextAt l ≤ 64 := nextAt_le fun y hy => by rw [h] at hy; exact (bl_mem.1 hy).1
end Go.Proofs.YtfbbpodlemllcaaDoor
