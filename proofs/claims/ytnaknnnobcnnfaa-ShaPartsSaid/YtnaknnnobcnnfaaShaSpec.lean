/-
  SHA-256 in plain Lean: a message block by block, its padding; where it is cut does not matter.
-/
import Derived.Test.YtnaknnnobcnnfaaShaBlock
namespace Go.Proofs.Ytnaknnnobcnnfaa.Sha
set_option linter.unusedVariables false
theorem w1_congr {B B' : Nat → Nat} (h : ∀ j, j < 64 → B j = B' j) : ∀ i, i ≤ 16 → w1 B i = w1 B' i
  | 0, _ => rfl
  | i + 1, hi => by
    rw [w1, w1, w1_congr h i (by omega)]
    unfold word
    rw [h (4 * i) (by omega), h (4 * i + 1) (by omega), h (4 * i + 2) (by omega), h (4 * i + 3) (by omega)]
theorem w2_congr {B B' : Nat → Nat} (h : ∀ j, j < 64 → B j = B' j) : ∀ k, w2 B k = w2 B' k
  | 0 => w1_congr h 16 (by omega)
  | k + 1 => by rw [w2, w2, w2_congr h k]
theorem blk_congr {B B' : Nat → Nat} (h : ∀ j, j < 64 → B j = B' j) (s : List Nat) : blk s B = blk s B' := by
  unfold blk; rw [w2_congr h]
/-- The state behind so many blocks of a message. -/
def st (s l : List Nat) : Nat → List Nat
  | 0 => s
  | j + 1 => blk (st s l j) (fun t => l.getD (64 * j + t) 0)
theorem st_congr (s : List Nat) {l l' : List Nat} : ∀ j, (∀ t, t < 64 * j → l.getD t 0 = l'.getD t 0) → st s l j = st s l' j
  | 0, _ => rfl
  | j + 1, h => by
    rw [st, st, st_congr s j (fun t ht => h t (by omega))]
    exact blk_congr (fun t ht => h _ (by omega)) _
theorem getD_drop (l : List Nat) (i t : Nat) : (l.drop i).getD t 0 = l.getD (i + t) 0 := by
  rw [List.getD_eq_getElem?_getD, List.getElem?_drop, List.getD_eq_getElem?_getD]
/-- Block by block, and then on. -/
theorem st_add (s l : List Nat) (i : Nat) : ∀ j, st s l (i + j) = st (st s l i) (l.drop (64 * i)) j
  | 0 => rfl
  | j + 1 => by
    rw [← Nat.add_assoc, st, st, st_add s l i j]
    exact blk_congr (fun t _ => by rw [getD_drop]; congr 1; omega) _
theorem st_append (s a b : List Nat) (i : Nat) (h : 64 * i ≤ a.length) : st s (a ++ b) i = st s a i :=
  st_congr s i (fun t ht => by rw [List.getD_eq_getElem?_getD, List.getElem?_append_left (by omega), List.getD_eq_getElem?_getD])
/-- A length's eight bytes, in bits. -/
def lenB (n : Nat) : List Nat := (List.range 8).map fun i => n * 8 % 18446744073709551616 / 2 ^ (56 - 8 * i) % 256
/-- What stands behind a message of so many bytes. -/
def tailB (r n : Nat) : List Nat := 128 :: (List.replicate ((119 - r % 64) % 64) 0 ++ lenB n)
def pad (l : List Nat) (n : Nat) : List Nat := l ++ tailB l.length n
theorem tailB_mod (r n : Nat) : tailB (r % 64) n = tailB r n := by unfold tailB; rw [Nat.mod_mod]
theorem tailB_len (r n : Nat) : (tailB r n).length = 1 + (119 - r % 64) % 64 + 8 := by simp [tailB, lenB]; omega
theorem pad_len (l : List Nat) (n : Nat) : (pad l n).length % 64 = 0 := by
  unfold pad; rw [List.length_append, tailB_len]; omega
/-- The sum of a message told at once is that of its rest, from the state behind its whole blocks. -/
theorem sum_cut (s l : List Nat) (n : Nat) : st s (pad l n) ((pad l n).length / 64) = st (st s l (l.length / 64)) (pad (l.drop (64 * (l.length / 64))) n) ((pad (l.drop (64 * (l.length / 64))) n).length / 64) := by
  have hd : (l.drop (64 * (l.length / 64))).length % 64 = l.length % 64 := by rw [List.length_drop]; omega
  have ht : tailB (l.drop (64 * (l.length / 64))).length n = tailB l.length n := by rw [← tailB_mod, hd, tailB_mod]
  have hp : pad (l.drop (64 * (l.length / 64))) n = (pad l n).drop (64 * (l.length / 64)) := by
    unfold pad; rw [ht, List.drop_append_of_le_length (by omega)]
  have hl : (pad l n).length / 64 = l.length / 64 + (pad (l.drop (64 * (l.length / 64))) n).length / 64 := by
    rw [hp, List.length_drop]; have : 64 * (l.length / 64) ≤ (pad l n).length := by unfold pad; rw [List.length_append]; omega
    omega
  rw [hl, st_add, hp, pad, st_append s l _ _ (by omega)]
/-- What is written goes on from what was: the state and the rest. -/
theorem write_on (s a b : List Nat) : st (st s a (a.length / 64)) (a.drop (64 * (a.length / 64)) ++ b) ((a.drop (64 * (a.length / 64)) ++ b).length / 64) = st s (a ++ b) ((a ++ b).length / 64) := by
  have hd : a.drop (64 * (a.length / 64)) ++ b = (a ++ b).drop (64 * (a.length / 64)) := by rw [List.drop_append_of_le_length (by omega)]
  have hl : (a ++ b).length / 64 = a.length / 64 + ((a ++ b).drop (64 * (a.length / 64))).length / 64 := by
    rw [List.length_drop]; have : 64 * (a.length / 64) ≤ (a ++ b).length := by rw [List.length_append]; omega
    omega
  rw [hl, st_add, hd, st_append s a b _ (by omega)]
theorem rest_on (a b : List Nat) : (a.drop (64 * (a.length / 64)) ++ b).drop (64 * ((a.drop (64 * (a.length / 64)) ++ b).length / 64)) = (a ++ b).drop (64 * ((a ++ b).length / 64)) := by
  have hd : a.drop (64 * (a.length / 64)) ++ b = (a ++ b).drop (64 * (a.length / 64)) := by rw [List.drop_append_of_le_length (by omega)]
  rw [hd, List.drop_drop, List.length_drop]
  congr 1
  have : 64 * (a.length / 64) ≤ (a ++ b).length := by rw [List.length_append]; omega
  omega
/-- A state's bytes. -/
def outB (s : List Nat) : List Nat := (List.range 32).map fun i => s.getD (i / 4) 0 / 2 ^ (24 - 8 * (i % 4)) % 256
/-- The SHA-256. -/
def sumB (l : List Nat) : List Nat := outB (st IV (pad l l.length) ((pad l l.length).length / 64))
end Go.Proofs.Ytnaknnnobcnnfaa.Sha
