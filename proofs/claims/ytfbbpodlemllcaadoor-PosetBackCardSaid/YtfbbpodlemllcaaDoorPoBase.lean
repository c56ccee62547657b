/-
  Orders: masks, their bits; the lowest bit by the table; one bit asked, one set.
-/
import Derived.Test.YtfbbpodlemllcaaDoorLists
import Derived.WalkKit
import Derived.WalkLawsBesides
import Derived.Below
import Derived.BigCall
import Derived.BigQuiet
import Derived.Laws.StructEq
import Derived.Laws.Cover1
import Derived.Laws.BitsAllLaws
import Derived.KernelRfl
import Derived.Outline
import Derived.Deep.DeepCutAuto
namespace Go.Proofs.YtfbbpodlemllcaaDoor
open Go.RowKit
set_option linter.unusedVariables false
set_option linter.unusedSimpArgs false
set_option pp.maxSteps 50000
/-- The table of the lowest bit. -/
def tab : List Nat := [0, 1, 56, 2, 57, 49, 28, 3, 61, 58, 42, 50, 38, 29, 17, 4, 62, 47, 59, 36, 45, 43, 51, 22, 53, 39, 33, 30, 24, 18, 12, 5, 63, 55, 48, 27, 60, 41, 37, 16, 46, 35, 44, 21, 52, 32, 23, 11, 54, 26, 40, 15, 34, 20, 31, 10, 25, 14, 19, 9, 13, 8, 7, 6]
/-- The table lies in memory. -/
def Tab (w : World) : Prop := 0 < w.heap.size ∧ ∀ i, i < 64 → w.cell? ⟨0, i, none⟩ = some (.int .u8 ((tab.getD i 0 : Nat) : Int))
theorem Tab.below {B : Nat} {w w' : World} (h : Tab w) (h0 : 0 < B) (hb : Below B w w') : Tab w' := ⟨by have := hb.size; have := h.1; omega, fun i hi => by rw [hb.cell (by exact h0)]; exact h.2 i hi⟩
/-- A number that isn't zero: its lowest bit. -/
theorem low_split : ∀ m : Nat, m ≠ 0 → ∃ t q, m = 2 ^ t * (2 * q + 1) := fun m => by
  induction m using Nat.strongRecOn with
  | _ m ih =>
    intro h0
    rcases Nat.mod_two_eq_zero_or_one m with h | h
    · obtain ⟨t, q, hq⟩ := ih (m / 2) (by omega) (by omega)
      exact ⟨t + 1, q, by rw [Nat.pow_succ, Nat.mul_assoc, Nat.mul_comm 2, ← Nat.mul_assoc, ← hq]; omega⟩
    · exact ⟨0, m / 2, by omega⟩
theorem tb_low (t q j : Nat) : (2 ^ t * (2 * q + 1)).testBit j = (decide (t ≤ j) && (decide (j = t) || q.testBit (j - t - 1))) := by
  rw [Nat.testBit_two_pow_mul]
  by_cases h : t ≤ j
  · rw [decide_eq_true h, Bool.true_and]
    rcases Nat.eq_or_lt_of_le h with rfl | h2
    · simp
    · obtain ⟨d, rfl⟩ : ∃ d, j = t + d + 1 := ⟨j - t - 1, by omega⟩
      rw [show t + d + 1 - t = d + 1 by omega, Nat.testBit_succ, show (2 * q + 1) / 2 = q by omega, Nat.add_sub_cancel]
      have : ¬ t + d + 1 = t := by omega
      simp [this]
  · simp [h]
/-- Behind the lowest bit all is as it was. -/
theorem tb_pred (t q j : Nat) : (2 ^ t * (2 * q + 1) - 1).testBit j = if j < t then true else if j = t then false else (2 ^ t * (2 * q + 1)).testBit j := by
  have hp : 0 < 2 ^ t := Nat.two_pow_pos t
  have e : 2 ^ t * (2 * q + 1) - 1 = 2 ^ t * (2 * q) + (2 ^ t - 1) := by rw [Nat.mul_add]; omega
  rw [e, Nat.testBit_two_pow_mul_add _ (by omega)]
  split
  · next h => rw [Nat.testBit_two_pow_sub_one]; simp [h]
  · next h =>
    split
    · next h2 => subst h2; simp
    · next h2 =>
      obtain ⟨d, rfl⟩ : ∃ d, j = t + d + 1 := ⟨j - t - 1, by omega⟩
      rw [tb_low, show t + d + 1 - t = d + 1 by omega, Nat.testBit_succ, show 2 * q / 2 = q by omega]
      have : ¬ t + d + 1 = t := by omega
      have h3 : t ≤ t + d + 1 := by omega
      simp [this, h3]
theorem low_and (t q : Nat) (hm : 2 ^ t * (2 * q + 1) < 2 ^ 64) : 2 ^ t * (2 * q + 1) &&& (2 ^ 64 - 2 ^ t * (2 * q + 1)) = 2 ^ t := by
  have hp : 0 < 2 ^ t := Nat.two_pow_pos t
  have h1 : 0 < 2 ^ t * (2 * q + 1) := Nat.mul_pos hp (by omega)
  apply Nat.eq_of_testBit_eq
  intro j
  obtain ⟨m, hmm⟩ : ∃ m, m = 2 ^ t * (2 * q + 1) := ⟨_, rfl⟩
  have hpred := tb_pred t q j
  have hlow := tb_low t q j
  rw [← hmm] at hpred hlow hm h1 ⊢
  have e : 2 ^ 64 - m = 2 ^ 64 - ((m - 1) + 1) := by omega
  rw [Nat.testBit_and, e, Nat.testBit_two_pow_sub_succ (by omega), hpred, Nat.testBit_two_pow]
  by_cases h : j < t
  · rw [if_pos h, hlow]
    have h2 : ¬ t ≤ j := by omega
    have h3 : ¬ t = j := by omega
    simp [h2, h3]
  · rw [if_neg h]
    by_cases h2 : j = t
    · subst h2
      have h3 : j < 64 := by
        refine Decidable.byContradiction fun h3 => ?_
        have h4 : 2 ^ 64 ≤ 2 ^ j := Nat.pow_le_pow_right (by omega) (by omega)
        have h5 : 2 ^ j * 1 ≤ m := by rw [hmm]; exact Nat.mul_le_mul_left _ (by omega)
        omega
      rw [hlow]; simp [h3]
    · rw [if_neg h2]
      have h3 : ¬ t = j := fun e => h2 e.symm
      simp [h3]
      intro h5 _; exact h5
theorem low_lt {t q : Nat} (hm : 2 ^ t * (2 * q + 1) < 2 ^ 64) : t < 64 := by
  refine Decidable.byContradiction fun h3 => ?_
  have h4 : 2 ^ 64 ≤ 2 ^ t := Nat.pow_le_pow_right (by omega) (by omega)
  have h5 : 2 ^ t * 1 ≤ 2 ^ t * (2 * q + 1) := Nat.mul_le_mul_left _ (by omega)
  omega
theorem tab_low : ∀ t, t < 64 → tab.getD (2 ^ t * 285870213051353865 % 18446744073709551616 / 288230376151711744) 0 = t ∧ 2 ^ t * 285870213051353865 % 18446744073709551616 / 288230376151711744 < 64 := by decide +kernel
theorem tz_facts (t q m : Nat) (hmm : m = 2 ^ t * (2 * q + 1)) (hm : m < 18446744073709551616) :
    ∃ p K d : Nat, ((m : Int) == 0) = false ∧ IntKind.u64.wrap (-(m : Int)) = ((18446744073709551616 - m : Nat) : Int) ∧ bits .and .u64 (m : Int) ((18446744073709551616 - m : Nat) : Int) = (p : Int) ∧ IntKind.u64.wrap ((p : Int) * 285870213051353865) = (K : Int) ∧ (K : Int) / 288230376151711744 = (d : Int) ∧ d < 64 ∧ tab.getD d 0 = t ∧ t < 64 := by
  have hp : 0 < 2 ^ t := Nat.two_pow_pos t
  have h1 : 0 < m := by rw [hmm]; exact Nat.mul_pos hp (by omega)
  have ha := low_and t q (by rw [← hmm]; exact hm)
  have hl := low_lt (t := t) (q := q) (by rw [← hmm]; exact hm)
  obtain ⟨ht1, ht2⟩ := tab_low t hl
  refine ⟨2 ^ t, 2 ^ t * 285870213051353865 % 18446744073709551616, _, by rw [beq_eq_false_iff_ne]; omega, by rw [IntKind.wrap_u64]; omega, ?_, ?_, ?_, ht2, ht1, hl⟩
  · rw [u64_and_nat m _ hm (by omega)]
    rw [← hmm] at ha
    exact congrArg Int.ofNat ha
  · generalize 2 ^ t = p
    rw [IntKind.wrap_u64]; omega
  · generalize 2 ^ t * 285870213051353865 % 18446744073709551616 = K
    omega
theorem tz_calls (t q m : Nat) (hmm : m = 2 ^ t * (2 * q + 1)) (hm : m < 18446744073709551616) (w : World) (ht : Tab w) : Calls Tryd.prog 34 #[.int .u64 (m : Int)] w fun e w' => e = .returned (.int .i64 (t : Int)) ∧ w' = w := by
  obtain ⟨p, K, d, hI, hn, hand, hmul, hdiv, hd, htab, htl⟩ := tz_facts t q m hmm hm
  have hcell := ht.2 d hd
  rw [htab] at hcell
  have hd0 : (d : Int) < 64 := by omega
  have hconv : IntKind.i64.wrap (t : Int) = (t : Int) := by rw [IntKind.wrap_i64]; omega
  clear ht htab hmm hm htl
  go_enter Tryd.func34, Tryd.ntmps34
  go_upto_region 3 with fail
  go_wp2_with fail
  go_ret
  exact ⟨rfl, rfl⟩
theorem bit_val (m b : Nat) (hm : m < 18446744073709551616) : (bits BinOp.and IntKind.u64 ((m : Int) / 2 ^ b) 1 == 1) = m.testBit b := by
  have h1 : (m : Int) / 2 ^ b = ((m / 2 ^ b : Nat) : Int) := by rw [Int.natCast_ediv]; simp
  have h2 : m / 2 ^ b < 18446744073709551616 := Nat.lt_of_le_of_lt (Nat.div_le_self _ _) hm
  rw [h1, show (1 : Int) = ((1 : Nat) : Int) from rfl, u64_and_nat _ 1 h2 (by decide), nat_mask1, Nat.testBit_eq_decide_div_mod_eq]
  generalize m / 2 ^ b % 2 = z
  rw [Bool.eq_iff_iff]; simp; omega
/-- Is the bit set? -/
def bitI (m : Nat) (k : Int) : Bool := decide (0 ≤ k ∧ k < 64) && m.testBit k.toNat
theorem bitI_nat {m b : Nat} (hb : b < 64) : bitI m (b : Int) = m.testBit b := by
  unfold bitI; rw [decide_eq_true (by omega), Bool.true_and, Int.toNat_natCast]
theorem bit_calls (m : Nat) (k : Int) (hm : m < 18446744073709551616) (w : World) : Calls Tryd.prog 29 #[.int .u64 (m : Int), .int .i64 k] w fun e w' => e = .returned (.bool (bitI m k)) ∧ w' = w := by
  by_cases h0 : 0 ≤ k
  · by_cases h1 : k < 64
    · obtain ⟨b, rfl⟩ : ∃ b : Nat, k = (b : Int) := ⟨k.toNat, by omega⟩
      have hb : b < 64 := by omega
      rw [bitI_nat hb]
      have hconv : IntKind.u64.wrap (b : Int) = (b : Int) := by rw [IntKind.wrap_u64]; omega
      have hbit := bit_val m b hm
      clear hm hb
      go_enter Tryd.func29, Tryd.ntmps29
      go_wp2_with fail
      go_ret
      exact ⟨rfl, rfl⟩
    · have hr : bitI m k = false := by unfold bitI; rw [decide_eq_false (by omega)]; rfl
      rw [hr]
      clear hr hm
      go_enter Tryd.func29, Tryd.ntmps29
      go_wp2_with fail
      go_ret
      exact ⟨rfl, rfl⟩
  · have hr : bitI m k = false := by unfold bitI; rw [decide_eq_false (by omega)]; rfl
    rw [hr]
    clear hr hm
    go_enter Tryd.func29, Tryd.ntmps29
    go_wp2_with fail
    go_ret
    exact ⟨rfl, rfl⟩
theorem set_val (m b : Nat) (hm : m < 18446744073709551616) (hb : b < 64) : bits BinOp.or IntKind.u64 (m : Int) (IntKind.u64.wrap (2 ^ b)) = ((m ||| 2 ^ b : Nat) : Int) ∧ m ||| 2 ^ b < 18446744073709551616 := by
  have h1 : 2 ^ b < 2 ^ 64 := Nat.pow_lt_pow_right (by omega) hb
  have h2 : IntKind.u64.wrap (2 ^ b) = ((2 ^ b : Nat) : Int) := by
    rw [IntKind.wrap_u64, show (2 : Int) ^ b = ((2 ^ b : Nat) : Int) by simp]
    generalize 2 ^ b = p at h1 ⊢
    omega
  rw [h2, u64_or_nat m _ hm h1]
  exact ⟨rfl, Nat.or_lt_two_pow (n := 64) hm h1⟩
theorem set_calls (m b : Nat) (hm : m < 18446744073709551616) (hb : b < 64) (w : World) : Calls Tryd.prog 30 #[.int .u64 (m : Int), .int .i64 (b : Int)] w fun e w' => e = .returned (.int .u64 ((m ||| 2 ^ b : Nat) : Int)) ∧ w' = w := by
  have hconv : IntKind.u64.wrap (b : Int) = (b : Int) := by rw [IntKind.wrap_u64]; omega
  have hset := (set_val m b hm hb).1
  have hmin : min b 64 = b := by omega
  generalize m ||| 2 ^ b = r at hset ⊢
  clear hm hb
  go_enter Tryd.func30, Tryd.ntmps30
  go_wp2_with fail
  go_ret
  exact ⟨rfl, rfl⟩
theorem bits_calls (m : Nat) (w : World) : Calls Tryd.prog 28 #[.int .u64 (m : Int)] w fun e w' => e = .returned (.func (.func 33) #[] #[.pointer (some ⟨w.heap.size, 0, none⟩)]) ∧ w' = w.alloc (.cells #[.int .u64 (m : Int)] 36) := by
  go_enter Tryd.func28, Tryd.ntmps28
  go_wp2_with fail
  go_ret
  exact ⟨rfl, rfl⟩
end Go.Proofs.YtfbbpodlemllcaaDoor
