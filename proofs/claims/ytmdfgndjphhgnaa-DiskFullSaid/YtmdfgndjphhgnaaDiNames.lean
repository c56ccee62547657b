/-
  Names and numbers: what value.Name, value.Read and the reference's Name, Number, Read answer, as plain functions.
-/
import Derived.Test.YtmdfgndjphhgnaaPAx1
import Derived.Below
namespace Go.Proofs.Ytmdfgndjphhgnaa.Pure
open Go.RowKit Go.Proofs.Ytmdfgndjphhgnaa.PA Go.Proofs.YtmdfgndjphhgnaaW.PrintWords Go.Proofs.YtmdfgndjphhgnaaW.PrintLast
set_option linter.unusedVariables false
set_option linter.unusedSimpArgs false

theorem w64 {n : Int} (h : -9223372036854775808 ≤ n ∧ n ≤ 9223372036854775807) : wrap64 n = n := by unfold wrap64; omega
theorem up1 (i : Nat) (h : i < 9223372036854775807) : wrap64 ((i : Int) + 1) = ((i + 1 : Nat) : Int) := by unfold wrap64; omega

def okAt (s : ByteArray) (j : Nat) : Bool := decide ((97 ≤ bt s j ∧ bt s j ≤ 122) ∨ (j ≠ 0 ∧ ((48 ≤ bt s j ∧ bt s j ≤ 57) ∨ bt s j = 95)))
def nameB (s : ByteArray) : Bool := (s.toList != [110, 111, 116]) && ((s.toList != [115, 97, 121, 115]) && (decide (s.size ≠ 0) && (decide (s.size ≤ 16) && (List.range' 0 s.size).all (okAt s))))

theorem toList_nil_iff (s : ByteArray) : s.toList = [] ↔ s.size = 0 := by
  rw [ByteArray.toList_eq]
  obtain ⟨⟨l⟩⟩ := s
  simp [ByteArray.size]
theorem bne_size (s : ByteArray) : (s.toList != ([] : List UInt8)) = decide (s.size ≠ 0) := by
  rw [Bool.eq_iff_iff]
  simp [toList_nil_iff]

set_option maxHeartbeats 1000000 in
theorem name_loop (s : ByteArray) (hs : s.size ≤ 16) : ∀ (d i k : Nat), i + d = s.size → d < k →
    value_Name.l0 k s (s.size : Int) (i : Int) = some ((List.range' i d).all (okAt s) && (s.toList != ([] : List UInt8))) := by
  intro d
  induction d with
  | zero =>
    intro i k h hk
    obtain ⟨k, rfl⟩ : ∃ m, k = m + 1 := ⟨k - 1, by omega⟩
    rw [value_Name.l0, if_neg (by omega)]
    simp
  | succ d ih =>
    intro i k h hk
    obtain ⟨k, rfl⟩ : ∃ m, k = m + 1 := ⟨k - 1, by omega⟩
    have hi := ih (i + 1) k (by omega) (by omega)
    rw [value_Name.l0, if_pos (by omega), if_pos (by omega), if_pos (by omega), up1 i (by omega), hi, List.range'_succ, List.all_cons]
    generalize (List.range' (i + 1) d).all (okAt s) = z
    clear hi ih
    by_cases e : okAt s i = true
    · rw [e, Bool.true_and]
      unfold okAt at e
      have e := of_decide_eq_true e
      repeat' split
      all_goals first | rfl | omega
    · have e := Bool.eq_false_iff.mpr e
      rw [e, Bool.false_and, Bool.false_and]
      unfold okAt at e
      have e := of_decide_eq_false e
      repeat' split
      all_goals first | rfl | omega

theorem name_ev (s : ByteArray) : Ev (fun k => value_Name.f k s) (nameB s) := by
  refine ⟨s.size + 3, fun k hk => ?_⟩
  obtain ⟨k, rfl⟩ : ∃ m, k = m + 1 := ⟨k - 1, by omega⟩
  simp only [value_Name.f, nameB]
  by_cases h1 : s.toList = [110, 111, 116]
  · rw [if_pos h1, h1]; rfl
  · rw [if_neg h1]
    have b1 : (s.toList != [110, 111, 116]) = true := by simpa using h1
    rw [b1, Bool.true_and]
    by_cases h2 : s.toList = [115, 97, 121, 115]
    · rw [if_pos h2, h2]; rfl
    · rw [if_neg h2]
      have b2 : (s.toList != [115, 97, 121, 115]) = true := by simpa using h2
      rw [b2, Bool.true_and, value_Name.j0]
      by_cases h3 : s.size ≤ 16
      · rw [if_neg (by simp; omega)]
        have := name_loop s h3 s.size 0 k (by omega) (by omega)
        rw [Int.ofNat_zero] at this
        rw [this, decide_eq_true h3, Bool.true_and, bne_size, Bool.and_comm]
      · rw [if_pos (by simp; omega), decide_eq_false h3, Bool.false_and, Bool.and_false]
end Go.Proofs.Ytmdfgndjphhgnaa.Pure
namespace Go.Proofs.Ytmdfgndjphhgnaa
open _root_.Go.Proofs.Ytmdfgndjphhgnaa.Pure
open Go.RowKit
theorem name_calls (s : ByteArray) (w : World) : Calls Try.prog 33 #[.string s] w fun e w' => e = .returned (.bool (nameB s)) ∧ Below w.heap.size w w' := by
  obtain ⟨k, hk⟩ := (name_ev s).rounds
  exact (PA.value_Name.calls k s _ w hk).mono fun e w' h => ⟨h.1, h.2.below⟩
end Go.Proofs.Ytmdfgndjphhgnaa
