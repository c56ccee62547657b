/-
  Bindings: values and how they stand in order; the functions that compare them.
-/
import Derived.Test.YtehgblnhhlgikaaProg
import Derived.WalkKit
import Derived.WalkLawsBesides
import Derived.Below
import Derived.BigCall
import Derived.BigQuiet
import Derived.Laws.StructEq
import Derived.Laws.Cover1
import Derived.KernelRfl
import Derived.Outline
namespace Go.Proofs.Ytehgblnhhlgikaa.Bi
open Go.RowKit
set_option linter.unusedVariables false
set_option linter.unusedSimpArgs false
/-- A value: its symbol's bytes, its number. -/
structure V2 where
  s : ByteArray
  n : Int
  deriving DecidableEq
/-- A term, a binding: a variable's bytes, a value. -/
structure T3 where
  x : ByteArray
  v : V2
  deriving DecidableEq
def V2.c (v : V2) : Array Value := #[.string v.s, .int .i64 v.n]
def T3.c (t : T3) : Array Value := #[.string t.x, .string t.v.s, .int .i64 t.v.n]
/-- Bytes in order. -/
def cmpL : List UInt8 → List UInt8 → Int
  | [], [] => 0
  | [], _ :: _ => -1
  | _ :: _, [] => 1
  | x :: a, y :: b => if x < y then -1 else if y < x then 1 else cmpL a b
theorem cmpL_range : ∀ a b, cmpL a b = -1 ∨ cmpL a b = 0 ∨ cmpL a b = 1
  | [], [] => .inr (.inl rfl)
  | [], _ :: _ => .inl rfl
  | _ :: _, [] => .inr (.inr rfl)
  | x :: a, y :: b => by
    rw [cmpL]
    split
    · exact .inl rfl
    · split
      · exact .inr (.inr rfl)
      · exact cmpL_range a b
theorem u8_tri (x y : UInt8) : x < y ∨ x = y ∨ y < x := by
  rcases Nat.lt_trichotomy x.toNat y.toNat with h | h | h
  · exact .inl (UInt8.lt_iff_toNat_lt.2 h)
  · exact .inr (.inl (UInt8.toNat.inj h))
  · exact .inr (.inr (UInt8.lt_iff_toNat_lt.2 h))
theorem u8_irr (x : UInt8) : ¬ x < x := fun h => Nat.lt_irrefl _ (UInt8.lt_iff_toNat_lt.1 h)
theorem u8_asym {x y : UInt8} (h : x < y) : ¬ y < x := fun h2 => by
  have h1 := UInt8.lt_iff_toNat_lt.1 h
  have h2 := UInt8.lt_iff_toNat_lt.1 h2
  omega
theorem less_cmp : ∀ a b, Op.bytesLess a b = decide (cmpL a b = -1)
  | [], [] => rfl
  | [], _ :: _ => rfl
  | _ :: _, [] => rfl
  | x :: a, y :: b => by
    rw [Op.bytesLess, less_cmp a b, cmpL]
    rcases u8_tri x y with h | rfl | h
    · simp [h]
    · simp [u8_irr]
    · have h1 := u8_asym h
      have h2 : ¬ x = y := fun e => u8_irr y (by rw [e] at h; exact h)
      simp [h, h1, h2]
theorem eq_cmp : ∀ a b : List UInt8, (a == b) = decide (cmpL a b = 0)
  | [], [] => rfl
  | [], _ :: _ => rfl
  | _ :: _, [] => rfl
  | x :: a, y :: b => by
    have ih := eq_cmp a b
    rw [cmpL, List.cons_beq_cons, ih]
    rcases u8_tri x y with h | rfl | h
    · have h2 : ¬ x = y := fun e => u8_irr y (by rw [e] at h; exact h)
      simp [h, h2]
    · simp [u8_irr]
    · have h1 := u8_asym h
      have h2 : ¬ x = y := fun e => u8_irr y (by rw [e] at h; exact h)
      simp [h, h1, h2]
def cmpN (a b : Int) : Int := if a < b then -1 else if b < a then 1 else 0
def cmpV (a b : V2) : Int := if cmpL a.s.toList b.s.toList ≠ 0 then cmpL a.s.toList b.s.toList else cmpN a.n b.n
theorem signS_calls (a b : ByteArray) (w : World) : Calls Try.prog 35 #[.string a, .string b] w fun e w' => e = .returned (.int .i64 (cmpL a.toList b.toList)) ∧ w' = w := by
  have h1 := less_cmp a.toList b.toList
  have h2 := eq_cmp a.toList b.toList
  rcases cmpL_range a.toList b.toList with h | h | h <;> rw [h] at h1 h2 ⊢
  all_goals
    simp only [decide_true, decide_false, show ¬ (-1 : Int) = 0 by decide, show ¬ (0 : Int) = -1 by decide, show ¬ (1 : Int) = 0 by decide, show ¬ (1 : Int) = -1 by decide] at h1 h2
    go_enter Try.func35, Try.ntmps35
    go_wp2
    go_ret
    exact ⟨rfl, rfl⟩
theorem signN_calls (a b : Int) (w : World) : Calls Try.prog 36 #[.int .i64 a, .int .i64 b] w fun e w' => e = .returned (.int .i64 (cmpN a b)) ∧ w' = w := by
  unfold cmpN
  by_cases h1 : a < b
  · rw [if_pos h1]
    go_enter Try.func36, Try.ntmps36
    go_wp2
    go_ret
    exact ⟨rfl, rfl⟩
  · by_cases h2 : b < a
    · rw [if_neg h1, if_pos h2]
      go_enter Try.func36, Try.ntmps36
      go_wp2
      go_ret
      exact ⟨rfl, rfl⟩
    · rw [if_neg h1, if_neg h2]
      go_enter Try.func36, Try.ntmps36
      go_wp2
      go_ret
      exact ⟨rfl, rfl⟩
end Go.Proofs.Ytehgblnhhlgikaa.Bi
