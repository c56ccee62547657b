/-
  How values stand in order: plain facts.
-/
import Derived.Test.YtmgocpggoajfeaaPAx9
namespace Go.Proofs.Ytmgocpggoajfeaa.PA
set_option linter.unusedVariables false
set_option linter.unusedSimpArgs false
theorem cmpL_self : ∀ a, cmpL a a = 0
  | [] => rfl
  | x :: a => by rw [cmpL, if_neg (u8_irr x), if_neg (u8_irr x), cmpL_self a]
theorem cmpL_zero {a b : List UInt8} : cmpL a b = 0 ↔ a = b := by
  constructor
  · intro h
    have := eq_cmp a b
    rw [h] at this
    simpa using this
  · rintro rfl; exact cmpL_self a
theorem cmpL_anti : ∀ a b, cmpL b a = - cmpL a b
  | [], [] => rfl
  | [], _ :: _ => rfl
  | _ :: _, [] => rfl
  | x :: a, y :: b => by
    rw [cmpL, cmpL]
    rcases u8_tri x y with h | rfl | h
    · rw [if_neg (u8_asym h), if_pos h, if_pos h]; rfl
    · rw [if_neg (u8_irr _), if_neg (u8_irr _), if_neg (u8_irr _), if_neg (u8_irr _), cmpL_anti a b]
    · rw [if_pos h, if_neg (u8_asym h), if_pos h]
theorem u8_trans {x y z : UInt8} (h : x < y) (k : y < z) : x < z := by
  rw [UInt8.lt_iff_toNat_lt] at *; omega
theorem cmpL_lt : ∀ a b c, cmpL a b = -1 → cmpL b c = -1 → cmpL a c = -1
  | [], [], c, h, _ => by simp [cmpL] at h
  | [], _ :: _, [], _, k => by simp [cmpL] at k
  | [], _ :: _, _ :: _, _, _ => rfl
  | _ :: _, [], _, h, _ => by simp [cmpL] at h
  | _ :: _, _ :: _, [], _, k => by simp [cmpL] at k
  | x :: a, y :: b, z :: c, h, k => by
    rw [cmpL] at h k ⊢
    rcases u8_tri x y with h1 | rfl | h1
    · rcases u8_tri y z with h2 | rfl | h2
      · rw [if_pos (u8_trans h1 h2)]
      · rw [if_pos h1]
      · rw [if_neg (u8_asym h2), if_pos h2] at k; cases k
    · rw [if_neg (u8_irr _), if_neg (u8_irr _)] at h
      rcases u8_tri x z with h2 | rfl | h2
      · rw [if_pos h2]
      · rw [if_neg (u8_irr _), if_neg (u8_irr _)] at k ⊢
        exact cmpL_lt a b c h k
      · rw [if_neg (u8_asym h2), if_pos h2] at k; cases k
    · rw [if_neg (u8_asym h1), if_pos h1] at h; cases h
theorem cmpN_anti (a b : Int) : cmpN b a = - cmpN a b := by
  unfold cmpN; split <;> split <;> first | rfl | omega
theorem cmpV_anti (x y : S25) : cmpV y x = - cmpV x y := by
  unfold cmpV
  rw [cmpL_anti x.f0.toList y.f0.toList, cmpN_anti x.f1 y.f1]
  by_cases h : cmpL x.f0.toList y.f0.toList = 0
  · rw [if_neg (by simp [h]), if_neg (by simp [h])]
  · rw [if_pos (by simpa using h), if_pos h]
theorem cmpN_zero {a b : Int} : cmpN a b = 0 ↔ a = b := by
  unfold cmpN; split <;> (try split) <;> constructor <;> intro h <;> first | omega | (exfalso; omega) | (cases h)
theorem cmpV_zero (x y : S25) : cmpV x y = 0 ↔ x.f0.toList = y.f0.toList ∧ x.f1 = y.f1 := by
  unfold cmpV
  by_cases h : cmpL x.f0.toList y.f0.toList = 0
  · rw [if_neg (by simp [h]), cmpN_zero, ← cmpL_zero]; exact ⟨fun k => ⟨h, k⟩, fun k => k.2⟩
  · rw [if_pos h, ← cmpL_zero]; exact ⟨fun k => absurd k h, fun k => absurd k.1 h⟩
theorem cmpN_range (a b : Int) : cmpN a b = -1 ∨ cmpN a b = 0 ∨ cmpN a b = 1 := by
  unfold cmpN; split <;> (try split) <;> simp
theorem cmpV_range (x y : S25) : cmpV x y = -1 ∨ cmpV x y = 0 ∨ cmpV x y = 1 := by
  unfold cmpV; split
  · exact cmpL_range _ _
  · exact cmpN_range _ _
theorem cmpN_trans {a b c : Int} (h : cmpN a b ≤ 0) (k : cmpN b c ≤ 0) : cmpN a c ≤ 0 := by
  unfold cmpN at *
  by_cases h1 : a < b
  · by_cases h2 : b < c
    · rw [if_pos (by omega)]; decide
    · rw [if_neg h2] at k
      by_cases h3 : c < b
      · rw [if_pos h3] at k; omega
      · rw [if_pos (by omega)]; decide
  · rw [if_neg h1] at h
    by_cases h4 : b < a
    · rw [if_pos h4] at h; omega
    · have : a = b := by omega
      subst this; exact k
theorem cmpV_trans {x y z : S25} (h : cmpV x y ≤ 0) (k : cmpV y z ≤ 0) : cmpV x z ≤ 0 := by
  unfold cmpV at *
  rcases cmpL_range x.f0.toList y.f0.toList with h1 | h1 | h1
  · rcases cmpL_range y.f0.toList z.f0.toList with h2 | h2 | h2
    · rw [cmpL_lt _ _ _ h1 h2]; simp
    · rw [← cmpL_zero.1 h2, h1]; simp
    · rw [h2] at k; simp at k
  · rw [if_neg (by simp [h1])] at h
    rw [cmpL_zero.1 h1]
    rcases cmpL_range y.f0.toList z.f0.toList with h2 | h2 | h2
    · rw [h2]; simp
    · rw [if_neg (by simp [h2])] at k ⊢
      exact cmpN_trans h k
    · rw [h2] at k; simp at k
  · rw [h1] at h; simp at h
end Go.Proofs.Ytmgocpggoajfeaa.PA
