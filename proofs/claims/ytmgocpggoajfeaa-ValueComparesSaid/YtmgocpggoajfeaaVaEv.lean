/-
  Branches of what comes to be, and a comparison: plain facts.
-/
import Derived.Test.YtmgocpggoajfeaaVaPlain
namespace Go.Proofs.Ytmgocpggoajfeaa.Pure
open Go.RowKit Go.Proofs.Ytmgocpggoajfeaa.PA Go.Proofs.YtmgocpggoajfeaaW.PrintWords Go.Proofs.YtmgocpggoajfeaaW.PrintLast
set_option linter.unusedVariables false
set_option linter.unusedSimpArgs false
theorem Ev.yes {α : Type} {c : Prop} [Decidable c] {f g : Nat → Option α} {r : α} (h : c) (e : Ev f r) : Ev (fun k => if c then f k else g k) r := by simp only [if_pos h]; exact e
theorem Ev.no {α : Type} {c : Prop} [Decidable c] {f g : Nat → Option α} {r : α} (h : ¬ c) (e : Ev g r) : Ev (fun k => if c then f k else g k) r := by simp only [if_neg h]; exact e
theorem compare_f (s : ByteArray) (n : Int) (t : ByteArray) (m : Int) : value_Compare.f s n t m = some (cmpV ⟨s, n⟩ ⟨t, m⟩) := by
  unfold value_Compare.f cmpV cmpN
  simp only [value_sign_string.f, value_sign_int64.f, Option.bind_some]
  by_cases h : cmpL s.toList t.toList = 0
  · have h0 : ¬ cmpL s.toList t.toList ≠ 0 := fun hh => hh h
    simp only [h, if_true, ne_eq, not_true_eq_false, if_false]
    by_cases h3 : n < m
    · simp [h3]
    · by_cases h4 : m < n
      · simp [h3, h4]
      · simp [h3, h4]
  · simp only [h, if_false, ne_eq, not_false_eq_true, if_true]
end Go.Proofs.Ytmgocpggoajfeaa.Pure
