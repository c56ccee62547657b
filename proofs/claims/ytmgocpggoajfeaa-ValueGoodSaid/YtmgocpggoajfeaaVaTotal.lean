/-
  The law ValueTotal, plain: the order of values is one.
-/
import Derived.Test.YtmgocpggoajfeaaVaPlain
import Derived.Test.YtmgocpggoajfeaaPAx23
namespace Go.Proofs.Ytmgocpggoajfeaa.Pure
open Go.RowKit Go.Proofs.Ytmgocpggoajfeaa.PA Go.Proofs.YtmgocpggoajfeaaW.PrintWords Go.Proofs.YtmgocpggoajfeaaW.PrintLast
set_option linter.unusedVariables false
set_option linter.unusedSimpArgs false
theorem compare_f (s : ByteArray) (n : Int) (t : ByteArray) (m : Int) : value_Compare.f s n t m = some (cmpV ⟨s, n⟩ ⟨t, m⟩) := by
  unfold value_Compare.f cmpV cmpN
  simp only [value_sign_string.f, value_sign_int64.f, Option.bind_some]
  by_cases h : cmpL s.toList t.toList = 0
  · have h0 : ¬ cmpL s.toList t.toList ≠ 0 := fun hh => hh h
    simp only [h, if_true, ne_eq, not_true_eq_false, if_false]
    by_cases h3 : n < m
    · simp [h3]
    · by_cases h4 : m < n
      · simp [h3, h4]
      · simp [h3, h4]
  · simp only [h, if_false, ne_eq, not_false_eq_true, if_true]
theorem total_ev (a : ByteArray) (n : Int) (b : ByteArray) (m : Int) (c : ByteArray) (l : Int) : Ev (fun k => mandatelaw01_ValueTotal.f k a n b m c l) true := by
  refine ⟨1, fun k hk => ?_⟩
  obtain ⟨k, rfl⟩ : ∃ m, k = m + 1 := ⟨k - 1, by omega⟩
  unfold mandatelaw01_ValueTotal.f
  simp only [mandatelaw01_fixed.f, Option.bind_some, if_true, compare_f]
  have h1 := cmpV_anti ⟨a, n⟩ ⟨b, m⟩
  have h2 := cmpV_zero ⟨a, n⟩ ⟨b, m⟩
  have h3 := @cmpV_trans ⟨a, n⟩ ⟨b, m⟩ ⟨c, l⟩
  have h4 := @cmpV_trans ⟨c, l⟩ ⟨b, m⟩ ⟨a, n⟩
  rw [cmpV_anti ⟨b, m⟩ ⟨c, l⟩, cmpV_anti ⟨a, n⟩ ⟨b, m⟩, cmpV_anti ⟨a, n⟩ ⟨c, l⟩] at h4
  have r1 := cmpV_range ⟨a, n⟩ ⟨b, m⟩
  rw [h1]
  generalize cmpV ⟨a, n⟩ ⟨b, m⟩ = x at *
  generalize cmpV ⟨b, m⟩ ⟨c, l⟩ = y at *
  generalize cmpV ⟨a, n⟩ ⟨c, l⟩ = z at *
  have hw : x = wrap64 (- -x) := by unfold wrap64; omega
  rw [if_pos hw]
  have he : ((x == 0) != (a.toList == b.toList && n == m)) = false := by
    have : (x == 0) = (a.toList == b.toList && n == m) := by
      rw [Bool.eq_iff_iff, beq_iff_eq, Bool.and_eq_true, beq_iff_eq, beq_iff_eq]
      exact h2
    rw [this, bne_self_eq_false]
  rw [he, mandatelaw01_ValueTotal.j0, if_neg (by decide)]
  by_cases hx : x ≤ 0
  · rw [if_pos hx]
    by_cases hy : y ≤ 0
    · rw [if_pos hy, if_neg (by have := h3 hx hy; omega)]
      by_cases hx2 : x < 0
      · rw [if_pos hx2]
      · rw [if_neg hx2]
        by_cases hy2 : y < 0
        · rw [if_pos hy2]
        · rw [if_neg hy2]
          have := h4 (by omega) (by omega)
          simp; omega
    · rw [if_neg hy]
      by_cases hx2 : x < 0
      · rw [if_pos hx2]
      · rw [if_neg hx2, if_neg (by omega)]
        have := h4 (by omega) (by omega)
        simp; omega
  · rw [if_neg hx, if_neg (by omega)]
    by_cases hy2 : y < 0
    · rw [if_pos hy2]
    · rw [if_neg hy2]
      have := h4 (by omega) (by omega)
      simp; omega
end Go.Proofs.Ytmgocpggoajfeaa.Pure
