/-
  Values that may be, and their texts, the program's and the document's: plain facts (without the law).
-/
import Derived.Test.YtmgocpggoajfeaaVaDigits
import Derived.Test.YtmgocpggoajfeaaVaEv
import Derived.Test.YtmgocpggoajfeaaPAx14
namespace Go.Proofs.Ytmgocpggoajfeaa.Pure
open Go.RowKit Go.Proofs.Ytmgocpggoajfeaa.PA Go.Proofs.YtmgocpggoajfeaaW.PrintWords Go.Proofs.YtmgocpggoajfeaaW.PrintLast
set_option linter.unusedVariables false
set_option linter.unusedSimpArgs false
theorem decL_short : ∀ (m u : Nat), u < 10 ^ (m + 1) → (decL u).length ≤ m + 1
  | 0, u, h => by rw [decL, if_pos (by simpa using h)]; simp
  | m + 1, u, h => by
    rw [decL]
    split
    · simp
    · rw [List.length_append, List.length_singleton]
      have := decL_short m (u / 10) (by rw [Nat.pow_succ] at h; omega)
      omega
theorem ba_ext {r r' : ByteArray} (h : r.data.toList = r'.data.toList) : r = r' := by
  have : r.data = r'.data := Array.toList_inj.mp h
  cases r; cases r'; simp_all
theorem digits_ev (n : Int) (h : -9223372036854775808 ≤ n ∧ n < 9223372036854775808) : ∃ r, Ev (fun k => value_digits.f k n) r ∧ r.data.toList = numL n := by
  have hsh : (decL n.natAbs).length ≤ 20 := decL_short 19 _ (by have : n.natAbs < 10000000000000000000 := by omega
                                                                exact Nat.lt_of_lt_of_le this (by decide))
  have key : ∀ k, 100 < k → ∃ r, value_digits.f k n = some r ∧ r.data.toList = numL n := by
    intro k hk
    obtain ⟨k, rfl⟩ : ∃ m, k = m + 1 := ⟨k - 1, by omega⟩
    unfold value_digits.f numL
    by_cases hn : n < 0
    · have e : IntKind.u64.wrap (-(IntKind.u64.wrap n)) = ((n.natAbs : Nat) : Int) := by rw [u64w, u64w]; omega
      rw [if_pos hn, if_pos hn, e, value_digits.j0]
      obtain ⟨r, hr, hl⟩ := digits_loop ⟨#[45]⟩ (by decide) n.natAbs k [] (fun _ => rfl) (by omega) (by simp; omega) (by simp; omega)
      exact ⟨r, hr, by rw [hl]; simp⟩
    · have e : IntKind.u64.wrap n = ((n.natAbs : Nat) : Int) := by rw [u64w]; omega
      rw [if_neg hn, if_neg hn, e, value_digits.j0]
      obtain ⟨r, hr, hl⟩ := digits_loop ⟨#[]⟩ (by decide) n.natAbs k [] (fun _ => rfl) (by omega) (by simp; omega) (by simp; omega)
      exact ⟨r, hr, by rw [hl]; simp⟩
  obtain ⟨r, hr, hd⟩ := key 101 (by omega)
  refine ⟨r, ⟨101, fun k hk => ?_⟩, hd⟩
  obtain ⟨r', hr', hd'⟩ := key k (by omega)
  show value_digits.f k n = some r
  rw [hr', ba_ext (hd'.trans hd.symm)]
def goodB (s : ByteArray) (n : Int) : Bool := decide (s.size = 0) || (decide (n = 0) && nameB s)
theorem good_ev (s : ByteArray) (n : Int) : Ev (fun k => value_Good.f k s n) (goodB s n) := by
  unfold value_Good.f goodB
  by_cases h : s.size = 0
  · have h1 : s.toList = [] := (toList_nil_iff s).2 h
    simp only [h1, if_true, h, decide_true, Bool.true_or]
    exact Ev.now true
  · have h1 : ¬ s.toList = [] := fun e => h ((toList_nil_iff s).1 e)
    simp only [h1, if_false, h, decide_false, Bool.false_or]
    by_cases h2 : n = 0
    · simp only [h2, if_true, decide_true, Bool.true_and]
      exact Ev.bind (name_ev s) (Ev.now _)
    · simp only [h2, if_false, decide_false, Bool.false_and]
      exact Ev.now false
theorem rgood_ev (s : ByteArray) (n : Int) : Ev (fun k => mandateref01_Good.f k s n) (goodB s n) := by
  unfold mandateref01_Good.f goodB
  by_cases h : s.size = 0
  · have h1 : (s.size : Int) = 0 := by omega
    simp only [h1, if_true, h, decide_true, Bool.true_or]
    exact Ev.now true
  · have h1 : ¬ (s.size : Int) = 0 := by omega
    simp only [h1, if_false, h, decide_false, Bool.false_or]
    refine Ev.bind (rname_ev s) ?_
    cases nameB s with
    | true => simp only [if_true, Bool.and_true]; exact Ev.now _
    | false => simp; exact Ev.now false
theorem text_both (s : ByteArray) (n : Int) (h : -9223372036854775808 ≤ n ∧ n < 9223372036854775808) : ∃ r, (goodB s n = true → r.data.toList = if s.size = 0 then numL n else s.data.toList) ∧ Ev (fun k => value_Text.f k s n) (r, goodB s n) ∧ Ev (fun k => mandateref01_Text.f k s n) (r, goodB s n) := by
  obtain ⟨r1, e1, h1⟩ := digits_ev n h
  obtain ⟨r2, e2, h2⟩ := num_ev n h
  obtain rfl : r1 = r2 := ba_ext (h1.trans h2.symm)
  cases hg : goodB s n with
  | false =>
    refine ⟨⟨#[]⟩, (fun h => by cases h), ?_, ?_⟩
    · unfold value_Text.f
      refine Ev.bind (good_ev s n) ?_
      simp only [hg]; exact Ev.now _
    · unfold mandateref01_Text.f
      refine Ev.bind (rgood_ev s n) ?_
      simp only [hg]; exact Ev.now _
  | true =>
    by_cases hs : s.size = 0
    · have hl : s.toList = [] := (toList_nil_iff s).2 hs
      refine ⟨r1, fun _ => by rw [if_pos hs]; exact h1, ?_, ?_⟩
      · unfold value_Text.f
        refine Ev.bind (good_ev s n) ?_
        simp only [hg, if_true, hl]
        exact Ev.bind e1 (Ev.now _)
      · unfold mandateref01_Text.f
        refine Ev.bind (rgood_ev s n) ?_
        have : ¬ (s.size : Int) > 0 := by omega
        simp only [hg, if_true, this, if_false]
        exact Ev.bind e2 (Ev.now _)
    · have hl : ¬ s.toList = [] := fun e => hs ((toList_nil_iff s).1 e)
      refine ⟨s, fun _ => by rw [if_neg hs], ?_, ?_⟩
      · unfold value_Text.f
        refine Ev.bind (good_ev s n) ?_
        simp only [hg, if_true, hl, if_false]
        exact Ev.now _
      · unfold mandateref01_Text.f
        refine Ev.bind (rgood_ev s n) ?_
        have : (s.size : Int) > 0 := by omega
        simp only [hg, if_true, this]
        exact Ev.now _
end Go.Proofs.Ytmgocpggoajfeaa.Pure
