/-
  The law ValueBack, plain: a text read is the value it was written from, and the other way.
-/
import Derived.Test.YtmgocpggoajfeaaVaTx
import Derived.Test.YtmgocpggoajfeaaVaBackW
namespace Go.Proofs.Ytmgocpggoajfeaa.Pure
open Go.RowKit Go.Proofs.Ytmgocpggoajfeaa.PA Go.Proofs.YtmgocpggoajfeaaW.PrintWords Go.Proofs.YtmgocpggoajfeaaW.PrintLast
set_option linter.unusedVariables false
set_option linter.unusedSimpArgs false
theorem name_size {x : ByteArray} (h : nameB x = true) : x.size ≠ 0 := by
  unfold nameB at h
  simp only [Bool.and_eq_true, decide_eq_true_eq] at h
  exact h.2.2.1
theorem name_head {x : ByteArray} {c : UInt8} {r : List UInt8} (hx : x.data.toList = c :: r) (hc : ¬ (97 ≤ c.toNat ∧ c.toNat ≤ 122)) : nameB x = false := by
  rw [Bool.eq_false_iff]
  intro h
  have hs := name_size h
  unfold nameB at h
  simp only [Bool.and_eq_true, decide_eq_true_eq, List.all_eq_true] at h
  have h0 := h.2.2.2.2 0 (by rw [List.mem_range']; exact ⟨0, by omega, by omega⟩)
  unfold okAt at h0
  have hb := bt0 x c r hx
  have h1 := of_decide_eq_true h0
  rw [show ((0 : Nat) : Int) = 0 from rfl, hb] at h1
  omega
theorem empty_of {s : ByteArray} (h : s.size = 0) : s = ⟨#[]⟩ := by
  apply ba_ext
  have := size_list s
  rw [h] at this
  exact List.length_eq_zero_iff.mp this.symm
theorem decL_cons (n : Nat) : ∃ c r, decL n = c :: r ∧ isDig c = true := by
  have h := decL_dig n
  cases e : decL n with
  | nil => exact absurd e (decL_ne n)
  | cons c r => rw [e, List.all_cons, Bool.and_eq_true] at h; exact ⟨c, r, rfl, h.1⟩
theorem readS_num (r : ByteArray) (n : Int) (hn : -9223372036854775808 ≤ n ∧ n < 9223372036854775808) (hr : r.data.toList = numL n) : readS r = (⟨#[]⟩, n, true) := by
  have hl : (decL n.natAbs).length ≤ 19 := decL_short 18 _ (Nat.lt_of_lt_of_le (show n.natAbs < 9223372036854775809 by omega) (by decide))
  obtain ⟨c, q, hc, hd⟩ := decL_cons n.natAbs
  have hd := of_decide_eq_true hd
  unfold readS
  by_cases h : n < 0
  · have hr2 : r.data.toList = 45 :: decL n.natAbs := by rw [hr]; unfold numL; rw [if_pos h]
    rw [name_head hr2 (by decide), if_neg (by decide)]
    have e : cutD r = (true, decL n.natAbs) := by unfold cutD; rw [hr2]; rfl
    rw [e]
    show readDs true (decL n.natAbs) = _
    unfold readDs
    have hh : ((decL n.natAbs).head? == some 48) = false := by
      rw [beq_eq_false_iff_ne]; exact decL_head _ (by omega)
    rw [canon_decL, hh, decide_eq_true hl, decL_dig, if_pos (by decide), valL_decL]
    unfold finishR
    rw [if_pos rfl, if_pos (by omega)]
    have : -((n.natAbs : Nat) : Int) = n := by omega
    rw [this]
  · have hr2 : r.data.toList = decL n.natAbs := by rw [hr]; unfold numL; rw [if_neg h]
    rw [name_head (hr2.trans hc) (by omega), if_neg (by decide)]
    have e : cutD r = (false, decL n.natAbs) := by
      unfold cutD; rw [hr2, hc]
      show (if c = 45 then _ else _) = _
      rw [if_neg (by rintro rfl; simp at hd)]
    rw [e]
    show readDs false (decL n.natAbs) = _
    unfold readDs
    rw [canon_decL, decide_eq_true hl, decL_dig, Bool.false_and, if_pos (by decide), valL_decL]
    unfold finishR
    rw [if_neg (by decide), if_pos (by omega)]
    have : ((n.natAbs : Nat) : Int) = n := by omega
    rw [this]
theorem readS_text (s : ByteArray) (n : Int) (hn : -9223372036854775808 ≤ n ∧ n < 9223372036854775808) (r : ByteArray) (hg : goodB s n = true) (hr : r.data.toList = if s.size = 0 then numL n else s.data.toList) : readS r = (s, n, true) := by
  by_cases h : s.size = 0
  · rw [if_pos h] at hr
    rw [empty_of h]
    exact readS_num r n hn hr
  · rw [if_neg h] at hr
    obtain rfl := ba_ext hr
    unfold goodB at hg
    simp only [h, decide_false, Bool.false_or, Bool.and_eq_true, decide_eq_true_eq] at hg
    obtain ⟨rfl, hN⟩ := hg
    unfold readS
    rw [if_pos hN]
theorem cutD_spec (x : ByteArray) : x.data.toList = if (cutD x).1 = true then 45 :: (cutD x).2 else (cutD x).2 := by
  unfold cutD
  cases e : x.data.toList with
  | nil => rfl
  | cons c r =>
    show _ = if (if c = 45 then (true, r) else (false, c :: r)).1 = true then _ else _
    by_cases h : c = 45
    · simp [h]
    · simp [h]
theorem read_back (x : ByteArray) : (-9223372036854775808 ≤ (readS x).2.1 ∧ (readS x).2.1 < 9223372036854775808) ∧ ((readS x).2.2 = true → goodB (readS x).1 (readS x).2.1 = true ∧ x.data.toList = if (readS x).1.size = 0 then numL (readS x).2.1 else (readS x).1.data.toList) := by
  have hc := cutD_spec x
  unfold readS
  by_cases h : nameB x = true
  · rw [if_pos h]
    refine ⟨⟨by show _ ≤ (0 : Int); decide, by show (0 : Int) < _; decide⟩, fun _ => ⟨?_, ?_⟩⟩
    · show goodB x 0 = true
      unfold goodB; rw [h]; simp
    · show _ = if x.size = 0 then _ else x.data.toList
      rw [if_neg (name_size h)]
  · rw [if_neg h]
    generalize (cutD x).1 = neg at *
    generalize (cutD x).2 = ds at *
    have hz : (⟨#[]⟩ : ByteArray).size = 0 := rfl
    unfold readDs
    split
    · rename_i hd
      simp only [Bool.and_eq_true, Bool.not_eq_true', Bool.and_eq_false_iff, decide_eq_true_eq] at hd
      obtain ⟨hcan, hneg, hlen, hdig⟩ := hd
      have hdv := decL_valL ds hdig hcan
      unfold finishR
      cases neg with
      | true =>
        rw [if_pos rfl] at hc ⊢
        split
        · rename_i hv
          refine ⟨⟨by show _ ≤ -(_ : Int); omega, by show -(_ : Int) < _; omega⟩, fun _ => ⟨rfl, ?_⟩⟩
          show _ = if (⟨#[]⟩ : ByteArray).size = 0 then numL (-((valL 0 ds : Nat) : Int)) else (⟨#[]⟩ : ByteArray).data.toList
          rw [if_pos hz, hc]
          have hpos : 0 < valL 0 ds := by
            rcases Nat.eq_zero_or_pos (valL 0 ds) with h0 | h0
            · exfalso
              rw [h0, decL_zero] at hdv
              rw [← hdv] at hneg
              simp at hneg
            · exact h0
          unfold numL
          rw [if_pos (by omega), show (-((valL 0 ds : Nat) : Int)).natAbs = valL 0 ds from by omega, hdv]
        · exact ⟨⟨by decide, by decide⟩, fun h => by cases h⟩
      | false =>
        rw [if_neg (by decide)] at hc ⊢
        split
        · rename_i hv
          refine ⟨⟨by show _ ≤ ((_ : Nat) : Int); omega, by show ((_ : Nat) : Int) < _; omega⟩, fun _ => ⟨rfl, ?_⟩⟩
          show _ = if (⟨#[]⟩ : ByteArray).size = 0 then numL ((valL 0 ds : Nat) : Int) else (⟨#[]⟩ : ByteArray).data.toList
          rw [if_pos hz, hc]
          unfold numL
          rw [if_neg (by omega), show (((valL 0 ds : Nat) : Int)).natAbs = valL 0 ds from by omega, hdv]
        · exact ⟨⟨by decide, by decide⟩, fun h => by cases h⟩
    · exact ⟨⟨by decide, by decide⟩, fun h => by cases h⟩
theorem back_j (x : ByteArray) : Ev (fun k => mandatelaw01_ValueBack.j0 k x false) true := by
  obtain ⟨hn, hk⟩ := read_back x
  obtain ⟨t, ht, e1, _⟩ := text_both (readS x).1 (readS x).2.1 hn
  obtain ⟨n1, a1⟩ := read_ev x
  obtain ⟨n2, a2⟩ := e1
  refine ⟨n1 + n2 + 1, fun k hk2 => ?_⟩
  obtain ⟨k, rfl⟩ : ∃ m, k = m + 1 := ⟨k - 1, by omega⟩
  show mandatelaw01_ValueBack.j0 (k + 1) x false = some true
  have a1 : value_Read.f k x = some (readS x) := a1 k (by omega)
  have a2 : value_Text.f k (readS x).1 (readS x).2.1 = some (t, goodB (readS x).1 (readS x).2.1) := a2 k (by omega)
  rw [mandatelaw01_ValueBack.j0, if_neg (by decide), a1, Option.bind_some, a2, Option.bind_some]
  by_cases h : (readS x).2.2 = true
  · obtain ⟨h1, h2⟩ := hk h
    have : t = x := ba_ext ((ht h1).trans h2.symm)
    rw [if_pos h, if_pos h1, this, beq_self_eq_true]
  · rw [if_neg h]
theorem back_ev (s : ByteArray) (n : Int) (x : ByteArray) (hn : -9223372036854775808 ≤ n ∧ n < 9223372036854775808) : Ev (fun k => mandatelaw01_ValueBack.f k s n x) true := by
  obtain ⟨r, hr, e1, _⟩ := text_both s n hn
  unfold mandatelaw01_ValueBack.f
  simp only [mandatelaw01_fixed.f, Option.bind_some, if_true]
  refine Ev.bind e1 (Ev.bind (good_ev s n) ?_)
  simp only [bne_self_eq_false]
  refine Ev.no (by decide) (Ev.bind (read_ev r) ?_)
  cases hg : goodB s n with
  | false => exact Ev.no (by decide) (back_j x)
  | true =>
    rw [readS_text s n hn r hg (hr hg)]
    refine Ev.yes rfl (Ev.yes rfl ?_)
    simp only [beq_self_eq_true, Bool.not_true, Bool.or_false]
    exact back_j x
end Go.Proofs.Ytmgocpggoajfeaa.Pure
