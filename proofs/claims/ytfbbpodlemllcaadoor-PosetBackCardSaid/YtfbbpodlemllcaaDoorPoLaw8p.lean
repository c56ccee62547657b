/-
  Standing above goes on, and never both ways: plain law. A law of the walk: only the normal end.
-/
import Derived.Test.YtfbbpodlemllcaaDoorPoRefs3
import Derived.Test.YtfbbpodlemllcaaDoorPoFixed
import Derived.Deep.Cut
namespace Go
theorem wp_normal {P : Program} {c : Code} {K : Act → World → Prop} {Q' : Exit → Act → World → Prop} {a : Act} {w : World}
    (h : c.wp P (fun ex a' w' => ex = .normal ∧ K a' w') a w) : c.wp P (Exit.then K Q') a w := by
  refine wp_mono h ?_
  rintro e a' w' ⟨rfl, hk⟩
  exact hk
end Go
namespace Go.Proofs.YtfbbpodlemllcaaDoor
open Go.RowKit Go.Shelf
set_option linter.unusedVariables false
set_option linter.unusedSimpArgs false
theorem at_parts {up : List Nat} {a b : Int} (h : atS up a b) : ∃ i j : Nat, a = i ∧ b = j ∧ i < up.length ∧ j < up.length ∧ Ord up ∧ bt up i j = true := by
  obtain ⟨h1, h2⟩ := h
  obtain ⟨i, j, rfl, rfl, hi, hj, _⟩ := region_at up up.length rfl h1
  exact ⟨i, j, rfl, rfl, hi, hj, h1.2, by simpa [bt] using h2⟩
theorem at_mk {up : List Nat} {i j : Nat} (hi : i < up.length) (hj : j < up.length) (ho : Ord up) (h : bt up i j = true) : atS up i j :=
  ⟨⟨mem2.2 ⟨⟨by omega, by omega⟩, ⟨by omega, by omega⟩⟩, ho⟩, by simpa [bt] using h⟩
theorem at_trans {up : List Nat} {a b c : Int} (h1 : atS up a b) (h2 : atS up b c) : atS up a c := by
  obtain ⟨i, j, rfl, rfl, hi, hj, ho, hb⟩ := at_parts h1
  obtain ⟨j', k, hjj, rfl, _, hk, _, hb2⟩ := at_parts h2
  obtain rfl : j = j' := by omega
  exact at_mk hi hk ho (((ho.2.2 i hi).2 j hb).2.1 k hb2)
theorem at_anti {up : List Nat} {a b : Int} (h1 : atS up a b) (h2 : atS up b a) : a = b := by
  obtain ⟨i, j, rfl, rfl, hi, hj, ho, hb⟩ := at_parts h1
  obtain ⟨j', i', hjj, hii, _, _, _, hb2⟩ := at_parts h2
  obtain rfl : j = j' := by omega
  obtain rfl : i = i' := by omega
  by_cases h : j = i
  · rw [h]
  · have := ((ho.2.2 i hi).2 j hb).2.2 h
    unfold bt at hb2; rw [this] at hb2; cases hb2
theorem hasOne_iff {up : List Nat} {a : Int} : Has up [a] ↔ (0 ≤ a ∧ a < up.length) ∧ Ord up := by simp [Has]
theorem above_bit {up : List Nat} {a b : Int} (h0 : 0 ≤ b) (h1 : b < 64) : bitI (aboveS up a) b = tr (atS up a b) := by
  apply tr_of
  unfold bitI aboveS
  rw [Bool.and_eq_true, decide_eq_true_iff]
  constructor
  · rintro ⟨_, h⟩
    cases hh : tr (Has up [a]) with
    | false => rw [hh, if_neg (by decide), Nat.zero_testBit] at h; cases h
    | true =>
      rw [hh, if_pos rfl] at h
      obtain ⟨⟨ha0, ha1⟩, ho⟩ := hasOne_iff.1 (tr_iff.1 hh)
      obtain ⟨i, rfl⟩ : ∃ i : Nat, a = i := ⟨a.toNat, by omega⟩
      obtain ⟨j, rfl⟩ : ∃ j : Nat, b = j := ⟨b.toNat, by omega⟩
      have hi : i < up.length := by omega
      have hb : bt up i j = true := by simpa [bt] using h
      exact at_mk hi ((ho.2.2 i hi).2 j hb).1 ho hb
  · intro h
    refine ⟨⟨h0, h1⟩, ?_⟩
    have hh : tr (Has up [a]) = true := tr_iff.2 (hasOne_iff.2 ⟨h.1.1 a (by simp), h.1.2⟩)
    rw [hh, if_pos rfl]; exact h.2
theorem below_bit {up : List Nat} {a b : Int} (h0 : 0 ≤ a) (h1 : a < 64) : bitI (belowS up b) a = tr (atS up a b) := by
  apply tr_of
  unfold bitI belowS
  rw [Bool.and_eq_true, decide_eq_true_iff]
  constructor
  · rintro ⟨_, h⟩
    cases hh : tr (Has up [b]) with
    | false => rw [hh, if_neg (by decide), Nat.zero_testBit] at h; cases h
    | true =>
      rw [hh, if_pos rfl, maskOf_bit, Bool.and_eq_true, decide_eq_true_iff] at h
      obtain ⟨⟨hb0, hb1⟩, ho⟩ := hasOne_iff.1 (tr_iff.1 hh)
      obtain ⟨i, rfl⟩ : ∃ i : Nat, a = i := ⟨a.toNat, by omega⟩
      obtain ⟨j, rfl⟩ : ∃ j : Nat, b = j := ⟨b.toNat, by omega⟩
      exact at_mk (by omega) (by omega) ho (by simpa [bt] using h.2)
  · intro h
    refine ⟨⟨h0, h1⟩, ?_⟩
    have hh : tr (Has up [b]) = true := tr_iff.2 (hasOne_iff.2 ⟨h.1.1 b (by simp), h.1.2⟩)
    rw [hh, if_pos rfl, maskOf_bit, Bool.and_eq_true, decide_eq_true_iff]
    have := h.1.1 a (by simp)
    exact ⟨by omega, h.2⟩
theorem join_least {up : List Nat} (hs : Small up) {a b : Int} {k : Nat} (h : joinS up a b = some k) : atS up a k ∧ atS up b k ∧ ∀ c : Int, atS up a c → atS up b c → atS up k c := by
  unfold joinS at h
  cases hh : tr (Has up [a, b]) with
  | false => rw [hh, if_neg (by decide)] at h; cases h
  | true =>
    rw [hh, if_pos rfl] at h
    have hH := tr_iff.1 hh
    obtain ⟨i, j, rfl, rfl, hi, hj, _⟩ := region_at up up.length rfl hH
    have ho := hH.2
    rw [Int.toNat_natCast, Int.toNat_natCast] at h
    have h1 := List.mem_of_find?_eq_some h
    have h2 := List.find?_some h
    have hk := (List.mem_filter.1 h1).2
    rw [Nat.testBit_and, Bool.and_eq_true] at hk
    have hk1 : bt up i k = true := hk.1
    have hk2 : bt up j k = true := hk.2
    have hkl := ((ho.2.2 i hi).2 k hk1).1
    refine ⟨at_mk hi hkl ho hk1, at_mk hj hkl ho hk2, fun c hc1 hc2 => ?_⟩
    obtain ⟨i', c', hii, rfl, _, hcl, _, hb1⟩ := at_parts hc1
    obtain ⟨j', c2, hjj, hcc, _, _, _, hb2⟩ := at_parts hc2
    obtain rfl : i = i' := by omega
    obtain rfl : j = j' := by omega
    obtain rfl : c' = c2 := by omega
    unfold least at h2
    have h3 := (andNot_zero (Nat.lt_of_le_of_lt Nat.and_le_left (small_get hs i)) (small_get hs k)).1 (by simpa using h2) c' (by rw [Nat.testBit_and, Bool.and_eq_true]; exact ⟨hb1, hb2⟩)
    exact at_mk hkl hcl ho h3
end Go.Proofs.YtfbbpodlemllcaaDoor
