/-
  A number's digits, as the program writes them: plain facts.
-/
import Derived.Test.YtmgocpggoajfeaaNames
namespace Go.Proofs.Ytmgocpggoajfeaa.Pure
open Go.RowKit Go.Proofs.Ytmgocpggoajfeaa.PA Go.Proofs.YtmgocpggoajfeaaW.PrintWords Go.Proofs.YtmgocpggoajfeaaW.PrintLast
set_option linter.unusedVariables false
set_option linter.unusedSimpArgs false
theorem getD_two (x : List Int) (i j : Nat) (u v : Int) (hi : i < x.length) (hj : j < x.length) (t : Nat) : ((x.set i u).set j v).getD t 0 = if t = j then v else if t = i then u else x.getD t 0 := by
  by_cases h1 : t = j
  · rw [if_pos h1, h1]; simp [hj]
  · rw [if_neg h1]
    by_cases h2 : t = i
    · rw [if_pos h2, List.getD_eq_getElem?_getD, List.getElem?_set_ne (Ne.symm h1), h2, List.getElem?_set_self hi]; rfl
    · rw [if_neg h2]
      simp [List.getElem?_set, Ne.symm h1, Ne.symm h2]
theorem rev_loop (l : List Int) (hn : l.length ≤ 1000) : ∀ (d i k : Nat) (x : List Int), x.length = l.length → l.length ≤ d + 2 * i → d < k → i ≤ l.length →
    (∀ t, t < l.length → x.getD t 0 = if t < i ∨ l.length ≤ t + i then l.getD (l.length - 1 - t) 0 else l.getD t 0) →
    slices_Reverse_byte_byte.l0 k x (i : Int) ((l.length : Int) - 1 - i) = some l.reverse := by
  intro d
  induction d using Nat.strongRecOn with
  | _ d ih =>
    intro i k x hx hd hk hi hP
    obtain ⟨k, rfl⟩ : ∃ m, k = m + 1 := ⟨k - 1, by omega⟩
    rw [slices_Reverse_byte_byte.l0]
    by_cases h : 2 * i + 1 < l.length
    · obtain ⟨j, hj⟩ : ∃ j : Nat, j = l.length - 1 - i := ⟨_, rfl⟩
      have hjI : (l.length : Int) - 1 - i = (j : Int) := by omega
      rw [hjI, if_pos (by omega), if_pos (by omega), if_pos (by omega), if_pos (by omega), if_pos (by omega)]
      have e1 : wrap64 ((i : Int) + 1) = ((i + 1 : Nat) : Int) := by rw [w64 (by omega)]; omega
      have e2 : wrap64 ((j : Int) - 1) = (l.length : Int) - 1 - ((i + 1 : Nat) : Int) := by rw [w64 (by omega)]; omega
      rw [e1, e2, Int.toNat_natCast, Int.toNat_natCast]
      refine ih (d - 2) (by omega) (i + 1) k _ (by simp [hx]) (by omega) (by omega) (by omega) (fun t ht => ?_)
      have hij : i ≠ j := by omega
      have g1 : ∀ t, ((x.set i (rd x (j : Int))).set j (rd x (i : Int))).getD t 0 = if t = j then x.getD i 0 else if t = i then x.getD j 0 else x.getD t 0 := fun t => by
        simp only [rd, Int.toNat_natCast]
        exact getD_two x i j _ _ (by omega) (by omega) t
      rw [g1 t]
      by_cases h1 : t = j
      · subst h1
        rw [if_pos rfl, hP i (by omega), if_neg (by omega), if_pos (.inr (by omega))]
        congr 1; omega
      · rw [if_neg h1]
        by_cases h2 : t = i
        · subst h2
          rw [if_pos rfl, hP j (by omega), if_neg (by omega), if_pos (.inl (by omega))]
          congr 1
        · rw [if_neg h2, hP t ht]
          by_cases h3 : t < i ∨ l.length ≤ t + i
          · rw [if_pos h3, if_pos (by omega)]
          · rw [if_neg h3, if_neg (by omega)]
    · rw [if_neg (by omega)]
      congr 1
      refine List.ext_getElem (by simp [hx]) fun t h1 h2 => ?_
      have h3 : t < l.length := by rw [← hx]; exact h1
      have hp := hP t h3
      rw [List.getElem_reverse]
      have e1 : x.getD t 0 = x[t] := by simp [h1]
      have e2 : l.getD (l.length - 1 - t) 0 = l[l.length - 1 - t] := by
        rw [List.getD_eq_getElem?_getD, List.getElem?_eq_getElem (by omega)]; rfl
      rw [e1] at hp
      rw [hp]
      by_cases h4 : t < i ∨ l.length ≤ t + i
      · rw [if_pos h4, e2]
      · rw [if_neg h4, ← e2]; congr 1; omega
theorem rev_f (l : List Int) (hn : l.length ≤ 1000) (k : Nat) (hk : l.length < k) : slices_Reverse_byte_byte.f k l = some l.reverse := by
  unfold slices_Reverse_byte_byte.f
  have e : wrap64 ((l.length : Int) - 1) = (l.length : Int) - 1 - ((0 : Nat) : Int) := by rw [w64 (by omega)]; omega
  rw [e]
  exact rev_loop l hn l.length 0 k l rfl (by omega) hk (by omega) (fun t ht => by rw [if_neg (by omega)])
theorem strs (l : List Int) : (strOfNums l).data.toList = l.map fun x => UInt8.ofNat x.toNat := by simp [strOfNums]
theorem strs_size (l : List Int) : (strOfNums l).size = l.length := by rw [size_list, strs, List.length_map]
theorem digits_loop (sgn : ByteArray) (hs : sgn.size ≤ 1) : ∀ (u k : Nat) (b : List Int), (u = 0 → b = []) → u < 18446744073709551616 → (decL u).length + b.length ≤ 500 → (decL u).length + b.length + (decL u).length + 5 < k →
    ∃ r, value_digits.l0 k (u : Int) sgn b = some r ∧ r.data.toList = sgn.data.toList ++ decL u ++ (b.map fun x => UInt8.ofNat x.toNat).reverse := by
  intro u
  induction u using Nat.strongRecOn with
  | _ u ih =>
    intro k b hb hu hl hk
    obtain ⟨k, rfl⟩ : ∃ m, k = m + 1 := ⟨k - 1, by omega⟩
    have e1 : IntKind.u64.wrap (Int.tdiv (u : Int) 10) = ((u / 10 : Nat) : Int) := by
      rw [Int.tdiv_eq_ediv_of_nonneg (by omega), u64w]; omega
    have e2 : (IntKind.u64.wrap (48 + (Int.tmod (u : Int) 10))) % 256 = ((48 + u % 10 : Nat) : Int) := by
      rw [Int.tmod_eq_emod_of_nonneg (by omega), u64w]; omega
    have hpush : value_digits.l0 (k + 1) (u : Int) sgn b = value_digits.l0 k ((u / 10 : Nat) : Int) sgn (b ++ [((48 + u % 10 : Nat) : Int)]) := by
      rw [value_digits.l0, e1, e2]
      by_cases h0 : u = 0
      · rw [if_neg (by omega), hb h0, if_pos (by simp), if_pos (by simp)]
      · rw [if_pos (by omega), if_pos (by omega)]
    rw [hpush]
    by_cases h : u < 10
    · have hd : decL u = [UInt8.ofNat (48 + u)] := by rw [decL, if_pos h]
      rw [hd] at hl hk ⊢
      simp only [List.length_singleton] at hl hk
      obtain ⟨k, rfl⟩ : ∃ m, k = m + 1 := ⟨k - 1, by omega⟩
      have h0 : u / 10 = 0 := by omega
      have h1 : u % 10 = u := by omega
      rw [h0, h1, value_digits.l0, if_neg (by omega), if_neg (by simp; omega), rev_f _ (by simp; omega) k (by simp; omega), Option.bind_some, strs_size, if_pos (by simp; omega)]
      refine ⟨_, rfl, ?_⟩
      rw [append_list, strs, List.reverse_append, List.reverse_singleton, List.map_append, List.map_singleton, Int.toNat_natCast, List.map_reverse, List.append_assoc]
    · have hd : decL u = decL (u / 10) ++ [UInt8.ofNat (48 + u % 10)] := by rw [decL, if_neg h]
      rw [hd] at hl hk ⊢
      simp only [List.length_append, List.length_singleton] at hl hk
      obtain ⟨r, hr, hrl⟩ := ih (u / 10) (by omega) k (b ++ [((48 + u % 10 : Nat) : Int)]) (by omega) (by omega) (by simp; omega) (by simp; omega)
      refine ⟨r, hr, ?_⟩
      rw [hrl, List.map_append, List.map_singleton, List.reverse_append, List.reverse_singleton, Int.toNat_natCast]
      simp only [List.append_assoc]
end Go.Proofs.Ytmgocpggoajfeaa.Pure
