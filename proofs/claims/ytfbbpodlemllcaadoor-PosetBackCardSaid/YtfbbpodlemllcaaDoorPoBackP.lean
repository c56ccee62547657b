/-
  An order is made again of its pairs, and each pair is needed: plain law, no program in sight.
-/
import Derived.Test.YtfbbpodlemllcaaDoorPoClos
namespace Go.Proofs.YtfbbpodlemllcaaDoor
open Go.RowKit Go.Shelf
set_option linter.unusedVariables false
set_option linter.unusedSimpArgs false
theorem bl_in {m j : Nat} : j ∈ bl m ↔ j < 64 ∧ m.testBit j = true := by simp [bl]
theorem bl_nodup (m : Nat) : (bl m).Nodup := List.Pairwise.sublist List.filter_sublist List.nodup_range
/-- What an order says, bit by bit. -/
structure OrdB (n : Nat) (up : List Nat) : Prop where
  len : up.length = n
  n1 : 1 ≤ n
  n64 : n ≤ 64
  refl : ∀ i, i < n → bt up i i = true
  lt : ∀ i j, i < n → bt up i j = true → j < n
  trans : ∀ i j k, i < n → bt up i j = true → bt up j k = true → bt up i k = true
  anti : ∀ i j, i < n → bt up i j = true → j ≠ i → bt up j i = false
theorem ordB {up : List Nat} (h : Ord up) : OrdB up.length up :=
  ⟨rfl, h.1, h.2.1, fun i hi => (h.2.2 i hi).1, fun i j hi hb => ((h.2.2 i hi).2 j hb).1, fun i j k hi hb hc => ((h.2.2 i hi).2 j hb).2.1 k hc, fun i j hi hb hne => ((h.2.2 i hi).2 j hb).2.2 hne⟩
theorem ordB_mk {n : Nat} {up : List Nat} (h : OrdB n up) : Ord up := by
  refine ⟨by rw [h.len]; exact h.n1, by rw [h.len]; exact h.n64, fun i hi => ?_⟩
  rw [h.len] at hi
  refine ⟨h.refl i hi, fun k hk => ⟨by rw [h.len]; exact h.lt i k hi hk, fun c hc => h.trans i k c hi hk hc, fun hne => h.anti i k hi hk hne⟩⟩
section
variable {n : Nat} {up : List Nat}
theorem sbit_iff {a b : Nat} (ha : a < 64) (hb : b < 64) : (strictM up a).testBit b = true ↔ bt up a b = true ∧ b ≠ a := by
  unfold strictM bt
  rw [Nat.testBit_and, Bool.and_eq_true]
  have e : (18446744073709551615 - 2 ^ a).testBit b = true ↔ b ≠ a := by
    have := Nat.testBit_two_pow_sub_succ (x := 2 ^ a) (n := 64) (Nat.pow_lt_pow_right (by decide) ha) b
    have e2 : 2 ^ 64 - (2 ^ a + 1) = 18446744073709551615 - 2 ^ a := by omega
    rw [e2] at this
    rw [this, Nat.testBit_two_pow]
    simp [hb]
    omega
  rw [e]
theorem wbit_iff {m b k : Nat} (hb : b < 64) (hk : k < 64) : (without m b).testBit k = true ↔ m.testBit k = true ∧ k ≠ b := by
  unfold without
  rw [Nat.testBit_and, Bool.and_eq_true]
  have e : (18446744073709551615 - 2 ^ b).testBit k = true ↔ k ≠ b := by
    have := Nat.testBit_two_pow_sub_succ (x := 2 ^ b) (n := 64) (Nat.pow_lt_pow_right (by decide) hb) k
    have e2 : 2 ^ 64 - (2 ^ b + 1) = 18446744073709551615 - 2 ^ b := by omega
    rw [e2] at this
    rw [this, Nat.testBit_two_pow]
    simp [hk]
    omega
  rw [e]
theorem betw_iff {a b : Nat} (ha : a < 64) (hb : b < 64) : betw up (strictM up a) b = true ↔ ∃ k, k < 64 ∧ bt up a k = true ∧ k ≠ a ∧ k ≠ b ∧ bt up k b = true := by
  unfold betw
  rw [List.any_eq_true]
  constructor
  · rintro ⟨k, hk, h⟩
    obtain ⟨h64, h1⟩ := bl_in.1 hk
    obtain ⟨h2, h3⟩ := (wbit_iff hb h64).1 h1
    obtain ⟨h4, h5⟩ := (sbit_iff ha h64).1 h2
    exact ⟨k, h64, h4, h5, h3, h⟩
  · rintro ⟨k, h64, h4, h5, h3, h⟩
    exact ⟨k, bl_in.2 ⟨h64, (wbit_iff hb h64).2 ⟨(sbit_iff ha h64).2 ⟨h4, h5⟩, h3⟩⟩, h⟩
theorem cover_mem (ho : OrdB n up) {p : P2} : p ∈ pairsT up n ↔ ∃ a b : Nat, p = ((a : Int), (b : Int)) ∧ a < n ∧ b < n ∧ bt up a b = true ∧ b ≠ a ∧ ∀ k, bt up a k = true → k ≠ a → k ≠ b → bt up k b = false := by
  unfold pairsT
  rw [List.mem_flatMap]
  constructor
  · rintro ⟨a, ha, hp⟩
    have ha := List.mem_range.1 ha
    have hn := ho.n64
    unfold coverA at hp
    obtain ⟨b, hb, rfl⟩ := List.mem_map.1 hp
    obtain ⟨hb1, hb2⟩ := List.mem_filter.1 hb
    obtain ⟨h64, hs⟩ := bl_in.1 hb1
    obtain ⟨h1, h2⟩ := (sbit_iff (by omega) h64).1 hs
    refine ⟨a, b, rfl, ha, ho.lt a b ha h1, h1, h2, fun k hk hka hkb => ?_⟩
    rw [Bool.eq_false_iff]
    intro hh
    have : betw up (strictM up a) b = true := (betw_iff (by omega) h64).2 ⟨k, by have := ho.lt a k ha hk; omega, hk, hka, hkb, hh⟩
    rw [this] at hb2
    cases hb2
  · rintro ⟨a, b, rfl, ha, hb, h1, h2, h3⟩
    have hn := ho.n64
    refine ⟨a, List.mem_range.2 ha, ?_⟩
    unfold coverA
    refine List.mem_map.2 ⟨b, List.mem_filter.2 ⟨bl_in.2 ⟨by omega, (sbit_iff (by omega) (by omega)).2 ⟨h1, h2⟩⟩, ?_⟩, rfl⟩
    rw [Bool.not_eq_true', Bool.eq_false_iff]
    intro hh
    obtain ⟨k, _, h4, h5, h6, h7⟩ := (betw_iff (by omega) (by omega)).1 hh
    rw [h3 k h4 h5 h6] at h7
    cases h7
theorem pairs_nodup : ∀ n, (pairsT up n).Nodup := fun n => by
  unfold pairsT
  rw [List.nodup_iff_pairwise_ne] at *
  refine List.pairwise_flatMap.2 ⟨fun a _ => ?_, ?_⟩
  · unfold coverA
    refine List.Pairwise.map _ (R := fun x y : Nat => x ≠ y) (fun x y h => ?_) (List.Pairwise.sublist List.filter_sublist (bl_nodup _))
    intro e
    injection e with _ e
    omega
  · refine List.Pairwise.imp (R := fun x y : Nat => x ≠ y) (fun {x y} h => ?_) List.nodup_range
    intro p hp q hq
    unfold coverA at hp hq
    obtain ⟨_, _, rfl⟩ := List.mem_map.1 hp
    obtain ⟨_, _, rfl⟩ := List.mem_map.1 hq
    intro e
    injection e with e _
    omega
theorem pairs_fit (ho : OrdB n up) : Fit (n : Int) (pairsT up n) := by
  have h1 := ho.n1
  have h2 := ho.n64
  refine ⟨by omega, by omega, fun p hp => ?_⟩
  obtain ⟨a, b, rfl, ha, hb, _⟩ := (cover_mem ho).1 hp
  refine ⟨?_, ?_, ?_, ?_⟩ <;> simp only [] <;> omega
theorem edge_up (ho : OrdB n up) {a b : Nat} (h : Edge (pairsT up n) a b) : a < n ∧ b < n ∧ bt up a b = true ∧ b ≠ a ∧ ∀ k, bt up a k = true → k ≠ a → k ≠ b → bt up k b = false := by
  obtain ⟨a', b', e, h1⟩ := (cover_mem ho).1 h
  injection e with e1 e2
  obtain rfl : a = a' := by omega
  obtain rfl : b = b' := by omega
  exact h1
theorem way_up (ho : OrdB n up) {a b : Nat} (ha : a < n) (h : Way (Edge (pairsT up n)) a b) : b < n ∧ bt up a b = true := by
  induction h with
  | refl => exact ⟨ha, ho.refl a ha⟩
  | step _ e ih =>
    obtain ⟨h1, h2, h3, _⟩ := edge_up ho e
    exact ⟨h2, ho.trans _ _ _ ha ih.2 h3⟩
def mid (up : List Nat) (n a b : Nat) : List Nat := (List.range n).filter fun k => bt up a k && bt up k b
theorem up_way (ho : OrdB n up) : ∀ (s a b : Nat), (mid up n a b).length ≤ s → a < n → bt up a b = true → Way (Edge (pairsT up n)) a b
  | 0, a, b, hs, ha, h => by
    exfalso
    have : a ∈ mid up n a b := List.mem_filter.2 ⟨List.mem_range.2 ha, by rw [ho.refl a ha, h]; rfl⟩
    have := List.length_pos_of_mem this
    omega
  | s + 1, a, b, hs, ha, h => by
    have hb := ho.lt a b ha h
    by_cases hab : b = a
    · rw [hab]; exact .refl _
    by_cases hc : ∃ k, bt up a k = true ∧ k ≠ a ∧ k ≠ b ∧ bt up k b = true
    · obtain ⟨k, h1, h2, h3, h4⟩ := hc
      have hk := ho.lt a k ha h1
      have less : ∀ (x y z : Nat), (∀ j, bt up x j = true → bt up j y = true → bt up a j = true ∧ bt up j b = true) → z < n → (bt up a z = true ∧ bt up z b = true) → ¬ (bt up x z = true ∧ bt up z y = true) → (mid up n x y).length ≤ s := by
        intro x y z hsub hz hz1 hz2
        have hsubl : (mid up n x y).length < (mid up n a b).length := by
          have e : mid up n x y = (mid up n a b).filter fun j => bt up x j && bt up j y := by
            unfold mid
            rw [List.filter_filter]
            congr 1
            funext j
            rw [Bool.eq_iff_iff]
            simp only [Bool.and_eq_true]
            exact ⟨fun q => ⟨q, hsub j q.1 q.2⟩, fun q => q.1⟩
          rw [e]
          refine List.length_filter_lt_length_iff_exists.2 ⟨z, List.mem_filter.2 ⟨List.mem_range.2 hz, by rw [hz1.1, hz1.2]; rfl⟩, ?_⟩
          rw [Bool.and_eq_true]
          exact hz2
        omega
      have w1 := up_way ho s a k (less a k b (fun j q1 q2 => ⟨q1, ho.trans j k b (ho.lt a j ha q1) q2 h4⟩) hb ⟨h, ho.refl b hb⟩ (fun q => by
        rw [ho.anti k b hk h4 (fun e => h3 e.symm)] at q
        cases q.2)) ha h1
      have w2 := up_way ho s k b (less k b a (fun j q1 q2 => ⟨ho.trans a k j ha h1 q1, q2⟩) ha ⟨ho.refl a ha, h⟩ (fun q => by
        rw [ho.anti a k ha h1 h2] at q
        cases q.1)) hk h4
      exact w1.trans w2
    · refine Way.one ((cover_mem ho).2 ⟨a, b, rfl, ha, hb, h, hab, fun k q1 q2 q3 => ?_⟩)
      rw [Bool.eq_false_iff]
      intro q4
      exact hc ⟨k, q1, q2, q3, q4⟩
theorem clos_pairs (ho : OrdB n up) : closS n (pairsT up n) = up := by
  refine List.ext_getElem (by rw [clos_len, ho.len]) fun i h1 h2 => ?_
  have hi : i < n := by rw [← ho.len]; exact h2
  have e1 : up[i] = up.getD i 0 := by simp [h2]
  have e2 : (closS n (pairsT up n))[i] = (closS n (pairsT up n)).getD i 0 := by simp [h1]
  rw [e1, e2]
  apply Nat.eq_of_testBit_eq
  intro j
  show bt (closS n (pairsT up n)) i j = bt up i j
  rw [Bool.eq_iff_iff, clos_bt hi]
  exact ⟨fun hj => (way_up ho hi hj.2).2, fun hj => ⟨ho.lt i j hi hj, up_way ho _ i j (Nat.le_refl _) hi hj⟩⟩
theorem way_first {E : Nat → Nat → Prop} {a b : Nat} (h : Way E a b) : a = b ∨ ∃ c, E a c ∧ Way E c b := by
  induction h with
  | refl => exact .inl rfl
  | step _ e ih =>
    rcases ih with rfl | ⟨c, h1, h2⟩
    · exact .inr ⟨_, e, .refl _⟩
    · exact .inr ⟨c, h1, h2.step e⟩
/-- The order is made again of its pairs. -/
theorem again_build (ho : OrdB n up) : buildS (n : Int) (pairsT up n) = (up, 0) := by
  unfold buildS
  rw [if_pos (tr_true (pairs_fit ho)), show ((n : Int)).toNat = n from rfl, clos_pairs ho, if_pos (tr_true (ordB_mk ho))]
theorem split_at {α : Type} {l : List α} {i : Nat} (hi : i < l.length) : l = l.take i ++ l[i] :: l.drop (i + 1) := by
  rw [← List.drop_eq_getElem_cons hi, List.take_append_drop]
/-- With one pair less it is another order. -/
theorem less_build (ho : OrdB n up) {i : Nat} (hi : i < (pairsT up n).length) : ∃ other, buildS (n : Int) ((pairsT up n).take i ++ (pairsT up n).drop (i + 1)) = (other, 0) ∧ other ≠ up := by
  have hsp := split_at hi
  have hnd := pairs_nodup (up := up) n
  obtain ⟨p, hp⟩ : ∃ p, p = (pairsT up n)[i] := ⟨_, rfl⟩
  rw [← hp] at hsp
  obtain ⟨less, hless⟩ : ∃ l, l = (pairsT up n).take i ++ (pairsT up n).drop (i + 1) := ⟨_, rfl⟩
  have hsub : ∀ q ∈ less, q ∈ pairsT up n := fun q hq => by
    rw [hless] at hq
    rcases List.mem_append.1 hq with h | h
    · exact List.mem_of_mem_take h
    · exact List.mem_of_mem_drop h
  have hnot : p ∉ less := by
    rw [hless]
    rw [hsp] at hnd
    intro hq
    have hnd2 := List.pairwise_append.1 hnd
    rcases List.mem_append.1 hq with h | h
    · exact hnd2.2.2 p h p (by simp) rfl
    · exact (List.pairwise_cons.1 hnd2.2.1).1 p h rfl
  have hpm : p ∈ pairsT up n := by rw [hp]; exact List.getElem_mem _
  rw [← hless]
  have hfit : Fit (n : Int) less := ⟨(pairs_fit ho).1, (pairs_fit ho).2.1, fun q hq => (pairs_fit ho).2.2 q (hsub q hq)⟩
  have hway : ∀ {a b : Nat}, Way (Edge less) a b → Way (Edge (pairsT up n)) a b := fun h => h.mono fun _ _ e => hsub _ e
  have hord : OrdB n (closS n less) := by
    refine ⟨clos_len, ho.n1, ho.n64, fun i hi => (clos_bt hi).2 ⟨hi, .refl _⟩, fun i j hi h => ((clos_bt hi).1 h).1, fun i j k hi h1 h2 => ?_, fun i j hi h hne => ?_⟩
    · obtain ⟨hj, w1⟩ := (clos_bt hi).1 h1
      obtain ⟨hk, w2⟩ := (clos_bt hj).1 h2
      exact (clos_bt hi).2 ⟨hk, w1.trans w2⟩
    · obtain ⟨hj, w1⟩ := (clos_bt hi).1 h
      rw [Bool.eq_false_iff]
      intro hh
      have u1 := (way_up ho hi (hway w1)).2
      have u2 := (way_up ho hj (hway ((clos_bt hj).1 hh).2)).2
      rw [ho.anti i j hi u1 hne] at u2
      cases u2
  refine ⟨closS n less, ?_, fun e => ?_⟩
  · unfold buildS
    rw [if_pos (tr_true hfit), show ((n : Int)).toNat = n from rfl, if_pos (tr_true (ordB_mk hord))]
  · obtain ⟨a, b, rfl, ha, hb, h1, h2, h3⟩ := (cover_mem ho).1 hpm
    have h1' : bt (closS n less) a b = true := by rw [e]; exact h1
    have hw := ((clos_bt ha).1 h1').2
    rcases way_first hw with rfl | ⟨c, hc, hw2⟩
    · exact h2 rfl
    · obtain ⟨_, hcn, hc1, hc2, _⟩ := edge_up ho (hsub _ hc)
      have hcb : c ≠ b := by
        rintro rfl
        exact hnot hc
      have := h3 c hc1 hc2 hcb
      rw [(way_up ho hcn (hway hw2)).2] at this
      cases this
end
/-- What Build answers. -/
theorem build_what {n : Int} {pairs : List P2} {up : List Nat} {er : Nat} (h : (up, er) = buildS n pairs) : (er ≠ 0 ∧ up = []) ∨ (er = 0 ∧ Fit n pairs ∧ Ord up ∧ n = (up.length : Int) ∧ up = closS up.length pairs) := by
  unfold buildS at h
  cases h1 : tr (Fit n pairs) with
  | false => rw [h1, if_neg (by decide)] at h; injection h with h2 h3; exact .inl ⟨by rw [h3]; decide, h2⟩
  | true =>
    rw [h1, if_pos rfl] at h
    cases h2 : tr (Ord (closS n.toNat pairs)) with
    | false => rw [h2, if_neg (by decide)] at h; injection h with h3 h4; exact .inl ⟨by rw [h4]; decide, h3⟩
    | true =>
      rw [h2, if_pos rfl] at h
      injection h with h3 h4
      have hf := tr_iff.1 h1
      have hl : up.length = n.toNat := by rw [h3, clos_len]
      exact .inr ⟨h4, hf, by rw [h3]; exact tr_iff.1 h2, by rw [hl]; have := hf.1; omega, by rw [hl]; exact h3⟩
theorem pair_at {n : Int} {pairs : List P2} {up : List Nat} (hf : Fit n pairs) (ho : Ord up) (hn : n = (up.length : Int)) (hu : up = closS up.length pairs) {p : P2} (hp : p ∈ pairs) : atS up p.1 p.2 := by
  obtain ⟨h1, h2, h3, h4⟩ := hf.2.2 p hp
  refine ⟨⟨mem2.2 ⟨⟨h1, by omega⟩, ⟨h3, by omega⟩⟩, ho⟩, ?_⟩
  have ha : p.1.toNat < up.length := by omega
  have : bt (closS up.length pairs) p.1.toNat p.2.toNat = true := (clos_bt ha).2 ⟨by omega, Way.one (by
    show (((p.1.toNat : Nat) : Int), ((p.2.toNat : Nat) : Int)) ∈ pairs
    rw [Int.toNat_of_nonneg h1, Int.toNat_of_nonneg h3]; exact hp)⟩
  rw [← hu] at this
  exact this
end Go.Proofs.YtfbbpodlemllcaaDoor
