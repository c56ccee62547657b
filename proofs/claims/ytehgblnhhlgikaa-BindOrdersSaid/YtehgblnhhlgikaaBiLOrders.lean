/-
  Bindings: of two values just one comes first: the law's walk.
-/
import Derived.Test.YtehgblnhhlgikaaBiFixed
namespace Go.Proofs.Ytehgblnhhlgikaa.Bi
open Go.RowKit
set_option linter.unusedVariables false
set_option linter.unusedSimpArgs false
set_option pp.maxSteps 50000
theorem cmpL_neg : ∀ a b, cmpL b a = - cmpL a b
  | [], [] => rfl
  | [], _ :: _ => rfl
  | _ :: _, [] => rfl
  | x :: a, y :: b => by
    have ih := cmpL_neg a b
    rw [cmpL, cmpL]
    rcases u8_tri x y with h | rfl | h
    · simp [h, u8_asym h]
    · simp [u8_irr, ih]
    · simp [h, u8_asym h]
theorem cmpN_neg (a b : Int) : cmpN b a = - cmpN a b := by
  unfold cmpN
  split <;> split <;> (try split) <;> omega
theorem cmpV_neg (a b : V2) : cmpV b a = - cmpV a b := by
  unfold cmpV
  rw [cmpL_neg a.s.toList b.s.toList, cmpN_neg a.n b.n]
  by_cases h : cmpL a.s.toList b.s.toList = 0
  · rw [h]; simp
  · rw [if_pos (by omega), if_pos h]
theorem cmpV_range (a b : V2) : cmpV a b = -1 ∨ cmpV a b = 0 ∨ cmpV a b = 1 := by
  unfold cmpV
  split
  · exact cmpL_range _ _
  · unfold cmpN
    split
    · exact .inl rfl
    · split
      · exact .inr (.inr rfl)
      · exact .inr (.inl rfl)
theorem eqV_cmp (a b : V2) : eqV a b = (cmpV a b == 0) := by
  rw [Bool.eq_iff_iff, beq_iff_eq, cmpV_zero]
  constructor
  · intro h
    unfold eqV at h
    rw [Bool.and_eq_true, beq_iff_eq, beq_iff_eq] at h
    obtain ⟨s, n⟩ := a
    obtain ⟨s2, n2⟩ := b
    have := bytes_ext h.1
    simp only at this h
    subst this
    rw [h.2]
  · rintro rfl; exact eqV_self _
def pairT (x y : V2) : List T3 := [⟨ByteArray.empty, x⟩, ⟨ByteArray.empty, y⟩]
theorem look_val (x : V2) : look [] ⟨ByteArray.empty, x⟩ = (x, true) := by
  unfold look; rw [if_pos (by simp only [ByteArray.toList_eq]; rfl)]
theorem holds_less (x y : V2) : holdsS 3 (pairT x y) [] = (decide (cmpV x y < 0), true) := by
  simp [holdsS, pairT, look_val]
theorem holds_unlike (x y : V2) : holdsS 4 (pairT x y) [] = (cmpV x y != 0, true) := by
  simp [holdsS, pairT, look_val]
set_option maxRecDepth 100000 in
set_option maxHeartbeats 2000000 in
theorem lorders_calls (x y : V2) (hx : x.ok) (hy : y.ok) (w : World) : Calls Try.prog 7 #[.agg x.c, .agg y.c] w fun e w' => e = .returned (.bool true) ∧ Below w.heap.size w w' := by
  obtain ⟨p, hp⟩ : ∃ p, p = decide (cmpV x y < 0) := ⟨_, rfl⟩
  obtain ⟨q, hq⟩ : ∃ q, q = decide (cmpV y x < 0) := ⟨_, rfl⟩
  obtain ⟨u, hu⟩ : ∃ u, u = (cmpV x y != 0) := ⟨_, rfl⟩
  obtain ⟨ne, hne⟩ : ∃ ne, ne = !(eqV x y) := ⟨_, rfl⟩
  have hpH : Hid (p = decide (cmpV x y < 0)) := hp
  have hqH : Hid (q = decide (cmpV y x < 0)) := hq
  have huH : Hid (u = (cmpV x y != 0)) := hu
  have hneH : Hid (ne = !(eqV x y)) := hne
  have hcases : Hid ((p = true ∧ q = false ∧ u = true ∧ ne = true) ∨ (p = false ∧ q = true ∧ u = true ∧ ne = true) ∨ (p = false ∧ q = false ∧ u = false ∧ ne = false)) := by
    show _ ∨ _
    rw [hp, hq, hu, hne, eqV_cmp, cmpV_neg x y]
    rcases cmpV_range x y with h | h | h <;> rw [h] <;> decide
  clear hp hq hu hne
  have hbx : (Value.agg x.c) = .agg #[.string x.s, .int .i64 x.n] := rfl
  have hby : (Value.agg y.c) = .agg #[.string y.s, .int .i64 y.n] := rfl
  rw [hbx, hby]
  go_enter Try.func7, Try.ntmps7
  go_upto_region 1 with fail
  generalize hW : World.alloc _ _ = W
  have hW0 : W.heap[w.heap.size]? = some (.cells x.c 46 (0, 0)) := by rw [← hW]; exact heap_alloc2_old w _ _
  have hW1 : W.heap[w.heap.size + 1]? = some (.cells y.c 46 (0, 0)) := by rw [← hW]; exact heap_alloc2_new w _ _
  have hWB : Below w.heap.size w W := by rw [← hW]; exact ((Below.refl _ _).alloc (Nat.le_refl _) _).alloc (by simp) _
  clear hW
  obtain ⟨B, hBd⟩ : ∃ B, B = w.heap.size := ⟨_, rfl⟩
  rw [← hBd] at hW0 hW1 hWB ⊢
  have hBle : B ≤ w.heap.size := by omega
  generalize hB1 : B + 1 = B1 at hW1 ⊢
  clear hB1
  refine wp_region_lit ?_
  refine sl_call rfl 8 #[] (by kernel_rfl) (R := fun v w' => v = .bool true ∧ Below W.heap.size W w') ((fixed_calls W).mono fun e w' h => ⟨_, h.1, rfl, h.2⟩) ?_
  rintro _ w1 ⟨rfl, hb⟩
  have h0 : Hid (w1.heap[B]? = some (.cells x.c 46 (0, 0))) := heap_kept hW0 hb
  have h1 : Hid (w1.heap[B1]? = some (.cells y.c 46 (0, 0))) := heap_kept hW1 hb
  have hB : Hid (Below B w w1) := hWB.trans (hb.mono (Nat.le_trans hBle hWB.size))
  clear hW0 hW1 hWB hb
  simp only [Act.put, List.setIfInBounds_toArray, List.set_cons_zero, List.set_cons_succ]
  refine sl_run rfl (.bool false) w1 (by kernel_rfl) ?_
  simp only [Act.put, List.setIfInBounds_toArray, List.set_cons_zero, List.set_cons_succ]
  refine wpList_nil ?_
  go_upto_region 3 with fail
  refine wp_region_lit ?_
  refine sl_run rfl (.agg x.c) w1 (exec_load_row 46 w1 _ rfl B (by kernel_rfl) 46 _ (0, 0) _ h0.out Try.underlying46 rfl (by kernel_rfl)) ?_
  simp only [Act.put, List.setIfInBounds_toArray, List.set_cons_zero, List.set_cons_succ]
  refine sl_run rfl (.agg (T3.c ⟨ByteArray.empty, x⟩)) w1 (by kernel_rfl) ?_
  simp only [Act.put, List.setIfInBounds_toArray, List.set_cons_zero, List.set_cons_succ]
  refine sl_run rfl (.agg y.c) w1 (exec_load_row 46 w1 _ rfl B1 (by kernel_rfl) 46 _ (0, 0) _ h1.out Try.underlying46 rfl (by kernel_rfl)) ?_
  simp only [Act.put, List.setIfInBounds_toArray, List.set_cons_zero, List.set_cons_succ]
  refine sl_run rfl (.agg (T3.c ⟨ByteArray.empty, y⟩)) w1 (by kernel_rfl) ?_
  simp only [Act.put, List.setIfInBounds_toArray, List.set_cons_zero, List.set_cons_succ]
  refine sl_run rfl (.slice (some ⟨w1.heap.size, 0, none⟩) 2 2) (w1.alloc (.cells (flat T3.c (pairT x y)).toArray 48)) (by kernel_rfl) ?_
  simp only [Act.put, List.setIfInBounds_toArray, List.set_cons_zero, List.set_cons_succ]
  have hn : (w1.alloc (.cells (flat T3.c (pairT x y)).toArray 48)).heap[w1.heap.size]? = some (.cells (flat T3.c (pairT x y)).toArray 48 (0, 0)) := heap_alloc_new _ _
  have hb : Below w1.heap.size w1 (w1.alloc (.cells (flat T3.c (pairT x y)).toArray 48)) := (Below.refl _ _).alloc (Nat.le_refl _) _
  obtain ⟨g1, hg⟩ : ∃ g, g = w1.heap.size := ⟨_, rfl⟩
  rw [← hg] at hn ⊢
  generalize w1.alloc _ = w2 at hn hb ⊢
  have hn1 : Hid (w2.heap[g1]? = some (.cells (flat T3.c (pairT x y)).toArray 48 (0, 0))) := hn
  clear hn hg
  have h02 : Hid (w2.heap[B]? = some (.cells x.c 46 (0, 0))) := heap_kept h0.out hb
  have h12 : Hid (w2.heap[B1]? = some (.cells y.c 46 (0, 0))) := heap_kept h1.out hb
  have hB2 : Hid (Below B w w2) := hB.out.trans (hb.mono (Nat.le_trans hBle hB.out.size))
  clear h0 h1 hB hb
  have h0 := h02
  have h1 := h12
  have hB := hB2
  clear h02 h12 hB2
  refine sl_run rfl (.agg #[.int .u8 3, .string ByteArray.empty, .slice (some ⟨g1, 0, none⟩) 2 2]) w2 (by kernel_rfl) ?_
  simp only [Act.put, List.setIfInBounds_toArray, List.set_cons_zero, List.set_cons_succ]
  refine sl_call rfl 15 #[.agg #[.int .u8 3, .string ByteArray.empty, .slice (some ⟨g1, 0, none⟩) 2 2], .slice none 0 0] (by kernel_rfl) (R := fun v w' => v = .tuple #[.bool p, .bool true] ∧ Below w2.heap.size w2 w') ((holds_calls 3 ByteArray.empty (pairT x y) [] (some ⟨g1, 0, none⟩) none 2 0 2 0 rfl rfl (by decide) (by decide) w2 (rw_new t3_size (pairT x y) hn1.out) Rw.nil).mono fun e w' h => by
    rw [holds_less] at h
    exact ⟨_, h.1, by rw [hpH.out], h.2⟩) ?_
  rintro _ w3 ⟨rfl, hb⟩
  simp only [Act.put, List.setIfInBounds_toArray, List.set_cons_zero, List.set_cons_succ]
  have h02 : Hid (w3.heap[B]? = some (.cells x.c 46 (0, 0))) := heap_kept h0.out hb
  have h12 : Hid (w3.heap[B1]? = some (.cells y.c 46 (0, 0))) := heap_kept h1.out hb
  have hB2 : Hid (Below B w w3) := hB.out.trans (hb.mono (Nat.le_trans hBle hB.out.size))
  clear h0 h1 hB hb
  have h0 := h02
  have h1 := h12
  have hB := hB2
  clear h02 h12 hB2
  refine sl_run rfl (.tuple #[.bool p, .bool true]) w3 (by kernel_rfl) ?_
  simp only [Act.put, List.setIfInBounds_toArray, List.set_cons_zero, List.set_cons_succ]
  refine sl_run rfl (.bool p) w3 (by kernel_rfl) ?_
  simp only [Act.put, List.setIfInBounds_toArray, List.set_cons_zero, List.set_cons_succ]
  refine sl_run rfl (.bool true) w3 (by kernel_rfl) ?_
  simp only [Act.put, List.setIfInBounds_toArray, List.set_cons_zero, List.set_cons_succ]
  refine sl_run rfl (.bool p) w3 (by kernel_rfl) ?_
  simp only [Act.put, List.setIfInBounds_toArray, List.set_cons_zero, List.set_cons_succ]
  refine sl_run rfl (.bool true) w3 (by kernel_rfl) ?_
  simp only [Act.put, List.setIfInBounds_toArray, List.set_cons_zero, List.set_cons_succ]
  refine wpList_nil ?_
  clear hn1
  go_upto_region 4 with fail
  refine wp_region_lit ?_
  refine sl_run rfl (.agg y.c) w3 (exec_load_row 46 w3 _ rfl B1 (by kernel_rfl) 46 _ (0, 0) _ h1.out Try.underlying46 rfl (by kernel_rfl)) ?_
  simp only [Act.put, List.setIfInBounds_toArray, List.set_cons_zero, List.set_cons_succ]
  refine sl_run rfl (.agg (T3.c ⟨ByteArray.empty, y⟩)) w3 (by kernel_rfl) ?_
  simp only [Act.put, List.setIfInBounds_toArray, List.set_cons_zero, List.set_cons_succ]
  refine sl_run rfl (.agg x.c) w3 (exec_load_row 46 w3 _ rfl B (by kernel_rfl) 46 _ (0, 0) _ h0.out Try.underlying46 rfl (by kernel_rfl)) ?_
  simp only [Act.put, List.setIfInBounds_toArray, List.set_cons_zero, List.set_cons_succ]
  refine sl_run rfl (.agg (T3.c ⟨ByteArray.empty, x⟩)) w3 (by kernel_rfl) ?_
  simp only [Act.put, List.setIfInBounds_toArray, List.set_cons_zero, List.set_cons_succ]
  refine sl_run rfl (.slice (some ⟨w3.heap.size, 0, none⟩) 2 2) (w3.alloc (.cells (flat T3.c (pairT y x)).toArray 48)) (by kernel_rfl) ?_
  simp only [Act.put, List.setIfInBounds_toArray, List.set_cons_zero, List.set_cons_succ]
  have hn : (w3.alloc (.cells (flat T3.c (pairT y x)).toArray 48)).heap[w3.heap.size]? = some (.cells (flat T3.c (pairT y x)).toArray 48 (0, 0)) := heap_alloc_new _ _
  have hb : Below w3.heap.size w3 (w3.alloc (.cells (flat T3.c (pairT y x)).toArray 48)) := (Below.refl _ _).alloc (Nat.le_refl _) _
  obtain ⟨g3, hg⟩ : ∃ g, g = w3.heap.size := ⟨_, rfl⟩
  rw [← hg] at hn ⊢
  generalize w3.alloc _ = w4 at hn hb ⊢
  have hn3 : Hid (w4.heap[g3]? = some (.cells (flat T3.c (pairT y x)).toArray 48 (0, 0))) := hn
  clear hn hg
  have h02 : Hid (w4.heap[B]? = some (.cells x.c 46 (0, 0))) := heap_kept h0.out hb
  have h12 : Hid (w4.heap[B1]? = some (.cells y.c 46 (0, 0))) := heap_kept h1.out hb
  have hB2 : Hid (Below B w w4) := hB.out.trans (hb.mono (Nat.le_trans hBle hB.out.size))
  clear h0 h1 hB hb
  have h0 := h02
  have h1 := h12
  have hB := hB2
  clear h02 h12 hB2
  refine sl_run rfl (.agg #[.int .u8 3, .string ByteArray.empty, .slice (some ⟨g3, 0, none⟩) 2 2]) w4 (by kernel_rfl) ?_
  simp only [Act.put, List.setIfInBounds_toArray, List.set_cons_zero, List.set_cons_succ]
  refine sl_call rfl 15 #[.agg #[.int .u8 3, .string ByteArray.empty, .slice (some ⟨g3, 0, none⟩) 2 2], .slice none 0 0] (by kernel_rfl) (R := fun v w' => v = .tuple #[.bool q, .bool true] ∧ Below w4.heap.size w4 w') ((holds_calls 3 ByteArray.empty (pairT y x) [] (some ⟨g3, 0, none⟩) none 2 0 2 0 rfl rfl (by decide) (by decide) w4 (rw_new t3_size (pairT y x) hn3.out) Rw.nil).mono fun e w' h => by
    rw [holds_less] at h
    exact ⟨_, h.1, by rw [hqH.out], h.2⟩) ?_
  rintro _ w5 ⟨rfl, hb⟩
  simp only [Act.put, List.setIfInBounds_toArray, List.set_cons_zero, List.set_cons_succ]
  have h02 : Hid (w5.heap[B]? = some (.cells x.c 46 (0, 0))) := heap_kept h0.out hb
  have h12 : Hid (w5.heap[B1]? = some (.cells y.c 46 (0, 0))) := heap_kept h1.out hb
  have hB2 : Hid (Below B w w5) := hB.out.trans (hb.mono (Nat.le_trans hBle hB.out.size))
  clear h0 h1 hB hb
  have h0 := h02
  have h1 := h12
  have hB := hB2
  clear h02 h12 hB2
  refine sl_run rfl (.tuple #[.bool q, .bool true]) w5 (by kernel_rfl) ?_
  simp only [Act.put, List.setIfInBounds_toArray, List.set_cons_zero, List.set_cons_succ]
  refine sl_run rfl (.bool q) w5 (by kernel_rfl) ?_
  simp only [Act.put, List.setIfInBounds_toArray, List.set_cons_zero, List.set_cons_succ]
  refine sl_run rfl (.bool true) w5 (by kernel_rfl) ?_
  simp only [Act.put, List.setIfInBounds_toArray, List.set_cons_zero, List.set_cons_succ]
  refine sl_run rfl (.bool q) w5 (by kernel_rfl) ?_
  simp only [Act.put, List.setIfInBounds_toArray, List.set_cons_zero, List.set_cons_succ]
  refine sl_run rfl (.bool true) w5 (by kernel_rfl) ?_
  simp only [Act.put, List.setIfInBounds_toArray, List.set_cons_zero, List.set_cons_succ]
  refine wpList_nil ?_
  clear hn3
  go_upto_region 5 with fail
  refine wp_region_lit ?_
  refine sl_run rfl (.agg x.c) w5 (exec_load_row 46 w5 _ rfl B (by kernel_rfl) 46 _ (0, 0) _ h0.out Try.underlying46 rfl (by kernel_rfl)) ?_
  simp only [Act.put, List.setIfInBounds_toArray, List.set_cons_zero, List.set_cons_succ]
  refine sl_run rfl (.agg (T3.c ⟨ByteArray.empty, x⟩)) w5 (by kernel_rfl) ?_
  simp only [Act.put, List.setIfInBounds_toArray, List.set_cons_zero, List.set_cons_succ]
  refine sl_run rfl (.agg y.c) w5 (exec_load_row 46 w5 _ rfl B1 (by kernel_rfl) 46 _ (0, 0) _ h1.out Try.underlying46 rfl (by kernel_rfl)) ?_
  simp only [Act.put, List.setIfInBounds_toArray, List.set_cons_zero, List.set_cons_succ]
  refine sl_run rfl (.agg (T3.c ⟨ByteArray.empty, y⟩)) w5 (by kernel_rfl) ?_
  simp only [Act.put, List.setIfInBounds_toArray, List.set_cons_zero, List.set_cons_succ]
  refine sl_run rfl (.slice (some ⟨w5.heap.size, 0, none⟩) 2 2) (w5.alloc (.cells (flat T3.c (pairT x y)).toArray 48)) (by kernel_rfl) ?_
  simp only [Act.put, List.setIfInBounds_toArray, List.set_cons_zero, List.set_cons_succ]
  have hn : (w5.alloc (.cells (flat T3.c (pairT x y)).toArray 48)).heap[w5.heap.size]? = some (.cells (flat T3.c (pairT x y)).toArray 48 (0, 0)) := heap_alloc_new _ _
  have hb : Below w5.heap.size w5 (w5.alloc (.cells (flat T3.c (pairT x y)).toArray 48)) := (Below.refl _ _).alloc (Nat.le_refl _) _
  obtain ⟨g5, hg⟩ : ∃ g, g = w5.heap.size := ⟨_, rfl⟩
  rw [← hg] at hn ⊢
  generalize w5.alloc _ = w6 at hn hb ⊢
  have hn5 : Hid (w6.heap[g5]? = some (.cells (flat T3.c (pairT x y)).toArray 48 (0, 0))) := hn
  clear hn hg
  have h02 : Hid (w6.heap[B]? = some (.cells x.c 46 (0, 0))) := heap_kept h0.out hb
  have h12 : Hid (w6.heap[B1]? = some (.cells y.c 46 (0, 0))) := heap_kept h1.out hb
  have hB2 : Hid (Below B w w6) := hB.out.trans (hb.mono (Nat.le_trans hBle hB.out.size))
  clear h0 h1 hB hb
  have h0 := h02
  have h1 := h12
  have hB := hB2
  clear h02 h12 hB2
  refine sl_run rfl (.agg #[.int .u8 4, .string ByteArray.empty, .slice (some ⟨g5, 0, none⟩) 2 2]) w6 (by kernel_rfl) ?_
  simp only [Act.put, List.setIfInBounds_toArray, List.set_cons_zero, List.set_cons_succ]
  refine sl_call rfl 15 #[.agg #[.int .u8 4, .string ByteArray.empty, .slice (some ⟨g5, 0, none⟩) 2 2], .slice none 0 0] (by kernel_rfl) (R := fun v w' => v = .tuple #[.bool u, .bool true] ∧ Below w6.heap.size w6 w') ((holds_calls 4 ByteArray.empty (pairT x y) [] (some ⟨g5, 0, none⟩) none 2 0 2 0 rfl rfl (by decide) (by decide) w6 (rw_new t3_size (pairT x y) hn5.out) Rw.nil).mono fun e w' h => by
    rw [holds_unlike] at h
    exact ⟨_, h.1, by rw [huH.out], h.2⟩) ?_
  rintro _ w7 ⟨rfl, hb⟩
  simp only [Act.put, List.setIfInBounds_toArray, List.set_cons_zero, List.set_cons_succ]
  have h02 : Hid (w7.heap[B]? = some (.cells x.c 46 (0, 0))) := heap_kept h0.out hb
  have h12 : Hid (w7.heap[B1]? = some (.cells y.c 46 (0, 0))) := heap_kept h1.out hb
  have hB2 : Hid (Below B w w7) := hB.out.trans (hb.mono (Nat.le_trans hBle hB.out.size))
  clear h0 h1 hB hb
  have h0 := h02
  have h1 := h12
  have hB := hB2
  clear h02 h12 hB2
  refine sl_run rfl (.tuple #[.bool u, .bool true]) w7 (by kernel_rfl) ?_
  simp only [Act.put, List.setIfInBounds_toArray, List.set_cons_zero, List.set_cons_succ]
  refine sl_run rfl (.bool u) w7 (by kernel_rfl) ?_
  simp only [Act.put, List.setIfInBounds_toArray, List.set_cons_zero, List.set_cons_succ]
  refine sl_run rfl (.bool true) w7 (by kernel_rfl) ?_
  simp only [Act.put, List.setIfInBounds_toArray, List.set_cons_zero, List.set_cons_succ]
  refine sl_run rfl (.bool u) w7 (by kernel_rfl) ?_
  simp only [Act.put, List.setIfInBounds_toArray, List.set_cons_zero, List.set_cons_succ]
  refine sl_run rfl (.bool true) w7 (by kernel_rfl) ?_
  simp only [Act.put, List.setIfInBounds_toArray, List.set_cons_zero, List.set_cons_succ]
  refine wpList_nil ?_
  clear hn5
  go_upto_region 6 with fail
  refine wp_region_lit ?_
  have hL0 : ∀ {o : Oper} {a : Act} (z : Operand) (ho : o.op = .load 46 z) (hz : a.eval z = .pointer (some ⟨B, 0, none⟩)), (execOp a.eval o).run Try.prog w7 = .ok (.value (.agg x.c)) w7 := fun z ho hz => exec_load_row 46 w7 z ho B hz 46 _ (0, 0) _ h0.out Try.underlying46 rfl (by kernel_rfl)
  have hL1 : ∀ {o : Oper} {a : Act} (z : Operand) (ho : o.op = .load 46 z) (hz : a.eval z = .pointer (some ⟨B1, 0, none⟩)), (execOp a.eval o).run Try.prog w7 = .ok (.value (.agg y.c)) w7 := fun z ho hz => exec_load_row 46 w7 z ho B1 hz 46 _ (0, 0) _ h1.out Try.underlying46 rfl (by kernel_rfl)
  rcases hcases.out with ⟨rfl, rfl, rfl, rfl⟩ | ⟨rfl, rfl, rfl, rfl⟩ | ⟨rfl, rfl, rfl, rfl⟩
  · clear hcases hpH hqH huH
    refine sl_run rfl (.bool true) w7 (by kernel_rfl) ?_
    simp only [Act.put, List.setIfInBounds_toArray, List.set_cons_zero, List.set_cons_succ]
    refine sl_run rfl (.bool true) w7 (by kernel_rfl) ?_
    simp only [Act.put, List.setIfInBounds_toArray, List.set_cons_zero, List.set_cons_succ]
    refine sg_run (by kernel_rfl) (.bool true) w7 (by kernel_rfl) ?_
    simp only [Act.put, List.setIfInBounds_toArray, List.set_cons_zero, List.set_cons_succ]
    refine sl_run rfl (.bool true) w7 (by kernel_rfl) ?_
    simp only [Act.put, List.setIfInBounds_toArray, List.set_cons_zero, List.set_cons_succ]
    refine sl_run rfl (.bool true) w7 (by kernel_rfl) ?_
    simp only [Act.put, List.setIfInBounds_toArray, List.set_cons_zero, List.set_cons_succ]
    refine sg_run (by kernel_rfl) (.bool true) w7 (by kernel_rfl) ?_
    simp only [Act.put, List.setIfInBounds_toArray, List.set_cons_zero, List.set_cons_succ]
    refine sl_run rfl (.bool true) w7 (by kernel_rfl) ?_
    simp only [Act.put, List.setIfInBounds_toArray, List.set_cons_zero, List.set_cons_succ]
    refine sl_run rfl (.bool true) w7 (by kernel_rfl) ?_
    simp only [Act.put, List.setIfInBounds_toArray, List.set_cons_zero, List.set_cons_succ]
    refine sg_run (by kernel_rfl) (.bool true) w7 (by kernel_rfl) ?_
    simp only [Act.put, List.setIfInBounds_toArray, List.set_cons_zero, List.set_cons_succ]
    refine sg_run (by kernel_rfl) (.bool true) w7 (by kernel_rfl) ?_
    simp only [Act.put, List.setIfInBounds_toArray, List.set_cons_zero, List.set_cons_succ]
    refine sg_run (by kernel_rfl) (.bool false) w7 (by kernel_rfl) ?_
    simp only [Act.put, List.setIfInBounds_toArray, List.set_cons_zero, List.set_cons_succ]
    refine sg_run (by kernel_rfl) (.bool false) w7 (by kernel_rfl) ?_
    simp only [Act.put, List.setIfInBounds_toArray, List.set_cons_zero, List.set_cons_succ]
    refine sg_run (by kernel_rfl) (.bool true) w7 (by kernel_rfl) ?_
    simp only [Act.put, List.setIfInBounds_toArray, List.set_cons_zero, List.set_cons_succ]
    refine sl_run rfl (.bool true) w7 (by kernel_rfl) ?_
    simp only [Act.put, List.setIfInBounds_toArray, List.set_cons_zero, List.set_cons_succ]
    refine sl_run rfl (.bool true) w7 (by kernel_rfl) ?_
    simp only [Act.put, List.setIfInBounds_toArray, List.set_cons_zero, List.set_cons_succ]
    refine sg_run (by kernel_rfl) (.bool true) w7 (by kernel_rfl) ?_
    simp only [Act.put, List.setIfInBounds_toArray, List.set_cons_zero, List.set_cons_succ]
    refine sg_run (by kernel_rfl) (.bool true) w7 (by kernel_rfl) ?_
    simp only [Act.put, List.setIfInBounds_toArray, List.set_cons_zero, List.set_cons_succ]
    refine sg_run (by kernel_rfl) (.bool true) w7 (by kernel_rfl) ?_
    simp only [Act.put, List.setIfInBounds_toArray, List.set_cons_zero, List.set_cons_succ]
    refine wpList_skip (by kernel_rfl) ?_
    simp only [Act.put, List.setIfInBounds_toArray, List.set_cons_zero, List.set_cons_succ]
    refine sg_run (by kernel_rfl) (.bool true) w7 (by kernel_rfl) ?_
    simp only [Act.put, List.setIfInBounds_toArray, List.set_cons_zero, List.set_cons_succ]
    refine sg_run (by kernel_rfl) (.bool true) w7 (by kernel_rfl) ?_
    simp only [Act.put, List.setIfInBounds_toArray, List.set_cons_zero, List.set_cons_succ]
    refine sl_run rfl (.bool true) w7 (by kernel_rfl) ?_
    simp only [Act.put, List.setIfInBounds_toArray, List.set_cons_zero, List.set_cons_succ]
    refine sl_run rfl (.bool true) w7 (by kernel_rfl) ?_
    simp only [Act.put, List.setIfInBounds_toArray, List.set_cons_zero, List.set_cons_succ]
    refine sg_run (by kernel_rfl) (.bool true) w7 (by kernel_rfl) ?_
    simp only [Act.put, List.setIfInBounds_toArray, List.set_cons_zero, List.set_cons_succ]
    refine sg_run (by kernel_rfl) (.agg x.c) w7 (hL0 _ rfl (by kernel_rfl)) ?_
    simp only [Act.put, List.setIfInBounds_toArray, List.set_cons_zero, List.set_cons_succ]
    refine sg_run (by kernel_rfl) (.agg y.c) w7 (hL1 _ rfl (by kernel_rfl)) ?_
    simp only [Act.put, List.setIfInBounds_toArray, List.set_cons_zero, List.set_cons_succ]
    refine sg_run (by kernel_rfl) (.bool true) w7 ((exec_neq46 _ _ rfl x y (by kernel_rfl) (by kernel_rfl) w7).trans (by rw [← hneH.out])) ?_
    simp only [Act.put, List.setIfInBounds_toArray, List.set_cons_zero, List.set_cons_succ]
    refine sg_run (by kernel_rfl) (.bool true) w7 (by kernel_rfl) ?_
    simp only [Act.put, List.setIfInBounds_toArray, List.set_cons_zero, List.set_cons_succ]
    refine sl_run rfl (.bool true) w7 (by kernel_rfl) ?_
    simp only [Act.put, List.setIfInBounds_toArray, List.set_cons_zero, List.set_cons_succ]
    refine sl_run rfl (.bool true) w7 (by kernel_rfl) ?_
    simp only [Act.put, List.setIfInBounds_toArray, List.set_cons_zero, List.set_cons_succ]
    refine wpList_nil ?_
    clear hL0 hL1 h0 h1 hneH
    go_wp2_with fail
    go_ret
    exact ⟨rfl, by rw [← hBd]; exact hB.out⟩
  · clear hcases hpH hqH huH
    refine sl_run rfl (.bool true) w7 (by kernel_rfl) ?_
    simp only [Act.put, List.setIfInBounds_toArray, List.set_cons_zero, List.set_cons_succ]
    refine sl_run rfl (.bool true) w7 (by kernel_rfl) ?_
    simp only [Act.put, List.setIfInBounds_toArray, List.set_cons_zero, List.set_cons_succ]
    refine sg_run (by kernel_rfl) (.bool true) w7 (by kernel_rfl) ?_
    simp only [Act.put, List.setIfInBounds_toArray, List.set_cons_zero, List.set_cons_succ]
    refine sl_run rfl (.bool true) w7 (by kernel_rfl) ?_
    simp only [Act.put, List.setIfInBounds_toArray, List.set_cons_zero, List.set_cons_succ]
    refine sl_run rfl (.bool true) w7 (by kernel_rfl) ?_
    simp only [Act.put, List.setIfInBounds_toArray, List.set_cons_zero, List.set_cons_succ]
    refine sg_run (by kernel_rfl) (.bool true) w7 (by kernel_rfl) ?_
    simp only [Act.put, List.setIfInBounds_toArray, List.set_cons_zero, List.set_cons_succ]
    refine sl_run rfl (.bool true) w7 (by kernel_rfl) ?_
    simp only [Act.put, List.setIfInBounds_toArray, List.set_cons_zero, List.set_cons_succ]
    refine sl_run rfl (.bool true) w7 (by kernel_rfl) ?_
    simp only [Act.put, List.setIfInBounds_toArray, List.set_cons_zero, List.set_cons_succ]
    refine sg_run (by kernel_rfl) (.bool false) w7 (by kernel_rfl) ?_
    simp only [Act.put, List.setIfInBounds_toArray, List.set_cons_zero, List.set_cons_succ]
    refine sg_run (by kernel_rfl) (.bool false) w7 (by kernel_rfl) ?_
    simp only [Act.put, List.setIfInBounds_toArray, List.set_cons_zero, List.set_cons_succ]
    refine wpList_skip (by kernel_rfl) ?_
    simp only [Act.put, List.setIfInBounds_toArray, List.set_cons_zero, List.set_cons_succ]
    refine sg_run (by kernel_rfl) (.bool false) w7 (by kernel_rfl) ?_
    simp only [Act.put, List.setIfInBounds_toArray, List.set_cons_zero, List.set_cons_succ]
    refine sg_run (by kernel_rfl) (.bool true) w7 (by kernel_rfl) ?_
    simp only [Act.put, List.setIfInBounds_toArray, List.set_cons_zero, List.set_cons_succ]
    refine sl_run rfl (.bool true) w7 (by kernel_rfl) ?_
    simp only [Act.put, List.setIfInBounds_toArray, List.set_cons_zero, List.set_cons_succ]
    refine sl_run rfl (.bool true) w7 (by kernel_rfl) ?_
    simp only [Act.put, List.setIfInBounds_toArray, List.set_cons_zero, List.set_cons_succ]
    refine sg_run (by kernel_rfl) (.bool true) w7 (by kernel_rfl) ?_
    simp only [Act.put, List.setIfInBounds_toArray, List.set_cons_zero, List.set_cons_succ]
    refine sg_run (by kernel_rfl) (.bool false) w7 (by kernel_rfl) ?_
    simp only [Act.put, List.setIfInBounds_toArray, List.set_cons_zero, List.set_cons_succ]
    refine sg_run (by kernel_rfl) (.bool false) w7 (by kernel_rfl) ?_
    simp only [Act.put, List.setIfInBounds_toArray, List.set_cons_zero, List.set_cons_succ]
    refine sg_run (by kernel_rfl) (.bool true) w7 (by kernel_rfl) ?_
    simp only [Act.put, List.setIfInBounds_toArray, List.set_cons_zero, List.set_cons_succ]
    refine sg_run (by kernel_rfl) (.bool true) w7 (by kernel_rfl) ?_
    simp only [Act.put, List.setIfInBounds_toArray, List.set_cons_zero, List.set_cons_succ]
    refine sg_run (by kernel_rfl) (.bool true) w7 (by kernel_rfl) ?_
    simp only [Act.put, List.setIfInBounds_toArray, List.set_cons_zero, List.set_cons_succ]
    refine sl_run rfl (.bool true) w7 (by kernel_rfl) ?_
    simp only [Act.put, List.setIfInBounds_toArray, List.set_cons_zero, List.set_cons_succ]
    refine sl_run rfl (.bool true) w7 (by kernel_rfl) ?_
    simp only [Act.put, List.setIfInBounds_toArray, List.set_cons_zero, List.set_cons_succ]
    refine sg_run (by kernel_rfl) (.bool true) w7 (by kernel_rfl) ?_
    simp only [Act.put, List.setIfInBounds_toArray, List.set_cons_zero, List.set_cons_succ]
    refine sg_run (by kernel_rfl) (.agg x.c) w7 (hL0 _ rfl (by kernel_rfl)) ?_
    simp only [Act.put, List.setIfInBounds_toArray, List.set_cons_zero, List.set_cons_succ]
    refine sg_run (by kernel_rfl) (.agg y.c) w7 (hL1 _ rfl (by kernel_rfl)) ?_
    simp only [Act.put, List.setIfInBounds_toArray, List.set_cons_zero, List.set_cons_succ]
    refine sg_run (by kernel_rfl) (.bool true) w7 ((exec_neq46 _ _ rfl x y (by kernel_rfl) (by kernel_rfl) w7).trans (by rw [← hneH.out])) ?_
    simp only [Act.put, List.setIfInBounds_toArray, List.set_cons_zero, List.set_cons_succ]
    refine sg_run (by kernel_rfl) (.bool true) w7 (by kernel_rfl) ?_
    simp only [Act.put, List.setIfInBounds_toArray, List.set_cons_zero, List.set_cons_succ]
    refine sl_run rfl (.bool true) w7 (by kernel_rfl) ?_
    simp only [Act.put, List.setIfInBounds_toArray, List.set_cons_zero, List.set_cons_succ]
    refine sl_run rfl (.bool true) w7 (by kernel_rfl) ?_
    simp only [Act.put, List.setIfInBounds_toArray, List.set_cons_zero, List.set_cons_succ]
    refine wpList_nil ?_
    clear hL0 hL1 h0 h1 hneH
    go_wp2_with fail
    go_ret
    exact ⟨rfl, by rw [← hBd]; exact hB.out⟩
  · clear hcases hpH hqH huH
    refine sl_run rfl (.bool true) w7 (by kernel_rfl) ?_
    simp only [Act.put, List.setIfInBounds_toArray, List.set_cons_zero, List.set_cons_succ]
    refine sl_run rfl (.bool true) w7 (by kernel_rfl) ?_
    simp only [Act.put, List.setIfInBounds_toArray, List.set_cons_zero, List.set_cons_succ]
    refine sg_run (by kernel_rfl) (.bool true) w7 (by kernel_rfl) ?_
    simp only [Act.put, List.setIfInBounds_toArray, List.set_cons_zero, List.set_cons_succ]
    refine sl_run rfl (.bool true) w7 (by kernel_rfl) ?_
    simp only [Act.put, List.setIfInBounds_toArray, List.set_cons_zero, List.set_cons_succ]
    refine sl_run rfl (.bool true) w7 (by kernel_rfl) ?_
    simp only [Act.put, List.setIfInBounds_toArray, List.set_cons_zero, List.set_cons_succ]
    refine sg_run (by kernel_rfl) (.bool true) w7 (by kernel_rfl) ?_
    simp only [Act.put, List.setIfInBounds_toArray, List.set_cons_zero, List.set_cons_succ]
    refine sl_run rfl (.bool true) w7 (by kernel_rfl) ?_
    simp only [Act.put, List.setIfInBounds_toArray, List.set_cons_zero, List.set_cons_succ]
    refine sl_run rfl (.bool true) w7 (by kernel_rfl) ?_
    simp only [Act.put, List.setIfInBounds_toArray, List.set_cons_zero, List.set_cons_succ]
    refine sg_run (by kernel_rfl) (.bool false) w7 (by kernel_rfl) ?_
    simp only [Act.put, List.setIfInBounds_toArray, List.set_cons_zero, List.set_cons_succ]
    refine sg_run (by kernel_rfl) (.bool false) w7 (by kernel_rfl) ?_
    simp only [Act.put, List.setIfInBounds_toArray, List.set_cons_zero, List.set_cons_succ]
    refine wpList_skip (by kernel_rfl) ?_
    simp only [Act.put, List.setIfInBounds_toArray, List.set_cons_zero, List.set_cons_succ]
    refine sg_run (by kernel_rfl) (.bool false) w7 (by kernel_rfl) ?_
    simp only [Act.put, List.setIfInBounds_toArray, List.set_cons_zero, List.set_cons_succ]
    refine sg_run (by kernel_rfl) (.bool true) w7 (by kernel_rfl) ?_
    simp only [Act.put, List.setIfInBounds_toArray, List.set_cons_zero, List.set_cons_succ]
    refine sl_run rfl (.bool true) w7 (by kernel_rfl) ?_
    simp only [Act.put, List.setIfInBounds_toArray, List.set_cons_zero, List.set_cons_succ]
    refine sl_run rfl (.bool true) w7 (by kernel_rfl) ?_
    simp only [Act.put, List.setIfInBounds_toArray, List.set_cons_zero, List.set_cons_succ]
    refine sg_run (by kernel_rfl) (.bool false) w7 (by kernel_rfl) ?_
    simp only [Act.put, List.setIfInBounds_toArray, List.set_cons_zero, List.set_cons_succ]
    refine sg_run (by kernel_rfl) (.bool false) w7 (by kernel_rfl) ?_
    simp only [Act.put, List.setIfInBounds_toArray, List.set_cons_zero, List.set_cons_succ]
    refine sg_run (by kernel_rfl) (.bool false) w7 (by kernel_rfl) ?_
    simp only [Act.put, List.setIfInBounds_toArray, List.set_cons_zero, List.set_cons_succ]
    refine sg_run (by kernel_rfl) (.bool false) w7 (by kernel_rfl) ?_
    simp only [Act.put, List.setIfInBounds_toArray, List.set_cons_zero, List.set_cons_succ]
    refine sg_run (by kernel_rfl) (.bool false) w7 (by kernel_rfl) ?_
    simp only [Act.put, List.setIfInBounds_toArray, List.set_cons_zero, List.set_cons_succ]
    refine sg_run (by kernel_rfl) (.bool true) w7 (by kernel_rfl) ?_
    simp only [Act.put, List.setIfInBounds_toArray, List.set_cons_zero, List.set_cons_succ]
    refine sl_run rfl (.bool true) w7 (by kernel_rfl) ?_
    simp only [Act.put, List.setIfInBounds_toArray, List.set_cons_zero, List.set_cons_succ]
    refine sl_run rfl (.bool true) w7 (by kernel_rfl) ?_
    simp only [Act.put, List.setIfInBounds_toArray, List.set_cons_zero, List.set_cons_succ]
    refine sg_run (by kernel_rfl) (.bool false) w7 (by kernel_rfl) ?_
    simp only [Act.put, List.setIfInBounds_toArray, List.set_cons_zero, List.set_cons_succ]
    refine sg_run (by kernel_rfl) (.agg x.c) w7 (hL0 _ rfl (by kernel_rfl)) ?_
    simp only [Act.put, List.setIfInBounds_toArray, List.set_cons_zero, List.set_cons_succ]
    refine sg_run (by kernel_rfl) (.agg y.c) w7 (hL1 _ rfl (by kernel_rfl)) ?_
    simp only [Act.put, List.setIfInBounds_toArray, List.set_cons_zero, List.set_cons_succ]
    refine sg_run (by kernel_rfl) (.bool false) w7 ((exec_neq46 _ _ rfl x y (by kernel_rfl) (by kernel_rfl) w7).trans (by rw [← hneH.out])) ?_
    simp only [Act.put, List.setIfInBounds_toArray, List.set_cons_zero, List.set_cons_succ]
    refine sg_run (by kernel_rfl) (.bool true) w7 (by kernel_rfl) ?_
    simp only [Act.put, List.setIfInBounds_toArray, List.set_cons_zero, List.set_cons_succ]
    refine sl_run rfl (.bool true) w7 (by kernel_rfl) ?_
    simp only [Act.put, List.setIfInBounds_toArray, List.set_cons_zero, List.set_cons_succ]
    refine sl_run rfl (.bool true) w7 (by kernel_rfl) ?_
    simp only [Act.put, List.setIfInBounds_toArray, List.set_cons_zero, List.set_cons_succ]
    refine wpList_nil ?_
    clear hL0 hL1 h0 h1 hneH
    go_wp2_with fail
    go_ret
    exact ⟨rfl, by rw [← hBd]; exact hB.out⟩
end Go.Proofs.Ytehgblnhhlgikaa.Bi
