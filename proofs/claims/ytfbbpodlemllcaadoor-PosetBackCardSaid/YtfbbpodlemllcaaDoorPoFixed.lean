/-
  Orders: the closed example.
-/
import Derived.Test.YtfbbpodlemllcaaDoorPoRefs2
import Derived.Test.YtfbbpodlemllcaaDoorPoPairs
import Derived.Test.YtfbbpodlemllcaaDoorPoJoin
namespace Go.Proofs.YtfbbpodlemllcaaDoor
open Go.RowKit Go.Shelf
set_option linter.unusedVariables false
set_option linter.unusedSimpArgs false
set_option pp.maxSteps 50000
attribute [local go_sem] Oper.semAt_some
theorem closS_eq {n : Nat} {pairs : List P2} (hn : n ≤ 64) (hf : ∀ p ∈ pairs, inRange n p) : closS n pairs = warsh (addAll n pairs) n := (warsh_clos (addAll_grows hn hf) (addAll_based hf)).symm
instance {up : List Nat} {a : Nat} : Decidable (okA up a) := by unfold okA; infer_instance
instance {n : Int} {p : P2} : Decidable (inRange n p) := by unfold inRange; infer_instance
def ex3 : List Nat := [7, 6, 4]
theorem ex3_small : Small ex3 := by unfold Small ex3; decide
theorem ex3_ord : Ord ex3 := (ord_iff ex3_small).2 (by unfold ex3; decide +kernel)
theorem ex3_clos : closS 3 [(0, 1), (1, 2)] = ex3 := by
  rw [closS_eq (by decide) (by decide)]; decide +kernel
theorem ex2_clos : closS 2 [(0, 1), (1, 0)] = [3, 3] := by
  rw [closS_eq (by decide) (by decide)]; decide +kernel
theorem ex2_ord : ¬ Ord [3, 3] := fun h => by
  have := (ord_iff (by unfold Small; decide)).1 h
  revert this
  decide +kernel
theorem ex3_build : buildS 3 [(0, 1), (1, 2)] = (ex3, 0) := by
  have hf : Fit 3 [(0, 1), (1, 2)] := ⟨by decide, by decide, by decide⟩
  unfold buildS
  rw [tr_true hf, if_pos rfl, show (3 : Int).toNat = 3 from rfl, ex3_clos, tr_true ex3_ord, if_pos rfl]
theorem ex2_build : buildS 2 [(0, 1), (1, 0)] = ([], 9) := by
  have hf : Fit 2 [(0, 1), (1, 0)] := ⟨by decide, by decide, by decide⟩
  unfold buildS
  rw [tr_true hf, if_pos rfl, show (2 : Int).toNat = 2 from rfl, ex2_clos, tr_false ex2_ord, if_neg (by decide)]
theorem ex3_has {a b : Int} (ha : 0 ≤ a ∧ a < 3) (hb : 0 ≤ b ∧ b < 3) : Has ex3 [a, b] := has_two.2 ⟨⟨ex3_ord, ha⟩, ex3_ord, hb⟩
theorem ex3_join : joinS ex3 0 2 = some 2 := by
  unfold joinS
  rw [tr_true (ex3_has (by decide) (by decide)), if_pos rfl]; decide +kernel
theorem ex3_pairs : pairsS ex3 = [(0, 1), (1, 2)] := by
  unfold pairsS
  rw [tr_true ex3_ord, if_pos rfl]; decide +kernel
theorem ex3_at1 : tr (atS ex3 0 2) = true := tr_true ⟨ex3_has (by decide) (by decide), by decide +kernel⟩
theorem ex3_at2 : tr (atS ex3 2 0) = false := tr_false fun h => absurd h.2 (by decide +kernel)
theorem ex3_above : aboveS ex3 1 = 6 := by
  unfold aboveS
  rw [tr_true (has_one.2 ⟨ex3_ord, by decide, by decide⟩), if_pos rfl]; decide +kernel
theorem ex3_below : belowS ex3 1 = 3 := by
  unfold belowS
  rw [tr_true (has_one.2 ⟨ex3_ord, by decide, by decide⟩), if_pos rfl]; decide +kernel
def stepI (z : Int) (b : Nat) : Int := IntKind.i64.wrap (IntKind.i64.wrap (10 * z) + (b : Int))
def digits {m : Nat} (pre : List (BitOf m)) : Int := (pre.map (·.1)).foldl stepI 0
theorem digits_snoc {m : Nat} {pre : List (BitOf m)} {x : BitOf m} : digits (pre ++ [x]) = stepI (digits pre) x.1 := by simp [digits]
theorem digits_all {xs : List (BitOf 10)} (h : xs.map (·.1) = bl 10) : digits xs = 13 := by unfold digits; rw [h]; decide +kernel
set_option maxRecDepth 100000 in
set_option maxHeartbeats 4000000 in
theorem fixed_calls (w : World) (ht : Tab w) : Calls Tryd.prog 11 #[] w fun e w' => e = .returned (.bool true) ∧ Below w.heap.size w w' := by
  have htH : Hid (Tab w) := ht
  have hw0 : Hid (0 < w.heap.size) := ht.1
  clear ht
  refine calls_marks 9 Tryd.func11 rfl ?_
  simp only [Tryd.ntmps11, List.size_toArray, List.length_cons, List.length_nil, Nat.reduceAdd, Nat.reduceSub, Array.replicate_succ, Array.replicate_zero, List.push_toArray, List.append_toArray, List.nil_append, List.cons_append]
  go_upto_region 1 with fail
  refine wp_region_lit ?_
  refine sl_run rfl (.agg #[.int .i64 0, .int .i64 1]) w (by kernel_rfl) ?_
  simp only [Act.put, List.setIfInBounds_toArray, List.set_cons_zero, List.set_cons_succ]
  refine sl_run rfl (.agg #[.int .i64 1, .int .i64 2]) w (by kernel_rfl) ?_
  simp only [Act.put, List.setIfInBounds_toArray, List.set_cons_zero, List.set_cons_succ]
  refine sl_run rfl (.slice (some ⟨w.heap.size, 0, none⟩) 2 2) (w.alloc (.cells (flat encP [(0, 1), (1, 2)]).toArray 44)) (by kernel_rfl) ?_
  simp only [Act.put, List.setIfInBounds_toArray, List.set_cons_zero, List.set_cons_succ]
  have hn_w1 : (w.alloc (.cells (flat encP [(0, 1), (1, 2)]).toArray 44)).heap[w.heap.size]? = some (.cells (flat encP [(0, 1), (1, 2)]).toArray 44 (0, 0)) := heap_alloc_new _ _
  have hbn_w1 : Below w.heap.size w (w.alloc (.cells (flat encP [(0, 1), (1, 2)]).toArray 44)) := (Below.refl _ _).alloc (Nat.le_refl _) _
  obtain ⟨g_w1, hg_w1⟩ : ∃ g, g = w.heap.size := ⟨_, rfl⟩
  rw [← hg_w1] at hn_w1 ⊢
  generalize w.alloc _ = y_w1 at hn_w1 hbn_w1 ⊢
  clear hg_w1
  have hrw_w1 : Rw 2 encP y_w1 (.slice (some ⟨g_w1, 0, none⟩) 2 2) [(0, 1), (1, 2)] := rw_new (enc := encP) encP_size [(0, 1), (1, 2)] hn_w1
  have hby_w1 : Below w.heap.size w y_w1 := hbn_w1
  refine sl_call rfl 12 #[.int .i64 3, .slice (some ⟨g_w1, 0, none⟩) 2 2] (by kernel_rfl) (R := fun v w' => ∃ A c, v = .tuple #[.slice A 3 c, .int .i64 0] ∧ Ms w' (.slice A 3 c) ex3 ∧ Below y_w1.heap.size y_w1 w') ((build_calls 3 [(0, 1), (1, 2)] (some ⟨g_w1, 0, none⟩) 2 2 rfl (by decide) y_w1 (htH.out.below hw0.out hby_w1) hrw_w1).mono fun e w' h => by
    obtain ⟨v, h1, h2, h3⟩ := h
    rw [ex3_build] at h1 h2
    obtain ⟨A, c, rfl⟩ := h2.form
    exact ⟨_, h1, A, c, rfl, h2, h3⟩) ?_
  rintro _ w1 ⟨A, c, rfl, hms, hb⟩
  simp only [Act.put, List.setIfInBounds_toArray, List.set_cons_zero, List.set_cons_succ]
  refine sl_run rfl (.tuple #[.slice A 3 c, .int .i64 0]) w1 (by kernel_rfl) ?_
  simp only [Act.put, List.setIfInBounds_toArray, List.set_cons_zero, List.set_cons_succ]
  refine sl_run rfl (.slice A 3 c) w1 (by kernel_rfl) ?_
  simp only [Act.put, List.setIfInBounds_toArray, List.set_cons_zero, List.set_cons_succ]
  refine sl_run rfl (.int .i64 0) w1 (by kernel_rfl) ?_
  simp only [Act.put, List.setIfInBounds_toArray, List.set_cons_zero, List.set_cons_succ]
  refine sl_run rfl (.slice A 3 c) w1 (by kernel_rfl) ?_
  simp only [Act.put, List.setIfInBounds_toArray, List.set_cons_zero, List.set_cons_succ]
  refine sl_run rfl (.int .i64 0) w1 (by kernel_rfl) ?_
  simp only [Act.put, List.setIfInBounds_toArray, List.set_cons_zero, List.set_cons_succ]
  refine wpList_nil ?_
  have hms1 : Hid (Ms w1 (.slice A 3 c) ex3) := hms
  have hB1 : Hid (Below w.heap.size w w1) := hby_w1.trans (hb.mono hby_w1.size)
  clear hms hb hn_w1 hbn_w1 hrw_w1 hby_w1
  go_upto_region 2 with fail
  refine wp_region_lit ?_
  refine sl_run rfl (.agg #[.int .i64 0, .int .i64 1]) w1 (by kernel_rfl) ?_
  simp only [Act.put, List.setIfInBounds_toArray, List.set_cons_zero, List.set_cons_succ]
  refine sl_run rfl (.agg #[.int .i64 1, .int .i64 0]) w1 (by kernel_rfl) ?_
  simp only [Act.put, List.setIfInBounds_toArray, List.set_cons_zero, List.set_cons_succ]
  refine sl_run rfl (.slice (some ⟨w1.heap.size, 0, none⟩) 2 2) (w1.alloc (.cells (flat encP [(0, 1), (1, 0)]).toArray 44)) (by kernel_rfl) ?_
  simp only [Act.put, List.setIfInBounds_toArray, List.set_cons_zero, List.set_cons_succ]
  have hn_w2 : (w1.alloc (.cells (flat encP [(0, 1), (1, 0)]).toArray 44)).heap[w1.heap.size]? = some (.cells (flat encP [(0, 1), (1, 0)]).toArray 44 (0, 0)) := heap_alloc_new _ _
  have hbn_w2 : Below w1.heap.size w1 (w1.alloc (.cells (flat encP [(0, 1), (1, 0)]).toArray 44)) := (Below.refl _ _).alloc (Nat.le_refl _) _
  obtain ⟨g_w2, hg_w2⟩ : ∃ g, g = w1.heap.size := ⟨_, rfl⟩
  rw [← hg_w2] at hn_w2 ⊢
  generalize w1.alloc _ = y_w2 at hn_w2 hbn_w2 ⊢
  clear hg_w2
  have hrw_w2 : Rw 2 encP y_w2 (.slice (some ⟨g_w2, 0, none⟩) 2 2) [(0, 1), (1, 0)] := rw_new (enc := encP) encP_size [(0, 1), (1, 0)] hn_w2
  have hby_w2 : Below w.heap.size w y_w2 := hB1.out.trans (hbn_w2.mono hB1.out.size)
  refine sl_call rfl 12 #[.int .i64 2, .slice (some ⟨g_w2, 0, none⟩) 2 2] (by kernel_rfl) (R := fun v w' => ∃ A2 c2, v = .tuple #[.slice A2 0 c2, .int .i64 9] ∧ Below y_w2.heap.size y_w2 w') ((build_calls 2 [(0, 1), (1, 0)] (some ⟨g_w2, 0, none⟩) 2 2 rfl (by decide) y_w2 (htH.out.below hw0.out hby_w2) hrw_w2).mono fun e w' h => by
    obtain ⟨v, h1, h2, h3⟩ := h
    rw [ex2_build] at h1 h2
    obtain ⟨A2, c2, rfl⟩ := h2.form
    exact ⟨_, h1, A2, c2, rfl, h3⟩) ?_
  rintro _ w2 ⟨A2, c2, rfl, hb⟩
  simp only [Act.put, List.setIfInBounds_toArray, List.set_cons_zero, List.set_cons_succ]
  refine sl_run rfl (.tuple #[.slice A2 0 c2, .int .i64 9]) w2 (by kernel_rfl) ?_
  simp only [Act.put, List.setIfInBounds_toArray, List.set_cons_zero, List.set_cons_succ]
  refine sl_run rfl (.slice A2 0 c2) w2 (by kernel_rfl) ?_
  simp only [Act.put, List.setIfInBounds_toArray, List.set_cons_zero, List.set_cons_succ]
  refine sl_run rfl (.int .i64 9) w2 (by kernel_rfl) ?_
  simp only [Act.put, List.setIfInBounds_toArray, List.set_cons_zero, List.set_cons_succ]
  refine sl_run rfl (.slice A2 0 c2) w2 (by kernel_rfl) ?_
  simp only [Act.put, List.setIfInBounds_toArray, List.set_cons_zero, List.set_cons_succ]
  refine sl_run rfl (.int .i64 9) w2 (by kernel_rfl) ?_
  simp only [Act.put, List.setIfInBounds_toArray, List.set_cons_zero, List.set_cons_succ]
  refine wpList_nil ?_
  have hk : Below w1.heap.size w1 w2 := hbn_w2.trans (hb.mono hbn_w2.size)
  have hms2 : Hid (Ms w2 (.slice A 3 c) ex3) := hms1.out.below hk
  have hB2 : Hid (Below w.heap.size w w2) := hB1.out.trans (hk.mono hB1.out.size)
  clear hb hk hn_w2 hbn_w2 hrw_w2 hby_w2 hms1 hB1
  go_upto_region 3 with fail
  refine wp_region_lit ?_
  refine sl_run rfl (.slice A 3 c) w2 (by kernel_rfl) ?_
  simp only [Act.put, List.setIfInBounds_toArray, List.set_cons_zero, List.set_cons_succ]
  refine sl_call rfl 17 #[.slice A 3 c, .int .i64 0, .int .i64 2] (by kernel_rfl) (R := fun v w' => v = .tuple #[.int .i64 2, .bool true] ∧ Below w2.heap.size w2 w') ((join_calls ex3 ex3_small A 3 c rfl 0 2 w2 (htH.out.below hw0.out hB2.out) hms2.out).mono fun e w' h => by
    obtain ⟨h1, h2⟩ := h
    rw [ex3_join] at h1
    exact ⟨_, h1, rfl, h2⟩) ?_
  rintro _ w3 ⟨rfl, hb⟩
  simp only [Act.put, List.setIfInBounds_toArray, List.set_cons_zero, List.set_cons_succ]
  refine sl_run rfl (.tuple #[.int .i64 2, .bool true]) w3 (by kernel_rfl) ?_
  simp only [Act.put, List.setIfInBounds_toArray, List.set_cons_zero, List.set_cons_succ]
  refine sl_run rfl (.int .i64 2) w3 (by kernel_rfl) ?_
  simp only [Act.put, List.setIfInBounds_toArray, List.set_cons_zero, List.set_cons_succ]
  refine sl_run rfl (.bool true) w3 (by kernel_rfl) ?_
  simp only [Act.put, List.setIfInBounds_toArray, List.set_cons_zero, List.set_cons_succ]
  refine sl_run rfl (.int .i64 2) w3 (by kernel_rfl) ?_
  simp only [Act.put, List.setIfInBounds_toArray, List.set_cons_zero, List.set_cons_succ]
  refine sl_run rfl (.bool true) w3 (by kernel_rfl) ?_
  simp only [Act.put, List.setIfInBounds_toArray, List.set_cons_zero, List.set_cons_succ]
  refine wpList_nil ?_
  have hms3 : Hid (Ms w3 (.slice A 3 c) ex3) := hms2.out.below hb
  have hB3 : Hid (Below w.heap.size w w3) := hB2.out.trans (hb.mono hB2.out.size)
  clear hb hms2 hB2
  go_upto_region 4 with fail
  refine wp_region_lit ?_
  refine sl_run rfl (.slice A 3 c) w3 (by kernel_rfl) ?_
  simp only [Act.put, List.setIfInBounds_toArray, List.set_cons_zero, List.set_cons_succ]
  refine sl_call rfl 26 #[.slice A 3 c] (by kernel_rfl) (R := fun v w' => ∃ A4 c4, v = .slice A4 2 c4 ∧ Rw 2 encP w' (.slice A4 2 c4) [(0, 1), (1, 2)] ∧ Below w3.heap.size w3 w') ((pairs_calls ex3 ex3_small A 3 c rfl w3 (htH.out.below hw0.out hB3.out) hms3.out).mono fun e w' h => by
    obtain ⟨v, h1, h2, h3⟩ := h
    rw [ex3_pairs] at h2
    have h4 := Rw.own (enc := encP) encP_size (by decide) h2
    obtain ⟨A4, c4, rfl⟩ := h4.form
    exact ⟨_, h1, A4, c4, rfl, h4, h3⟩) ?_
  rintro _ w4 ⟨A4, c4, rfl, hrw, hb⟩
  simp only [Act.put, List.setIfInBounds_toArray, List.set_cons_zero, List.set_cons_succ]
  refine sl_run rfl (.slice A4 2 c4) w4 (by kernel_rfl) ?_
  simp only [Act.put, List.setIfInBounds_toArray, List.set_cons_zero, List.set_cons_succ]
  refine wpList_nil ?_
  have hms4 : Hid (Ms w4 (.slice A 3 c) ex3) := hms3.out.below hb
  have hB4 : Hid (Below w.heap.size w w4) := hB3.out.trans (hb.mono hB3.out.size)
  have hrw4 : Hid (Rw 2 encP w4 (.slice A4 2 c4) [(0, 1), (1, 2)]) := hrw
  clear hb hms3 hB3 hrw
  go_upto_region 5 with fail
  refine wp_region_lit ?_
  refine sl_run rfl (.int .i64 0) w4 (by kernel_rfl) ?_
  simp only [Act.put, List.setIfInBounds_toArray, List.set_cons_zero, List.set_cons_succ]
  refine sl_run rfl (.bool false) w4 (by kernel_rfl) ?_
  simp only [Act.put, List.setIfInBounds_toArray, List.set_cons_zero, List.set_cons_succ]
  refine sl_run rfl (.bool false) w4 (by kernel_rfl) ?_
  simp only [Act.put, List.setIfInBounds_toArray, List.set_cons_zero, List.set_cons_succ]
  refine sg_run (by kernel_rfl) (.slice A 3 c) w4 (by kernel_rfl) ?_
  simp only [Act.put, List.setIfInBounds_toArray, List.set_cons_zero, List.set_cons_succ]
  refine sg_run (by kernel_rfl) (.slice (some ⟨w4.heap.size, 0, none⟩) 3 3) (w4.alloc (.cells (flat encM ex3).toArray 36)) (by kernel_rfl) ?_
  simp only [Act.put, List.setIfInBounds_toArray, List.set_cons_zero, List.set_cons_succ]
  have hn5 : (w4.alloc (.cells (flat encM ex3).toArray 36)).heap[w4.heap.size]? = some (.cells (flat encM ex3).toArray 36 (0, 0)) := heap_alloc_new _ _
  have hb5 : Below w4.heap.size w4 (w4.alloc (.cells (flat encM ex3).toArray 36)) := (Below.refl _ _).alloc (Nat.le_refl _) _
  obtain ⟨g5, hg5⟩ : ∃ g, g = w4.heap.size := ⟨_, rfl⟩
  rw [← hg5] at hn5 ⊢
  generalize w4.alloc _ = w5 at hn5 hb5 ⊢
  clear hg5
  have hms5 : Hid (Ms w5 (.slice A 3 c) ex3) := hms4.out.below hb5
  have hrw5 : Hid (Rw 2 encP w5 (.slice A4 2 c4) [(0, 1), (1, 2)]) := hrw4.out.below hb5
  have hB5 : Hid (Below w.heap.size w w5) := hB4.out.trans (hb5.mono hB4.out.size)
  have hmm : Ms w5 (.slice (some ⟨g5, 0, none⟩) 3 3) ex3 := rw_new (enc := encM) encM_size ex3 hn5
  refine sg_call (by kernel_rfl) 14 #[.slice A 3 c, .slice (some ⟨g5, 0, none⟩) 3 3] (by kernel_rfl) (R := fun v w' => v = .bool true ∧ Below w5.heap.size w5 w') ((masks_calls ex3 ex3 A (some ⟨g5, 0, none⟩) 3 c 3 3 rfl rfl (by decide) w5 hms5.out hmm).mono fun e w' h => by
    obtain ⟨h1, h2⟩ := h
    rw [decide_eq_true rfl] at h1
    exact ⟨_, h1, rfl, h2⟩) ?_
  rintro _ w6 ⟨rfl, hb⟩
  simp only [Act.put, List.setIfInBounds_toArray, List.set_cons_zero, List.set_cons_succ]
  have hms6 : Hid (Ms w6 (.slice A 3 c) ex3) := hms5.out.below hb
  have hrw6 : Hid (Rw 2 encP w6 (.slice A4 2 c4) [(0, 1), (1, 2)]) := hrw5.out.below hb
  have hB6 : Hid (Below w.heap.size w w6) := hB5.out.trans (hb.mono hB5.out.size)
  clear hb hn5 hb5 hms4 hrw4 hB4 hms5 hrw5 hB5 hmm
  refine sg_run (by kernel_rfl) (.bool false) w6 (by kernel_rfl) ?_
  simp only [Act.put, List.setIfInBounds_toArray, List.set_cons_zero, List.set_cons_succ]
  refine sg_run (by kernel_rfl) (.bool false) w6 (by kernel_rfl) ?_
  simp only [Act.put, List.setIfInBounds_toArray, List.set_cons_zero, List.set_cons_succ]
  refine sg_run (by kernel_rfl) (.bool false) w6 (by kernel_rfl) ?_
  simp only [Act.put, List.setIfInBounds_toArray, List.set_cons_zero, List.set_cons_succ]
  refine sg_run (by kernel_rfl) (.int .i64 9) w6 (by kernel_rfl) ?_
  simp only [Act.put, List.setIfInBounds_toArray, List.set_cons_zero, List.set_cons_succ]
  refine sg_run (by kernel_rfl) (.bool false) w6 (by kernel_rfl) ?_
  simp only [Act.put, List.setIfInBounds_toArray, List.set_cons_zero, List.set_cons_succ]
  refine sg_run (by kernel_rfl) (.bool false) w6 (by kernel_rfl) ?_
  simp only [Act.put, List.setIfInBounds_toArray, List.set_cons_zero, List.set_cons_succ]
  refine sg_run (by kernel_rfl) (.bool false) w6 (by kernel_rfl) ?_
  simp only [Act.put, List.setIfInBounds_toArray, List.set_cons_zero, List.set_cons_succ]
  refine sg_run (by kernel_rfl) (.bool true) w6 (by kernel_rfl) ?_
  simp only [Act.put, List.setIfInBounds_toArray, List.set_cons_zero, List.set_cons_succ]
  refine sg_run (by kernel_rfl) (.bool false) w6 (by kernel_rfl) ?_
  simp only [Act.put, List.setIfInBounds_toArray, List.set_cons_zero, List.set_cons_succ]
  refine sg_run (by kernel_rfl) (.bool false) w6 (by kernel_rfl) ?_
  simp only [Act.put, List.setIfInBounds_toArray, List.set_cons_zero, List.set_cons_succ]
  refine sg_run (by kernel_rfl) (.bool false) w6 (by kernel_rfl) ?_
  simp only [Act.put, List.setIfInBounds_toArray, List.set_cons_zero, List.set_cons_succ]
  refine sg_run (by kernel_rfl) (.int .i64 2) w6 (by kernel_rfl) ?_
  simp only [Act.put, List.setIfInBounds_toArray, List.set_cons_zero, List.set_cons_succ]
  refine sg_run (by kernel_rfl) (.bool false) w6 (by kernel_rfl) ?_
  simp only [Act.put, List.setIfInBounds_toArray, List.set_cons_zero, List.set_cons_succ]
  refine sg_run (by kernel_rfl) (.bool false) w6 (by kernel_rfl) ?_
  simp only [Act.put, List.setIfInBounds_toArray, List.set_cons_zero, List.set_cons_succ]
  refine sg_run (by kernel_rfl) (.bool false) w6 (by kernel_rfl) ?_
  simp only [Act.put, List.setIfInBounds_toArray, List.set_cons_zero, List.set_cons_succ]
  refine sg_run (by kernel_rfl) (.slice A4 2 c4) w6 (by kernel_rfl) ?_
  simp only [Act.put, List.setIfInBounds_toArray, List.set_cons_zero, List.set_cons_succ]
  refine sg_run (by kernel_rfl) (.int .i64 2) w6 (by kernel_rfl) ?_
  simp only [Act.put, List.setIfInBounds_toArray, List.set_cons_zero, List.set_cons_succ]
  refine sg_run (by kernel_rfl) (.bool false) w6 (by kernel_rfl) ?_
  simp only [Act.put, List.setIfInBounds_toArray, List.set_cons_zero, List.set_cons_succ]
  refine sg_run (by kernel_rfl) (.bool false) w6 (by kernel_rfl) ?_
  simp only [Act.put, List.setIfInBounds_toArray, List.set_cons_zero, List.set_cons_succ]
  refine sg_run (by kernel_rfl) (.bool false) w6 (by kernel_rfl) ?_
  simp only [Act.put, List.setIfInBounds_toArray, List.set_cons_zero, List.set_cons_succ]
  obtain ⟨g7, o7, rfl, hc7, hg7, hel⟩ := hrw6.out.elem 1 (by decide)
  refine sg_run (by kernel_rfl) (.slice (some ⟨g7, o7, none⟩) 2 c4) w6 (by kernel_rfl) ?_
  simp only [Act.put, List.setIfInBounds_toArray, List.set_cons_zero, List.set_cons_succ]
  refine sg_run (by kernel_rfl) (.pointer (some ⟨g7, o7 + 1 * 2, none⟩)) w6 (exec_index un22 sz22 _ _ rfl g7 o7 2 c4 1 (by kernel_rfl) (by kernel_rfl) (by decide) w6) ?_
  simp only [Act.put, List.setIfInBounds_toArray, List.set_cons_zero, List.set_cons_succ]
  refine sg_run (by kernel_rfl) (.agg (encP (1, 2))) w6 ((exec_load_mid 44 w6 _ rfl g7 (o7 + 1 * 2) (by kernel_rfl) _ _ hel Tryd.underlying44 rfl (by kernel_rfl)).trans rfl) ?_
  simp only [Act.put, List.setIfInBounds_toArray, List.set_cons_zero, List.set_cons_succ]
  refine sg_run (by kernel_rfl) (.agg (encP (1, 2))) w6 (by kernel_rfl) ?_
  simp only [Act.put, List.setIfInBounds_toArray, List.set_cons_zero, List.set_cons_succ]
  refine sg_run (by kernel_rfl) (.bool (decide (((1, 2) : P2) ≠ (1, 2)))) w6 (exec_neP _ _ rfl (1, 2) (1, 2) (by kernel_rfl) (by kernel_rfl)) ?_
  simp only [Act.put, List.setIfInBounds_toArray, List.set_cons_zero, List.set_cons_succ]
  rw [show decide (((1, 2) : P2) ≠ (1, 2)) = false from by decide]
  refine sg_run (by kernel_rfl) (.bool false) w6 (by kernel_rfl) ?_
  simp only [Act.put, List.setIfInBounds_toArray, List.set_cons_zero, List.set_cons_succ]
  refine sg_run (by kernel_rfl) (.bool false) w6 (by kernel_rfl) ?_
  simp only [Act.put, List.setIfInBounds_toArray, List.set_cons_zero, List.set_cons_succ]
  refine sg_run (by kernel_rfl) (.slice A 3 c) w6 (by kernel_rfl) ?_
  simp only [Act.put, List.setIfInBounds_toArray, List.set_cons_zero, List.set_cons_succ]
  refine sg_call (by kernel_rfl) 15 #[.slice A 3 c] (by kernel_rfl) (R := fun v w' => v = .bool true ∧ Below w6.heap.size w6 w') ((rightT_calls ex3 ex3_small A 3 c rfl w6 (htH.out.below hw0.out hB6.out) hms6.out).mono fun e w' h => by
    obtain ⟨h1, h2⟩ := h
    rw [tr_true ex3_ord] at h1
    exact ⟨_, h1, rfl, h2⟩) ?_
  rintro _ w7 ⟨rfl, hb⟩
  simp only [Act.put, List.setIfInBounds_toArray, List.set_cons_zero, List.set_cons_succ]
  have hmsw7 : Hid (Ms w7 (.slice A 3 c) ex3) := hms6.out.below hb
  have hBw7 : Hid (Below w.heap.size w w7) := hB6.out.trans (hb.mono hB6.out.size)
  clear hb
  refine sg_run (by kernel_rfl) (.bool false) w7 (by kernel_rfl) ?_
  simp only [Act.put, List.setIfInBounds_toArray, List.set_cons_zero, List.set_cons_succ]
  refine sg_run (by kernel_rfl) (.bool false) w7 (by kernel_rfl) ?_
  simp only [Act.put, List.setIfInBounds_toArray, List.set_cons_zero, List.set_cons_succ]
  refine sg_run (by kernel_rfl) (.bool false) w7 (by kernel_rfl) ?_
  simp only [Act.put, List.setIfInBounds_toArray, List.set_cons_zero, List.set_cons_succ]
  refine sg_run (by kernel_rfl) (.slice A 3 c) w7 (by kernel_rfl) ?_
  simp only [Act.put, List.setIfInBounds_toArray, List.set_cons_zero, List.set_cons_succ]
  refine sg_call (by kernel_rfl) 19 #[.slice A 3 c, .int .i64 0, .int .i64 2] (by kernel_rfl) (R := fun v w' => v = .bool true ∧ Below w7.heap.size w7 w') ((at_calls ex3 ex3_small A 3 c rfl 0 2 w7 (htH.out.below hw0.out hBw7.out) hmsw7.out).mono fun e w' h => by
    obtain ⟨h1, h2⟩ := h
    rw [ex3_at1] at h1
    exact ⟨_, h1, rfl, h2⟩) ?_
  rintro _ w8 ⟨rfl, hb⟩
  simp only [Act.put, List.setIfInBounds_toArray, List.set_cons_zero, List.set_cons_succ]
  have hmsw8 : Hid (Ms w8 (.slice A 3 c) ex3) := hmsw7.out.below hb
  have hBw8 : Hid (Below w.heap.size w w8) := hBw7.out.trans (hb.mono hBw7.out.size)
  clear hb
  refine sg_run (by kernel_rfl) (.bool false) w8 (by kernel_rfl) ?_
  simp only [Act.put, List.setIfInBounds_toArray, List.set_cons_zero, List.set_cons_succ]
  refine sg_run (by kernel_rfl) (.bool false) w8 (by kernel_rfl) ?_
  simp only [Act.put, List.setIfInBounds_toArray, List.set_cons_zero, List.set_cons_succ]
  refine sg_run (by kernel_rfl) (.bool false) w8 (by kernel_rfl) ?_
  simp only [Act.put, List.setIfInBounds_toArray, List.set_cons_zero, List.set_cons_succ]
  refine sg_run (by kernel_rfl) (.slice A 3 c) w8 (by kernel_rfl) ?_
  simp only [Act.put, List.setIfInBounds_toArray, List.set_cons_zero, List.set_cons_succ]
  refine sg_call (by kernel_rfl) 19 #[.slice A 3 c, .int .i64 2, .int .i64 0] (by kernel_rfl) (R := fun v w' => v = .bool false ∧ Below w8.heap.size w8 w') ((at_calls ex3 ex3_small A 3 c rfl 2 0 w8 (htH.out.below hw0.out hBw8.out) hmsw8.out).mono fun e w' h => by
    obtain ⟨h1, h2⟩ := h
    rw [ex3_at2] at h1
    exact ⟨_, h1, rfl, h2⟩) ?_
  rintro _ w9 ⟨rfl, hb⟩
  simp only [Act.put, List.setIfInBounds_toArray, List.set_cons_zero, List.set_cons_succ]
  have hmsw9 : Hid (Ms w9 (.slice A 3 c) ex3) := hmsw8.out.below hb
  have hBw9 : Hid (Below w.heap.size w w9) := hBw8.out.trans (hb.mono hBw8.out.size)
  clear hb
  refine sg_run (by kernel_rfl) (.bool false) w9 (by kernel_rfl) ?_
  simp only [Act.put, List.setIfInBounds_toArray, List.set_cons_zero, List.set_cons_succ]
  refine sg_run (by kernel_rfl) (.bool false) w9 (by kernel_rfl) ?_
  simp only [Act.put, List.setIfInBounds_toArray, List.set_cons_zero, List.set_cons_succ]
  refine sg_run (by kernel_rfl) (.slice A 3 c) w9 (by kernel_rfl) ?_
  simp only [Act.put, List.setIfInBounds_toArray, List.set_cons_zero, List.set_cons_succ]
  refine sg_call (by kernel_rfl) 21 #[.slice A 3 c, .int .i64 1] (by kernel_rfl) (R := fun v w' => v = .int .u64 6 ∧ Below w9.heap.size w9 w') ((above_calls ex3 ex3_small A 3 c rfl 1 w9 (htH.out.below hw0.out hBw9.out) hmsw9.out).mono fun e w' h => by
    obtain ⟨h1, h2⟩ := h
    rw [ex3_above] at h1
    exact ⟨_, h1, rfl, h2⟩) ?_
  rintro _ wA ⟨rfl, hb⟩
  simp only [Act.put, List.setIfInBounds_toArray, List.set_cons_zero, List.set_cons_succ]
  have hmswA : Hid (Ms wA (.slice A 3 c) ex3) := hmsw9.out.below hb
  have hBwA : Hid (Below w.heap.size w wA) := hBw9.out.trans (hb.mono hBw9.out.size)
  clear hb
  refine sg_run (by kernel_rfl) (.bool false) wA (by kernel_rfl) ?_
  simp only [Act.put, List.setIfInBounds_toArray, List.set_cons_zero, List.set_cons_succ]
  refine sg_run (by kernel_rfl) (.bool false) wA (by kernel_rfl) ?_
  simp only [Act.put, List.setIfInBounds_toArray, List.set_cons_zero, List.set_cons_succ]
  refine sg_run (by kernel_rfl) (.bool false) wA (by kernel_rfl) ?_
  simp only [Act.put, List.setIfInBounds_toArray, List.set_cons_zero, List.set_cons_succ]
  refine sg_run (by kernel_rfl) (.slice A 3 c) wA (by kernel_rfl) ?_
  simp only [Act.put, List.setIfInBounds_toArray, List.set_cons_zero, List.set_cons_succ]
  refine sg_call (by kernel_rfl) 23 #[.slice A 3 c, .int .i64 1] (by kernel_rfl) (R := fun v w' => v = .int .u64 3 ∧ Below wA.heap.size wA w') ((below_calls ex3 ex3_small A 3 c rfl 1 wA (htH.out.below hw0.out hBwA.out) hmswA.out).mono fun e w' h => by
    obtain ⟨h1, h2⟩ := h
    rw [ex3_below] at h1
    exact ⟨_, h1, rfl, h2⟩) ?_
  rintro _ wB ⟨rfl, hb⟩
  simp only [Act.put, List.setIfInBounds_toArray, List.set_cons_zero, List.set_cons_succ]
  have hmswB : Hid (Ms wB (.slice A 3 c) ex3) := hmswA.out.below hb
  have hBwB : Hid (Below w.heap.size w wB) := hBwA.out.trans (hb.mono hBwA.out.size)
  clear hb
  refine sg_run (by kernel_rfl) (.bool false) wB (by kernel_rfl) ?_
  simp only [Act.put, List.setIfInBounds_toArray, List.set_cons_zero, List.set_cons_succ]
  refine sg_run (by kernel_rfl) (.bool false) wB (by kernel_rfl) ?_
  simp only [Act.put, List.setIfInBounds_toArray, List.set_cons_zero, List.set_cons_succ]
  refine wpList_nil ?_
  clear hms6 hrw6 hB6 hmsw7 hBw7 hmsw8 hBw8 hmsw9 hBw9 hmswA hBwA hel
  go_upto_region 7 with fail
  refine wp_region_lit ?_
  refine sl_run rfl (.pointer (some ⟨wB.heap.size, 0, none⟩)) (wB.alloc (.cells #[.int .i64 0] 3)) (by kernel_rfl) ?_
  simp only [Act.put, List.setIfInBounds_toArray, List.set_cons_zero, List.set_cons_succ]
  have hn0 : (wB.alloc (.cells #[.int .i64 0] 3)).heap[wB.heap.size]? = some (.cells #[.int .i64 0] 3 (0, 0)) := heap_alloc_new _ _
  refine wpList_store_cell rfl 3 _ _ rfl wB.heap.size 0 (by kernel_rfl) (.int .i64 0) (by kernel_rfl) (.int .i64 0) (by rw [cell_of_row _ _ _ _ _ _ hn0]; rfl) (frozen_of_row _ _ _ _ _ hn0) (fun _ => by kernel_rfl) rfl rfl ?_
  refine wpList_nil ?_
  simp only [Act.put, List.setIfInBounds_toArray, List.set_cons_zero, List.set_cons_succ]
  have hn1 := heap_setCell_same _ _ 0 _ _ (.int .i64 0) hn0
  have hb1 : Below wB.heap.size wB ((wB.alloc (.cells #[.int .i64 0] 3)).setCell ⟨wB.heap.size, 0, none⟩ (.int .i64 0)) := ((Below.refl _ _).alloc (Nat.le_refl _) _).setCell (Nat.le_refl _) _
  obtain ⟨d, hd⟩ : ∃ d, d = wB.heap.size := ⟨_, rfl⟩
  have hdw : Hid (w.heap.size ≤ d) := by show _ ≤ _; rw [hd]; exact hBwB.out.size
  rw [← hd] at hn1 ⊢
  have hb1' : Below wB.heap.size wB ((wB.alloc (.cells #[.int .i64 0] 3)).setCell ⟨d, 0, none⟩ (.int .i64 0)) := by rw [hd]; exact hb1
  clear hb1 hn0
  generalize World.setCell _ _ _ = x1 at hn1 hb1' ⊢
  have hd1 : Hid (x1.heap[d]? = some (.cells #[.int .i64 0] 3 (0, 0))) := hn1
  have hB1 : Hid (Below w.heap.size w x1) := hBwB.out.trans (hb1'.mono hBwB.out.size)
  clear hn1 hb1' hBwB hmswB hd
  go_upto_region 8 with fail
  refine wp_region_lit ?_
  refine sl_call rfl 28 #[.int .u64 10] (by kernel_rfl) (R := fun v w' => v = .func (.func 33) #[] #[.pointer (some ⟨x1.heap.size, 0, none⟩)] ∧ w' = x1.alloc (.cells #[.int .u64 10] 36)) ((bits_calls 10 x1).mono fun e w' h => ⟨_, h.1, rfl, h.2⟩) ?_
  rintro _ _ ⟨rfl, rfl⟩
  simp only [Act.put, List.setIfInBounds_toArray, List.set_cons_zero, List.set_cons_succ]
  refine wpList_nil ?_
  have hb2 : Below x1.heap.size x1 (x1.alloc (.cells #[.int .u64 10] 36)) := (Below.refl _ _).alloc (Nat.le_refl _) _
  have hm2 : (x1.alloc (.cells #[.int .u64 10] 36)).heap[x1.heap.size]? = some (.cells #[.int .u64 10] 36 (0, 0)) := heap_alloc_new _ _
  obtain ⟨bm, hbm⟩ : ∃ b, b = x1.heap.size := ⟨_, rfl⟩
  rw [← hbm] at hm2 ⊢
  generalize x1.alloc _ = x2 at hb2 hm2 ⊢
  have hd2 : x2.heap[d]? = some (.cells #[.int .i64 0] 3 (0, 0)) := heap_kept hd1.out hb2
  have hB2 : Hid (Below w.heap.size w x2) := hB1.out.trans (hb2.mono hB1.out.size)
  have hwle : w.heap.size ≤ x2.heap.size := hB2.out.size
  clear hb2 hbm hd1 hB1
  rename_i hK
  refine hK _ _ ?_
  clear hK
  refine wp_block ?_
  refine wp_range 9 (by decide) (gf := 33) (lb := #[.pointer (some ⟨bm, 0, none⟩)]) rfl (enters_of Tryd.func33 (by kernel_rfl) rfl)
    (bits_stops 8 (by decide) 10 bm w.heap.size (by decide) x2 hw0.out hwle (by rw [cell_of_row _ _ _ _ _ _ hm2]; rfl) ((Array.getElem?_eq_some_iff.1 hm2).1) (htH.out.below hw0.out hB2.out)) hwle (fun _ => rfl)
    (fun pre W => W.heap[d]? = some (.cells #[.int .i64 (digits pre)] 3 (0, 0)) ∧ Below w.heap.size w W)
    (fun c pre W => False)
    (OwnFrom.and (own_heap (cs := fun (pre : List (BitOf 10)) => #[.int .i64 (digits pre)])) (ownFrom_below (Nat.le_refl _) hwle))
    (fun c => own_false)
    ⟨hd2, hB2.out⟩
    (fun x => { tmps := #[.bool false, .slice A 3 c, .int .i64 0, .slice A2 0 c2, .int .i64 9, .int .i64 2, .bool true, .slice (some ⟨g7, o7, none⟩) 2 c4, .pointer (some ⟨d, 0, none⟩), .int .i64 (x.1 : Int), .tuple #[.slice A 3 c, .int .i64 0], .agg #[.int .i64 0, .int .i64 1], .agg #[.int .i64 1, .int .i64 2], .slice (some ⟨g_w1, 0, none⟩) 2 2, .tuple #[.slice A 3 c, .int .i64 0], .slice A 3 c, .int .i64 0, .tuple #[.slice A2 0 c2, .int .i64 9], .agg #[.int .i64 0, .int .i64 1], .agg #[.int .i64 1, .int .i64 0], .slice (some ⟨g_w2, 0, none⟩) 2 2, .tuple #[.slice A2 0 c2, .int .i64 9], .slice A2 0 c2, .int .i64 9, .tuple #[.int .i64 2, .bool true], .slice A 3 c, .tuple #[.int .i64 2, .bool true], .int .i64 2, .bool true, .slice A 3 c, .slice (some ⟨g7, o7, none⟩) 2 c4, .int .i64 0, .bool false, .bool false, .slice A 3 c, .slice (some ⟨g5, 0, none⟩) 3 3, .bool true, .bool false, .bool false, .bool false, .int .i64 9, .bool false, .bool false, .bool false, .bool true, .bool false, .bool false, .bool false, .int .i64 2, .bool false, .bool false, .bool false, .slice (some ⟨g7, o7, none⟩) 2 c4, .int .i64 2, .bool false, .bool false, .bool false, .slice (some ⟨g7, o7, none⟩) 2 c4, .pointer (some ⟨g7, o7 + 1 * 2, none⟩), .agg (encP (1, 2)), .agg (encP (1, 2)), .bool false, .bool false, .bool false, .slice A 3 c, .bool true, .bool false, .bool false, .bool false, .slice A 3 c, .bool true, .bool false, .bool false, .bool false, .slice A 3 c, .bool false, .bool false, .bool false, .slice A 3 c, .int .u64 6, .bool false, .bool false, .bool false, .slice A 3 c, .int .u64 3, .bool false, .bool false, .func (.func 33) #[] #[.pointer (some ⟨bm, 0, none⟩)], .int .i64 (x.1 : Int), undef, undef, undef, undef, undef, undef], defers := [] }) ?assign ?body ?done ?stop
  case assign =>
    intro l x W K hK
    simp only [encB]
    gi_wp2
    exact hK
  case stop =>
    rintro D cc pre W hD hSp hF hK
    exact hF.elim
  case body =>
    rintro l pre x W ⟨hdW, hBW⟩ _
    obtain ⟨z, hz⟩ : ∃ z, z = digits pre := ⟨_, rfl⟩
    rw [← hz] at hdW
    obtain ⟨b, hb⟩ : ∃ b, b = x.1 := ⟨_, rfl⟩
    rw [← hb]
    refine wpIn_block ?_
    refine wpIn_region_lit ?_
    refine ri_run (by kernel_rfl) (by intro c hc; cases hc) (.int .i64 z) W (exec_load_cell 3 W _ rfl ⟨d, 0, none⟩ (by kernel_rfl) _ (by rw [cell_of_row _ _ _ _ _ _ hdW]; rfl) (fun _ => by kernel_rfl)) ?_
    simp only [Act.put, List.setIfInBounds_toArray, List.set_cons_zero, List.set_cons_succ]
    refine ri_run (by kernel_rfl) (by intro c hc; cases hc) (.int .i64 (IntKind.i64.wrap (10 * z))) W (by kernel_rfl) ?_
    simp only [Act.put, List.setIfInBounds_toArray, List.set_cons_zero, List.set_cons_succ]
    refine ri_run (by kernel_rfl) (by intro c hc; cases hc) (.int .i64 (b : Int)) W (by kernel_rfl) ?_
    simp only [Act.put, List.setIfInBounds_toArray, List.set_cons_zero, List.set_cons_succ]
    refine ri_run (by kernel_rfl) (by intro c hc; cases hc) (.int .i64 (stepI z b)) W (by kernel_rfl) ?_
    simp only [Act.put, List.setIfInBounds_toArray, List.set_cons_zero, List.set_cons_succ]
    refine ri_skipped (by kernel_rfl) (by intro c hc; cases hc) (W.setCell ⟨d, 0, none⟩ (.int .i64 (stepI z b))) (exec_store_cell 3 _ _ rfl d 0 (by kernel_rfl) (.int .i64 (stepI z b)) (by kernel_rfl) (.int .i64 z) (by rw [cell_of_row _ _ _ _ _ _ hdW]; rfl) (frozen_of_row _ _ _ _ _ hdW) (fun _ => by kernel_rfl) rfl rfl) ?_
    simp only [Act.put, List.setIfInBounds_toArray, List.set_cons_zero, List.set_cons_succ]
    refine wpListIn_nil ?_
    exact ⟨KeepsOthers.setCell _ _ _, (Below.refl _ _).setCell hdw.out _, by rw [digits_snoc, ← hz, ← hb]; exact heap_setCell_same _ _ 0 _ _ _ hdW, hBW.setCell hdw.out _⟩
  case done =>
    rintro D xs W hD hS ⟨hdW, hBW⟩ hK
    rw [digits_all hS] at hdW
    have c1 : W.cell? ⟨d, 0, none⟩ = some (.int .i64 13) := by rw [cell_of_row _ _ _ _ _ _ hdW]; rfl
    have hKH : Hid (W.heap[D]? = some (.deferred (some []))) := hK
    have hDw : Hid (w.heap.size ≤ D) := by show _ ≤ _; omega
    have hBH : Hid (Below w.heap.size w W) := hBW
    clear hS hdW hK hBW hd2 hm2
    go_wp2_with fail
    change bodyPostM Fence.wide 9 Tryd.prog Tryd.f11 (fun e w' => e = .returned (.bool true) ∧ Below w.heap.size w w') .ret _ _
    refine bodyM_marks (fun w' => Below w.heap.size w w') [D] rfl (by simp) (fun D' h => by rw [List.mem_singleton.1 h]; exact hKH.out) hBH.out
      (fun w' D' hD hC hk => put_mark_below hC (by rw [List.mem_singleton.1 hD]; exact hDw.out) hC.size)
      (fun w' hC => ⟨_, results_tmp (t := 0) rfl _ _ _, rfl, hC⟩)
end Go.Proofs.YtfbbpodlemllcaaDoor
